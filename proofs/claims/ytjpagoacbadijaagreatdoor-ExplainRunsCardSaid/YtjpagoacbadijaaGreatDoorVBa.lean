/- Base of the proof: frames, memory, ownership, and the plain meaning of rule systems. Conditions: as each lemma says. -/
import Derived.Orders
import Derived.Tactics
import Derived.Below
import Derived.Laws.AppendOwn
import Derived.IntWalk
import Derived.Laws.Strings
import Derived.DataShut
import Derived.Deep.MidRow
set_option linter.all false
namespace Go.Rc
open Go
theorem M0{α:Type _}{a:α}{l:List α}:a∈a::l:=.head _
theorem M1{α:Type _}{a b0:α}{l:List α}:a∈b0::a::l:=.tail _ M0
theorem M2{α:Type _}{a b0 b1:α}{l:List α}:a∈b0::b1::a::l:=.tail _ M1
theorem M3{α:Type _}{a b0 b1 b2:α}{l:List α}:a∈b0::b1::b2::a::l:=.tail _ M2
theorem M4{α:Type _}{a b0 b1 b2 b3:α}{l:List α}:a∈b0::b1::b2::b3::a::l:=.tail _ M3
theorem M5{α:Type _}{a b0 b1 b2 b3 b4:α}{l:List α}:a∈b0::b1::b2::b3::b4::a::l:=.tail _ M4
theorem M6{α:Type _}{a b0 b1 b2 b3 b4 b5:α}{l:List α}:a∈b0::b1::b2::b3::b4::b5::a::l:=.tail _ M5
theorem M7{α:Type _}{a b0 b1 b2 b3 b4 b5 b6:α}{l:List α}:a∈b0::b1::b2::b3::b4::b5::b6::a::l:=.tail _ M6
theorem M8{α:Type _}{a b0 b1 b2 b3 b4 b5 b6 b7:α}{l:List α}:a∈b0::b1::b2::b3::b4::b5::b6::b7::a::l:=.tail _ M7
theorem M9{α:Type _}{a b0 b1 b2 b3 b4 b5 b6 b7 b8:α}{l:List α}:a∈b0::b1::b2::b3::b4::b5::b6::b7::b8::a::l:=.tail _ M8
theorem j7{α:Type _}{a b0 b1 b2 b3 b4 b5 b6 b7 b8 b9:α}{l:List α}:a∈b0::b1::b2::b3::b4::b5::b6::b7::b8::b9::a::l:=.tail _ M9
theorem lz{α:Type _}{a b0 b1 b2 b3 b4 b5 b6 b7 b8 b9 iA:α}{l:List α}:a∈b0::b1::b2::b3::b4::b5::b6::b7::b8::b9::iA::a::l:=.tail _ j7
theorem qh{α:Type _}{a b0 b1 b2 b3 b4 b5 b6 b7 b8 b9 iA yf:α}{l:List α}:a∈b0::b1::b2::b3::b4::b5::b6::b7::b8::b9::iA::yf::a::l:=.tail _ lz
theorem vk{α:Type _}{a b0 b1 b2 b3 b4 b5 b6 b7 b8 b9 iA yf yg:α}{l:List α}:a∈b0::b1::b2::b3::b4::b5::b6::b7::b8::b9::iA::yf::yg::a::l:=.tail _ qh
theorem Ft{α:Type _}{a b0 b1 b2 b3 b4 b5 b6 b7 b8 b9 iA yf yg sK:α}{l:List α}:a∈b0::b1::b2::b3::b4::b5::b6::b7::b8::b9::iA::yf::yg::sK::a::l:=.tail _ vk
theorem Vg{α:Type _}{a b0 b1 b2 b3 b4 b5 b6 b7 b8 b9 iA yf yg sK Bm:α}{l:List α}:a∈b0::b1::b2::b3::b4::b5::b6::b7::b8::b9::iA::yf::yg::sK::Bm::a::l:=.tail _ Ft
theorem M16{α:Type _}{a b0 b1 b2 b3 b4 b5 b6 b7 b8 b9 iA yf yg sK Bm yu:α}{l:List α}:a∈b0::b1::b2::b3::b4::b5::b6::b7::b8::b9::iA::yf::yg::sK::Bm::yu::a::l:=.tail _ Vg
theorem M17{α:Type _}{a b0 b1 b2 b3 b4 b5 b6 b7 b8 b9 iA yf yg sK Bm yu xI:α}{l:List α}:a∈b0::b1::b2::b3::b4::b5::b6::b7::b8::b9::iA::yf::yg::sK::Bm::yu::xI::a::l:=.tail _ M16
theorem M18{α:Type _}{a b0 b1 b2 b3 b4 b5 b6 b7 b8 b9 iA yf yg sK Bm yu xI QE:α}{l:List α}:a∈b0::b1::b2::b3::b4::b5::b6::b7::b8::b9::iA::yf::yg::sK::Bm::yu::xI::QE::a::l:=.tail _ M17
theorem M19{α:Type _}{a b0 b1 b2 b3 b4 b5 b6 b7 b8 b9 iA yf yg sK Bm yu xI QE b18:α}{l:List α}:a∈b0::b1::b2::b3::b4::b5::b6::b7::b8::b9::iA::yf::yg::sK::Bm::yu::xI::QE::b18::a::l:=.tail _ M18
theorem M20{α:Type _}{a b0 b1 b2 b3 b4 b5 b6 b7 b8 b9 iA yf yg sK Bm yu xI QE b18 Vh:α}{l:List α}:a∈b0::b1::b2::b3::b4::b5::b6::b7::b8::b9::iA::yf::yg::sK::Bm::yu::xI::QE::b18::Vh::a::l:=.tail _ M19
abbrev KV:=List (Nat × Value)
def look:KV→Nat→Option Value
 | [],_=>none
 | (t,v)::r,s=>match Nat.beq t s with
  | true=>some v
  | false=>look r s
def ev(kv:KV):Operand→Option Value
 | .tmp t=>look kv t
 | .const v=>some v
 | .global g=>some (.pointer (some ⟨g,0,none⟩))
 | .func f=>some (.func (.func f) #[] #[])
def nN(kv:KV):Option Tmp→Value→KV
 | some d,v=>(d,v)::kv
 | none,_=>kv
structure Fr (n:Nat) (a:Act) (kv:KV):Prop where
 size:a.tmps.size=n
 mE:a.defers=[]
 val:∀t v,look kv t=some v→a.tmps.getD t undef=v
theorem Fr.eval{n:Nat}{a:Act}{kv:KV}(h:Fr n a kv) {x:Operand}{v:Value}(hx:ev kv x=some v):a.eval x=v:=by
 cases x with
 | tmp t=>exact h.val t v hx
 | const u=>simpa [ev,Act.eval] using hx
 | global g=>simpa [ev,Act.eval] using hx
 | func f=>simpa [ev,Act.eval] using hx
def tV(n:Nat):Option Tmp→Bool
 | some d=>Nat.blt d n
 | none=>true
theorem Fr.put{n:Nat}{a:Act}{kv:KV}(h:Fr n a kv) {dst:Option Tmp}(hd:tV n dst=true) (v:Value):Fr n (a.put dst v) (nN kv dst v):=by
 cases dst with
 | none=>exact h
 | some d=>
  refine⟨by simp [Act.put,h.size],h.mE,fun t u hu=>?_⟩
  have Ke:d<n:=by simp only [tV,Nat.blt] at hd;exact Nat.le_of_ble_eq_true hd
  simp only [nN,look] at hu
  by_cases Nz:d=t
  ·
   subst Nz
   simp at hu
   subst hu
   simp [Act.put,h.size,Ke]
  have hb:Nat.beq d t=false:=Bool.eq_false_iff.2 fun e=>Nz (Nat.eq_of_beq_eq_true e)
  rw [hb] at hu
  have:=h.val t u hu
  simp only [Act.put]
  simp_all
def tW(P:Program) (r:Result Next) (R:Value→World→Prop):Prop:=
 match r with
 | .ok (.value v) w=>R v w
 | .ok .skip w=>R undef w
 | .ok (.enter f args) w=>Calls P f args w fun e w'=>∃v,e=.returned v∧R v w'
 | _=>False
theorem tW.mono{P:Program}{r:Result Next}{R R':Value→World→Prop}(h:tW P r R) (hr:∀v w,R v w→R' v w):tW P r R':=by
 unfold tW at *
 split at h
 ·
  exact hr _ _ h
 ·
  exact hr _ _ h
 ·
  exact h.mono fun e w' ⟨v,he,hR⟩=>⟨v,he,hr _ _ hR⟩
 exact h.elim
theorem Ca{P:Program}{o:Oper}{a:Act}{K:Act→World→Prop}{Q:Exit→Act→World→Prop}{r:Result Next}{R:Value→World→Prop}
  (h:tW P r R) (hk:∀v w,R v w→K (a.put o.dst v) w):o.upon P a K Q r:=by
 unfold tW at h
 split at h
 ·
  exact hk _ _ h
 ·
  exact hk _ _ h
 ·
  refine h.mono fun e w' ⟨v,he,hR⟩=>?_;subst he;exact hk _ _ hR
 exact h.elim
theorem tW.exists{P:Program}{r:Result Next}{R:Value→World→Prop}(h:tW P r R):∃v w,R v w:=by
 unfold tW at h
 split at h
 ·
  exact⟨_,_,h⟩
 ·
  exact⟨_,_,h⟩
 ·
  obtain⟨e,w',fr,⟨v,he,hR⟩,_⟩:=h [];exact⟨v,w',hR⟩
 exact h.elim
def opers:Op→List Operand
 | .alloc _ | .ready _ | .waits _=>[]
 | .move x | .assign x | .box _ x | .load _ x | .nilCheck x | .unOp _ _ x | .convert _ _ x | .sliceToArrayPointer _ x | .makeInterface _ x
 | .makeChan _ x | .fieldAddr _ x _ | .field _ x _ | .range _ x | .next x _ | .entry x | .typeAssert x _ _ _ | .extract x _ | .panic x | .recv _ x _=>[x]
 | .pick c a b=>[c,a,b]
 | .build _ ps | .buildSlice _ _ ps=>ps.toList.map (·.2)
 | .store _ a v | .binOp _ _ a v _ | .makeSlice _ a v | .indexAddr _ a v | .index _ a v | .lookup _ a v _ | .mapEntry _ a v | .send a v=>[a,v]
 | .makeFunc _ first captured=>first.toList++captured.toList
 | .makeMap _ r=>r.toList
 | .slice _ x l h m=>x::(l.toList++h.toList++m.toList)
 | .mapUpdate _ m k v | .entryStore _ m k v | .insert _ m k v=>[m,k,v]
 | .call c | .go c | .defer c=>(match c.callee with | .value f=>[f] | .invoke r _=>[r] | .builtin _=>[])++c.args.toList
 | .select cs _=>(cs.flatMap fun c=>#[c.chan]++c.send.toArray).toList
theorem FD(op:Op):op.operands.toList=opers op:=by
 cases op <;> simp [Op.operands,opers,Call.operands]
 all_goals (rename_i c;cases c.callee <;> simp)
def known(kv:KV) (op:Op):Bool:=(opers op).all fun x=>(ev kv x).isSome
def lX(kv:KV) (x:Operand):Value:=(ev kv x).getD undef
def bO:Op→Bool
 | .select _ _=>true
 | _=>false
theorem Fr.exec{n:Nat}{a:Act}{kv:KV}(h:Fr n a kv) {o:Oper}(hs:bO o.op=false) (hk:known kv o.op=true) :
  execOp a.eval o=execOp (lX kv) o:=by
 refine execOp_congr o (fun cs b e=>by grind [bO]) fun x hx=>?_
 have:=(List.all_eq_true.1 hk) x (by rw [← FD];simpa using hx)
 obtain⟨v,hv⟩:=Option.isSome_iff_exists.1 this;rw [h.eval hv]
 simp [lX,hv]
/-! ### the judgements -/
def WL(P:Program) (ops:Array Oper) (Q:Exit→Act→World→Prop) (l:List Oper) (n:Nat) (kv:KV) (w:World):Prop:=
 ∀a,Fr n a kv→wpList P ops Q l a w
def WC(P:Program) (c:Code) (Q:Exit→Act→World→Prop) (n:Nat) (kv:KV) (w:World):Prop:=
 ∀a,Fr n a kv→c.wp P Q a w
def EX(Q:Exit→Act→World→Prop) (e:Exit) (n:Nat) (kv:KV) (w:World):Prop:=
 ∀a,Fr n a kv→Q e a w
def OX(P:Program) (o:Oper) (n:Nat) (kv:KV) (w:World) (K:KV→World→Prop):Prop:=
 bO o.op=false∧tV n o.dst=true∧known kv o.op=true∧tW P ((execOp (lX kv) o).run P w) fun v w'=>K (nN kv o.dst v) w'
def gd(ops:Array Oper) (kv:KV) (o:Oper):Option Bool:=
 match o.guard with
 | none=>some true
 | some (j,b)=>match ((ops[j]?).bind (·.dst)).bind (look kv) with
  | some (.bool c)=>some (c == b)
  | some (.tuple _)=>some false
  | _=>none
theorem Fr.wanted{n:Nat}{a:Act}{kv:KV}(h:Fr n a kv) {ops:Array Oper}{o:Oper}{b:Bool}(hg:gd ops kv o=some b) :
  Region.wanted o (yielded ops a.tmps)=b:=by
 unfold gd at hg
 unfold Region.wanted
 split at hg
 ·
  grind
 rename_i j c NB
 rw [NB]
 simp only
 split at hg
 ·
  rename_i d hd
  have Nb:yielded ops a.tmps j=some d:=by
   unfold yielded
   cases ht:(ops[j]?).bind (·.dst) with
   | none=>rw [ht] at hd;simp at hd
   | some t=>
    rw [ht] at hd;simp only [Option.bind_some] at hd ⊢;have hv:=h.val t _ hd
    by_cases dZ:t<a.tmps.size
    ·
     simp_all
    grind [undef]
  simp_all
 ·
  rename_i d hd
  have Nb:yielded ops a.tmps j=none:=by
   unfold yielded
   cases ht:(ops[j]?).bind (·.dst) with
   | none=>rfl
   | some t=>
    rw [ht] at hd;simp only [Option.bind_some] at hd ⊢;have hv:=h.val t _ hd
    by_cases dZ:t<a.tmps.size
    ·
     simp_all
    simp [dZ]
  grind
 cases hg
section
variable {P:Program}{ops:Array Oper}{Q:Exit→Act→World→Prop}{n:Nat}{kv:KV}{w:World}{rest:List Oper}{o:Oper}
theorem WL.go(hg:gd ops kv o=some true) (h:OX P o n kv w fun j8 w'=>WL P ops Q rest n j8 w'):WL P ops Q (o::rest) n kv w:=by
 intro a hF;obtain⟨hs,hd,hk,ho⟩:=h
 unfold wpList
 rw [if_pos (hF.wanted hg)];refine .inl ?_
 unfold Oper.wp
 rw [hF.exec hs hk]
 exact Ca ho fun v w' h'=>h' _ (hF.put hd v)
theorem WL.no(hg:gd ops kv o=some false) (hd:tV n o.dst=true) (h:WL P ops Q rest n (nN kv o.dst undef) w):WL P ops Q (o::rest) n kv w:=by
 intro a hF
 unfold wpList
 rw [if_neg (by rw [hF.wanted hg];simp)];exact h _ (hF.put hd undef)
theorem WL.nil(h:EX Q .normal n kv w):WL P ops Q [] n kv w:=h
theorem WC.region{id:Nat}{l:List Oper}(h:WL P l.toArray Q l n kv w):WC P (.region id l.toArray false) Q n kv w:=
 fun a hF=>wp_region_lit (h a hF)
theorem WC.seq{x y:Code}(h:WC P x (Exit.then (y.wp P Q) Q) n kv w):WC P (.seq x y) Q n kv w:=fun a hF=>wp_seq (h a hF)
theorem WC.skip(h:EX Q .normal n kv w):WC P .skip Q n kv w:=fun a hF=>wp_skip (h a hF)
theorem WC.exit{id:Nat}(h:EX Q (.exit id) n kv w):WC P (.exit id) Q n kv w:=fun a hF=>wp_exit (h a hF)
theorem WC.ret(h:EX Q .ret n kv w):WC P .ret Q n kv w:=fun a hF=>wp_ret (h a hF)
theorem WC.block{id:Nat}{c:Code}(h:WC P c (Exit.inBlock id Q) n kv w):WC P (.block id c) Q n kv w:=fun a hF=>wp_block (h a hF)
theorem WC.Cb{c:Operand}{x y:Code}(hc:ev kv c=some (.bool true)) (h:WC P x Q n kv w):WC P (.cond c x y) Q n kv w:=fun a hF=>wp_cond (hF.eval hc) (h a hF)
theorem WC.ke{c:Operand}{x y:Code}(hc:ev kv c=some (.bool false)) (h:WC P y Q n kv w):WC P (.cond c x y) Q n kv w:=fun a hF=>wp_cond (hF.eval hc) (h a hF)
theorem WC.cond{c:Operand}{x y:Code}{b:Bool}(hc:ev kv c=some (.bool b)) (ht:b=true→WC P x Q n kv w) (hf:b=false→WC P y Q n kv w) :
  WC P (.cond c x y) Q n kv w:=by
 cases b
 ·
  exact WC.ke hc (hf rfl)
 exact WC.Cb hc (ht rfl)
/-! leaving by the layers -/
theorem EX.agM{y:Code}(h:WC P y Q n kv w):EX (Exit.then (y.wp P Q) Q) .normal n kv w:=h
theorem EX.aaC{N:Act→World→Prop}{id:Nat}(h:EX Q (.exit id) n kv w):EX (Exit.then N Q) (.exit id) n kv w:=h
theorem EX.aaD{N:Act→World→Prop}(h:EX Q .ret n kv w):EX (Exit.then N Q) .ret n kv w:=h
theorem EX.agN{id:Nat}(h:EX Q .normal n kv w):EX (Exit.inBlock id Q) .normal n kv w:=h
theorem EX.Q5{id:Nat}(h:EX Q .ret n kv w):EX (Exit.inBlock id Q) .ret n kv w:=h
theorem EX.agO{id:Nat}(h:EX Q .normal n kv w):EX (Exit.inBlock id Q) (.exit id) n kv w:=fun a hF=>by
 simp only [Exit.inBlock,if_true];exact h a hF
def Sub(kv:KV):KV→Prop
 | []=>True
 | (t,v)::r=>look kv t=some v∧Sub kv r
theorem Sub.look{kv j8:KV}(h:Sub kv j8):∀t v,look j8 t=some v→look kv t=some v:=by
 induction j8 with
 | nil=>intro t v hv;simp [Rc.look] at hv
 | cons p r ih=>
  obtain⟨s,u⟩:=p;intro t v hv;simp only [Rc.look] at hv
  cases hb:Nat.beq s t with
  | true=>
   rw [hb] at hv
   have bJ:s=t:=by simpa using hb
   simp at hv
   rw [← bJ,← hv];exact h.1
  | false=>rw [hb] at hv;exact ih h.2 t v hv
theorem Fr.sub{a:Act}{j8:KV}(h:Fr n a kv) (hs:Sub kv j8):Fr n a j8:=⟨h.size,h.mE,fun t v hv=>h.val t v (hs.look t v hv)⟩
theorem WC.agP{σ:Type}{c:Code}(j8:σ→KV) (J:σ→World→Prop) (h:WC P c (fun e a w'=>e=.normal∧∃s,Fr n a (j8 s)∧J s w') n kv w) (hJ:∀s w',J s w'→EX Q .normal n (j8 s) w') :
  WC P c Q n kv w:=fun a hF=>wp_mono (h a hF) fun e a' w' ⟨he,s,Nc,hj⟩=>by subst he;exact hJ s w' hj a' Nc
theorem EX.aaE{σ:Type}{j8:σ→KV}{J:σ→World→Prop}(s:σ) (hs:Sub kv (j8 s)) (hj:J s w):EX (fun e a w'=>e=.normal∧∃s,Fr n a (j8 s)∧J s w') .normal n kv w:=
 fun _ hF=>⟨rfl,s,hF.sub hs,hj⟩
theorem WC.loop{σ:Type}{c:Code}(eP:σ→KV) (I:σ→World→Prop) (μ:σ→Nat) (s₀:σ) (hs:Sub kv (eP s₀)) (h₀:I s₀ w)
  (round:∀s w,I s w→WC P c (Exit.then (fun a' w'=>∃s',Fr n a' (eP s')∧I s' w'∧μ s'<μ s) Q) n (eP s) w):WC P (.loop c) Q n kv w:=by
 intro a hF b k cs;have key:∀m s a w,μ s=m→I s w→Fr n a (eP s)→
   ∃e a' w',Q e a' w'∧Arrives P (lone (b.at a (.code c::.inLoop c::k)) cs w) b k cs e a' w':=by
  intro m
  induction m using Nat.strongRecOn with
  | _ m ih=>
   intro s a w hm hI hF;obtain⟨e,a₁,w₁,hq,FE⟩:=round s w hI a hF b (.inLoop c::k) cs
   cases e with
   | normal=>
    obtain⟨s',Nc,hI',dZ⟩:=hq;obtain⟨e₂,a₂,w₂,hq₂,aaF⟩:=ih (μ s') (hm ▸ dZ) s' a₁ w₁ rfl hI' Nc;exact⟨e₂,a₂,w₂,hq₂,.of_steps (Steps.trans FE (.one step_inLoop)) aaF⟩
   | exit id=>exact⟨_,a₁,w₁,hq,.pass (x:=.inLoop c) rfl (fun _ _=>.inl (by simp)) FE⟩
   | goto l=>exact⟨_,a₁,w₁,hq,.pass (x:=.inLoop c) rfl (fun _ _=>.inl (by simp)) FE⟩
   | ret=>exact⟨_,a₁,w₁,hq,.pass (x:=.inLoop c) rfl (fun _ _=>.inl (by simp)) FE⟩
   | panic ch=>exact⟨_,a₁,w₁,hq,.pass (x:=.inLoop c) rfl (fun _ _=>.inl (by simp)) FE⟩
   | outgrown=>exact⟨_,a₁,w₁,hq,.pass (x:=.inLoop c) rfl (fun _ _=>.inl (by simp)) FE⟩
 obtain⟨e,a',w',hq,FE⟩:=key _ s₀ a w rfl h₀ (hF.sub hs);exact⟨e,a',w',hq,.of_steps (.one step_loop) FE⟩
theorem EX.again{σ:Type}{eP:σ→KV}{I:σ→World→Prop}{μ:σ→Nat}{m:Nat}(s':σ) (hs:Sub kv (eP s')) (hi:I s' w) (hm:μ s'<m) :
  EX (Exit.then (fun a' w'=>∃s',Fr n a' (eP s')∧I s' w'∧μ s'<m) Q) .normal n kv w:=fun _ hF=>⟨s',hF.sub hs,hi,hm⟩
end
/-! ### a function's beginning and end -/
def yv(k:Nat):List Value→KV
 | []=>[]
 | v::r=>(k,v)::yv (k+1) r
theorem FH(l:List Value):∀k t v,look (yv k l) t=some v→k≤t∧l[t - k]?=some v:=by
 induction l with
 | nil=>grind [yv,look]
 | cons x r ih=>
  intro k t v h;simp only [yv,look] at h
  cases hb:Nat.beq k t with
  | true=>simp_all
  | false=>grind
theorem enter{P:Program}{f:FuncId}{fn:Func}{c:Code}{args:List Value}{w:World}{R:Ending→World→Prop}{n:Nat}
  (hf:P.funcs[f]?=some fn) (hb:fn.body=some c) (hn:fn.ntmps=n) (hle:Nat.ble args.length n=true)
  (h:WC P c (bodyPost P fn R) n (yv 0 args) w):Calls P f args.toArray w R:=by
 subst hn
 have ape:args.length≤fn.ntmps:=by simpa using hle
 refine calls_of_wp hf hb (h _ ⟨by simp;omega,rfl,fun t v hv=>?_⟩);obtain⟨_,h2⟩:=FH args 0 t v hv;simp only [Nat.sub_zero] at h2;have dZ:t<args.length:=(List.getElem?_eq_some_iff.1 h2).1;simp only [Array.getD_eq_getD_getElem?]
 grind
section
variable {P:Program}{n:Nat}{kv:KV}{w:World}{fn:Func}{R:Ending→World→Prop}
theorem EX.yw{e:Exit}(he:e=.ret∨e=.normal) (hr:fn.results=#[]) (h:R (.returned (.tuple #[])) w):EX (bodyPost P fn R) e n kv w:=by
 intro a hF;have hx:a.defers=[]∧∃v,(results fn a.tmps).run P w=.ok v w∧R (.returned v) w:=⟨hF.mE,_,results_none hr _ _ _,h⟩
 rcases he with rfl | rfl <;> exact hx
theorem EX.aaG{t:Tmp}{v:Value}(hr:fn.results=#[.tmp t]) (hv:look kv t=some v) (h:R (.returned v) w):EX (bodyPost P fn R) .ret n kv w:=
 fun a hF=>⟨hF.mE,v,by rw [results_tmp hr,hF.val t v hv],h⟩
theorem EX.aaH{t u:Tmp}{v x:Value}(hr:fn.results=#[.tmp t,.tmp u]) (hv:look kv t=some v) (hx:look kv u=some x) (h:R (.returned (.tuple #[v,x])) w):EX (bodyPost P fn R) .ret n kv w:=
 fun a hF=>⟨hF.mE,_,by rw [results_tmp2 hr,hF.val t v hv,hF.val u x hx],h⟩
end
end Go.Rc

namespace Go.Rc
open Go
theorem aK{kv:KV}{x:Operand}{v:Value}(h:ev kv x=some v):lX kv x=v:=by simp [lX,h]
section
variable {P:Program}{n:Nat}{kv:KV}{w:World}{K:KV→World→Prop}
variable {d:Tmp}{ty:TypeId}{pos:String}{af:Array Edge}{g:Option (Nat × Bool)}
def PV(P:Program) (op:Op) (ty:TypeId) (kv:KV) (w:World) (v:Value):Prop:=
 bO op=false∧known kv op=true∧∀d pos af g,(execOp (lX kv) ⟨d,op,ty,pos,af,g⟩).run P w=.ok (.value v) w
theorem WL.p{ops:Array Oper}{Q:Exit→Act→World→Prop}{rest:List Oper}{op:Op}{v:Value}(hg:gd ops kv ⟨some d,op,ty,pos,af,g⟩=some true) (hd:Nat.blt d n=true) (h:PV P op ty kv w v)
  (next:WL P ops Q rest n ((d,v)::kv) w):WL P ops Q (⟨some d,op,ty,pos,af,g⟩::rest) n kv w:=
 WL.go hg ⟨h.1,hd,h.2.1,by rw [h.2.2];exact next⟩
theorem PV.mv{x:Operand}{v:Value}(hx:ev kv x=some v) :PV P (.move x) ty kv w (v):=
 ⟨rfl,(by simp [known,opers,hx]),fun _ _ _ _=>by simp only [execOp,aK hx];rfl⟩
theorem PV.as{x:Operand}{v:Value}(hx:ev kv x=some v) :PV P (.assign x) ty kv w (v):=
 ⟨rfl,(by simp [known,opers,hx]),fun _ _ _ _=>by simp only [execOp,aK hx];rfl⟩
theorem PV.NC{c x y:Operand}{v u:Value}(hc:ev kv c=some (.bool true)) (hx:ev kv x=some v) (hy:ev kv y=some u) :PV P (.pick c x y) ty kv w (v):=
 ⟨rfl,(by simp [known,opers,hc,hx,hy]),fun _ _ _ _=>by simp only [execOp,aK hx,aK hc];rfl⟩
theorem PV.ND{c x y:Operand}{v u:Value}(hc:ev kv c=some (.bool false)) (hx:ev kv x=some v) (hy:ev kv y=some u) :PV P (.pick c x y) ty kv w (u):=
 ⟨rfl,(by simp [known,opers,hc,hx,hy]),fun _ _ _ _=>by simp only [execOp,aK hy,aK hc];rfl⟩
/-! integers -/
section
variable {T U:TypeId}{x y:Operand}{k:IntKind}{p q:Int}
theorem ff{d:Option Tmp}{ty:TypeId}{pos:String}{af:Array Edge}{g:Option (Nat × Bool)}(op:BinOp) (hsh:op≠.shl∧op≠.shr) (v:Value)
  (h:(match op with
  | .add | .sub | .mul=>Op.intArith op k p q
  | .quo | .rem=>Op.intDiv op k p q
  | .and | .or | .xor | .andNot=>Op.intBits op k p q
  | _=>Op.intCmp op p q:Sem Value).run P w=.ok v w) (hx:ev kv x=some (.int k p)) (hy:ev kv y=some (.int k q)) :
  (execOp (lX kv) ⟨d,.binOp op T x y U,ty,pos,af,g⟩).run P w=.ok (.value v) w:=by
 simp only [execOp,aK hx,aK hy];obtain⟨h1,h2⟩:=hsh
 cases op <;> first | exact absurd rfl h1 | exact absurd rfl h2 | simp_all [eqGuard,binOp]
theorem PV.lss(hx:ev kv x=some (.int k p)) (hy:ev kv y=some (.int k q)) :PV P (.binOp .lss T x y U) ty kv w (.bool (decide (p<q))):=
 ⟨rfl,(by simp [known,opers,hx,hy]),fun _ _ _ _=>ff .lss (by simp) _ rfl hx hy⟩
theorem PV.leq(hx:ev kv x=some (.int k p)) (hy:ev kv y=some (.int k q)) :PV P (.binOp .leq T x y U) ty kv w (.bool (decide (p≤q))):=
 ⟨rfl,(by simp [known,opers,hx,hy]),fun _ _ _ _=>ff .leq (by simp) _ rfl hx hy⟩
theorem PV.gtr(hx:ev kv x=some (.int k p)) (hy:ev kv y=some (.int k q)) :PV P (.binOp .gtr T x y U) ty kv w (.bool (decide (q<p))):=
 ⟨rfl,(by simp [known,opers,hx,hy]),fun _ _ _ _=>ff .gtr (by simp) _ rfl hx hy⟩
theorem PV.geq(hx:ev kv x=some (.int k p)) (hy:ev kv y=some (.int k q)) :PV P (.binOp .geq T x y U) ty kv w (.bool (decide (q≤p))):=
 ⟨rfl,(by simp [known,opers,hx,hy]),fun _ _ _ _=>ff .geq (by simp) _ rfl hx hy⟩
theorem PV.eqi(hx:ev kv x=some (.int k p)) (hy:ev kv y=some (.int k q)) :PV P (.binOp .eql T x y U) ty kv w (.bool (decide (p=q))):=
 ⟨rfl,(by simp [known,opers,hx,hy]),fun _ _ _ _=>ff .eql (by simp) _ (by
  have:(p == q)=decide (p=q):=by by_cases e:p=q <;> simp [e]
  simp only [Op.intCmp,this];rfl) hx hy⟩
theorem PV.nei(hx:ev kv x=some (.int k p)) (hy:ev kv y=some (.int k q)) :PV P (.binOp .neq T x y U) ty kv w (.bool (decide (p≠q))):=
 ⟨rfl,(by simp [known,opers,hx,hy]),fun _ _ _ _=>ff .neq (by simp) _ (by
  have:(p != q)=decide (p≠q):=by by_cases e:p=q <;> simp [e]
  simp only [Op.intCmp,this];rfl) hx hy⟩
theorem rl{r:Int}(h1:-9223372036854775808≤r) (h2:r≤9223372036854775807):IntKind.i64.wrap r=r:=by
 exact IntWalk.i64_in _ (by omega)
theorem PV.add(hx:ev kv x=some (.int .i64 p)) (hy:ev kv y=some (.int .i64 q)) (h1:-9223372036854775808≤p+q) (h2:p+q≤9223372036854775807)
   : PV P (.binOp .add T x y U) ty kv w (.int .i64 (p+q)):=
 ⟨rfl,(by simp [known,opers,hx,hy]),fun _ _ _ _=>ff .add (by simp) _ (by simp only [Op.intArith,rl h1 h2];rfl) hx hy⟩
theorem PV.sub(hx:ev kv x=some (.int .i64 p)) (hy:ev kv y=some (.int .i64 q)) (h1:-9223372036854775808≤p - q) (h2:p - q≤9223372036854775807)
   : PV P (.binOp .sub T x y U) ty kv w (.int .i64 (p - q)):=
 ⟨rfl,(by simp [known,opers,hx,hy]),fun _ _ _ _=>ff .sub (by simp) _ (by simp only [Op.intArith,rl h1 h2];rfl) hx hy⟩
theorem PV.mul(hx:ev kv x=some (.int .i64 p)) (hy:ev kv y=some (.int .i64 q)) (h1:-9223372036854775808≤p*q) (h2:p*q≤9223372036854775807)
   : PV P (.binOp .mul T x y U) ty kv w (.int .i64 (p*q)):=
 ⟨rfl,(by simp [known,opers,hx,hy]),fun _ _ _ _=>ff .mul (by simp) _ (by simp only [Op.intArith,rl h1 h2];rfl) hx hy⟩
theorem PV.rem(hx:ev kv x=some (.int k p)) (hy:ev kv y=some (.int k q)) (h0:q≠0)
   : PV P (.binOp .rem T x y U) ty kv w (.int k (p.tmod q)):=
 ⟨rfl,(by simp [known,opers,hx,hy]),fun _ _ _ _=>ff .rem (by simp) _ (by simp only [Op.intDiv,if_neg h0];rfl) hx hy⟩
theorem PV.quo(hx:ev kv x=some (.int .i64 p)) (hy:ev kv y=some (.int .i64 q)) (h0:q≠0) (h1:-9223372036854775808≤p.tdiv q) (h2:p.tdiv q≤9223372036854775807)
   : PV P (.binOp .quo T x y U) ty kv w (.int .i64 (p.tdiv q)):=
 ⟨rfl,(by simp [known,opers,hx,hy]),fun _ _ _ _=>ff .quo (by simp) _ (by simp only [Op.intDiv,if_neg h0,rl h1 h2];rfl) hx hy⟩
end
theorem PV.not{T:TypeId}{x:Operand}{b:Bool}(hx:ev kv x=some (.bool b)) :PV P (.unOp .not T x) ty kv w (.bool (!b)):=
 ⟨rfl,(by simp [known,opers,hx]),fun _ _ _ _=>by simp only [execOp,aK hx];rfl⟩
theorem PV.ext{x:Operand}{vs:Array Value}{i:Nat}{v:Value}(hx:ev kv x=some (.tuple vs)) (hi:vs[i]?=some v) :PV P (.extract x i) ty kv w (v):=
 ⟨rfl,(by simp [known,opers,hx]),fun _ _ _ _=>by simp only [execOp,aK hx,Instr.extract,hi];rfl⟩
theorem PV.Vi{x:Operand}{a:Addr}(hx:ev kv x=some (.pointer (some a))) :PV P (.nilCheck x) ty kv w (.pointer (some a)):=
 ⟨rfl,(by simp [known,opers,hx]),fun _ _ _ _=>by simp only [execOp,aK hx];rfl⟩
/-! strings -/
section
variable {T U:TypeId}{x y:Operand}{p q:ByteArray}
theorem PV.eqs(hx:ev kv x=some (.string p)) (hy:ev kv y=some (.string q)) :PV P (.binOp .eql T x y U) ty kv w (.bool (decide (p=q))):=
 ⟨rfl,(by simp [known,opers,hx,hy]),fun _ _ _ _=>by
  have:(p.toList == q.toList)=decide (p=q):=by
   by_cases e:p=q
   ·
    simp [e]
   have:p.toList≠q.toList:=fun h=>e (ByteArray.ext (Array.toList_inj.1 (by rw [← ByteArray.toList_eq,← ByteArray.toList_eq];exact h)))
   simp [e,this]
  simp only [execOp,aK hx,aK hy,eqGuard,binOp,Op.stringOp,this]
  rfl⟩
theorem PV.nes(hx:ev kv x=some (.string p)) (hy:ev kv y=some (.string q)) :PV P (.binOp .neq T x y U) ty kv w (.bool (decide (p≠q))):=
 ⟨rfl,(by simp [known,opers,hx,hy]),fun _ _ _ _=>by
  have:(p.toList == q.toList)=decide (p=q):=by
   by_cases e:p=q
   ·
    simp [e]
   have:p.toList≠q.toList:=fun h=>e (ByteArray.ext (Array.toList_inj.1 (by rw [← ByteArray.toList_eq,← ByteArray.toList_eq];exact h)))
   simp [e,this]
  have h2:(!decide (p=q))=decide (p≠q):=by simp
  simp only [execOp,aK hx,aK hy,eqGuard,binOp,Op.stringOp,this,h2]
  rfl⟩
theorem PV.cat(hx:ev kv x=some (.string p)) (hy:ev kv y=some (.string q)) (hs:p.size+q.size≤9223372036854775807) :PV P (.binOp .add T x y U) ty kv w (.string (p++q)):=
 ⟨rfl,(by simp [known,opers,hx,hy]),fun _ _ _ _=>by
  have hm:¬(((p.size+q.size:Nat):Int) > IntKind.i64.max):=by rw [IntKind.max_i64];omega
  simp only [execOp,aK hx,aK hy,eqGuard,binOp,Op.stringOp,if_neg hm]
  rfl⟩
theorem PV.yx(hT:P.underlying T=some .string) (hx:ev kv x=some (.string p)) :PV P (.call {callee:=.builtin .len,args:=#[x],argTypes:=#[T]}) ty kv w (.int .i64 (p.size:Int)):=
 ⟨rfl,(by simp [known,opers,hx]),fun _ _ _ _=>by
  simp [execOp,aK hx,resolve,invoke,builtin,Builtin.len_,run_underlying hT,goInt]⟩
end
theorem PV.len{T E:TypeId}{x:Operand}{a:Option Addr}{m c:Nat}(hT:P.underlying T=some (.slice E)) (hx:ev kv x=some (.slice a m c)) :PV P (.call {callee:=.builtin .len,args:=#[x],argTypes:=#[T]}) ty kv w (.int .i64 (m:Int)):=
 ⟨rfl,(by simp [known,opers,hx]),fun _ _ _ _=>by
  simp [execOp,aK hx,resolve,invoke,builtin,Builtin.len_,run_underlying hT,goInt]⟩
end
end Go.Rc

namespace Go.Rc
open Go
structure aV (S:List Nat) (w w':World):Prop where
 os:w'.os=w.os
 tape:w'.tape=w.tape
 output:w'.output=w.output
 size:w.heap.size≤w'.heap.size
 drawn:w.drawn≤w'.drawn
 block:∀k,k<w.heap.size→k∉S→w'.heap[k]?=w.heap[k]?
theorem aV.refl(S:List Nat) (w:World):aV S w w:=⟨rfl,rfl,rfl,Nat.le_refl _,Nat.le_refl _,fun _ _ _=>rfl⟩
theorem aV.trans{S:List Nat}{a b c:World}(h:aV S a b) (k:aV S b c):aV S a c:=
 ⟨k.os.trans h.os,k.tape.trans h.tape,k.output.trans h.output,Nat.le_trans h.size k.size,Nat.le_trans h.drawn k.drawn,
  fun i hi hS=>(k.block i (Nat.lt_of_lt_of_le hi h.size) hS).trans (h.block i hi hS)⟩
theorem aV.trans'{S S':List Nat}{a b c:World}(h:aV S a b) (k:aV S' b c) (hS:∀x,x∈S'→x∈S∨a.heap.size≤x):aV S a c:=
 ⟨k.os.trans h.os,k.tape.trans h.tape,k.output.trans h.output,Nat.le_trans h.size k.size,Nat.le_trans h.drawn k.drawn,
  fun i hi hn=>(k.block i (Nat.lt_of_lt_of_le hi h.size) (fun hm=>by grind)).trans (h.block i hi hn)⟩
theorem aV.mono{S S':List Nat}{a b:World}(h:aV S a b) (hS:∀x,x∈S→x∈S'):aV S' a b:=
 ⟨h.os,h.tape,h.output,h.size,h.drawn,fun i hi hn=>h.block i hi fun hm=>hn (hS i hm)⟩
theorem aV.nil{S:List Nat}{a b:World}(h:aV [] a b):aV S a b:=h.mono (by simp)
theorem aV.get{S:List Nat}{a b:World}(h:aV S a b) {k:Nat}{o:Obj}(hk:a.heap[k]?=some o) (hS:k∉S):b.heap[k]?=some o:=by
 rw [h.block k (Array.getElem?_eq_some_iff.1 hk).1 hS,hk]
theorem aV.drew(S:List Nat) (w:World):aV S w {w with drawn:=w.drawn+1}:=⟨rfl,rfl,rfl,Nat.le_refl _,Nat.le_succ _,fun _ _ _=>rfl⟩
def cV(w:World) (b:Nat) (e:TypeId) (l:List Value):Prop:=w.heap[b]?=some (.cells l.toArray e (0,0))
theorem cV.lt{w:World}{b:Nat}{e:TypeId}{l:List Value}(h:cV w b e l):b<w.heap.size:=(Array.getElem?_eq_some_iff.1 h).1
theorem cV.cW{S:List Nat}{w w':World}{b:Nat}{e:TypeId}{l:List Value}(h:cV w b e l) (c:aV S w w') (hS:b∉S):cV w' b e l:=c.get h hS
theorem cV.ext{w w':World}{b:Nat}{e:TypeId}{l:List Value}(h:cV w b e l) (c:aV [] w w'):cV w' b e l:=c.get h (by simp)
theorem cV.range{w:World}{b:Nat}{e:TypeId}{l:List Value}(h:cV w b e l):w.rangeAt b 0 l:=fun j v hv=>by
 have h':w.heap[b]?=some (.cells l.toArray e (0,0)):=h;simp only [World.cell?,h',Nat.zero_add]
 simpa using hv
theorem bH{S:List Nat}{w w':World}{b o:Nat}{cs:List Value}(h:w.rangeAt b o cs) (c:aV S w w') (hS:b∉S):w'.rangeAt b o cs:=fun j v hv=>by
 have h1:=h j v hv;have hb:b<w.heap.size:=World.block_lt_of_cell? w _ h1;rw [← h1];exact World.cell?_of_block (a:=⟨b,o+j,none⟩) (c.block b hb hS)
theorem sL{w:World}{b o:Nat}{cs:List Value}(h:w.rangeAt b o cs) (j:Nat) (us:List Value) (hu:∀i v,us[i]?=some v→cs[j+i]?=some v):w.rangeAt b (o+j) us:=fun i v hv=>by
 rw [Nat.add_assoc];exact h (j+i) v (hu i v hv)
def nth:List Value→Nat→Option Value
 | [],_=>none
 | v::_,0=>some v
 | _::r,i+1=>nth r i
theorem yy(l:List Value):∀i,nth l i=l[i]?:=by
 induction l with
 | nil=>intro i;simp [nth]
 | cons v r ih=>intro i;cases i <;> simp [nth,ih]
def FJ:List Value→Nat→Value→List Value
 | [],_,_=>[]
 | _::r,0,u=>u::r
 | v::r,i+1,u=>v::FJ r i u
theorem Q6(l:List Value) (u:Value):∀i,FJ l i u=l.set i u:=by
 induction l with
 | nil=>intro i;simp [FJ]
 | cons v r ih=>intro i;cases i <;> simp [FJ,ih]
section
variable {P:Program}{n:Nat}{kv:KV}{w:World}{K:KV→World→Prop}
variable {d:Tmp}{ty:TypeId}{pos:String}{af:Array Edge}{g:Option (Nat × Bool)}{T:TypeId}
def One(P:Program) (T:TypeId):Prop:=∀w,(isAgg T).run P w=.ok false w
def wE(P:Program) (T:TypeId) (k:Nat):Prop:=(∃fs,P.underlying T=some (.struct fs))∧(P.info? T).map (·.size)=some k
theorem wE.row{k:Nat}(h:wE P T k):∃de,P.underlying T=some de∧de.isRow=true:=by
 obtain⟨⟨fs,h⟩,_⟩:=h;exact⟨_,h,rfl⟩
theorem Addr.yz(b o j:Nat):(⟨b,o,none⟩:Addr).add j=⟨b,o+j,none⟩:=Addr.add_mid b o j
/-! ### loads -/
theorem Kf(hT:One P T) {b o:Nat}{v:Value}(hc:w.cell? ⟨b,o,none⟩=some v):(Instr.loadAt T (.pointer (some ⟨b,o,none⟩))).run P w=.ok v w:=by
 simp only [Instr.loadAt,Instr.sureAddr,Sem.run_bind,Sem.run_pure,Result.andThen_ok,loadVar,hT w,Bool.false_eq_true,if_false]
 simp [load,Sem.run,hc]
theorem PV.ld1(hT:One P T) {x:Operand}{b o j:Nat}{vs:List Value}{v:Value}(hc:w.rangeAt b o vs) (hx:ev kv x=some (.pointer (some ⟨b,o+j,none⟩))) (hv:nth vs j=some v)
   : PV P (.load T x) ty kv w (v):=
 ⟨rfl,(by simp [known,opers,hx]),fun _ _ _ _=>by simp only [execOp,aK hx,Sem.run_bind,Kf hT (hc j v (by rw [← yy];exact hv)),Result.andThen_ok];rfl⟩
theorem PV.pA(hT:One P T) {x:Operand}{b o:Nat}{vs:List Value}{v:Value}(hc:w.rangeAt b o vs) (hx:ev kv x=some (.pointer (some ⟨b,o,none⟩))) (hv:nth vs 0=some v)
   : PV P (.load T x) ty kv w (v):=
 ⟨rfl,(by simp [known,opers,hx]),fun _ _ _ _=>by simp only [execOp,aK hx,Sem.run_bind,Kf hT (show w.cell? ⟨b,o,none⟩=some v from hc 0 v (by rw [← yy];exact hv)),Result.andThen_ok];rfl⟩
theorem PV.Lp{k:Nat}(hT:wE P T k) {x:Operand}{b o:Nat}{vs:List Value}(hc:w.rangeAt b o vs) (hl:vs.length=k) (hx:ev kv x=some (.pointer (some ⟨b,o,none⟩))) :
  PV P (.load T x) ty kv w (.agg vs.toArray):=by
 obtain⟨de,hu,hr⟩:=hT.row;exact⟨rfl,by simp [known,opers,hx],fun _ _ _ _=>by simp only [execOp,aK hx,Sem.run_bind,run_loadAt_mid w b o T vs de hc hu hr (by rw [hT.2,hl]),Result.andThen_ok];rfl⟩
def TE(vs:List Value):Nat→Nat→Option (List Value)
 | _,0=>some []
 | j,k+1=>match nth vs j with
  | none=>none
  | some v=>match TE vs (j+1) k with
   | none=>none
   | some r=>some (v::r)
theorem FK(vs:List Value):∀(k j:Nat) (us:List Value),TE vs j k=some us→us.length=k∧∀i v,us[i]?=some v→vs[j+i]?=some v:=by
 intro k
 induction k with
 | zero=>grind [TE]
 | succ k ih=>
  intro j us h;simp only [TE] at h
  split at h
  ·
   cases h
  rename_i v hv
  split at h
  ·
   cases h
  rename_i r hr
  simp only [Option.some.injEq] at h;subst h;obtain⟨h1,h2⟩:=ih (j+1) r hr;refine⟨by simp [h1],fun i u hu=>?_⟩
  cases i with
  | zero=>grind [yy]
  | succ i=>grind
theorem PV.FL{k j:Nat}(hT:wE P T k) {x:Operand}{b o:Nat}{vs us:List Value}(hc:w.rangeAt b o vs) (hx:ev kv x=some (.pointer (some ⟨b,o+j,none⟩))) (hs:TE vs j k=some us) :
  PV P (.load T x) ty kv w (.agg us.toArray):=
 PV.Lp hT (sL hc j us (FK vs k j us hs).2) (FK vs k j us hs).1 hx
/-! ### addresses -/
def FA(P:Program) (T:TypeId) (f off:Nat):Prop:=∀(b o:Nat) (w:World),(Instr.fieldAt T (.pointer (some ⟨b,o,none⟩)) f).run P w=.ok (.pointer (some ⟨b,o+off,none⟩)) w
theorem PV.fa{f off:Nat}(hT:FA P T f off) {x:Operand}{b o:Nat}(hx:ev kv x=some (.pointer (some ⟨b,o,none⟩))) :
  PV P (.fieldAddr T x f) ty kv w (.pointer (some ⟨b,o+off,none⟩)):=
 ⟨rfl,by simp [known,opers,hx],fun _ _ _ _=>by simp only [execOp,aK hx,Sem.run_bind,hT b o w,Result.andThen_ok];rfl⟩
structure Cc (P:Program) (T E k:Nat):Prop where
 Lq:P.underlying T=some (.slice E)
 size:∀w,(sizeOf E).run P w=.ok k w
theorem PV.ix{E k:Nat}(hT:Cc P T E k) {x y:Operand}{b o m c i:Nat}(hx:ev kv x=some (.slice (some ⟨b,o,none⟩) m c)) (hy:ev kv y=some (.int .i64 (i:Int))) (hi:i<m)
   : PV P (.indexAddr T x y) ty kv w (.pointer (some ⟨b,o+i*k,none⟩)):=
 ⟨rfl,(by simp [known,opers,hx,hy]),fun _ _ _ _=>by
  simp only [execOp,aK hx,aK hy,Instr.indexAt]
  simp [asIntOf,run_underlying hT.Lq,hi,hT.size,Addr.yz]⟩
theorem PV.jH{E k:Nat}(hT:Cc P T E k) {x:Operand}{a:Option Addr}{m c:Nat}(hx:ev kv x=some (.slice a m c)) :
  PV P (.call {callee:=.builtin .len,args:=#[x],argTypes:=#[T]}) ty kv w (.int .i64 (m:Int)):=PV.len hT.Lq hx
/-! ### new blocks -/
theorem mw(w:World) (o:Obj):aV [] w (w.alloc o):=⟨rfl,rfl,rfl,by simp,Nat.le_refl _,fun k hk _=>RowKit.Below.heap_alloc w o k hk⟩
theorem oo(w:World) (o:Obj):(w.alloc o).heap[w.heap.size]?=some o:=heap_alloc_new w o
structure FM (w w':World) (b:Nat):Prop where
 ext:aV [] w w'
 ge:w.heap.size≤b
 lt:b<w'.heap.size
def ZV(P:Program) (T:TypeId) (l:List Value):Prop:=∃z:Value,(∀w,(zeroValue T).run P w=.ok z w)∧z.cells=l.toArray
theorem OX.alloc{l:List Value}(hT:ZV P T l) (hd:Nat.blt d n=true) (h:∀b w',FM w w' b→cV w' b T l→K ((d,.pointer (some ⟨b,0,none⟩))::kv) w') :
  OX P ⟨some d,.alloc T,ty,pos,af,g⟩ n kv w K:=by
 obtain⟨z,hz,hl⟩:=hT;refine⟨rfl,hd,by simp [known,opers],?_⟩
 have hr:(execOp (lX kv) ⟨some d,.alloc T,ty,pos,af,g⟩).run P w=.ok (.value (.pointer (some ⟨w.heap.size,0,none⟩))) (w.alloc (.cells l.toArray T)):=by
  simp only [execOp,Instr.alloc,Sem.run_bind,hz w,Result.andThen_ok,newVar,newRow,hl]
  rfl
 rw [hr];exact h _ _ ⟨mw _ _,Nat.le_refl _,by simp⟩ (oo _ _)
theorem OX.box{x:Operand}{v:Value}{l:List Value}(hd:Nat.blt d n=true) (hx:ev kv x=some v) (hl:v.cells=l.toArray) (h:∀b w',FM w w' b→cV w' b T l→K ((d,.pointer (some ⟨b,0,none⟩))::kv) w') :
  OX P ⟨some d,.box T x,ty,pos,af,g⟩ n kv w K:=by
 refine⟨rfl,hd,by simp [known,opers,hx],?_⟩
 have hr:(execOp (lX kv) ⟨some d,.box T x,ty,pos,af,g⟩).run P w=.ok (.value (.pointer (some ⟨w.heap.size,0,none⟩))) (w.alloc (.cells l.toArray T)):=by
  simp only [execOp,aK hx,Instr.box,newVar,newRow,hl]
  rfl
 rw [hr];exact h _ _ ⟨mw _ _,Nat.le_refl _,by simp⟩ (oo _ _)
/-! ### stores into blocks of one's own -/
theorem oV(w:World) (b:Nat) (cs:Array Value):aV [b] w (w.setRow b cs):=
 ⟨rfl,rfl,rfl,by simp,Nat.le_refl _,fun k _ hk=>setRow_other w b k cs (by simpa using hk)⟩
theorem Kg{b j:Nat}{e:TypeId}{l:List Value}{v:Value}(hT:(P.info? T).map (·.size)=some 1) (hb:cV w b e l) (hj:j<l.length) (h1:v.oneCell'=true) :
  (Instr.storeAt T (.pointer (some ⟨b,j,none⟩)) v).run P w=.ok () (w.setRow b (l.set j v).toArray):=by
 have hc:v.cells=#[v]:=by cases v <;> simp_all [Value.cells,Value.oneCell']
 have Cd:w.cell? ⟨b,j,none⟩=some l[j]:=by simp [World.cell?,show w.heap[b]?=_ from hb,hj]
 have agU:w.frozen? ⟨b,j,none⟩=false:=by simp [World.frozen?,show w.heap[b]?=_ from hb]
 have bJ:(store ⟨b,j,none⟩ v).run P w=.ok () (w.setRow b (l.set j v).toArray):=by
  rw [run_store P w _ v _ h1,Cd];simp only [agU,Bool.false_eq_true,if_false];rw [setCell_eq_setRow w b j l.toArray e (0,0) v hb]
  simp
 cases hq:P.info? T with
 | none=>simp [hq] at hT
 | some i=>
  have hs:i.size=1:=by simpa [hq] using hT
  simp only [Instr.storeAt,Instr.sureAddr,Sem.run_bind,Sem.run_pure,Result.andThen_ok,storeVar,sizeOf,typeInfo]
  simp [hq,hs,hc,storeCells,bJ,Addr.add]
theorem OX.st{x y:Operand}{b j:Nat}{e:TypeId}{l l':List Value}{v:Value}(hT:(P.info? T).map (·.size)=some 1) (hb:cV w b e l) (hx:ev kv x=some (.pointer (some ⟨b,0+j,none⟩))) (hy:ev kv y=some v)
  (hj:nth l j≠none) (h1:v.oneCell'=true) (hl:FJ l j v=l') (h:∀w',aV [b] w w'→w'.heap.size=w.heap.size→cV w' b e l'→K kv w') :
  OX P ⟨none,.store T x y,ty,pos,af,g⟩ n kv w K:=by
 have hj':j<l.length:=by grind [yy]
 subst hl;rw [Nat.zero_add] at hx;refine⟨rfl,rfl,by simp [known,opers,hx,hy],?_⟩;simp only [execOp,aK hx,aK hy,Sem.run_bind,Kg hT hb hj' h1,Result.andThen_ok];refine h _ (oV _ _ _) (by simp) ?_;rw [Q6];exact setRow_heap w b _ _ e _ hb
theorem OX.bd{x y:Operand}{b:Nat}{e:TypeId}{l l':List Value}{v:Value}(hT:(P.info? T).map (·.size)=some 1) (hb:cV w b e l) (hx:ev kv x=some (.pointer (some ⟨b,0,none⟩))) (hy:ev kv y=some v)
  (hj:nth l 0≠none) (h1:v.oneCell'=true) (hl:FJ l 0 v=l') (h:∀w',aV [b] w w'→w'.heap.size=w.heap.size→cV w' b e l'→K kv w') :
  OX P ⟨none,.store T x y,ty,pos,af,g⟩ n kv w K:=OX.st (j:=0) hT hb hx hy hj h1 hl h
theorem sM(b:Nat) (e:TypeId):∀(vs:List Value) (o:Nat) (w:World) (l:List Value),cV w b e l→o+vs.length≤l.length→w.setCells b o vs=w.setRow b (l.take o++vs++l.drop (o+vs.length)).toArray:=by
 intro vs
 induction vs with
 | nil=>
  intro o w l hb _;simp only [World.setCells,List.append_nil,List.length_nil,Nat.add_zero,List.take_append_drop];exact(setRow_self w b _ e _ hb).symm
 | cons v r ih=>
  intro o w l hb hl
  have ho:o<l.length:=by simp at hl;omega
  have h1:w.setCell ⟨b,o,none⟩ v=w.setRow b (l.set o v).toArray:=by rw [setCell_eq_setRow w b o l.toArray e (0,0) v hb];simp
  have h2:cV (w.setRow b (l.set o v).toArray) b e (l.set o v):=setRow_heap w b _ _ e _ hb;simp only [World.setCells,h1];rw [ih (o+1) _ _ h2 (by simp at hl ⊢;omega),setRow_setRow]
  congr 2
  apply List.ext_getElem?
  intro i
  have e1:min (o+1) l.length=o+1:=by omega
  have e2:min o l.length=o:=by omega
  simp only [List.getElem?_append,List.getElem?_take,List.getElem?_drop,List.length_append,List.length_take,List.length_set,List.getElem?_set,List.length_cons,e1,e2]
  grind
theorem OX.stA{x y:Operand}{k:Nat}{b o:Nat}{e:TypeId}{l us l':List Value}(hT:(P.info? T).map (·.size)=some k) (hb:cV w b e l) (hx:ev kv x=some (.pointer (some ⟨b,o,none⟩))) (hy:ev kv y=some (.agg us.toArray))
  (hk:us.length=k) (ho:o+us.length≤l.length) (h1:∀v∈us,v.oneCell'=true) (hl:l.take o++us++l.drop (o+us.length)=l')
  (h:∀w',aV [b] w w'→w'.heap.size=w.heap.size→cV w' b e l'→K kv w') :
  OX P ⟨none,.store T x y,ty,pos,af,g⟩ n kv w K:=by
 subst hl;refine⟨rfl,rfl,by simp [known,opers,hx,hy],?_⟩
 have Kh:w.there b o us.toArray.size:=fun j hj=>by
  have hj':o+j<l.length:=by simp at hj;omega
  simp [World.cell?,World.frozen?,show w.heap[b]?=_ from hb,hj']
 have hr:=run_storeAt_mid (P:=P) w b o T us.toArray Kh (by rw [hT];simp [hk]) (all_oneCell_toArray h1);simp only [execOp,aK hx,aK hy,Sem.run_bind,hr,Result.andThen_ok];rw [sM b e us.toArray.toList o w l hb (by simpa using ho)];exact h _ (oV _ _ _) (by simp) (setRow_heap w b _ _ e _ hb)
theorem OX.pB{x y:Operand}{k:Nat}{b:Nat}{e:TypeId}{l us:List Value}(hT:(P.info? T).map (·.size)=some k) (hb:cV w b e l) (hx:ev kv x=some (.pointer (some ⟨b,0,none⟩))) (hy:ev kv y=some (.agg us.toArray))
  (hk:us.length=k) (hlen:l.length=k) (h1:us.all (·.oneCell')=true)
  (h:∀w',aV [b] w w'→w'.heap.size=w.heap.size→cV w' b e us→K kv w') :
  OX P ⟨none,.store T x y,ty,pos,af,g⟩ n kv w K:=
 OX.stA hT hb hx hy hk (by omega) (fun v hv=>List.all_eq_true.1 h1 v hv) (by simp;omega) h
/-! ### calls -/
def CF(P:Program) (f:FuncId):Prop:=∀args w,(callFunc f args).run P w=.ok (.enter f args) w
theorem OX.call{f:FuncId}(hf:CF P f) {xs:List Operand}{sO:Array TypeId}{args:List Value}(hd:Nat.blt d n=true) (hx:xs.map (ev kv)=args.map some)
  (h:Calls P f args.toArray w fun e w'=>∃v,e=.returned v∧K ((d,v)::kv) w') :
  OX P ⟨some d,.call {callee:=.value (.func f),args:=xs.toArray,argTypes:=sO},ty,pos,af,g⟩ n kv w K:=by
 have dL:∀x∈xs,∃v,ev kv x=some v:=fun x TF=>by
  have:ev kv x∈xs.map (ev kv):=List.mem_map.2 ⟨x,TF,rfl⟩
  grind
 refine⟨rfl,hd,?_,?_⟩
 ·
  refine List.all_eq_true.2 fun x TF=>?_;simp only [opers,List.mem_append] at TF
  rcases TF with TF | TF
  ·
   simp at TF;subst TF;rfl
  grind
 have aaJ:(xs.toArray.map (lX kv))=args.toArray:=by
  simp only [List.map_toArray]
  congr 1
  have:∀(xs:List Operand) (args:List Value),xs.map (ev kv)=args.map some→xs.map (lX kv)=args:=by
   intro xs
   induction xs with
   | nil=>simp_all
   | cons x r ih=>
    intro args h
    cases args with
    | nil=>simp at h
    | cons a s=>grind [aK]
  exact this xs args hx
 have hr:(execOp (lX kv) ⟨some d,.call {callee:=.value (.func f),args:=xs.toArray,argTypes:=sO},ty,pos,af,g⟩).run P w=.ok (.enter f args.toArray) w:=by
  simp only [execOp,resolve,aaJ]
  simp [lX,ev,Deferred.ofValue,invoke,hf args.toArray w]
 rw [hr];exact h
end
end Go.Rc

namespace Go.Rc
open Go
def eH(o:Oper):List Nat:=(o.after.toList.filter (Region.binds .any)).map (·.on)
def jI(ops:Array Oper) (i:Nat):List Nat:=match ops[i]? with | some o=>eH o | none=>[]
abbrev mF:=List (Nat × (World→Prop))
def l9(j:Nat):List Nat→Bool
 | []=>false
 | x::r=>match Nat.beq x j with
  | true=>true
  | false=>l9 j r
theorem kU{j:Nat}:∀{l:List Nat},l9 j l=true↔j∈l
 | []=>by simp [l9]
 | x::r=>by
  simp only [l9]
  cases h:Nat.beq x j with
  | true=>have:x=j:=Nat.eq_of_beq_eq_true h;simp [this]
  | false=>
   have kV:x≠j:=fun e=>by rw [e] at h;simp at h
   rw [kU]
   simp [kV.symm]
def Ie:mF→World→Prop
 | [],_=>True
 | (_,f)::r,w=>f w∧Ie r w
def FN(ds:List Nat):mF→World→Prop
 | [],_=>True
 | (j,f)::r,w=>(match l9 j ds with | true=>f w | false=>True)∧FN ds r w
theorem NF{F:mF}{w:World}:Ie F w↔∀p∈F,p.2 w:=by
 induction F with
 | nil=>simp [Ie]
 | cons p r ih=>obtain⟨j,f⟩:=p;simp [Ie,ih]
theorem Ki{ds:List Nat}{F:mF}{w:World}(h:∀p∈F,p.1∈ds→p.2 w):FN ds F w:=by
 induction F with
 | nil=>simp [FN]
 | cons p r ih=>
  obtain⟨j,f⟩:=p;refine⟨?_,ih fun q hq=>h q (by simp [hq])⟩
  cases he:l9 j ds with
  | true=>exact h (j,f) (by simp) (kU.1 he)
  | false=>trivial
section
variable (P:Program) (ops:Array Oper) (n:Nat) (C:World→Prop) (T:Nat→World→World→Prop) (E:Nat→Option (Value→World→Prop)) (Fin:KV→World→Prop)
def DW:Nat→List Oper→KV→mF→Prop
 | _,[],kv,F=>∀w,C w→Ie F w→Fin kv w
 | i,o::rest,kv,F=>
  bO o.op=false∧tV n o.dst=true∧
  ((gd ops kv o=some false∧DW (i+1) rest (nN kv o.dst undef) F)∨
   (gd ops kv o=some true∧known kv o.op=true∧E i=none∧∃e,(∀w,C w→(execOp (lX kv) o).run P w=.ok (.value e) w)∧DW (i+1) rest (nN kv o.dst e) F)∨
   (gd ops kv o=some true∧known kv o.op=true∧∃S,E i=some S∧
    (∀w,C w→FN (eH o) F w→tW P ((execOp (lX kv) o).run P w) fun v w'=>C w'∧T i w w'∧S v w')∧
    (∀v w,C w→S v w→DW (i+1) rest (nN kv o.dst v) ((i,S v)::F))))
end
def iB(ops:Array Oper) (i:Nat):Option Tmp:=(ops[i]?).bind (·.dst)
def yA(ops:Array Oper) (kv:KV) (bR:Nat→Value):Nat→KV
 | 0=>kv
 | i+1=>nN (yA ops kv bR i) (iB ops i) (bR i)
theorem Ig{ops:Array Oper}{kv:KV}{bR dj:Nat→Value}:∀i,(∀j,j<i→bR j=dj j)→yA ops kv bR i=yA ops kv dj i:=by
 intro i
 induction i with
 | zero=>intro _;rfl
 | succ i ih=>intro h;simp only [yA];rw [ih fun j hj=>h j (by omega),h i (by omega)]
theorem FO{kv:KV}{dst:Option Tmp}{v u:Value}{t:Nat}(h:look (nN kv dst v) t=some u):(dst=some t∧u=v)∨(dst≠some t∧look kv t=some u):=by
 cases dst with
 | none=>exact .inr ⟨by simp,h⟩
 | some d=>
  simp only [nN,look] at h
  cases hb:Nat.beq d t with
  | true=>
   rw [hb] at h
   have:d=t:=Nat.eq_of_beq_eq_true hb
   simp at h
   exact .inl ⟨by rw [this],h.symm⟩
  | false=>
   rw [hb] at h
   have kV:d≠t:=fun e=>by rw [e] at hb;simp at hb
   exact .inr ⟨by simpa using kV,h⟩
theorem Ce{ops:Array Oper}{kv:KV}{bR:Nat→Value}{t:Nat}{u:Value}:∀i,look (yA ops kv bR i) t=some u→
  (∃j,j<i∧iB ops j=some t∧u=bR j)∨((∀j,j<i→iB ops j≠some t)∧look kv t=some u):=by
 intro i
 induction i with
 | zero=>intro h;exact .inr ⟨fun j hj=>by omega,h⟩
 | succ i ih=>
  intro h
  rcases FO h with⟨h1,h2⟩ | ⟨h1,h2⟩
  ·
   exact .inl ⟨i,by omega,h1,h2⟩
  rcases ih h2 with⟨j,hj,h3,h4⟩ | ⟨h3,h4⟩
  ·
   exact .inl ⟨j,by omega,h3,h4⟩
  refine .inr ⟨fun j hj=>?_,h4⟩
  rcases Nat.lt_or_ge j i with dZ | qi
  ·
   exact h3 j dZ
  rw [show j=i by omega];exact h1
def tX(ops:Array Oper) (o:Oper) (a:Act) (kv:KV):Prop:=∀t v,t∈o.looksAt ops→look kv t=some v→a.tmps.getD t undef=v
theorem tX.exec{ops:Array Oper}{o:Oper}{a:Act}{kv:KV}(h:tX ops o a kv) (hs:bO o.op=false) (hk:known kv o.op=true) :
  execOp a.eval o=execOp (lX kv) o:=by
 refine execOp_congr o (fun cs b e=>by rw [e] at hs;simp [bO] at hs) fun x hx=>?_;obtain⟨v,hv⟩:=Option.isSome_iff_exists.1 ((List.all_eq_true.1 hk) x (by rw [← FD];simpa using hx))
 cases x with
 | tmp t=>
  have ht:t∈o.looksAt ops:=List.mem_append_left _ (List.mem_filterMap.2 ⟨.tmp t,by simpa using hx,rfl⟩)
  have:=h t v ht hv
  simp only [Act.eval,this,lX,hv,Option.getD_some]
 | const u=>simp [ev] at hv;subst hv;simp [Act.eval,lX,ev]
 | global u=>simp [ev] at hv;simp [Act.eval,lX,ev]
 | func u=>simp [ev] at hv;simp [Act.eval,lX,ev]
theorem tX.wanted{ops:Array Oper}{o:Oper}{a:Act}{kv:KV}(h:tX ops o a kv) {b:Bool}(hg:gd ops kv o=some b) :
  Region.wanted o (yielded ops a.tmps)=b:=by
 unfold gd at hg
 unfold Region.wanted
 split at hg
 ·
  rename_i NB;rw [NB];simpa using hg
 rename_i j c NB
 rw [NB]
 simp only
 split at hg
 ·
  rename_i d hd
  have Nb:yielded ops a.tmps j=some d:=by
   unfold yielded
   cases ht:(ops[j]?).bind (·.dst) with
   | none=>rw [ht] at hd;simp at hd
   | some t=>
    rw [ht] at hd;simp only [Option.bind_some] at hd ⊢;have hv:=h t _ (by unfold Oper.looksAt;rw [NB];simp only;rw [ht];simp) hd
    by_cases dZ:t<a.tmps.size
    ·
     simp [Array.getD,dZ] at hv
     simp [dZ,hv]
    simp [Array.getD,dZ,undef] at hv
  rw [Nb]
  have hb:(d == c)=b:=by simpa using hg
  rw [← hb]
  cases d <;> cases c <;> rfl
 ·
  rename_i d hd
  have Nb:yielded ops a.tmps j=none:=by
   unfold yielded
   cases ht:(ops[j]?).bind (·.dst) with
   | none=>rfl
   | some t=>
    rw [ht] at hd;simp only [Option.bind_some] at hd ⊢;have hv:=h t _ (by unfold Oper.looksAt;rw [NB];simp only;rw [ht];simp) hd
    by_cases dZ:t<a.tmps.size
    ·
     simp [Array.getD,dZ] at hv
     simp [dZ,hv]
    simp [dZ]
  rw [Nb]
  have hb:false=b:=by simpa using hg
  rw [← hb]
  cases c <;> rfl
 cases hg
/-! ### what is checked of the region -/
def r7:List Oper→List Nat→List Nat
 | [],acc=>acc
 | o::r,acc=>r7 r (acc++[(eH o).foldl (fun s d=>s ||| ((2 ^ d) ||| acc.getD d 0)) 0])
structure RegB (ops:Array Oper) (m:Nat):Prop where
 le:m≤ops.size
 back:∀(i:Nat) o,ops[i]?=some o→∀k∈eH o,k<i
 waits:∀(i:Nat) o,i<m→ops[i]?=some o→∀t∈o.looksAt ops,∀j,j<m→iB ops j=some t→j∈eH o
 apart:∀i j,i<m→j<m→i≠j→∀t,iB ops i=some t→iB ops j≠some t
 aaK:∀(i:Nat) o,i<m→ops[i]?=some o→bO o.op=false
def Di:List Oper→Nat→Bool
 | [],_=>true
 | o::r,i=>(eH o).all (fun k=>Nat.blt k i) && Di r (i+1)
def Vj(ops:List Oper) (m:Nat):Bool:=
 Nat.ble m ops.length && Di ops 0 &&
 (ops.take m).all (fun o=>let ds:=eH o;(o.looksAt ops.toArray).all fun t=>((ops.take m).zipIdx.all fun(p,j)=>p.dst != some t || l9 j ds)) &&
 (let l:=(ops.take m).filterMap (·.dst);decide l.Nodup) && (ops.take m).all (fun o=>!bO o.op)
theorem FP:∀(l:List Oper) (i:Nat),Di l i=true→∀(j:Nat) o,l[j]?=some o→∀k∈eH o,k<i+j:=by
 intro l
 induction l with
 | nil=>intro i _ j o h;simp at h
 | cons p r ih=>
  intro i h j o ho k hk;simp only [Di,Bool.and_eq_true,List.all_eq_true] at h
  cases j with
  | zero=>simp at ho;subst ho;have:=h.1 k hk;simp only [Nat.blt] at this;have:=Nat.le_of_ble_eq_true this;omega
  | succ j=>have:=ih (i+1) h.2 j o (by simpa using ho) k hk;omega
theorem Ih(acc:List Nat):∀(ds:List Nat) (s j:Nat),(ds.foldl (fun s d=>s ||| ((2 ^ d) ||| acc.getD d 0)) s).testBit j=true→
  s.testBit j=true∨∃d∈ds,j=d∨(acc.getD d 0).testBit j=true:=by
 intro ds
 induction ds with
 | nil=>intro s j h;exact .inl h
 | cons d r ih=>
  intro s j h
  rcases ih _ j h with h1 | ⟨d',hd',h1⟩
  ·
   simp only [Nat.testBit_or,Bool.or_eq_true] at h1
   rcases h1 with h1 | h1 | h1
   ·
    exact .inl h1
   ·
    refine .inr ⟨d,by simp,.inl ?_⟩;simp only [Nat.testBit_two_pow,decide_eq_true_eq] at h1;exact h1.symm
   exact .inr ⟨d,by simp,.inr h1⟩
  exact .inr ⟨d',by simp [hd'],h1⟩
theorem yB(D:Nat→Prop):∀(l pre:List Oper) (acc:List Nat),acc.length=pre.length→
  (∀(j:Nat) o,D j→(pre++l)[j]?=some o→∀d∈eH o,D d)→
  (∀(k:Nat) o,pre[k]?=some o→(∀d∈eH o,D d)→∀j,(acc.getD k 0).testBit j=true→D j)→
  (∀(k:Nat) o,(pre++l)[k]?=some o→∀d∈eH o,d<k)→
  ∀(k:Nat) o,(pre++l)[k]?=some o→(∀d∈eH o,D d)→∀j,((r7 l acc).getD k 0).testBit j=true→D j:=by
 intro l
 induction l with
 | nil=>intro pre acc hlen vo eu hb k o ho hd j hj;exact eu k o (by simpa using ho) hd j hj
 | cons p r ih=>
  intro pre acc hlen vo eu hb k o ho hd j hj;simp only [r7] at hj;refine ih (pre++[p]) _ (by simp [hlen]) (by simpa using vo) ?_ (by simpa using hb) k o (by simpa using ho) hd j hj;intro k o ho hd j hj
  rcases Nat.lt_or_ge k pre.length with dZ | qi
  ·
   rw [List.getElem?_append_left (by omega)] at ho;refine eu k o ho hd j ?_
   simpa [List.getD,List.getElem?_append_left (show k<acc.length by omega)] using hj
  have hk:k=pre.length:=by
   have:=(List.getElem?_eq_some_iff.1 ho).1
   simp at this;omega
  subst hk
  simp at ho
  subst ho
  have e:(acc++[(eH p).foldl (fun s d=>s ||| ((2 ^ d) ||| acc.getD d 0)) 0]).getD pre.length 0=(eH p).foldl (fun s d=>s ||| ((2 ^ d) ||| acc.getD d 0)) 0:=by
   rw [← hlen];simp
  rw [e] at hj
  rcases Ih acc _ _ _ hj with h1 | ⟨d,Vk,h1⟩
  ·
   simp at h1
  rcases h1 with rfl | h1
  ·
   exact hd _ Vk
  have hdl:d<pre.length:=hb pre.length p (by simp) d Vk;have hpd:∃q,pre[d]?=some q:=⟨pre[d],by simp [hdl]⟩;obtain⟨q,hq⟩:=hpd;refine eu d q hq (fun x hx=>vo d q (hd d Vk) ?_ x hx) j h1;rw [List.getElem?_append_left hdl];exact hq
theorem Lr{l:List Oper}{m:Nat}(h:Vj l m=true):RegB l.toArray m:=by
 simp only [Vj,Bool.and_eq_true] at h;obtain⟨⟨⟨⟨h1,h2⟩,h3⟩,h4⟩,h6⟩:=h;have hm:m≤l.length:=Nat.le_of_ble_eq_true h1
 have NG:∀(i:Nat) o,l[i]?=some o→∀k∈eH o,k<i:=fun i o ho k hk=>by have:=FP l 0 h2 i o ho k hk;omega
 have oW:∀(i:Nat) (o:Oper),i<m→l[i]?=some o→(l.take m)[i]?=some o:=fun i o hi ho=>by rw [List.getElem?_take,if_pos hi];exact ho
 have rK:∀(j:Nat) t,iB l.toArray j=some t→∃p,l[j]?=some p∧p.dst=some t:=fun j t hj=>by
  unfold iB at hj
  simp only [List.getElem?_toArray] at hj
  cases hp:l[j]? with
  | none=>rw [hp] at hj;simp at hj
  | some p=>rw [hp] at hj;exact⟨p,rfl,hj⟩
 refine⟨by simpa using hm,fun i o ho=>NG i o (by simpa using ho),?_,?_,fun i o hi ho=>by simpa using List.all_eq_true.1 h6 o (List.mem_of_getElem? (oW i o hi (by simpa using ho)))⟩
 ·
  intro i o hi ho t ht j hj xJ;have H2:o∈l.take m:=List.mem_of_getElem? (oW i o hi (by simpa using ho))
  have:=List.all_eq_true.1 h3 o H2
  have:=List.all_eq_true.1 this t ht
  obtain⟨p,hp,Q7⟩:=rK j t xJ
  have Q8:(p,j)∈(l.take m).zipIdx:=by
   rw [List.mem_zipIdx_iff_getElem?];exact oW j p hj hp
  have:=List.all_eq_true.1 this (p,j) Q8
  simp only [Bool.or_eq_true,bne_iff_ne,ne_eq,Q7,not_true_eq_false,false_or] at this;exact kU.1 this
 intro i j hi hj kV t hit xJ;obtain⟨p,hp,Q7⟩:=rK i t hit;obtain⟨q,hq,hqt⟩:=rK j t xJ
 have wF:((l.take m).filterMap (·.dst)).Nodup:=by simpa using h4
 have key:∀(L:List Oper),(L.filterMap (·.dst)).Nodup→∀(i j:Nat) p q,i<j→L[i]?=some p→L[j]?=some q→p.dst=some t→q.dst≠some t:=by
  intro L
  induction L with
  | nil=>intro _ i j p q _ hp;simp at hp
  | cons x r ih=>
   intro hn i j p q hij hp hq Q7 hqt
   cases j with
   | zero=>omega
   | succ j=>
    cases i with
    | zero=>
     simp at hp hq
     subst hp;rw [List.filterMap_cons,Q7] at hn;simp only [List.nodup_cons] at hn;exact hn.1 (List.mem_filterMap.2 ⟨q,List.mem_of_getElem? hq,hqt⟩)
    | succ i=>
     refine ih ?_ i j p q (by omega) (by simpa using hp) (by simpa using hq) Q7 hqt;rw [List.filterMap_cons] at hn
     split at hn
     ·
      exact hn
     exact(List.nodup_cons.1 hn).2
 rcases Nat.lt_or_ge i j with dZ | qi
 ·
  exact key _ wF i j p q dZ (oW i p hi hp) (oW j q hj hq) Q7 hqt
 exact key _ wF j i q p (by omega) (oW j q hj hq) (oW i p hi hp) hqt Q7
end Go.Rc

namespace Go.Rc
open Go
def NP(Q:Exit→Act→World→Prop) (e:Exit) (a:Act) (w:World):Prop:=(∀c,e≠.panic c)∧Q e a w
theorem EX.np{Q:Exit→Act→World→Prop}{n:Nat}{kv:KV}{w:World}(h:EX Q .normal n kv w):EX (NP Q) .normal n kv w:=fun a hF=>⟨fun c=>by simp,h a hF⟩
def NH:Op→Bool
 | .move _ | .assign _ | .pick .. | .extract ..=>true
 | _=>false
theorem Vl{P:Program}{o:Oper}{lk:Operand→Value}{v:Value}{w:World}(h:NH o.op=true) (hr:(execOp lk o).run P w=.ok (.value v) w) (w':World):(execOp lk o).run P w'=.ok (.value v) w':=by
 cases ho:o.op with
 | move x=>simp only [execOp,ho] at hr ⊢;cases hr;rfl
 | assign x=>simp only [execOp,ho] at hr ⊢;cases hr;rfl
 | pick c x y=>
  simp only [execOp,ho] at hr ⊢
  generalize lk c=u at hr ⊢
  cases u <;> first | (cases hr;rfl) | (cases hr;done)
 | extract t i=>
  simp only [execOp,ho,Instr.extract] at hr ⊢
  generalize lk t=u at hr ⊢
  cases u <;> first | (cases hr;done) | skip
  rename_i vs
  simp only at hr ⊢
  generalize vs[i]?=u at hr ⊢
  cases u <;> first | (cases hr;rfl) | (cases hr;done)
 | _=>rw [ho] at h;simp [NH] at h
structure Q9 (ops:Array Oper) (m:Nat) (X:List Nat):Prop extends RegB ops m where
 NI:X=[]∨∀(i:Nat) o,ops[i]?=some o→bO o.op=false
 xlt:∀x∈X,x<m
 xmv:∀x∈X,∀o,ops[x]?=some o→NH o.op=true
 xap:∀x∈X,∀o,ops[x]?=some o→∀(j:Nat) p,ops[j]?=some p→j≠x→x∈eH p∨j∈eH o∨o.apart ops p=true
 tail:∀k,m≤k→k<ops.size→∀(D:Nat→Prop),(∀(j:Nat) o,D j→ops[j]?=some o→∀d∈eH o,D d)→(∀(x:Nat) o,x∈X→ops[x]?=some o→(∀d∈eH o,D d)→D x)→(∀o,ops[k]?=some o→∀d∈eH o,D d)→∀j,j<k→D j
def oq:List Nat→Nat
 | []=>0
 | d::r=>(2 ^ d) ||| oq r
theorem vp:∀{ds:List Nat}{d:Nat},d∈ds→(oq ds).testBit d=true
 | a::r,d,h=>by
  simp only [oq,Nat.testBit_or,Bool.or_eq_true]
  rcases List.mem_cons.1 h with rfl | h
  ·
   left;simp [Nat.testBit_two_pow]
  right;exact vp h
def NJ(ops:List Oper):List Nat→Nat→Nat
 | [],s=>s
 | x::r,s=>NJ ops r (match ops[x]? with | some o=>(match Nat.beq (Nat.land (oq (eH o)) s) (oq (eH o)) with | true=>s ||| 2 ^ x | false=>s) | none=>s)
theorem Cf{ops:List Oper}{D:Nat→Prop}:∀{X:List Nat}{s:Nat},(∀(x:Nat) o,x∈X→ops[x]?=some o→(∀d∈eH o,D d)→D x)→(∀j,s.testBit j=true→D j)→∀j,(NJ ops X s).testBit j=true→D j
 | [],_,_,h=>h
 | x::r,s,hX,h=>by
  simp only [NJ];refine Cf (fun y o hy=>hX y o (by simp [hy])) ?_
  cases ho:ops[x]? with
  | none=>exact h
  | some o=>
   simp only
   cases hb:Nat.beq (Nat.land (oq (eH o)) s) (oq (eH o)) with
   | false=>exact h
   | true=>
    have he:(oq (eH o)) &&& s=oq (eH o):=Nat.eq_of_beq_eq_true hb;intro j hj;simp only [Nat.testBit_or,Bool.or_eq_true,Nat.testBit_two_pow,decide_eq_true_eq] at hj
    rcases hj with hj | rfl
    ·
     exact h j hj
    refine hX x o (by simp) ho fun d hd=>h d ?_;have h1:=vp hd;rw [← he,Nat.testBit_and] at h1;simp only [Bool.and_eq_true] at h1;exact h1.2
def yC(ops:List Oper) (m:Nat) (X:List Nat):Bool:=
 Vj ops m && (X.isEmpty || ops.all (fun o=>!bO o.op)) && X.all (fun x=>Nat.blt x m && (match ops[x]? with
  | some o=>NH o.op && ops.zipIdx.all (fun(p,j)=>Nat.beq j x || l9 x (eH p) || l9 j (eH o) || o.apart ops.toArray p)
  | none=>true)) &&
 (let ms:=r7 ops [];(List.range ops.length).all fun k=>Nat.blt k m || (NJ ops X (ms.getD k 0)) % 2 ^ k == 2 ^ k - 1)
theorem Cg{l:List Oper}{m:Nat}{X:List Nat}(h:yC l m X=true):Q9 l.toArray m X:=by
 simp only [yC,Bool.and_eq_true] at h;obtain⟨⟨⟨h1,h2⟩,h3⟩,h5⟩:=h;have hB:=Lr h1;have NG:∀(i:Nat) o,l[i]?=some o→∀k∈eH o,k<i:=fun i o ho=>hB.back i o (by simpa using ho)
 have hx:∀x∈X,x<m∧∀o,l[x]?=some o→NH o.op=true∧∀(j:Nat) p,l[j]?=some p→j≠x→x∈eH p∨j∈eH o∨o.apart l.toArray p=true:=by
  intro x hx;have h4:=List.all_eq_true.1 h3 x hx;simp only [Bool.and_eq_true] at h4;refine⟨by have:=h4.1;simp only [Nat.blt] at this;have:=Nat.le_of_ble_eq_true this;omega,fun o ho=>?_⟩;have h6:=h4.2;rw [ho] at h6;simp only [Bool.and_eq_true] at h6;refine⟨h6.1,fun j p hp kV=>?_⟩;have h7:=List.all_eq_true.1 h6.2 (p,j) (by rw [List.mem_zipIdx_iff_getElem?];exact hp);simp only [Bool.or_eq_true] at h7
  rcases h7 with((h7 | h7) | h7) | h7
  ·
   exact absurd (Nat.eq_of_beq_eq_true h7) kV
  ·
   exact .inl (kU.1 h7)
  ·
   exact .inr (.inl (kU.1 h7))
  exact .inr (.inr h7)
 refine {hB with NI:=?_,xlt:=fun x h=>(hx x h).1,xmv:=fun x h o ho=>((hx x h).2 o (by simpa using ho)).1,xap:=fun x h o ho j p hp=>((hx x h).2 o (by simpa using ho)).2 j p (by simpa using hp),tail:=?_}
 ·
  simp only [Bool.or_eq_true] at h2;refine h2.imp (by simp) fun h2 i o ho=>?_
  have:=List.all_eq_true.1 h2 o (List.mem_of_getElem? (by simpa using ho:l[i]?=some o))
  simpa using this
 intro k TG FQ D hD hDX hk j hj
 have:=List.all_eq_true.1 h5 k (by simpa using FQ)
 simp only [Bool.or_eq_true,beq_iff_eq] at this
 rcases this with h | h
 ·
  simp only [Nat.blt] at h;have:=Nat.le_of_ble_eq_true h;omega
 have aaM:k<l.length:=by simpa using FQ
 refine Cf (ops:=l) (X:=X) (s:=(r7 l []).getD k 0) (fun x o hx ho hd=>hDX x o hx (by simpa using ho) hd) (fun j hj=>yB D l [] [] rfl (fun j o hj ho=>hD j o hj (by simpa using ho)) (fun k o ho=>by simp at ho) (fun k o ho=>NG k o (by simpa using ho)) k l[k] (by simp [aaM]) (hk l[k] (by simp [aaM])) j hj) j ?_
 have hb:(NJ l X ((r7 l []).getD k 0) % 2 ^ k).testBit j=true:=by rw [h,Nat.testBit_two_pow_sub_one];simpa using hj
 rw [Nat.testBit_mod_two_pow] at hb;simp only [Bool.and_eq_true] at hb;exact hb.2
section
variable {P:Program}{ops:Array Oper}{Q:Exit→Act→World→Prop}{n m:Nat}{X:List Nat}{C:World→Prop}{T:Nat→World→World→Prop}{E:Nat→Option (Value→World→Prop)}
structure Inv (P:Program) (ops:Array Oper) (n m:Nat) (C:World→Prop) (E:Nat→Option (Value→World→Prop)) (a0:Act) (L:Nat→Bool) (bR:Nat→Value) (a:Act) (w:World):Prop where
 c:C w
 size:a.tmps.size=n
 mE:a.defers=[]
 here:∀j,j<m→L j=true→∀t,iB ops j=some t→a.tmps.getD t undef=bR j
 vq:∀t,(∀j,j<m→L j=true→iB ops j≠some t)→a.tmps.getD t undef=a0.tmps.getD t undef
 no:∀j o,j<m→L j=true→ops[j]?=some o→Region.wanted o (yielded ops a.tmps)=false→bR j=undef
 det:∀j o,j<m→L j=true→ops[j]?=some o→Region.wanted o (yielded ops a.tmps)=true→E j=none→∃wj,C wj∧(execOp a.eval o).run P wj=.ok (.value (bR j)) wj
 Dj:∀j o S,j<m→L j=true→ops[j]?=some o→Region.wanted o (yielded ops a.tmps)=true→E j=some S→S (bR j) w
 closed:∀j o,j<m→L j=true→ops[j]?=some o→∀k∈eH o,L k=true
theorem tY{a0 a:Act}{mG:KV}(eV:RegB ops m) (h0:Fr n a0 mG) {L:Nat→Bool}{bR dj:Nat→Value}{w:World}(hI:Inv P ops n m C E a0 L bR a w)
  (hv:∀j,L j=true→dj j=bR j) {i:Nat}{o:Oper}(hi:i<m) (ho:ops[i]?=some o) (hd:∀k∈eH o,L k=true):tX ops o a (yA ops mG dj i):=by
 intro t v ht hl
 rcases Ce i hl with⟨j,hj,xJ,rfl⟩ | ⟨gR,Ls⟩
 ·
  have hjd:=eV.waits i o hi ho t ht j (by omega) xJ;have iW:=hd j hjd;rw [hv j iW];exact hI.here j (by omega) iW t xJ
 rw [hI.vq t fun j hj iW xJ=>?_]
 ·
  exact h0.val t v Ls
 have hjd:=eV.waits i o hi ho t ht j hj xJ;exact gR j (eV.back i o ho j hjd) xJ
variable (hS:∀i S,E i=some S→∀j S',E j=some S'→j≠i→j∉jI ops i→∀v w w',C w→C w'→T j w w'→S v w→S v w')
include hS
theorem path{a0 a:Act}{mG:KV}{Fin:KV→World→Prop}(eV:RegB ops m) (h0:Fr n a0 mG) {L:Nat→Bool}{bR:Nat→Value}{w:World}(hI:Inv P ops n m C E a0 L bR a w)
  (Fu:DW P ops n C T E Fin 0 (ops.toList.take m) mG []):∀i,i≤m→∃dj F wh,(∀j,L j=true→dj j=bR j)∧
   DW P ops n C T E Fin i ((ops.toList.take m).drop i) (yA ops mG dj i) F∧C wh∧(∀j S v,j<m→L j=true→E j=some S→S v w→S v wh)∧(∀p∈F,p.2 wh)∧
   (∀p∈F,p.1<i∧(∃S v,E p.1=some S∧p.2=S v)∧(L p.1=true→p.2 w)):=by
 intro i
 induction i with
 | zero=>intro _;exact⟨bR,[],w,fun _ _=>rfl,by simpa [yA] using Fu,hI.c,fun _ _ _ _ _ _ h=>h,by simp,by simp⟩
 | succ i ih=>
  intro hi;obtain⟨dj,F,wh,hv,pC,hC,FR,hF,NK⟩:=ih (by omega)
  have ij:i<ops.size:=by have:=eV.le;omega
  obtain⟨o,ho⟩:∃o,ops[i]?=some o:=⟨ops[i],by simp [ij]⟩
  have hlen:i<(ops.toList.take m).length:=by simp;omega
  have FT:(ops.toList.take m).drop i=o::(ops.toList.take m).drop (i+1):=by
   rw [List.drop_eq_getElem_cons hlen]
   congr 1
   have:(ops.toList.take m)[i]?=some o:=by rw [List.getElem?_take,if_pos (by omega)];simpa using ho
   rw [List.getElem?_eq_getElem hlen] at this
   simpa using this
  rw [FT] at pC
  have rK:iB ops i=o.dst:=by simp [iB,ho]
  have next:∀u,yA ops mG (fun j=>if j=i then u else dj j) (i+1)=nN (yA ops mG dj i) o.dst u:=fun u=>by
   simp only [yA,rK,if_true];rw [Ig (dj:=dj) i fun j hj=>by rw [if_neg (by omega)]]
  have TH:∀u,(L i=true→u=bR i)→∀j,L j=true→(if j=i then u else dj j)=bR j:=fun u hu j hj=>by
   by_cases e:j=i
   ·
    subst e;rw [if_pos rfl];exact hu hj
   rw [if_neg e];exact hv j hj
  have Ra:∀p∈F,p.1<i+1∧(∃S v,E p.1=some S∧p.2=S v)∧(L p.1=true→p.2 w):=fun p hp=>⟨by have:=(NK p hp).1;omega,(NK p hp).2⟩;obtain⟨vt,vu,mH⟩:=pC
  rcases mH with⟨hg,jx⟩ | ⟨hg,hk,hE,e,kG,jx⟩ | ⟨hg,hk,S,hE,NL,jx⟩
  ·
   refine⟨fun j=>if j=i then undef else dj j,F,wh,TH _ fun kA=>?_,by rw [next];exact jx,hC,FR,hF,Ra⟩;have r8:=tY (dj:=dj) eV h0 hI hv (by omega) ho (hI.closed i o (by omega) kA ho);exact(hI.no i o (by omega) kA ho (r8.wanted hg)).symm
  ·
   refine⟨fun j=>if j=i then e else dj j,F,wh,TH _ fun kA=>?_,by rw [next];exact jx,hC,FR,hF,Ra⟩;have r8:=tY (dj:=dj) eV h0 hI hv (by omega) ho (hI.closed i o (by omega) kA ho);obtain⟨wj,hCj,Ii⟩:=hI.det i o (by omega) kA ho (r8.wanted hg) hE;rw [r8.exec vt hk,kG wj hCj] at Ii
   simpa using Ii
  by_cases kA:L i=true
  ·
   have r8:=tY (dj:=dj) eV h0 hI hv (by omega) ho (hI.closed i o (by omega) kA ho);have hSw:=hI.Dj i o S (by omega) kA ho (r8.wanted hg) hE;have hSh:=FR i S _ (by omega) kA hE hSw;refine⟨fun j=>if j=i then bR i else dj j,(i,S (bR i))::F,wh,TH _ fun _=>rfl,by rw [next];exact jx _ wh hC hSh,hC,FR,?_,?_⟩
   ·
    intro p hp
    rcases List.mem_cons.1 hp with rfl | hp
    ·
     exact hSh
    exact hF p hp
   intro p hp
   rcases List.mem_cons.1 hp with rfl | hp
   ·
    exact⟨by simp,⟨S,_,hE,rfl⟩,fun _=>hSw⟩
   exact Ra p hp
  obtain⟨v,Lt,Vm,hT,hSv⟩:=(NL wh hC (Ki fun p hp _=>hF p hp)).exists;refine⟨fun j=>if j=i then v else dj j,(i,S v)::F,Lt,TH _ fun h=>absurd h kA,by rw [next];exact jx _ Lt Vm hSv,Vm,fun j S' u pD iW Dk h=>hS j S' Dk i S hE (fun e=>kA (e ▸ iW)) (fun hm=>?_) u wh Lt hC Vm hT (FR j S' u pD iW Dk h),?_,?_⟩
  ·
   obtain⟨p,hp⟩:∃p,ops[j]?=some p:=⟨ops[j]'(by have:=eV.le;omega),by simp⟩;simp only [jI,hp] at hm;exact kA (hI.closed j p pD iW hp i hm)
  ·
   intro p hp
   rcases List.mem_cons.1 hp with rfl | hp
   ·
    exact hSv
   obtain⟨_,⟨S',u,Dk,pO⟩,_⟩:=NK p hp
   have:=hF p hp
   rw [pO] at this ⊢;refine hS p.1 S' Dk i S hE (by have:=(NK p hp).1;omega) (fun hm=>?_) u wh Lt hC Vm hT this;obtain⟨q,hq⟩:∃q,ops[p.1]?=some q:=⟨ops[p.1]'(by have:=(NK p hp).1;omega),by simp⟩;simp only [jI,hq] at hm
   have:=eV.back p.1 q hq i hm
   have:=(NK p hp).1
   omega
  intro p hp
  rcases List.mem_cons.1 hp with rfl | hp
  ·
   exact⟨by simp,⟨S,_,hE,rfl⟩,fun h=>absurd h kA⟩
  exact Ra p hp
omit hS in
theorem Inv.put{a0 a:Act}{L:Nat→Bool}{bR:Nat→Value}{w w':World}{i:Nat}{o:Oper}{v:Value}(eV:RegB ops m) (hI:Inv P ops n m C E a0 L bR a w) (hi:i<m) (ho:ops[i]?=some o) (hL:L i=false)
  (hd:∀k∈eH o,L k=true) (Vn:tV n o.dst=true) (hc:C w') (bJ:∀j S u,j<m→L j=true→E j=some S→S u w→S u w')
  (gR:Region.wanted o (yielded ops a.tmps)=false→v=undef) (agY:Region.wanted o (yielded ops a.tmps)=true→E i=none→∃wj,C wj∧(execOp a.eval o).run P wj=.ok (.value v) wj)
  (NL:∀S,Region.wanted o (yielded ops a.tmps)=true→E i=some S→S v w') :
  Inv P ops n m C E a0 (fun j=>if j=i then true else L j) (fun j=>if j=i then v else bR j) (a.put o.dst v) w':=by
 have rK:iB ops i=o.dst:=by simp [iB,ho]
 -- the new slot is looked at by no operation that is carried out, nor by this one
 have TJ:∀j p,j<m→(j=i∨L j=true)→ops[j]?=some p→∀d,o.dst=some d→d∉p.looksAt ops:=by
  intro j p hj QF hp d NN kH;have hmd:=eV.waits j p hj hp d kH i hi (by rw [rK,NN])
  rcases QF with rfl | iW
  ·
   have:=eV.back j p hp j hmd;omega
  have:=hI.closed j p hj iW hp i hmd
  rw [hL] at this;cases this
 have hex:∀j p,j<m→(j=i∨L j=true)→ops[j]?=some p→execOp (a.put o.dst v).eval p=execOp a.eval p:=fun j p hj QF hp=>
  execOp_put (ops:=ops) p (fun cs b e=>by have:=eV.aaK j p hj hp;rw [e] at this;simp [bO] at this) a o.dst v (TJ j p hj QF hp)
 have ZP:∀j p,j<m→(j=i∨L j=true)→ops[j]?=some p→Region.wanted p (yielded ops (a.put o.dst v).tmps)=Region.wanted p (yielded ops a.tmps):=fun j p hj QF hp=>
  wanted_put p a o.dst v (TJ j p hj QF hp)
 have yD:∀j,(if j=i then true else L j)=true→j=i∨(j≠i∧L j=true):=fun j h=>by
  by_cases e:j=i
  ·
   exact .inl e
  rw [if_neg e] at h;exact .inr ⟨e,h⟩
 have oW:∀t,o.dst≠some t→(a.put o.dst v).tmps.getD t undef=a.tmps.getD t undef:=fun t ht=>by
  cases NN:o.dst with
  | none=>rfl
  | some d=>
   have kV:d≠t:=fun e=>ht (by rw [NN,e])
   simp [Act.put,Array.getElem?_setIfInBounds_ne kV]
 refine⟨hc,?_,?_,?_,?_,?_,?_,?_,?_⟩
 ·
  cases NN:o.dst <;> simp [Act.put,hI.size]
 ·
  cases NN:o.dst <;> simp [Act.put,hI.mE]
 ·
  intro j hj iW t xJ
  rcases yD j iW with rfl | ⟨kV,iW⟩
  ·
   rw [if_pos rfl];rw [rK] at xJ
   have hts:t<a.tmps.size:=by
    rw [hI.size];rw [xJ] at Vn;simp only [tV,Nat.blt] at Vn;exact Nat.le_of_ble_eq_true Vn
   rw [xJ]
   simp [Act.put,hts]
  rw [if_neg kV,oW t fun NN=>eV.apart i j hi hj (fun e=>kV e.symm) t (by rw [rK,NN]) xJ];exact hI.here j hj iW t xJ
 ·
  intro t ht;have h1:o.dst≠some t:=fun NN=>ht i hi (by simp) (by rw [rK,NN]);rw [oW t h1]
  exact hI.vq t fun j hj iW=>ht j hj (by by_cases e:j=i <;> simp [e,iW])
 ·
  intro j p hj iW hp hw
  rcases yD j iW with rfl | ⟨kV,iW⟩
  ·
   rw [ZP j p hj (.inl rfl) hp] at hw;rw [ho] at hp
   simp at hp
   subst hp
   simp [gR hw]
  rw [ZP j p hj (.inr iW) hp] at hw;rw [if_neg kV];exact hI.no j p hj iW hp hw
 ·
  intro j p hj iW hp hw hE
  rcases yD j iW with rfl | ⟨kV,iW⟩
  ·
   rw [ZP j p hj (.inl rfl) hp] at hw;rw [hex j p hj (.inl rfl) hp,if_pos rfl];rw [ho] at hp
   simp at hp
   subst hp;exact agY hw hE
  rw [ZP j p hj (.inr iW) hp] at hw;rw [hex j p hj (.inr iW) hp,if_neg kV];exact hI.det j p hj iW hp hw hE
 ·
  intro j p S hj iW hp hw hE
  rcases yD j iW with rfl | ⟨kV,iW⟩
  ·
   rw [ZP j p hj (.inl rfl) hp] at hw;rw [if_pos rfl];rw [ho] at hp
   simp at hp
   subst hp;exact NL S hw hE
  rw [ZP j p hj (.inr iW) hp] at hw;rw [if_neg kV];exact bJ j S _ hj iW hE (hI.Dj j p S hj iW hp hw hE)
 intro j p hj iW hp k hk
 rcases yD j iW with rfl | ⟨kV,iW⟩
 ·
  rw [ho] at hp
  simp at hp
  subst hp
  by_cases e:k=j
  ·
   simp [e]
  rw [if_neg e];exact hd k hk
 by_cases e:k=i
 ·
  simp [e]
 rw [if_neg e];exact hI.closed j p hj iW hp k hk
def left(L:Nat→Bool):Nat→Nat
 | 0=>0
 | k+1=>left L k+(!L k).toNat
omit hS in
theorem Lu{L:Nat→Bool}:∀{k:Nat},left L k=0→∀j,j<k→L j=true:=by
 intro k
 induction k with
 | zero=>intro _ j hj;omega
 | succ k ih=>
  intro h j hj;simp only [left] at h
  rcases Nat.lt_or_ge j k with dZ | qi
  ·
   exact ih (by omega) j dZ
  rw [show j=k by omega]
  cases hL:L k with
  | true=>rfl
  | false=>rw [hL] at h;simp at h
omit hS in
theorem NQ{L L':Nat→Bool}{i:Nat}(hL:L i=false) (Vo:∀j,L' j=if j=i then true else L j):∀{k:Nat},(k≤i→left L' k=left L k)∧(i<k→left L' k+1=left L k):=by
 intro k
 induction k with
 | zero=>exact⟨fun _=>rfl,fun h=>by omega⟩
 | succ k ih=>
  refine⟨fun h=>?_,fun h=>?_⟩
  ·
   simp only [left];rw [ih.1 (by omega),Vo k,if_neg (by omega)]
  simp only [left]
  by_cases e:k=i
  ·
   subst e;rw [ih.1 (Nat.le_refl _),Vo k,if_pos rfl,hL]
   simp
  have:=ih.2 (by omega)
  rw [Vo k,if_neg e]
  omega
omit hS in
theorem Rb(eV:Q9 ops m X):∀(fuel k:Nat) (listed:Array Bool) (a:Act) (w:World),m≤k→k≤ops.size→(∀j,j<ops.size→listed[j]?=some (decide (j<k)))→listed.size=ops.size→
  ops.size - k≤fuel→wpList P ops Q (ops.toList.drop k) a w→wpAny P .any ops Q fuel listed a w:=by
 intro fuel
 induction fuel with
 | zero=>
  intro k listed a w TG hk tZ hsz hf h
  have Nd:k=ops.size:=by omega
  subst Nd;rw [List.drop_eq_nil_of_le (by simp)] at h;refine⟨?_,h⟩;refine List.eq_nil_iff_forall_not_mem.2 fun i hi=>?_;obtain⟨h0,o,ho,_⟩:=mem_ready.1 hi;have dZ:i<ops.size:=(Array.getElem?_eq_some_iff.1 ho).1
  have:=tZ i dZ
  simp [this,dZ] at h0
 | succ fuel ih=>
  intro k listed a w TG hk tZ hsz hf h
  have Vp:∀i,i∈Region.ready .any ops listed→i=k∧k<ops.size:=by
   intro i hi;obtain⟨h0,o,ho,Vn⟩:=mem_ready.1 hi;have dZ:i<ops.size:=(Array.getElem?_eq_some_iff.1 ho).1;have hl:=tZ i dZ
   have qi:¬i<k:=by
    intro hik
    simp [hl,hik] at h0
   refine⟨?_,by omega⟩
   rcases Nat.lt_or_ge k i with sP | sP
   ·
    exfalso
    have hD:=eV.tail i (by omega) dZ (fun j=>j<k) (fun j p hj hp d hd=>by have:=eV.back j p hp d hd;omega) (fun x p hx _ _=>by have:=eV.xlt x hx;omega) (fun p hp d hd=>by
     rw [ho] at hp;simp at hp;subst hp
     unfold eH at hd
     obtain⟨e,he,rfl⟩:=List.mem_map.1 hd;obtain⟨ZQ,QG⟩:=List.mem_filter.1 he;have hb:=Vn e (by simpa using ZQ) QG
     have Ij:e.on<ops.size:=by have:=eV.back i o ho e.on (List.mem_map.2 ⟨e,he,rfl⟩);omega
     simp [tZ e.on Ij] at hb
     exact hb) k sP
    omega
   omega
  refine⟨fun NR=>?_,fun i hi=>?_⟩
  ·
   rcases Nat.lt_or_ge k ops.size with dZ | qi
   ·
    exfalso
    have:k∈Region.ready .any ops listed:=by
     refine mem_ready.2 ⟨by simp [tZ k dZ],ops[k],by simp [dZ],fun e he hb=>?_⟩;have hek:e.on<k:=eV.back k ops[k] (by simp [dZ]) e.on (List.mem_map.2 ⟨e,List.mem_filter.2 ⟨by simpa using he,hb⟩,rfl⟩)
     simp [tZ e.on (by omega),hek]
    rw [NR] at this
    cases this
   rw [List.drop_eq_nil_of_le (by simpa using qi)] at h;exact h
  obtain⟨rfl,dZ⟩:=Vp i hi
  have FT:ops.toList.drop i=ops[i]::ops.toList.drop (i+1):=by
   rw [List.drop_eq_getElem_cons (by simpa using dZ)];simp
  rw [FT] at h
  have yE:∀j,j<ops.size→(listed.setIfInBounds i true)[j]?=some (decide (j<i+1)):=fun j hj=>by
   by_cases e:i=j
   ·
    subst e;simp [hsz,dZ]
   rw [Array.getElem?_setIfInBounds_ne e,tZ j hj]
   congr 1
   simp only [decide_eq_decide]
   omega
  have next:=fun a w=>ih (i+1) (listed.setIfInBounds i true) a w (by omega) (by omega) yE (by simpa using hsz) (by omega)
  unfold wpOp
  rw [show ops[i]?=some ops[i] by simp [dZ]]
  simp only
  unfold wpList at h
  by_cases hw:Region.wanted ops[i] (yielded ops a.tmps)=true
  ·
   rw [if_pos hw] at h;rw [if_pos hw];exact h.imp (Oper.wp_mono next) id
  rw [if_neg hw] at h;rw [if_neg hw];exact next _ _ h
omit hS in
theorem NS{J:(Nat→Bool)→Act→World→Prop}(eV:Q9 ops m X) (hQ:X=[]∨∀c a w,¬Q (.panic c) a w)
  (vo:∀L a w,J L a w→∀(j:Nat) p,j<m→L j=true→ops[j]?=some p→∀d∈eH p,L d=true)
  (rL:∀L a w,J L a w→(∀j,j<m→L j=true)→wpList P ops Q (ops.toList.drop m) a w)
  (bJ:∀L a w (i:Nat) o,J L a w→(∀j,m≤j→L j=false)→i<m→ops[i]?=some o→L i=false→(∀d∈eH o,L d=true)→
   (Region.wanted o (yielded ops a.tmps)=false∧J (fun j=>if j=i then true else L j) (a.put o.dst undef) w)∨
   (Region.wanted o (yielded ops a.tmps)=true∧tW P ((execOp a.eval o).run P w) (fun v w'=>J (fun j=>if j=i then true else L j) (a.put o.dst v) w')∧(i∈X→∃e,(execOp a.eval o).run P w=.ok (.value e) w))) :
  ∀(fuel:Nat) (listed:Array Bool) (a:Act) (w:World),listed.size=ops.size→left (fun j=>listed.getD j false) ops.size≤fuel→(∀j,m≤j→listed.getD j false=false)→J (fun j=>listed.getD j false) a w→wpAny P .any ops Q fuel listed a w:=by
 have hm:∀{listed:Array Bool},(∀j,m≤j→listed.getD j false=false)→(∀j,j<ops.size→listed.getD j false=true)→m=ops.size:=fun nB cY=>by
  rcases Nat.lt_or_ge m ops.size with h | h
  ·
   have h1:=cY m h;rw [nB m (Nat.le_refl _)] at h1;cases h1
  have:=eV.le;omega
 intro fuel
 induction fuel with
 | zero=>
  intro listed a w hsz TL nB hJ;have cY:=Lu (Nat.le_zero.1 TL)
  have h:=rL _ a w hJ fun j hj=>cY j (by have:=eV.le;omega)
  rw [hm nB cY,List.drop_eq_nil_of_le (by simp)] at h;refine⟨List.eq_nil_iff_forall_not_mem.2 fun i hi=>?_,h⟩;obtain⟨h0,o,ho,_⟩:=mem_ready.1 hi;have dZ:i<ops.size:=(Array.getElem?_eq_some_iff.1 ho).1;have h1:=cY i dZ;simp only [Array.getD_eq_getD_getElem?] at h0 h1
  cases hx:listed[i]? with
  | none=>rw [hx] at h0;simp at h0
  | some b=>rw [hx] at h0 h1;simp at h0 h1;rw [h0] at h1;cases h1
 | succ fuel ih=>
  intro listed a w hsz TL nB hJ
  have Ik:∀j,j<ops.size→∀b,listed.getD j b=listed.getD j false:=fun j hj b=>by
   simp [Array.getD,show j<listed.size by omega]
  -- what may agZ up
  have rdy:∀(j:Nat) o,ops[j]?=some o→listed.getD j false=false→(∀d∈eH o,listed.getD d false=true)→j∈Region.ready .any ops listed:=fun j o ho hb hd=>by
   have dZ:j<ops.size:=(Array.getElem?_eq_some_iff.1 ho).1;exact mem_ready.2 ⟨by rw [Ik j dZ true,hb],o,ho,fun e he hbd=>hd e.on (List.mem_map.2 ⟨e,List.mem_filter.2 ⟨by simpa using he,hbd⟩,rfl⟩)⟩
  have ok:∀i,i∈Region.ready .any ops listed→∃o,ops[i]?=some o∧i<ops.size∧listed.getD i false=false∧∀k∈eH o,listed.getD k false=true:=fun i hi=>by
   obtain⟨hli,o,ho,Vn⟩:=mem_ready.1 hi;have dZ:i<ops.size:=(Array.getElem?_eq_some_iff.1 ho).1;refine⟨o,ho,dZ,by rw [← Ik i dZ true];exact hli,fun k hk=>?_⟩
   unfold eH at hk
   obtain⟨e,he,rfl⟩:=List.mem_map.1 hk;obtain⟨ZQ,QG⟩:=List.mem_filter.1 he;exact Vn e (by simpa using ZQ) QG
  have next:∀(i:Nat) o v w',i<m→i<ops.size→listed.getD i false=false→J (fun j=>if j=i then true else listed.getD j false) (a.put o v) w'→wpAny P .any ops Q fuel (listed.setIfInBounds i true) (a.put o v) w':=fun i o v w' qb dZ kA hJ'=>by
   have Vo:∀j,(listed.setIfInBounds i true).getD j false=if j=i then true else listed.getD j false:=fun j=>by
    by_cases e:j=i
    ·
     subst e;simp [hsz,dZ]
    rw [if_neg e]
    simp [Array.getElem?_setIfInBounds_ne (fun h=>e h.symm)]
   refine ih _ _ _ (by simpa using hsz) ?_ (fun j hj=>by rw [Vo,if_neg (by omega)];exact nB j hj) (by have e:(fun j=>(listed.setIfInBounds i true).getD j false)=(fun j=>if j=i then true else listed.getD j false):=funext Vo;rw [e];exact hJ')
   have:=(NQ (L:=fun j=>listed.getD j false) (L':=fun j=>(listed.setIfInBounds i true).getD j false) kA Vo (k:=ops.size)).2 dZ
   omega
  by_cases hx:∃i,i∈X∧i∈Region.ready .any ops listed
  ·
   obtain⟨i,hiX,hi⟩:=hx;obtain⟨o,ho,dZ,kA,hd⟩:=ok i hi;have qb:=eV.xlt i hiX;have hX:X≠[]:=List.ne_nil_of_mem hiX
   have first:∀v,Yields P ops o v a→J (fun j=>if j=i then true else listed.getD j false) (a.put o.dst v) w→wpAny P .any ops Q (fuel+1) listed a w:=fun v hy hJ'=>
    wpAny_first ho (fun j p cs b hp e=>by have:=eV.NI.resolve_left hX j p hp;rw [e] at this;simp [bO] at this) (fun c _ _ h=>absurd h (hQ.resolve_left hX _ _ _)) fuel listed a w
     (fun j p hp kV hun gR=>by
      rcases eV.xap i hiX o ho j p hp kV with h | h | h
      ·
       obtain⟨e,he,hei⟩:=List.mem_map.1 h;obtain⟨ZQ,QG⟩:=List.mem_filter.1 he;exact absurd hei (gR e (by simpa using ZQ) QG)
      ·
       have h1:=hd j h;rw [Ik j (Array.getElem?_eq_some_iff.1 hp).1 true,h1] at hun;cases hun
      exact h) hi hy (next i o.dst v w qb dZ kA hJ')
   rcases bJ _ a w i o hJ nB qb ho kA hd with⟨hw,h⟩ | ⟨hw,h,he⟩
   ·
    exact first undef (.inr ⟨hw,rfl⟩) h
   obtain⟨e,he⟩:=he hiX;rw [he] at h
   exact first e (.inl ⟨hw,fun w'=>Vl (eV.xmv i hiX o ho) he w'⟩) h
  refine⟨fun NR=>?_,fun i hi=>?_⟩
  ·
   have cY:∀j,j<ops.size→listed.getD j false=true:=by
    intro j
    induction j using Nat.strongRecOn with
    | _ j ihj=>
     intro hj
     cases hb:listed.getD j false with
     | true=>rfl
     | false=>
      have:=rdy j ops[j] (by simp [hj]) hb fun k hk=>by
       have hkj:=eV.back j ops[j] (by simp [hj]) k hk;exact ihj k hkj (by omega)
      rw [NR] at this
      cases this
   have h:=rL _ a w hJ fun j hj=>cY j (by have:=eV.le;omega)
   rw [hm nB cY,List.drop_eq_nil_of_le (by simp)] at h;exact h
  obtain⟨o,ho,dZ,kA,hd⟩:=ok i hi
  rcases Nat.lt_or_ge i m with qb | qb
  ·
   unfold wpOp
   rw [ho]
   simp only
   rcases bJ _ a w i o hJ nB qb ho kA hd with⟨hw,h⟩ | ⟨hw,h,_⟩
   ·
    rw [if_neg (by rw [hw];simp)];exact next i o.dst undef w qb dZ kA h
   rw [if_pos hw];exact .inl (Ca h fun v w' h=>next i o.dst v w' qb dZ kA h)
  -- the first of the rest: all before it has agZ up
  have hD:=eV.tail i qb dZ (fun j=>listed.getD j false=true) (fun j p hj hp d Vk=>by
   have pD:j<m:=by
    rcases Nat.lt_or_ge j m with h | h
    ·
     exact h
    have:=nB j h;rw [this] at hj;cases hj
   exact vo _ a w hJ j p pD hj hp d Vk) (fun x p hxX hp hdx=>by
   cases hb:listed.getD x false with
   | true=>rfl
   | false=>exact absurd ⟨x,hxX,rdy x p hp hb hdx⟩ hx) (fun p hp d Vk=>by rw [ho] at hp;simp at hp;subst hp;exact hd d Vk)
  have ag2:i=m:=by
   rcases Nat.lt_or_ge m i with h | h
   ·
    have h1:=hD m h;rw [nB m (Nat.le_refl _)] at h1;cases h1
   omega
  subst ag2
  have tZ:∀j,j<ops.size→listed[j]?=some (decide (j<i)):=fun j hj=>by
   have TM:j<listed.size:=by omega
   rcases Nat.lt_or_ge j i with QF | QF
   ·
    have:=hD j QF
    simp [Array.getD,TM] at this
    simp [TM,this,QF]
   have:=nB j QF
   simp [Array.getD,TM] at this
   simp [TM,this,show ¬j<i by omega]
  refine(Rb (P:=P) (Q:=Q) eV (fuel+1) i listed a w (Nat.le_refl _) (by omega) tZ hsz ?_ (rL _ a w hJ hD)).2 i hi
  have hl:∀k,k≤ops.size→left (fun j=>listed.getD j false) k≥k - i:=by
   intro k
   induction k with
   | zero=>intro _;simp
   | succ k ihk=>
    intro hk
    have:=ihk (by omega)
    simp only [left]
    rcases Nat.lt_or_ge k i with h | h
    ·
     omega
    have h9:=nB k h;simp only [h9,Bool.not_false,Bool.toNat_true]
    omega
  have:=hl ops.size (Nat.le_refl _)
  omega
omit hS in
theorem Dl(L:Nat→Bool):∀k,left L k≤k
 | 0=>by simp [left]
 | k+1=>by have:=Dl L k;simp only [left];cases L k <;> simp <;> omega
omit hS in
theorem Dm(l:List Oper) (j:Nat):(Array.replicate l.toArray.size false).getD j false=false:=by
 by_cases h:j<l.length <;> simp [Array.getD,h]
omit hS in
theorem WC.NT(hQ:X=[]∨∀c a w,¬Q (.panic c) a w) (Vq:(X.all fun x=>(E x).isNone)=true) {kv:KV}{w:World}{id:Nat}{l:List Oper}
  (hS:∀i S,E i=some S→∀j S',E j=some S'→j≠i→j∉jI l.toArray i→∀v w w',C w→C w'→T j w w'→S v w→S v w') (hm:P.follows .mixedOrders=true) (eV:yC l m X=true) (hC:C {w with drawn:=w.drawn+1})
  (Fu:DW P l.toArray n C T E (fun kv w=>WL P l.toArray Q (l.drop m) n kv w) 0 (l.take m) kv []):WC P (.region id l.toArray true) Q n kv w:=by
 intro a0 h0;refine wp_region_any hm ?_
 have hE:∀x∈X,E x=none:=fun x hx=>by have:=List.all_eq_true.1 Vq x hx;simpa using this
 have eV:=Cg eV;refine NS (J:=fun L a w=>∃bR,Inv P l.toArray n m C E a0 L bR a w) eV hQ (fun L a w ⟨bR,hI⟩ j p hj hL hp=>hI.closed j p hj hL hp) ?_ ?_ l.toArray.size _ a0 _ (by simp) (Dl _ _) (fun j _=>Dm l j) ⟨fun _=>undef,hC,h0.size,h0.mE,?_,fun _ _=>rfl,?_,?_,?_,?_⟩
 ·
  intro L a w ⟨bR,hI⟩ cY;obtain⟨dj,F,wh,hv,pC,hC,_,hF,NK⟩:=path hS eV.toRegB h0 hI (by simpa using Fu) m (Nat.le_refl _);have NR:(l.toArray.toList.take m).drop m=[]:=List.drop_eq_nil_of_le (by simp;omega);rw [NR] at pC;refine pC w hI.c (NF.2 fun p hp=>(NK p hp).2.2 (cY p.1 (NK p hp).1)) a ⟨hI.size,hI.mE,fun t v hl=>?_⟩
  rcases Ce m hl with⟨j,hj,xJ,rfl⟩ | ⟨gR,Ls⟩
  ·
   rw [hv j (cY j hj)];exact hI.here j hj (cY j hj) t xJ
  rw [hI.vq t fun j hj _=>gR j hj];exact h0.val t v Ls
 ·
  intro L a w i o ⟨bR,hI⟩ _ qb ho kA hd;obtain⟨dj,F,wh,hv,pC,hC,_,hF,NK⟩:=path hS eV.toRegB h0 hI (by simpa using Fu) i (by omega)
  have H2:l[i]?=some o:=by simpa using ho
  have hlen:i<(l.take m).length:=by have:=(List.getElem?_eq_some_iff.1 H2).1;simp;omega
  have FT:(l.take m).drop i=o::(l.take m).drop (i+1):=by
   rw [List.drop_eq_getElem_cons hlen]
   congr 1
   have:(l.take m)[i]?=some o:=by rw [List.getElem?_take,if_pos qb];exact H2
   rw [List.getElem?_eq_getElem hlen] at this
   simpa using this
  rw [show l.toArray.toList=l from rfl,FT] at pC;obtain⟨vt,vu,mH⟩:=pC;have r8:=tY (dj:=dj) eV.toRegB h0 hI hv qb ho hd
  rcases mH with⟨hg,_⟩ | ⟨hg,hk,Dk,e,kG,_⟩ | ⟨hg,hk,S,Dk,NL,_⟩
  ·
   have hw:=r8.wanted hg;exact .inl ⟨hw,_,hI.put eV.toRegB qb ho kA hd vu hI.c (fun _ _ _ _ _ _ h=>h) (fun _=>rfl) (fun h=>by rw [hw] at h;cases h) (fun S h=>by rw [hw] at h;cases h)⟩
  ·
   have hw:=r8.wanted hg;have hr:=kG w hI.c;rw [← r8.exec vt hk] at hr;refine .inr ⟨hw,?_,fun _=>⟨e,hr⟩⟩;rw [hr];exact⟨_,hI.put eV.toRegB qb ho kA hd vu hI.c (fun _ _ _ _ _ _ h=>h) (fun h=>by rw [hw] at h;cases h) (fun _ _=>⟨w,hI.c,hr⟩) (fun S _ h=>by rw [Dk] at h;cases h)⟩
  have hw:=r8.wanted hg;refine .inr ⟨hw,?_,fun hX=>by rw [hE i hX] at Dk;cases Dk⟩;rw [r8.exec vt hk];refine(NL w hI.c (Ki fun p hp hm=>(NK p hp).2.2 (hd p.1 hm))).mono fun v w' ⟨Vm,hT,hSv⟩=>?_
  exact⟨_,hI.put eV.toRegB qb ho kA hd vu Vm (fun j S' u pD iW hE2 h=>hS j S' hE2 i S Dk (fun e=>by subst e;rw [kA] at iW;cases iW) (fun hm=>by
   obtain⟨p,hp⟩:∃p,l.toArray[j]?=some p:=⟨l.toArray[j]'(by have:=eV.le;omega),by simp⟩;simp only [jI,hp] at hm;have h3:=hI.closed j p pD iW hp i hm;simp only [kA] at h3
   cases h3) u w w' hI.c Vm hT h) (fun h=>by rw [hw] at h;cases h) (fun _ h=>by rw [Dk] at h;cases h) (fun S' _ h=>by rw [Dk] at h;simp at h;subst h;exact hSv)⟩
 all_goals (intro j;intros;rename_i h _ ;first | (have:=Dm l j;simp_all;done) | skip)
omit hS in
theorem WC.drawn{kv:KV}{w:World}{id:Nat}{l:List Oper}
  (hS:∀i S,E i=some S→∀j S',E j=some S'→j≠i→j∉jI l.toArray i→∀v w w',C w→C w'→T j w w'→S v w→S v w') (hm:P.follows .mixedOrders=true) (eV:yC l m []=true) (hC:C {w with drawn:=w.drawn+1})
  (Fu:DW P l.toArray n C T E (fun kv w=>WL P l.toArray Q (l.drop m) n kv w) 0 (l.take m) kv []):WC P (.region id l.toArray true) Q n kv w:=WC.NT (.inl rfl) rfl hS hm eV hC Fu
omit hS in
theorem WC.Kj(Vq:(X.all fun x=>(E x).isNone)=true) {kv:KV}{w:World}{id:Nat}{l:List Oper}
  (hS:∀i S,E i=some S→∀j S',E j=some S'→j≠i→j∉jI l.toArray i→∀v w w',C w→C w'→T j w w'→S v w→S v w') (hm:P.follows .mixedOrders=true) (eV:yC l m X=true) (hC:C {w with drawn:=w.drawn+1})
  (Fu:DW P l.toArray n C T E (fun kv w=>WL P l.toArray (NP Q) (l.drop m) n kv w) 0 (l.take m) kv []):WC P (.region id l.toArray true) Q n kv w:=
 fun a hF=>wp_mono (WC.NT (.inr fun c _ _ h=>h.1 c rfl) Vq hS hm eV hC Fu a hF) fun _ _ _ h=>h.2
end
/-! ### the walk of such a region -/
def dm:List (Nat × (Value→World→Prop))→Nat→Option (Value→World→Prop)
 | [],_=>none
 | (j,S)::r,i=>match Nat.beq j i with
  | true=>some S
  | false=>dm r i
section
variable {P:Program}{ops:Array Oper}{n i:Nat}{C:World→Prop}{T:Nat→World→World→Prop}{E:Nat→Option (Value→World→Prop)}{Fin:KV→World→Prop}
variable {rest:List Oper}{kv:KV}{F:mF}{d:Tmp}{op:Op}{ty:TypeId}{pos:String}{af:Array Edge}{g:Option (Nat × Bool)}
theorem DW.p{v:Value}(hg:gd ops kv ⟨some d,op,ty,pos,af,g⟩=some true) (hs:bO op=false) (hk:known kv op=true) (hd:Nat.blt d n=true) (hE:E i=none) (h:∀w,C w→PV P op ty kv w v)
  (next:DW P ops n C T E Fin (i+1) rest ((d,v)::kv) F):DW P ops n C T E Fin i (⟨some d,op,ty,pos,af,g⟩::rest) kv F:=
 ⟨hs,hd,.inr (.inl ⟨hg,hk,hE,v,fun w hw=>(h w hw).2.2 _ _ _ _,next⟩)⟩
theorem DW.no(hg:gd ops kv ⟨some d,op,ty,pos,af,g⟩=some false) (hs:bO op=false) (hd:Nat.blt d n=true)
  (next:DW P ops n C T E Fin (i+1) rest ((d,undef)::kv) F):DW P ops n C T E Fin i (⟨some d,op,ty,pos,af,g⟩::rest) kv F:=
 ⟨hs,hd,.inl ⟨hg,next⟩⟩
theorem DW.e{S:Value→World→Prop}(hg:gd ops kv ⟨some d,op,ty,pos,af,g⟩=some true) (hs:bO op=false) (hk:known kv op=true) (hd:Nat.blt d n=true) (hE:E i=some S)
  (h:∀w,C w→FN (eH ⟨some d,op,ty,pos,af,g⟩) F w→OX P ⟨some d,op,ty,pos,af,g⟩ n kv w fun j8 w'=>C w'∧T i w w'∧∃v,j8=(d,v)::kv∧S v w')
  (next:∀v w,C w→S v w→DW P ops n C T E Fin (i+1) rest ((d,v)::kv) ((i,S v)::F)):DW P ops n C T E Fin i (⟨some d,op,ty,pos,af,g⟩::rest) kv F:=by
 refine⟨hs,hd,.inr (.inr ⟨hg,hk,S,hE,fun w hw hf=>?_,next⟩)⟩;refine(h w hw hf).2.2.2.mono fun v w' ⟨a,b,u,e,s⟩=>?_;simp only [nN,List.cons.injEq,Prod.mk.injEq,true_and,and_true] at e;subst e;exact⟨a,b,s⟩
theorem DW.e0{S:Value→World→Prop}(hg:gd ops kv ⟨none,op,ty,pos,af,g⟩=some true) (hs:bO op=false) (hk:known kv op=true) (hE:E i=some S)
  (h:∀w,C w→FN (eH ⟨none,op,ty,pos,af,g⟩) F w→OX P ⟨none,op,ty,pos,af,g⟩ n kv w fun _ w'=>C w'∧T i w w'∧∀v,S v w')
  (next:∀v w,C w→S v w→DW P ops n C T E Fin (i+1) rest kv ((i,S v)::F)):DW P ops n C T E Fin i (⟨none,op,ty,pos,af,g⟩::rest) kv F:=
 ⟨hs,rfl,.inr (.inr ⟨hg,hk,S,hE,fun w hw hf=>(h w hw hf).2.2.2.mono fun v w' ⟨a,b,s⟩=>⟨a,b,s v⟩,next⟩)⟩
theorem DW.nil(h:∀w,C w→Ie F w→Fin kv w):DW P ops n C T E Fin i [] kv F:=h
end
end Go.Rc

namespace Go.Rc
open Go
theorem dc{P:Program}{T f off s:Nat}{fs:Array Field}{fd:Field}(hu:P.underlying T=some (.struct fs)) (hf:fs[f]?=some fd) (hs:∀w,(sizeOf fd.type).run P w=.ok s w) (h0:s≠0) (ho:fd.offset=off) :
  FA P T f off:=by
 intro b o w;subst ho
 simp [Instr.fieldAt,run_underlying hu,hf,Instr.sureAddr,fieldPlace,hs,h0,Addr.yz]
end Go.Rc

