/- Base of the proof: frames, memory, ownership, and the plain meaning of rule systems. Conditions: as each lemma says. -/
import Derived.Orders
import Derived.Tactics
import Derived.Below
import Derived.Laws.AppendOwn
import Derived.IntWalk
import Derived.Laws.Strings
import Derived.DataShut
import Derived.Deep.MidRow
import Derived.Laws.StructEq
import Derived.Laws.OwnMore
import Derived.MapKept
import Derived.Maps.RangeRun
import Derived.Laws.Slices
import Derived.Lib.LaidTab
import Derived.Lib.ItoaNum
import Derived.Lib.ItoaMem
import Derived.Shelf.Small.Strs
set_option linter.unusedVariables false
set_option linter.unusedSimpArgs false
set_option linter.unusedSectionVars false
namespace Go.Rc
open Go
/-- Members of a list, by number. -/
theorem M0 {α : Type _} {a : α} {l : List α} : a ∈ a :: l := .head _
theorem M1 {α : Type _} {a b0 : α} {l : List α} : a ∈ b0 :: a :: l := .tail _ M0
theorem M2 {α : Type _} {a b0 b1 : α} {l : List α} : a ∈ b0 :: b1 :: a :: l := .tail _ M1
theorem M3 {α : Type _} {a b0 b1 b2 : α} {l : List α} : a ∈ b0 :: b1 :: b2 :: a :: l := .tail _ M2
theorem M4 {α : Type _} {a b0 b1 b2 b3 : α} {l : List α} : a ∈ b0 :: b1 :: b2 :: b3 :: a :: l := .tail _ M3
theorem M5 {α : Type _} {a b0 b1 b2 b3 b4 : α} {l : List α} : a ∈ b0 :: b1 :: b2 :: b3 :: b4 :: a :: l := .tail _ M4
theorem M6 {α : Type _} {a b0 b1 b2 b3 b4 b5 : α} {l : List α} : a ∈ b0 :: b1 :: b2 :: b3 :: b4 :: b5 :: a :: l := .tail _ M5
theorem M7 {α : Type _} {a b0 b1 b2 b3 b4 b5 b6 : α} {l : List α} : a ∈ b0 :: b1 :: b2 :: b3 :: b4 :: b5 :: b6 :: a :: l := .tail _ M6
theorem M8 {α : Type _} {a b0 b1 b2 b3 b4 b5 b6 b7 : α} {l : List α} : a ∈ b0 :: b1 :: b2 :: b3 :: b4 :: b5 :: b6 :: b7 :: a :: l := .tail _ M7
theorem M9 {α : Type _} {a b0 b1 b2 b3 b4 b5 b6 b7 b8 : α} {l : List α} : a ∈ b0 :: b1 :: b2 :: b3 :: b4 :: b5 :: b6 :: b7 :: b8 :: a :: l := .tail _ M8
theorem M10 {α : Type _} {a b0 b1 b2 b3 b4 b5 b6 b7 b8 b9 : α} {l : List α} : a ∈ b0 :: b1 :: b2 :: b3 :: b4 :: b5 :: b6 :: b7 :: b8 :: b9 :: a :: l := .tail _ M9
theorem M11 {α : Type _} {a b0 b1 b2 b3 b4 b5 b6 b7 b8 b9 b10 : α} {l : List α} : a ∈ b0 :: b1 :: b2 :: b3 :: b4 :: b5 :: b6 :: b7 :: b8 :: b9 :: b10 :: a :: l := .tail _ M10
theorem M12 {α : Type _} {a b0 b1 b2 b3 b4 b5 b6 b7 b8 b9 b10 b11 : α} {l : List α} : a ∈ b0 :: b1 :: b2 :: b3 :: b4 :: b5 :: b6 :: b7 :: b8 :: b9 :: b10 :: b11 :: a :: l := .tail _ M11
theorem M13 {α : Type _} {a b0 b1 b2 b3 b4 b5 b6 b7 b8 b9 b10 b11 b12 : α} {l : List α} : a ∈ b0 :: b1 :: b2 :: b3 :: b4 :: b5 :: b6 :: b7 :: b8 :: b9 :: b10 :: b11 :: b12 :: a :: l := .tail _ M12
theorem M14 {α : Type _} {a b0 b1 b2 b3 b4 b5 b6 b7 b8 b9 b10 b11 b12 b13 : α} {l : List α} : a ∈ b0 :: b1 :: b2 :: b3 :: b4 :: b5 :: b6 :: b7 :: b8 :: b9 :: b10 :: b11 :: b12 :: b13 :: a :: l := .tail _ M13
theorem M15 {α : Type _} {a b0 b1 b2 b3 b4 b5 b6 b7 b8 b9 b10 b11 b12 b13 b14 : α} {l : List α} : a ∈ b0 :: b1 :: b2 :: b3 :: b4 :: b5 :: b6 :: b7 :: b8 :: b9 :: b10 :: b11 :: b12 :: b13 :: b14 :: a :: l := .tail _ M14
theorem M16 {α : Type _} {a b0 b1 b2 b3 b4 b5 b6 b7 b8 b9 b10 b11 b12 b13 b14 b15 : α} {l : List α} : a ∈ b0 :: b1 :: b2 :: b3 :: b4 :: b5 :: b6 :: b7 :: b8 :: b9 :: b10 :: b11 :: b12 :: b13 :: b14 :: b15 :: a :: l := .tail _ M15
abbrev KV := List (Nat × Value)
def look : KV → Nat → Option Value
 | [], _ => none
 | (t, v) :: r, s => match Nat.beq t s with
  | true => some v
  | false => look r s
/-- What an operand is, as far as the list knows it. -/
def ev (kv : KV) : Operand → Option Value
 | .tmp t => look kv t
 | .const v => some v
 | .global g => some (.pointer (some ⟨g, 0, none⟩))
 | .func f => some (.func (.func f) #[] #[])
def upd (kv : KV) : Option Tmp → Value → KV
 | some d, v => (d, v) :: kv
 | none, _ => kv
/-- The frame has n slots, no deferred calls, and what the list says. -/
structure Fr (n : Nat) (a : Act) (kv : KV) : Prop where
 size : a.tmps.size = n
 nod : a.defers = []
 val : ∀ t v, look kv t = some v → a.tmps.getD t undef = v
theorem Fr.eval {n : Nat} {a : Act} {kv : KV} (h : Fr n a kv) {x : Operand} {v : Value} (hx : ev kv x = some v) : a.eval x = v := by
 cases x with
 | tmp t => exact h.val t v hx
 | const u => simpa [ev, Act.eval] using hx
 | global g => simpa [ev, Act.eval] using hx
 | func f => simpa [ev, Act.eval] using hx
def dstOk (n : Nat) : Option Tmp → Bool
 | some d => Nat.blt d n
 | none => true
theorem Fr.put {n : Nat} {a : Act} {kv : KV} (h : Fr n a kv) {dst : Option Tmp} (hd : dstOk n dst = true) (v : Value) : Fr n (a.put dst v) (upd kv dst v) := by
 cases dst with
 | none => exact h
 | some d =>
  refine ⟨by simp [Act.put, h.size], h.nod, fun t u hu => ?_⟩
  have hdn : d < n := by simp only [dstOk, Nat.blt] at hd; exact Nat.le_of_ble_eq_true hd
  simp only [upd, look] at hu
  by_cases hdt : d = t
  ·
   subst hdt
   simp at hu
   subst hu
   simp [Act.put, h.size, hdn]
  ·
   have hb : Nat.beq d t = false := Bool.eq_false_iff.2 fun e => hdt (Nat.eq_of_beq_eq_true e)
   rw [hb] at hu
   have := h.val t u hu
   simp only [Act.put]
   rw [← this]
   simp [Array.getElem?_setIfInBounds_ne hdt]
/-- What is asked of an operation's run: it yields a value, or a call returns one. -/
def outc (P : Program) (r : Result Next) (R : Value → World → Prop) : Prop :=
 match r with
 | .ok (.value v) w => R v w
 | .ok .skip w => R undef w
 | .ok (.enter f args) w => Calls P f args w fun e w' => ∃ v, e = .returned v ∧ R v w'
 | _ => False
theorem outc.mono {P : Program} {r : Result Next} {R R' : Value → World → Prop} (h : outc P r R) (hr : ∀ v w, R v w → R' v w) : outc P r R' := by
 unfold outc at *
 split at h
 ·
  exact hr _ _ h
 ·
  exact hr _ _ h
 ·
  exact h.mono fun e w' ⟨v, he, hR⟩ => ⟨v, he, hr _ _ hR⟩
 ·
  exact h.elim
theorem outc_upon {P : Program} {o : Oper} {a : Act} {K : Act → World → Prop} {Q : Exit → Act → World → Prop} {r : Result Next} {R : Value → World → Prop}
  (h : outc P r R) (hk : ∀ v w, R v w → K (a.put o.dst v) w) : o.upon P a K Q r := by
 unfold outc at h
 split at h
 ·
  exact hk _ _ h
 ·
  exact hk _ _ h
 ·
  refine h.mono fun e w' ⟨v, he, hR⟩ => ?_
  subst he
  exact hk _ _ hR
 ·
  exact h.elim
/-- There is a result. -/
theorem outc.exists {P : Program} {r : Result Next} {R : Value → World → Prop} (h : outc P r R) : ∃ v w, R v w := by
 unfold outc at h
 split at h
 ·
  exact ⟨_, _, h⟩
 ·
  exact ⟨_, _, h⟩
 ·
  obtain ⟨e, w', fr, ⟨v, he, hR⟩, _⟩ := h []
  exact ⟨v, w', hR⟩
 ·
  exact h.elim
/-- The operands, as a list. -/
def opers : Op → List Operand
 | .alloc _ | .ready _ | .waits _ => []
 | .move x | .assign x | .box _ x | .load _ x | .nilCheck x | .unOp _ _ x | .convert _ _ x | .sliceToArrayPointer _ x | .makeInterface _ x
 | .makeChan _ x | .fieldAddr _ x _ | .field _ x _ | .range _ x | .next x _ | .entry x | .typeAssert x _ _ _ | .extract x _ | .panic x | .recv _ x _ => [x]
 | .pick c a b => [c, a, b]
 | .build _ ps | .buildSlice _ _ ps => ps.toList.map (·.2)
 | .store _ a v | .binOp _ _ a v _ | .makeSlice _ a v | .indexAddr _ a v | .index _ a v | .lookup _ a v _ | .mapEntry _ a v | .send a v => [a, v]
 | .makeFunc _ first captured => first.toList ++ captured.toList
 | .makeMap _ r => r.toList
 | .slice _ x l h m => x :: (l.toList ++ h.toList ++ m.toList)
 | .mapUpdate _ m k v | .entryStore _ m k v | .insert _ m k v => [m, k, v]
 | .call c | .go c | .defer c => (match c.callee with | .value f => [f] | .invoke r _ => [r] | .builtin _ => []) ++ c.args.toList
 | .select cs _ => (cs.flatMap fun c => #[c.chan] ++ c.send.toArray).toList
theorem opers_eq (op : Op) : op.operands.toList = opers op := by
 cases op <;> simp [Op.operands, opers, Call.operands]
 all_goals (rename_i c; cases c.callee <;> simp)
/-- All temporaries among the operands are known. -/
def known (kv : KV) (op : Op) : Bool := (opers op).all fun x => (ev kv x).isSome
def lkO (kv : KV) (x : Operand) : Value := (ev kv x).getD undef
def isSelect : Op → Bool
 | .select _ _ => true
 | _ => false
theorem Fr.exec {n : Nat} {a : Act} {kv : KV} (h : Fr n a kv) {o : Oper} (hs : isSelect o.op = false) (hk : known kv o.op = true) :
  execOp a.eval o = execOp (lkO kv) o := by
 refine execOp_congr o (fun cs b e => by rw [e] at hs; simp [isSelect] at hs) fun x hx => ?_
 have := (List.all_eq_true.1 hk) x (by rw [← opers_eq]; simpa using hx)
 obtain ⟨v, hv⟩ := Option.isSome_iff_exists.1 this
 rw [h.eval hv]
 simp [lkO, hv]
/-! ### the judgements -/
def WL (P : Program) (ops : Array Oper) (Q : Exit → Act → World → Prop) (l : List Oper) (n : Nat) (kv : KV) (w : World) : Prop :=
 ∀ a, Fr n a kv → wpList P ops Q l a w
def WC (P : Program) (c : Code) (Q : Exit → Act → World → Prop) (n : Nat) (kv : KV) (w : World) : Prop :=
 ∀ a, Fr n a kv → c.wp P Q a w
def EX (Q : Exit → Act → World → Prop) (e : Exit) (n : Nat) (kv : KV) (w : World) : Prop :=
 ∀ a, Fr n a kv → Q e a w
/-- An operation carried out, whatever its guard. -/
def OX (P : Program) (o : Oper) (n : Nat) (kv : KV) (w : World) (K : KV → World → Prop) : Prop :=
 isSelect o.op = false ∧ dstOk n o.dst = true ∧ known kv o.op = true ∧ outc P ((execOp (lkO kv) o).run P w) fun v w' => K (upd kv o.dst v) w'
/-- What the guard finds. -/
def gd (ops : Array Oper) (kv : KV) (o : Oper) : Option Bool :=
 match o.guard with
 | none => some true
 | some (j, b) => match ((ops[j]?).bind (·.dst)).bind (look kv) with
  | some (.bool c) => some (c == b)
  | some (.tuple _) => some false
  | _ => none
theorem Fr.wanted {n : Nat} {a : Act} {kv : KV} (h : Fr n a kv) {ops : Array Oper} {o : Oper} {b : Bool} (hg : gd ops kv o = some b) :
  Region.wanted o (yielded ops a.tmps) = b := by
 unfold gd at hg
 unfold Region.wanted
 split at hg
 ·
  rename_i hgu; rw [hgu]; simpa using hg
 ·
  rename_i j c hgu
  rw [hgu]
  simp only
  split at hg
  ·
   rename_i d hd
   have hyl : yielded ops a.tmps j = some d := by
    unfold yielded
    cases ht : (ops[j]?).bind (·.dst) with
    | none => rw [ht] at hd; simp at hd
    | some t =>
     rw [ht] at hd
     simp only [Option.bind_some] at hd ⊢
     have hv := h.val t _ hd
     by_cases hlt : t < a.tmps.size
     ·
      simp [Array.getD, hlt] at hv
      simp [hlt, hv]
     ·
      simp [Array.getD, hlt, undef] at hv
   rw [hyl]
   have hb : (d == c) = b := by simpa using hg
   rw [← hb]
   cases d <;> cases c <;> rfl
  ·
   rename_i d hd
   have hyl : yielded ops a.tmps j = none := by
    unfold yielded
    cases ht : (ops[j]?).bind (·.dst) with
    | none => rfl
    | some t =>
     rw [ht] at hd
     simp only [Option.bind_some] at hd ⊢
     have hv := h.val t _ hd
     by_cases hlt : t < a.tmps.size
     ·
      simp [Array.getD, hlt] at hv
      simp [hlt, hv]
     ·
      simp [hlt]
   rw [hyl]
   have hb : false = b := by simpa using hg
   rw [← hb]
   cases c <;> rfl
  ·
   cases hg
section
variable {P : Program} {ops : Array Oper} {Q : Exit → Act → World → Prop} {n : Nat} {kv : KV} {w : World} {rest : List Oper} {o : Oper}
theorem WL.go (hg : gd ops kv o = some true) (h : OX P o n kv w fun kv' w' => WL P ops Q rest n kv' w') : WL P ops Q (o :: rest) n kv w := by
 intro a hF
 obtain ⟨hs, hd, hk, ho⟩ := h
 unfold wpList
 rw [if_pos (hF.wanted hg)]
 refine .inl ?_
 unfold Oper.wp
 rw [hF.exec hs hk]
 exact outc_upon ho fun v w' h' => h' _ (hF.put hd v)
theorem WL.no (hg : gd ops kv o = some false) (hd : dstOk n o.dst = true) (h : WL P ops Q rest n (upd kv o.dst undef) w) : WL P ops Q (o :: rest) n kv w := by
 intro a hF
 unfold wpList
 rw [if_neg (by rw [hF.wanted hg]; simp)]
 exact h _ (hF.put hd undef)
theorem WL.nil (h : EX Q .normal n kv w) : WL P ops Q [] n kv w := h
theorem WC.region {id : Nat} {l : List Oper} (h : WL P l.toArray Q l n kv w) : WC P (.region id l.toArray false) Q n kv w :=
 fun a hF => wp_region_lit (h a hF)
theorem WC.seq {x y : Code} (h : WC P x (Exit.then (y.wp P Q) Q) n kv w) : WC P (.seq x y) Q n kv w := fun a hF => wp_seq (h a hF)
theorem WC.skip (h : EX Q .normal n kv w) : WC P .skip Q n kv w := fun a hF => wp_skip (h a hF)
theorem WC.exit {id : Nat} (h : EX Q (.exit id) n kv w) : WC P (.exit id) Q n kv w := fun a hF => wp_exit (h a hF)
theorem WC.ret (h : EX Q .ret n kv w) : WC P .ret Q n kv w := fun a hF => wp_ret (h a hF)
theorem WC.block {id : Nat} {c : Code} (h : WC P c (Exit.inBlock id Q) n kv w) : WC P (.block id c) Q n kv w := fun a hF => wp_block (h a hF)
theorem WC.condT {c : Operand} {x y : Code} (hc : ev kv c = some (.bool true)) (h : WC P x Q n kv w) : WC P (.cond c x y) Q n kv w := fun a hF => wp_cond (hF.eval hc) (h a hF)
theorem WC.condF {c : Operand} {x y : Code} (hc : ev kv c = some (.bool false)) (h : WC P y Q n kv w) : WC P (.cond c x y) Q n kv w := fun a hF => wp_cond (hF.eval hc) (h a hF)
theorem WC.cond {c : Operand} {x y : Code} {b : Bool} (hc : ev kv c = some (.bool b)) (ht : b = true → WC P x Q n kv w) (hf : b = false → WC P y Q n kv w) :
  WC P (.cond c x y) Q n kv w := by
 cases b
 ·
  exact WC.condF hc (hf rfl)
 ·
  exact WC.condT hc (ht rfl)
/-! leaving by the layers -/
theorem EX.seqN {y : Code} (h : WC P y Q n kv w) : EX (Exit.then (y.wp P Q) Q) .normal n kv w := h
theorem EX.thenX {N : Act → World → Prop} {id : Nat} (h : EX Q (.exit id) n kv w) : EX (Exit.then N Q) (.exit id) n kv w := h
theorem EX.thenR {N : Act → World → Prop} (h : EX Q .ret n kv w) : EX (Exit.then N Q) .ret n kv w := h
theorem EX.blkN {id : Nat} (h : EX Q .normal n kv w) : EX (Exit.inBlock id Q) .normal n kv w := h
theorem EX.blkR {id : Nat} (h : EX Q .ret n kv w) : EX (Exit.inBlock id Q) .ret n kv w := h
theorem EX.blkX {id : Nat} (h : EX Q .normal n kv w) : EX (Exit.inBlock id Q) (.exit id) n kv w := fun a hF => by
 simp only [Exit.inBlock, if_true]; exact h a hF
theorem EX.blkY {id id' : Nat} (hne : Nat.beq id' id = false) (h : EX Q (.exit id') n kv w) : EX (Exit.inBlock id Q) (.exit id') n kv w := fun a hF => by
 have : ¬ id' = id := fun e => by subst e; simp at hne
 simp only [Exit.inBlock, if_neg this]; exact h a hF
/-- The known slots may be forgotten. -/
def Sub (kv : KV) : KV → Prop
 | [] => True
 | (t, v) :: r => look kv t = some v ∧ Sub kv r
theorem Sub.look {kv kv' : KV} (h : Sub kv kv') : ∀ t v, look kv' t = some v → look kv t = some v := by
 induction kv' with
 | nil => intro t v hv; simp [Rc.look] at hv
 | cons p r ih =>
  obtain ⟨s, u⟩ := p
  intro t v hv
  simp only [Rc.look] at hv
  cases hb : Nat.beq s t with
  | true =>
   rw [hb] at hv
   have hst : s = t := by simpa using hb
   simp at hv
   rw [← hst, ← hv]
   exact h.1
  | false => rw [hb] at hv; exact ih h.2 t v hv
theorem Fr.sub {a : Act} {kv' : KV} (h : Fr n a kv) (hs : Sub kv kv') : Fr n a kv' := ⟨h.size, h.nod, fun t v hv => h.val t v (hs.look t v hv)⟩
/-- What holds of a shorter list holds of a longer one. -/
theorem WC.sub {c : Code} {kv' : KV} (hs : Sub kv kv') (h : WC P c Q n kv' w) : WC P c Q n kv w := fun a hF => h a (hF.sub hs)
theorem EX.sub {e : Exit} {kv' : KV} (hs : Sub kv kv') (h : EX Q e n kv' w) : EX Q e n kv w := fun a hF => h a (hF.sub hs)
/-- A piece of code by its own post: the ways meet again. -/
theorem WC.cut {c : Code} {kv' : KV} (J : World → Prop) (h : WC P c (fun e a w' => e = .normal ∧ Fr n a kv' ∧ J w') n kv w) (hJ : ∀ w', J w' → EX Q .normal n kv' w') :
  WC P c Q n kv w := fun a hF => wp_mono (h a hF) fun e a' w' ⟨he, hF', hj⟩ => by subst he; exact hJ w' hj a' hF'
theorem EX.meet {kv' : KV} {J : World → Prop} (hs : Sub kv kv') (hj : J w) : EX (fun e a w' => e = .normal ∧ Fr n a kv' ∧ J w') .normal n kv w :=
 fun _ hF => ⟨rfl, hF.sub hs, hj⟩
/-- The loop: a state of one's own, what the slots hold in it, what holds of the world, a measure. -/
theorem WC.loop {σ : Type} {c : Code} (kvs : σ → KV) (I : σ → World → Prop) (μ : σ → Nat) (s₀ : σ) (hs : Sub kv (kvs s₀)) (h₀ : I s₀ w)
  (round : ∀ s w, I s w → WC P c (Exit.then (fun a' w' => ∃ s', Fr n a' (kvs s') ∧ I s' w' ∧ μ s' < μ s) Q) n (kvs s) w) : WC P (.loop c) Q n kv w := by
 intro a hF b k cs
 have key : ∀ m s a w, μ s = m → I s w → Fr n a (kvs s) →
   ∃ e a' w', Q e a' w' ∧ Arrives P (lone (b.at a (.code c :: .inLoop c :: k)) cs w) b k cs e a' w' := by
  intro m
  induction m using Nat.strongRecOn with
  | _ m ih =>
   intro s a w hm hI hF
   obtain ⟨e, a₁, w₁, hq, harr⟩ := round s w hI a hF b (.inLoop c :: k) cs
   cases e with
   | normal =>
    obtain ⟨s', hF', hI', hlt⟩ := hq
    obtain ⟨e₂, a₂, w₂, hq₂, harr₂⟩ := ih (μ s') (hm ▸ hlt) s' a₁ w₁ rfl hI' hF'
    exact ⟨e₂, a₂, w₂, hq₂, .of_steps (Steps.trans harr (.one step_inLoop)) harr₂⟩
   | exit id => exact ⟨_, a₁, w₁, hq, .pass (x := .inLoop c) rfl (fun _ _ => .inl (by simp)) harr⟩
   | goto l => exact ⟨_, a₁, w₁, hq, .pass (x := .inLoop c) rfl (fun _ _ => .inl (by simp)) harr⟩
   | ret => exact ⟨_, a₁, w₁, hq, .pass (x := .inLoop c) rfl (fun _ _ => .inl (by simp)) harr⟩
   | panic ch => exact ⟨_, a₁, w₁, hq, .pass (x := .inLoop c) rfl (fun _ _ => .inl (by simp)) harr⟩
   | outgrown => exact ⟨_, a₁, w₁, hq, .pass (x := .inLoop c) rfl (fun _ _ => .inl (by simp)) harr⟩
 obtain ⟨e, a', w', hq, harr⟩ := key _ s₀ a w rfl h₀ (hF.sub hs)
 exact ⟨e, a', w', hq, .of_steps (.one step_loop) harr⟩
theorem EX.again {σ : Type} {kvs : σ → KV} {I : σ → World → Prop} {μ : σ → Nat} {m : Nat} (s' : σ) (hs : Sub kv (kvs s')) (hi : I s' w) (hm : μ s' < m) :
  EX (Exit.then (fun a' w' => ∃ s', Fr n a' (kvs s') ∧ I s' w' ∧ μ s' < m) Q) .normal n kv w := fun _ hF => ⟨s', hF.sub hs, hi, hm⟩
end
/-! ### a function's beginning and end -/
def kvArgs (k : Nat) : List Value → KV
 | [] => []
 | v :: r => (k, v) :: kvArgs (k + 1) r
theorem look_kvArgs (l : List Value) : ∀ k t v, look (kvArgs k l) t = some v → k ≤ t ∧ l[t - k]? = some v := by
 induction l with
 | nil => intro k t v h; simp [kvArgs, look] at h
 | cons x r ih =>
  intro k t v h
  simp only [kvArgs, look] at h
  cases hb : Nat.beq k t with
  | true =>
   rw [hb] at h
   have hkt : k = t := by simpa using hb
   subst hkt
   simp at h
   simp [h]
  | false =>
   rw [hb] at h
   obtain ⟨h1, h2⟩ := ih (k + 1) t v h
   refine ⟨by omega, ?_⟩
   rw [show t - k = (t - (k + 1)) + 1 by omega]
   simpa using h2
theorem enter {P : Program} {f : FuncId} {fn : Func} {c : Code} {args : List Value} {w : World} {R : Ending → World → Prop} {n : Nat}
  (hf : P.funcs[f]? = some fn) (hb : fn.body = some c) (hn : fn.ntmps = n) (hle : Nat.ble args.length n = true)
  (h : WC P c (bodyPost P fn R) n (kvArgs 0 args) w) : Calls P f args.toArray w R := by
 subst hn
 have hle' : args.length ≤ fn.ntmps := by simpa using hle
 refine calls_of_wp hf hb (h _ ⟨by simp; omega, rfl, fun t v hv => ?_⟩)
 obtain ⟨_, h2⟩ := look_kvArgs args 0 t v hv
 simp only [Nat.sub_zero] at h2
 have hlt : t < args.length := (List.getElem?_eq_some_iff.1 h2).1
 simp only [Array.getD_eq_getD_getElem?]
 rw [Array.getElem?_append_left (by simpa using hlt)]
 simp [h2]
section
variable {P : Program} {n : Nat} {kv : KV} {w : World} {fn : Func} {R : Ending → World → Prop}
theorem EX.ret0 {e : Exit} (he : e = .ret ∨ e = .normal) (hr : fn.results = #[]) (h : R (.returned (.tuple #[])) w) : EX (bodyPost P fn R) e n kv w := by
 intro a hF
 have hx : a.defers = [] ∧ ∃ v, (results fn a.tmps).run P w = .ok v w ∧ R (.returned v) w := ⟨hF.nod, _, results_none hr _ _ _, h⟩
 rcases he with rfl | rfl <;> exact hx
theorem EX.ret1 {t : Tmp} {v : Value} (hr : fn.results = #[.tmp t]) (hv : look kv t = some v) (h : R (.returned v) w) : EX (bodyPost P fn R) .ret n kv w :=
 fun a hF => ⟨hF.nod, v, by rw [results_tmp hr, hF.val t v hv], h⟩
theorem EX.ret2 {t u : Tmp} {v x : Value} (hr : fn.results = #[.tmp t, .tmp u]) (hv : look kv t = some v) (hx : look kv u = some x) (h : R (.returned (.tuple #[v, x])) w) : EX (bodyPost P fn R) .ret n kv w :=
 fun a hF => ⟨hF.nod, _, by rw [results_tmp2 hr, hF.val t v hv, hF.val u x hx], h⟩
end
end Go.Rc

namespace Go.Rc
open Go
theorem lkO_of {kv : KV} {x : Operand} {v : Value} (h : ev kv x = some v) : lkO kv x = v := by simp [lkO, h]
section
variable {P : Program} {n : Nat} {kv : KV} {w : World} {K : KV → World → Prop}
variable {d : Tmp} {ty : TypeId} {pos : String} {af : Array Edge} {g : Option (Nat × Bool)}
/-- An operation that yields a value and leaves the world. -/
def PV (P : Program) (op : Op) (ty : TypeId) (kv : KV) (w : World) (v : Value) : Prop :=
 isSelect op = false ∧ known kv op = true ∧ ∀ d pos af g, (execOp (lkO kv) ⟨d, op, ty, pos, af, g⟩).run P w = .ok (.value v) w
theorem WL.p {ops : Array Oper} {Q : Exit → Act → World → Prop} {rest : List Oper} {op : Op} {v : Value} (hg : gd ops kv ⟨some d, op, ty, pos, af, g⟩ = some true) (hd : Nat.blt d n = true) (h : PV P op ty kv w v)
  (next : WL P ops Q rest n ((d, v) :: kv) w) : WL P ops Q (⟨some d, op, ty, pos, af, g⟩ :: rest) n kv w :=
 WL.go hg ⟨h.1, hd, h.2.1, by rw [h.2.2]; exact next⟩
theorem PV.mv {x : Operand} {v : Value} (hx : ev kv x = some v)  : PV P (.move x) ty kv w (v) :=
 ⟨rfl, (by simp [known, opers, hx]), fun _ _ _ _ => by simp only [execOp, lkO_of hx]; rfl⟩
theorem PV.as {x : Operand} {v : Value} (hx : ev kv x = some v)  : PV P (.assign x) ty kv w (v) :=
 ⟨rfl, (by simp [known, opers, hx]), fun _ _ _ _ => by simp only [execOp, lkO_of hx]; rfl⟩
theorem PV.pickT {c x y : Operand} {v u : Value} (hc : ev kv c = some (.bool true)) (hx : ev kv x = some v) (hy : ev kv y = some u)  : PV P (.pick c x y) ty kv w (v) :=
 ⟨rfl, (by simp [known, opers, hc, hx, hy]), fun _ _ _ _ => by simp only [execOp, lkO_of hx, lkO_of hc]; rfl⟩
theorem PV.pickF {c x y : Operand} {v u : Value} (hc : ev kv c = some (.bool false)) (hx : ev kv x = some v) (hy : ev kv y = some u)  : PV P (.pick c x y) ty kv w (u) :=
 ⟨rfl, (by simp [known, opers, hc, hx, hy]), fun _ _ _ _ => by simp only [execOp, lkO_of hy, lkO_of hc]; rfl⟩
/-! integers -/
section
variable {T U : TypeId} {x y : Operand} {k : IntKind} {p q : Int}
theorem run_binInt {d : Option Tmp} {ty : TypeId} {pos : String} {af : Array Edge} {g : Option (Nat × Bool)} (op : BinOp) (hsh : op ≠ .shl ∧ op ≠ .shr) (v : Value)
  (h : (match op with
  | .add | .sub | .mul => Op.intArith op k p q
  | .quo | .rem => Op.intDiv op k p q
  | .and | .or | .xor | .andNot => Op.intBits op k p q
  | _ => Op.intCmp op p q : Sem Value).run P w = .ok v w) (hx : ev kv x = some (.int k p)) (hy : ev kv y = some (.int k q)) :
  (execOp (lkO kv) ⟨d, .binOp op T x y U, ty, pos, af, g⟩).run P w = .ok (.value v) w := by
 simp only [execOp, lkO_of hx, lkO_of hy]
 obtain ⟨h1, h2⟩ := hsh
 cases op <;> first | exact absurd rfl h1 | exact absurd rfl h2 | simp_all [eqGuard, binOp]
theorem PV.lss (hx : ev kv x = some (.int k p)) (hy : ev kv y = some (.int k q))  : PV P (.binOp .lss T x y U) ty kv w (.bool (decide (p < q))) :=
 ⟨rfl, (by simp [known, opers, hx, hy]), fun _ _ _ _ => run_binInt .lss (by simp) _ rfl hx hy⟩
theorem PV.leq (hx : ev kv x = some (.int k p)) (hy : ev kv y = some (.int k q))  : PV P (.binOp .leq T x y U) ty kv w (.bool (decide (p ≤ q))) :=
 ⟨rfl, (by simp [known, opers, hx, hy]), fun _ _ _ _ => run_binInt .leq (by simp) _ rfl hx hy⟩
theorem PV.gtr (hx : ev kv x = some (.int k p)) (hy : ev kv y = some (.int k q))  : PV P (.binOp .gtr T x y U) ty kv w (.bool (decide (q < p))) :=
 ⟨rfl, (by simp [known, opers, hx, hy]), fun _ _ _ _ => run_binInt .gtr (by simp) _ rfl hx hy⟩
theorem PV.geq (hx : ev kv x = some (.int k p)) (hy : ev kv y = some (.int k q))  : PV P (.binOp .geq T x y U) ty kv w (.bool (decide (q ≤ p))) :=
 ⟨rfl, (by simp [known, opers, hx, hy]), fun _ _ _ _ => run_binInt .geq (by simp) _ rfl hx hy⟩
theorem PV.eqi (hx : ev kv x = some (.int k p)) (hy : ev kv y = some (.int k q))  : PV P (.binOp .eql T x y U) ty kv w (.bool (decide (p = q))) :=
 ⟨rfl, (by simp [known, opers, hx, hy]), fun _ _ _ _ => run_binInt .eql (by simp) _ (by
  have : (p == q) = decide (p = q) := by by_cases e : p = q <;> simp [e]
  simp only [Op.intCmp, this]; rfl) hx hy⟩
theorem PV.nei (hx : ev kv x = some (.int k p)) (hy : ev kv y = some (.int k q))  : PV P (.binOp .neq T x y U) ty kv w (.bool (decide (p ≠ q))) :=
 ⟨rfl, (by simp [known, opers, hx, hy]), fun _ _ _ _ => run_binInt .neq (by simp) _ (by
  have : (p != q) = decide (p ≠ q) := by by_cases e : p = q <;> simp [e]
  simp only [Op.intCmp, this]; rfl) hx hy⟩
theorem wrap_id {r : Int} (h1 : -9223372036854775808 ≤ r) (h2 : r ≤ 9223372036854775807) : IntKind.i64.wrap r = r := by
 exact IntWalk.i64_in _ (by omega)
theorem PV.add (hx : ev kv x = some (.int .i64 p)) (hy : ev kv y = some (.int .i64 q)) (h1 : -9223372036854775808 ≤ p + q) (h2 : p + q ≤ 9223372036854775807)
   : PV P (.binOp .add T x y U) ty kv w (.int .i64 (p + q)) :=
 ⟨rfl, (by simp [known, opers, hx, hy]), fun _ _ _ _ => run_binInt .add (by simp) _ (by simp only [Op.intArith, wrap_id h1 h2]; rfl) hx hy⟩
theorem PV.sub (hx : ev kv x = some (.int .i64 p)) (hy : ev kv y = some (.int .i64 q)) (h1 : -9223372036854775808 ≤ p - q) (h2 : p - q ≤ 9223372036854775807)
   : PV P (.binOp .sub T x y U) ty kv w (.int .i64 (p - q)) :=
 ⟨rfl, (by simp [known, opers, hx, hy]), fun _ _ _ _ => run_binInt .sub (by simp) _ (by simp only [Op.intArith, wrap_id h1 h2]; rfl) hx hy⟩
theorem PV.mul (hx : ev kv x = some (.int .i64 p)) (hy : ev kv y = some (.int .i64 q)) (h1 : -9223372036854775808 ≤ p * q) (h2 : p * q ≤ 9223372036854775807)
   : PV P (.binOp .mul T x y U) ty kv w (.int .i64 (p * q)) :=
 ⟨rfl, (by simp [known, opers, hx, hy]), fun _ _ _ _ => run_binInt .mul (by simp) _ (by simp only [Op.intArith, wrap_id h1 h2]; rfl) hx hy⟩
theorem PV.rem (hx : ev kv x = some (.int k p)) (hy : ev kv y = some (.int k q)) (h0 : q ≠ 0)
   : PV P (.binOp .rem T x y U) ty kv w (.int k (p.tmod q)) :=
 ⟨rfl, (by simp [known, opers, hx, hy]), fun _ _ _ _ => run_binInt .rem (by simp) _ (by simp only [Op.intDiv, if_neg h0]; rfl) hx hy⟩
theorem PV.quo (hx : ev kv x = some (.int .i64 p)) (hy : ev kv y = some (.int .i64 q)) (h0 : q ≠ 0) (h1 : -9223372036854775808 ≤ p.tdiv q) (h2 : p.tdiv q ≤ 9223372036854775807)
   : PV P (.binOp .quo T x y U) ty kv w (.int .i64 (p.tdiv q)) :=
 ⟨rfl, (by simp [known, opers, hx, hy]), fun _ _ _ _ => run_binInt .quo (by simp) _ (by simp only [Op.intDiv, if_neg h0, wrap_id h1 h2]; rfl) hx hy⟩
end
theorem PV.not {T : TypeId} {x : Operand} {b : Bool} (hx : ev kv x = some (.bool b))  : PV P (.unOp .not T x) ty kv w (.bool (!b)) :=
 ⟨rfl, (by simp [known, opers, hx]), fun _ _ _ _ => by simp only [execOp, lkO_of hx]; rfl⟩
theorem PV.ext {x : Operand} {vs : Array Value} {i : Nat} {v : Value} (hx : ev kv x = some (.tuple vs)) (hi : vs[i]? = some v)  : PV P (.extract x i) ty kv w (v) :=
 ⟨rfl, (by simp [known, opers, hx]), fun _ _ _ _ => by simp only [execOp, lkO_of hx, Instr.extract, hi]; rfl⟩
theorem PV.nilc {x : Operand} {a : Addr} (hx : ev kv x = some (.pointer (some a)))  : PV P (.nilCheck x) ty kv w (.pointer (some a)) :=
 ⟨rfl, (by simp [known, opers, hx]), fun _ _ _ _ => by simp only [execOp, lkO_of hx]; rfl⟩
/-! strings -/
section
variable {T U : TypeId} {x y : Operand} {p q : ByteArray}
theorem PV.eqs (hx : ev kv x = some (.string p)) (hy : ev kv y = some (.string q))  : PV P (.binOp .eql T x y U) ty kv w (.bool (decide (p = q))) :=
 ⟨rfl, (by simp [known, opers, hx, hy]), fun _ _ _ _ => by
  have : (p.toList == q.toList) = decide (p = q) := by
   by_cases e : p = q
   ·
    simp [e]
   ·
    have : p.toList ≠ q.toList := fun h => e (ByteArray.ext (Array.toList_inj.1 (by rw [← ByteArray.toList_eq, ← ByteArray.toList_eq]; exact h)))
    simp [e, this]
  simp only [execOp, lkO_of hx, lkO_of hy, eqGuard, binOp, Op.stringOp, this]
  rfl⟩
theorem PV.nes (hx : ev kv x = some (.string p)) (hy : ev kv y = some (.string q))  : PV P (.binOp .neq T x y U) ty kv w (.bool (decide (p ≠ q))) :=
 ⟨rfl, (by simp [known, opers, hx, hy]), fun _ _ _ _ => by
  have : (p.toList == q.toList) = decide (p = q) := by
   by_cases e : p = q
   ·
    simp [e]
   ·
    have : p.toList ≠ q.toList := fun h => e (ByteArray.ext (Array.toList_inj.1 (by rw [← ByteArray.toList_eq, ← ByteArray.toList_eq]; exact h)))
    simp [e, this]
  have h2 : (!decide (p = q)) = decide (p ≠ q) := by simp
  simp only [execOp, lkO_of hx, lkO_of hy, eqGuard, binOp, Op.stringOp, this, h2]
  rfl⟩
theorem PV.lenS (hT : P.underlying T = some .string) (hx : ev kv x = some (.string p))  : PV P (.call { callee := .builtin .len, args := #[x], argTypes := #[T] }) ty kv w (.int .i64 (p.size : Int)) :=
 ⟨rfl, (by simp [known, opers, hx]), fun _ _ _ _ => by
  simp [execOp, lkO_of hx, resolve, invoke, builtin, Builtin.len_, run_underlying hT, goInt]⟩
end
theorem PV.len {T E : TypeId} {x : Operand} {a : Option Addr} {m c : Nat} (hT : P.underlying T = some (.slice E)) (hx : ev kv x = some (.slice a m c))  : PV P (.call { callee := .builtin .len, args := #[x], argTypes := #[T] }) ty kv w (.int .i64 (m : Int)) :=
 ⟨rfl, (by simp [known, opers, hx]), fun _ _ _ _ => by
  simp [execOp, lkO_of hx, resolve, invoke, builtin, Builtin.len_, run_underlying hT, goInt]⟩
end
end Go.Rc

namespace Go.Rc
open Go
/-- Blocks outside S that were there are as they were; the streams are as they were. -/
structure Chg (S : List Nat) (w w' : World) : Prop where
 os : w'.os = w.os
 tape : w'.tape = w.tape
 output : w'.output = w.output
 size : w.heap.size ≤ w'.heap.size
 block : ∀ k, k < w.heap.size → k ∉ S → w'.heap[k]? = w.heap[k]?
theorem Chg.refl (S : List Nat) (w : World) : Chg S w w := ⟨rfl, rfl, rfl, Nat.le_refl _, fun _ _ _ => rfl⟩
theorem Chg.trans {S : List Nat} {a b c : World} (h : Chg S a b) (k : Chg S b c) : Chg S a c :=
 ⟨k.os.trans h.os, k.tape.trans h.tape, k.output.trans h.output, Nat.le_trans h.size k.size,
  fun i hi hS => (k.block i (Nat.lt_of_lt_of_le hi h.size) hS).trans (h.block i hi hS)⟩
/-- A change of blocks that were not there yet is no change. -/
theorem Chg.trans' {S S' : List Nat} {a b c : World} (h : Chg S a b) (k : Chg S' b c) (hS : ∀ x, x ∈ S' → x ∈ S ∨ a.heap.size ≤ x) : Chg S a c :=
 ⟨k.os.trans h.os, k.tape.trans h.tape, k.output.trans h.output, Nat.le_trans h.size k.size,
  fun i hi hn => (k.block i (Nat.lt_of_lt_of_le hi h.size) (fun hm => by rcases hS i hm with h | h; exact hn h; omega)).trans (h.block i hi hn)⟩
theorem Chg.mono {S S' : List Nat} {a b : World} (h : Chg S a b) (hS : ∀ x, x ∈ S → x ∈ S') : Chg S' a b :=
 ⟨h.os, h.tape, h.output, h.size, fun i hi hn => h.block i hi fun hm => hn (hS i hm)⟩
theorem Chg.nil {S : List Nat} {a b : World} (h : Chg [] a b) : Chg S a b := h.mono (by simp)
theorem Chg.get {S : List Nat} {a b : World} (h : Chg S a b) {k : Nat} {o : Obj} (hk : a.heap[k]? = some o) (hS : k ∉ S) : b.heap[k]? = some o := by
 rw [h.block k (Array.getElem?_eq_some_iff.1 hk).1 hS, hk]
theorem Chg.drew (S : List Nat) (w : World) : Chg S w { w with drawn := w.drawn + 1 } := ⟨rfl, rfl, rfl, Nat.le_refl _, fun _ _ _ => rfl⟩
/-- A block of one's own: cells that may be written. -/
def Blk (w : World) (b : Nat) (e : TypeId) (l : List Value) : Prop := w.heap[b]? = some (.cells l.toArray e (0, 0))
theorem Blk.lt {w : World} {b : Nat} {e : TypeId} {l : List Value} (h : Blk w b e l) : b < w.heap.size := (Array.getElem?_eq_some_iff.1 h).1
theorem Blk.chg {S : List Nat} {w w' : World} {b : Nat} {e : TypeId} {l : List Value} (h : Blk w b e l) (c : Chg S w w') (hS : b ∉ S) : Blk w' b e l := c.get h hS
theorem Blk.ext {w w' : World} {b : Nat} {e : TypeId} {l : List Value} (h : Blk w b e l) (c : Chg [] w w') : Blk w' b e l := c.get h (by simp)
theorem Blk.range {w : World} {b : Nat} {e : TypeId} {l : List Value} (h : Blk w b e l) : w.rangeAt b 0 l := fun j v hv => by
 have h' : w.heap[b]? = some (.cells l.toArray e (0, 0)) := h
 simp only [World.cell?, h', Nat.zero_add]
 simpa using hv
theorem range_chg {S : List Nat} {w w' : World} {b o : Nat} {cs : List Value} (h : w.rangeAt b o cs) (c : Chg S w w') (hS : b ∉ S) : w'.rangeAt b o cs := fun j v hv => by
 have h1 := h j v hv
 have hb : b < w.heap.size := World.block_lt_of_cell? w _ h1
 rw [← h1]
 exact World.cell?_of_block (a := ⟨b, o + j, none⟩) (c.block b hb hS)
theorem range_part {w : World} {b o : Nat} {cs : List Value} (h : w.rangeAt b o cs) (j : Nat) (us : List Value) (hu : ∀ i v, us[i]? = some v → cs[j + i]? = some v) : w.rangeAt b (o + j) us := fun i v hv => by
 rw [Nat.add_assoc]; exact h (j + i) v (hu i v hv)
/-- Element access by computation. -/
def nth : List Value → Nat → Option Value
 | [], _ => none
 | v :: _, 0 => some v
 | _ :: r, i + 1 => nth r i
theorem nth_eq (l : List Value) : ∀ i, nth l i = l[i]? := by
 induction l with
 | nil => intro i; simp [nth]
 | cons v r ih => intro i; cases i <;> simp [nth, ih]
def setN : List Value → Nat → Value → List Value
 | [], _, _ => []
 | _ :: r, 0, u => u :: r
 | v :: r, i + 1, u => v :: setN r i u
theorem setN_eq (l : List Value) (u : Value) : ∀ i, setN l i u = l.set i u := by
 induction l with
 | nil => intro i; simp [setN]
 | cons v r ih => intro i; cases i <;> simp [setN, ih]
section
variable {P : Program} {n : Nat} {kv : KV} {w : World} {K : KV → World → Prop}
variable {d : Tmp} {ty : TypeId} {pos : String} {af : Array Edge} {g : Option (Nat × Bool)} {T : TypeId}
/-- A type of one cell; a type of several. -/
def One (P : Program) (T : TypeId) : Prop := ∀ w, (isAgg T).run P w = .ok false w
def Agg (P : Program) (T : TypeId) (k : Nat) : Prop := (∃ fs, P.underlying T = some (.struct fs)) ∧ (P.info? T).map (·.size) = some k
theorem Agg.row {k : Nat} (h : Agg P T k) : ∃ de, P.underlying T = some de ∧ de.isRow = true := by
 obtain ⟨⟨fs, h⟩, _⟩ := h
 exact ⟨_, h, rfl⟩
theorem Addr.add_at (b o j : Nat) : (⟨b, o, none⟩ : Addr).add j = ⟨b, o + j, none⟩ := Addr.add_mid b o j
/-! ### loads -/
theorem run_ld1 (hT : One P T) {b o : Nat} {v : Value} (hc : w.cell? ⟨b, o, none⟩ = some v) : (Instr.loadAt T (.pointer (some ⟨b, o, none⟩))).run P w = .ok v w := by
 simp only [Instr.loadAt, Instr.sureAddr, Sem.run_bind, Sem.run_pure, Result.andThen_ok, loadVar, hT w, Bool.false_eq_true, if_false]
 simp [load, Sem.run, hc]
theorem PV.ld1 (hT : One P T) {x : Operand} {b o j : Nat} {vs : List Value} {v : Value} (hc : w.rangeAt b o vs) (hx : ev kv x = some (.pointer (some ⟨b, o + j, none⟩))) (hv : nth vs j = some v)
   : PV P (.load T x) ty kv w (v) :=
 ⟨rfl, (by simp [known, opers, hx]), fun _ _ _ _ => by simp only [execOp, lkO_of hx, Sem.run_bind, run_ld1 hT (hc j v (by rw [← nth_eq]; exact hv)), Result.andThen_ok]; rfl⟩
/-- .. at the head. -/
theorem PV.ld0 (hT : One P T) {x : Operand} {b o : Nat} {vs : List Value} {v : Value} (hc : w.rangeAt b o vs) (hx : ev kv x = some (.pointer (some ⟨b, o, none⟩))) (hv : nth vs 0 = some v)
   : PV P (.load T x) ty kv w (v) :=
 ⟨rfl, (by simp [known, opers, hx]), fun _ _ _ _ => by simp only [execOp, lkO_of hx, Sem.run_bind, run_ld1 hT (show w.cell? ⟨b, o, none⟩ = some v from hc 0 v (by rw [← nth_eq]; exact hv)), Result.andThen_ok]; rfl⟩
/-- Several cells at once. -/
theorem PV.ldA {k : Nat} (hT : Agg P T k) {x : Operand} {b o : Nat} {vs : List Value} (hc : w.rangeAt b o vs) (hl : vs.length = k) (hx : ev kv x = some (.pointer (some ⟨b, o, none⟩))) :
  PV P (.load T x) ty kv w (.agg vs.toArray) := by
 obtain ⟨de, hu, hr⟩ := hT.row
 exact ⟨rfl, by simp [known, opers, hx], fun _ _ _ _ => by simp only [execOp, lkO_of hx, Sem.run_bind, run_loadAt_mid w b o T vs de hc hu hr (by rw [hT.2, hl]), Result.andThen_ok]; rfl⟩
/-- Several cells out of the middle. -/
def seg (vs : List Value) : Nat → Nat → Option (List Value)
 | _, 0 => some []
 | j, k + 1 => match nth vs j with
  | none => none
  | some v => match seg vs (j + 1) k with
   | none => none
   | some r => some (v :: r)
theorem seg_spec (vs : List Value) : ∀ (k j : Nat) (us : List Value), seg vs j k = some us → us.length = k ∧ ∀ i v, us[i]? = some v → vs[j + i]? = some v := by
 intro k
 induction k with
 | zero => intro j us h; simp only [seg, Option.some.injEq] at h; subst h; simp
 | succ k ih =>
  intro j us h
  simp only [seg] at h
  split at h
  ·
   cases h
  ·
   rename_i v hv
   split at h
   ·
    cases h
   ·
    rename_i r hr
    simp only [Option.some.injEq] at h
    subst h
    obtain ⟨h1, h2⟩ := ih (j + 1) r hr
    refine ⟨by simp [h1], fun i u hu => ?_⟩
    cases i with
    | zero => rw [nth_eq] at hv; simp at hu; subst hu; simpa using hv
    | succ i => have := h2 i u (by simpa using hu); rwa [show j + (i + 1) = j + 1 + i by omega]
theorem PV.ldM {k j : Nat} (hT : Agg P T k) {x : Operand} {b o : Nat} {vs us : List Value} (hc : w.rangeAt b o vs) (hx : ev kv x = some (.pointer (some ⟨b, o + j, none⟩))) (hs : seg vs j k = some us) :
  PV P (.load T x) ty kv w (.agg us.toArray) :=
 PV.ldA hT (range_part hc j us (seg_spec vs k j us hs).2) (seg_spec vs k j us hs).1 hx
/-! ### addresses -/
def FA (P : Program) (T : TypeId) (f off : Nat) : Prop := ∀ (b o : Nat) (w : World), (Instr.fieldAt T (.pointer (some ⟨b, o, none⟩)) f).run P w = .ok (.pointer (some ⟨b, o + off, none⟩)) w
theorem PV.fa {f off : Nat} (hT : FA P T f off) {x : Operand} {b o : Nat} (hx : ev kv x = some (.pointer (some ⟨b, o, none⟩))) :
  PV P (.fieldAddr T x f) ty kv w (.pointer (some ⟨b, o + off, none⟩)) :=
 ⟨rfl, by simp [known, opers, hx], fun _ _ _ _ => by simp only [execOp, lkO_of hx, Sem.run_bind, hT b o w, Result.andThen_ok]; rfl⟩
/-- A slice type and the size of its element. -/
structure SlT (P : Program) (T E k : Nat) : Prop where
 und : P.underlying T = some (.slice E)
 size : ∀ w, (sizeOf E).run P w = .ok k w
theorem PV.ix {E k : Nat} (hT : SlT P T E k) {x y : Operand} {b o m c i : Nat} (hx : ev kv x = some (.slice (some ⟨b, o, none⟩) m c)) (hy : ev kv y = some (.int .i64 (i : Int))) (hi : i < m)
   : PV P (.indexAddr T x y) ty kv w (.pointer (some ⟨b, o + i * k, none⟩)) :=
 ⟨rfl, (by simp [known, opers, hx, hy]), fun _ _ _ _ => by
  simp only [execOp, lkO_of hx, lkO_of hy, Instr.indexAt]
  simp [asIntOf, run_underlying hT.und, hi, hT.size, Addr.add_at]⟩
theorem PV.len' {E k : Nat} (hT : SlT P T E k) {x : Operand} {a : Option Addr} {m c : Nat} (hx : ev kv x = some (.slice a m c)) :
  PV P (.call { callee := .builtin .len, args := #[x], argTypes := #[T] }) ty kv w (.int .i64 (m : Int)) := PV.len hT.und hx
/-! ### new blocks -/
theorem chg_alloc (w : World) (o : Obj) : Chg [] w (w.alloc o) := ⟨rfl, rfl, rfl, by simp, fun k hk _ => RowKit.Below.heap_alloc w o k hk⟩
theorem alloc_get (w : World) (o : Obj) : (w.alloc o).heap[w.heap.size]? = some o := heap_alloc_new w o
/-- What an allocation leaves. -/
structure New (w w' : World) (b : Nat) : Prop where
 ext : Chg [] w w'
 ge : w.heap.size ≤ b
 lt : b < w'.heap.size
def ZV (P : Program) (T : TypeId) (l : List Value) : Prop := ∃ z : Value, (∀ w, (zeroValue T).run P w = .ok z w) ∧ z.cells = l.toArray
theorem OX.alloc {l : List Value} (hT : ZV P T l) (hd : Nat.blt d n = true) (h : ∀ b w', New w w' b → Blk w' b T l → K ((d, .pointer (some ⟨b, 0, none⟩)) :: kv) w') :
  OX P ⟨some d, .alloc T, ty, pos, af, g⟩ n kv w K := by
 obtain ⟨z, hz, hl⟩ := hT
 refine ⟨rfl, hd, by simp [known, opers], ?_⟩
 have hr : (execOp (lkO kv) ⟨some d, .alloc T, ty, pos, af, g⟩).run P w = .ok (.value (.pointer (some ⟨w.heap.size, 0, none⟩))) (w.alloc (.cells l.toArray T)) := by
  simp only [execOp, Instr.alloc, Sem.run_bind, hz w, Result.andThen_ok, newVar, newRow, hl]
  rfl
 rw [hr]
 exact h _ _ ⟨chg_alloc _ _, Nat.le_refl _, by simp⟩ (alloc_get _ _)
theorem OX.box {x : Operand} {v : Value} {l : List Value} (hd : Nat.blt d n = true) (hx : ev kv x = some v) (hl : v.cells = l.toArray) (h : ∀ b w', New w w' b → Blk w' b T l → K ((d, .pointer (some ⟨b, 0, none⟩)) :: kv) w') :
  OX P ⟨some d, .box T x, ty, pos, af, g⟩ n kv w K := by
 refine ⟨rfl, hd, by simp [known, opers, hx], ?_⟩
 have hr : (execOp (lkO kv) ⟨some d, .box T x, ty, pos, af, g⟩).run P w = .ok (.value (.pointer (some ⟨w.heap.size, 0, none⟩))) (w.alloc (.cells l.toArray T)) := by
  simp only [execOp, lkO_of hx, Instr.box, newVar, newRow, hl]
  rfl
 rw [hr]
 exact h _ _ ⟨chg_alloc _ _, Nat.le_refl _, by simp⟩ (alloc_get _ _)
/-! ### stores into blocks of one's own -/
theorem chg_setRow (w : World) (b : Nat) (cs : Array Value) : Chg [b] w (w.setRow b cs) :=
 ⟨rfl, rfl, rfl, by simp, fun k _ hk => setRow_other w b k cs (by simpa using hk)⟩
theorem run_st1 {b j : Nat} {e : TypeId} {l : List Value} {v : Value} (hT : (P.info? T).map (·.size) = some 1) (hb : Blk w b e l) (hj : j < l.length) (h1 : v.oneCell' = true) :
  (Instr.storeAt T (.pointer (some ⟨b, j, none⟩)) v).run P w = .ok () (w.setRow b (l.set j v).toArray) := by
 have hc : v.cells = #[v] := by cases v <;> simp_all [Value.cells, Value.oneCell']
 have hcell : w.cell? ⟨b, j, none⟩ = some l[j] := by simp [World.cell?, show w.heap[b]? = _ from hb, hj]
 have hfro : w.frozen? ⟨b, j, none⟩ = false := by simp [World.frozen?, show w.heap[b]? = _ from hb]
 have hst : (store ⟨b, j, none⟩ v).run P w = .ok () (w.setRow b (l.set j v).toArray) := by
  rw [run_store P w _ v _ h1, hcell]
  simp only [hfro, Bool.false_eq_true, if_false]
  rw [setCell_eq_setRow w b j l.toArray e (0, 0) v hb]
  simp
 cases hq : P.info? T with
 | none => simp [hq] at hT
 | some i =>
  have hs : i.size = 1 := by simpa [hq] using hT
  simp only [Instr.storeAt, Instr.sureAddr, Sem.run_bind, Sem.run_pure, Result.andThen_ok, storeVar, sizeOf, typeInfo]
  simp [hq, hs, hc, storeCells, hst, Addr.add]
theorem OX.st {x y : Operand} {b j : Nat} {e : TypeId} {l l' : List Value} {v : Value} (hT : (P.info? T).map (·.size) = some 1) (hb : Blk w b e l) (hx : ev kv x = some (.pointer (some ⟨b, 0 + j, none⟩))) (hy : ev kv y = some v)
  (hj : nth l j ≠ none) (h1 : v.oneCell' = true) (hl : setN l j v = l') (h : ∀ w', Chg [b] w w' → w'.heap.size = w.heap.size → Blk w' b e l' → K kv w') :
  OX P ⟨none, .store T x y, ty, pos, af, g⟩ n kv w K := by
 have hj' : j < l.length := by
  rw [nth_eq] at hj
  rcases Nat.lt_or_ge j l.length with h | h
  ·
   exact h
  ·
   exact absurd (List.getElem?_eq_none h) hj
 subst hl
 rw [Nat.zero_add] at hx
 refine ⟨rfl, rfl, by simp [known, opers, hx, hy], ?_⟩
 simp only [execOp, lkO_of hx, lkO_of hy, Sem.run_bind, run_st1 hT hb hj' h1, Result.andThen_ok]
 refine h _ (chg_setRow _ _ _) (by simp) ?_
 rw [setN_eq]
 exact setRow_heap w b _ _ e _ hb
theorem OX.st0 {x y : Operand} {b : Nat} {e : TypeId} {l l' : List Value} {v : Value} (hT : (P.info? T).map (·.size) = some 1) (hb : Blk w b e l) (hx : ev kv x = some (.pointer (some ⟨b, 0, none⟩))) (hy : ev kv y = some v)
  (hj : nth l 0 ≠ none) (h1 : v.oneCell' = true) (hl : setN l 0 v = l') (h : ∀ w', Chg [b] w w' → w'.heap.size = w.heap.size → Blk w' b e l' → K kv w') :
  OX P ⟨none, .store T x y, ty, pos, af, g⟩ n kv w K := OX.st (j := 0) hT hb hx hy hj h1 hl h
theorem setRow_of_setCells (b : Nat) (e : TypeId) : ∀ (vs : List Value) (o : Nat) (w : World) (l : List Value), Blk w b e l → o + vs.length ≤ l.length → w.setCells b o vs = w.setRow b (l.take o ++ vs ++ l.drop (o + vs.length)).toArray := by
 intro vs
 induction vs with
 | nil =>
  intro o w l hb _
  simp only [World.setCells, List.append_nil, List.length_nil, Nat.add_zero, List.take_append_drop]
  exact (setRow_self w b _ e _ hb).symm
 | cons v r ih =>
  intro o w l hb hl
  have ho : o < l.length := by simp at hl; omega
  have h1 : w.setCell ⟨b, o, none⟩ v = w.setRow b (l.set o v).toArray := by rw [setCell_eq_setRow w b o l.toArray e (0, 0) v hb]; simp
  have h2 : Blk (w.setRow b (l.set o v).toArray) b e (l.set o v) := setRow_heap w b _ _ e _ hb
  simp only [World.setCells, h1]
  rw [ih (o + 1) _ _ h2 (by simp at hl ⊢; omega), setRow_setRow]
  congr 2
  apply List.ext_getElem?
  intro i
  have e1 : min (o + 1) l.length = o + 1 := by omega
  have e2 : min o l.length = o := by omega
  simp only [List.getElem?_append, List.getElem?_take, List.getElem?_drop, List.length_append, List.length_take, List.length_set, List.getElem?_set, List.length_cons, e1, e2]
  rcases Nat.lt_trichotomy i o with hi | hi | hi
  ·
   rw [if_pos (by omega), if_pos (by omega), if_pos (by omega), if_neg (by omega), if_pos (by omega), if_pos hi, if_pos hi]
  ·
   subst hi
   rw [if_pos (by omega), if_pos (by omega), if_pos (by omega), if_pos rfl, if_pos ho, if_pos (by omega), if_neg (by omega)]
   simp
  ·
   by_cases h3 : i < o + 1 + r.length
   ·
    rw [if_pos h3, if_neg (by omega), if_pos (by omega), if_neg (by omega), show i - o = (i - (o + 1)) + 1 by omega]
    simp
   ·
    rw [if_neg h3, if_neg (by omega), if_neg (by omega)]
    congr 1
    omega
theorem OX.stA {x y : Operand} {k : Nat} {b o : Nat} {e : TypeId} {l us l' : List Value} (hT : (P.info? T).map (·.size) = some k) (hb : Blk w b e l) (hx : ev kv x = some (.pointer (some ⟨b, o, none⟩))) (hy : ev kv y = some (.agg us.toArray))
  (hk : us.length = k) (ho : o + us.length ≤ l.length) (h1 : ∀ v ∈ us, v.oneCell' = true) (hl : l.take o ++ us ++ l.drop (o + us.length) = l')
  (h : ∀ w', Chg [b] w w' → w'.heap.size = w.heap.size → Blk w' b e l' → K kv w') :
  OX P ⟨none, .store T x y, ty, pos, af, g⟩ n kv w K := by
 subst hl
 refine ⟨rfl, rfl, by simp [known, opers, hx, hy], ?_⟩
 have hth : w.there b o us.toArray.size := fun j hj => by
  have hj' : o + j < l.length := by simp at hj; omega
  simp [World.cell?, World.frozen?, show w.heap[b]? = _ from hb, hj']
 have hr := run_storeAt_mid (P := P) w b o T us.toArray hth (by rw [hT]; simp [hk]) (all_oneCell_toArray h1)
 simp only [execOp, lkO_of hx, lkO_of hy, Sem.run_bind, hr, Result.andThen_ok]
 rw [setRow_of_setCells b e us.toArray.toList o w l hb (by simpa using ho)]
 exact h _ (chg_setRow _ _ _) (by simp) (setRow_heap w b _ _ e _ hb)
/-- A whole block is stored anew. -/
theorem OX.stW {x y : Operand} {k : Nat} {b : Nat} {e : TypeId} {l us : List Value} (hT : (P.info? T).map (·.size) = some k) (hb : Blk w b e l) (hx : ev kv x = some (.pointer (some ⟨b, 0, none⟩))) (hy : ev kv y = some (.agg us.toArray))
  (hk : us.length = k) (hlen : l.length = k) (h1 : us.all (·.oneCell') = true)
  (h : ∀ w', Chg [b] w w' → w'.heap.size = w.heap.size → Blk w' b e us → K kv w') :
  OX P ⟨none, .store T x y, ty, pos, af, g⟩ n kv w K :=
 OX.stA hT hb hx hy hk (by omega) (fun v hv => List.all_eq_true.1 h1 v hv) (by simp; omega) h
/-! ### calls -/
def CF (P : Program) (f : FuncId) : Prop := ∀ args w, (callFunc f args).run P w = .ok (.enter f args) w
theorem OX.call {f : FuncId} (hf : CF P f) {xs : List Operand} {ats : Array TypeId} {args : List Value} (hd : Nat.blt d n = true) (hx : xs.map (ev kv) = args.map some)
  (h : Calls P f args.toArray w fun e w' => ∃ v, e = .returned v ∧ K ((d, v) :: kv) w') :
  OX P ⟨some d, .call { callee := .value (.func f), args := xs.toArray, argTypes := ats }, ty, pos, af, g⟩ n kv w K := by
 have hev : ∀ x ∈ xs, ∃ v, ev kv x = some v := fun x hxm => by
  have : ev kv x ∈ xs.map (ev kv) := List.mem_map.2 ⟨x, hxm, rfl⟩
  rw [hx] at this
  obtain ⟨v, _, hv⟩ := List.mem_map.1 this
  exact ⟨v, hv.symm⟩
 refine ⟨rfl, hd, ?_, ?_⟩
 ·
  refine List.all_eq_true.2 fun x hxm => ?_
  simp only [opers, List.mem_append] at hxm
  rcases hxm with hxm | hxm
  ·
   simp at hxm; subst hxm; rfl
  ·
   obtain ⟨v, hv⟩ := hev x (by simpa using hxm); simp [hv]
 ·
  have hargs : (xs.toArray.map (lkO kv)) = args.toArray := by
   simp only [List.map_toArray]
   congr 1
   have : ∀ (xs : List Operand) (args : List Value), xs.map (ev kv) = args.map some → xs.map (lkO kv) = args := by
    intro xs
    induction xs with
    | nil => intro args h; cases args <;> simp_all
    | cons x r ih =>
     intro args h
     cases args with
     | nil => simp at h
     | cons a s =>
      simp only [List.map_cons, List.cons.injEq] at h ⊢
      exact ⟨lkO_of h.1, ih s h.2⟩
   exact this xs args hx
  have hr : (execOp (lkO kv) ⟨some d, .call { callee := .value (.func f), args := xs.toArray, argTypes := ats }, ty, pos, af, g⟩).run P w = .ok (.enter f args.toArray) w := by
   simp only [execOp, resolve, hargs]
   simp [lkO, ev, Deferred.ofValue, invoke, hf args.toArray w]
  rw [hr]
  exact h
end
end Go.Rc

namespace Go.Rc
open Go
def deps (o : Oper) : List Nat := (o.after.toList.filter (Region.binds .any)).map (·.on)
def depsAt (ops : Array Oper) (i : Nat) : List Nat := match ops[i]? with | some o => deps o | none => []
abbrev Facts := List (Nat × (World → Prop))
def elemN (j : Nat) : List Nat → Bool
 | [] => false
 | x :: r => match Nat.beq x j with
  | true => true
  | false => elemN j r
theorem elemN_iff {j : Nat} : ∀ {l : List Nat}, elemN j l = true ↔ j ∈ l
 | [] => by simp [elemN]
 | x :: r => by
  simp only [elemN]
  cases h : Nat.beq x j with
  | true => have : x = j := Nat.eq_of_beq_eq_true h; simp [this]
  | false =>
   have hne : x ≠ j := fun e => by rw [e] at h; simp at h
   rw [elemN_iff]
   simp [hne.symm]
def allF : Facts → World → Prop
 | [], _ => True
 | (_, f) :: r, w => f w ∧ allF r w
def depF (ds : List Nat) : Facts → World → Prop
 | [], _ => True
 | (j, f) :: r, w => (match elemN j ds with | true => f w | false => True) ∧ depF ds r w
theorem allF_iff {F : Facts} {w : World} : allF F w ↔ ∀ p ∈ F, p.2 w := by
 induction F with
 | nil => simp [allF]
 | cons p r ih => obtain ⟨j, f⟩ := p; simp [allF, ih]
theorem depF_of {ds : List Nat} {F : Facts} {w : World} (h : ∀ p ∈ F, p.1 ∈ ds → p.2 w) : depF ds F w := by
 induction F with
 | nil => simp [depF]
 | cons p r ih =>
  obtain ⟨j, f⟩ := p
  refine ⟨?_, ih fun q hq => h q (by simp [hq])⟩
  cases he : elemN j ds with
  | true => exact h (j, f) (by simp) (elemN_iff.1 he)
  | false => trivial
section
variable (P : Program) (ops : Array Oper) (n : Nat) (C : World → Prop) (T : Nat → World → World → Prop) (E : Nat → Option (Value → World → Prop)) (Fin : KV → World → Prop)
def DW : Nat → List Oper → KV → Facts → Prop
 | _, [], kv, F => ∀ w, C w → allF F w → Fin kv w
 | i, o :: rest, kv, F =>
  isSelect o.op = false ∧ dstOk n o.dst = true ∧
  ((gd ops kv o = some false ∧ DW (i + 1) rest (upd kv o.dst undef) F) ∨
   (gd ops kv o = some true ∧ known kv o.op = true ∧ E i = none ∧ ∃ e, (∀ w, C w → (execOp (lkO kv) o).run P w = .ok (.value e) w) ∧ DW (i + 1) rest (upd kv o.dst e) F) ∨
   (gd ops kv o = some true ∧ known kv o.op = true ∧ ∃ S, E i = some S ∧
    (∀ w, C w → depF (deps o) F w → outc P ((execOp (lkO kv) o).run P w) fun v w' => C w' ∧ T i w w' ∧ S v w') ∧
    (∀ v w, C w → S v w → DW (i + 1) rest (upd kv o.dst v) ((i, S v) :: F))))
end
def dstAt (ops : Array Oper) (i : Nat) : Option Tmp := (ops[i]?).bind (·.dst)
def kvOf (ops : Array Oper) (kv : KV) (vals : Nat → Value) : Nat → KV
 | 0 => kv
 | i + 1 => upd (kvOf ops kv vals i) (dstAt ops i) (vals i)
theorem kvOf_congr {ops : Array Oper} {kv : KV} {vals vals' : Nat → Value} : ∀ i, (∀ j, j < i → vals j = vals' j) → kvOf ops kv vals i = kvOf ops kv vals' i := by
 intro i
 induction i with
 | zero => intro _; rfl
 | succ i ih => intro h; simp only [kvOf]; rw [ih fun j hj => h j (by omega), h i (by omega)]
theorem look_upd {kv : KV} {dst : Option Tmp} {v u : Value} {t : Nat} (h : look (upd kv dst v) t = some u) : (dst = some t ∧ u = v) ∨ (dst ≠ some t ∧ look kv t = some u) := by
 cases dst with
 | none => exact .inr ⟨by simp, h⟩
 | some d =>
  simp only [upd, look] at h
  cases hb : Nat.beq d t with
  | true =>
   rw [hb] at h
   have : d = t := Nat.eq_of_beq_eq_true hb
   simp at h
   exact .inl ⟨by rw [this], h.symm⟩
  | false =>
   rw [hb] at h
   have hne : d ≠ t := fun e => by rw [e] at hb; simp at hb
   exact .inr ⟨by simpa using hne, h⟩
theorem look_kvOf {ops : Array Oper} {kv : KV} {vals : Nat → Value} {t : Nat} {u : Value} : ∀ i, look (kvOf ops kv vals i) t = some u →
  (∃ j, j < i ∧ dstAt ops j = some t ∧ u = vals j) ∨ ((∀ j, j < i → dstAt ops j ≠ some t) ∧ look kv t = some u) := by
 intro i
 induction i with
 | zero => intro h; exact .inr ⟨fun j hj => by omega, h⟩
 | succ i ih =>
  intro h
  rcases look_upd h with ⟨h1, h2⟩ | ⟨h1, h2⟩
  ·
   exact .inl ⟨i, by omega, h1, h2⟩
  ·
   rcases ih h2 with ⟨j, hj, h3, h4⟩ | ⟨h3, h4⟩
   ·
    exact .inl ⟨j, by omega, h3, h4⟩
   ·
    refine .inr ⟨fun j hj => ?_, h4⟩
    rcases Nat.lt_or_ge j i with hlt | hge
    ·
     exact h3 j hlt
    ·
     rw [show j = i by omega]; exact h1
/-- The frame says what the list says, at the slots that an operation looks at. -/
def Agree (ops : Array Oper) (o : Oper) (a : Act) (kv : KV) : Prop := ∀ t v, t ∈ o.looksAt ops → look kv t = some v → a.tmps.getD t undef = v
theorem Agree.exec {ops : Array Oper} {o : Oper} {a : Act} {kv : KV} (h : Agree ops o a kv) (hs : isSelect o.op = false) (hk : known kv o.op = true) :
  execOp a.eval o = execOp (lkO kv) o := by
 refine execOp_congr o (fun cs b e => by rw [e] at hs; simp [isSelect] at hs) fun x hx => ?_
 obtain ⟨v, hv⟩ := Option.isSome_iff_exists.1 ((List.all_eq_true.1 hk) x (by rw [← opers_eq]; simpa using hx))
 cases x with
 | tmp t =>
  have ht : t ∈ o.looksAt ops := List.mem_append_left _ (List.mem_filterMap.2 ⟨.tmp t, by simpa using hx, rfl⟩)
  have := h t v ht hv
  simp only [Act.eval, this, lkO, hv, Option.getD_some]
 | const u => simp [ev] at hv; subst hv; simp [Act.eval, lkO, ev]
 | global u => simp [ev] at hv; simp [Act.eval, lkO, ev]
 | func u => simp [ev] at hv; simp [Act.eval, lkO, ev]
theorem Agree.wanted {ops : Array Oper} {o : Oper} {a : Act} {kv : KV} (h : Agree ops o a kv) {b : Bool} (hg : gd ops kv o = some b) :
  Region.wanted o (yielded ops a.tmps) = b := by
 unfold gd at hg
 unfold Region.wanted
 split at hg
 ·
  rename_i hgu; rw [hgu]; simpa using hg
 ·
  rename_i j c hgu
  rw [hgu]
  simp only
  split at hg
  ·
   rename_i d hd
   have hyl : yielded ops a.tmps j = some d := by
    unfold yielded
    cases ht : (ops[j]?).bind (·.dst) with
    | none => rw [ht] at hd; simp at hd
    | some t =>
     rw [ht] at hd
     simp only [Option.bind_some] at hd ⊢
     have hv := h t _ (by unfold Oper.looksAt; rw [hgu]; simp only; rw [ht]; simp) hd
     by_cases hlt : t < a.tmps.size
     ·
      simp [Array.getD, hlt] at hv
      simp [hlt, hv]
     ·
      simp [Array.getD, hlt, undef] at hv
   rw [hyl]
   have hb : (d == c) = b := by simpa using hg
   rw [← hb]
   cases d <;> cases c <;> rfl
  ·
   rename_i d hd
   have hyl : yielded ops a.tmps j = none := by
    unfold yielded
    cases ht : (ops[j]?).bind (·.dst) with
    | none => rfl
    | some t =>
     rw [ht] at hd
     simp only [Option.bind_some] at hd ⊢
     have hv := h t _ (by unfold Oper.looksAt; rw [hgu]; simp only; rw [ht]; simp) hd
     by_cases hlt : t < a.tmps.size
     ·
      simp [Array.getD, hlt] at hv
      simp [hlt, hv]
     ·
      simp [hlt]
   rw [hyl]
   have hb : false = b := by simpa using hg
   rw [← hb]
   cases c <;> rfl
  ·
   cases hg
/-! ### what is checked of the region -/
def masks : List Oper → List Nat → List Nat
 | [], acc => acc
 | o :: r, acc => masks r (acc ++ [(deps o).foldl (fun s d => s ||| ((2 ^ d) ||| acc.getD d 0)) 0])
/-- The checks: edges lead back; what is looked at is waited for; no two write one slot; from m on all is in order. -/
structure RegB (ops : Array Oper) (m : Nat) : Prop where
 le : m ≤ ops.size
 back : ∀ (i : Nat) o, ops[i]? = some o → ∀ k ∈ deps o, k < i
 waits : ∀ (i : Nat) o, i < m → ops[i]? = some o → ∀ t ∈ o.looksAt ops, ∀ j, j < m → dstAt ops j = some t → j ∈ deps o
 apart : ∀ i j, i < m → j < m → i ≠ j → ∀ t, dstAt ops i = some t → dstAt ops j ≠ some t
 nosel : ∀ (i : Nat) o, i < m → ops[i]? = some o → isSelect o.op = false
structure RegOk (ops : Array Oper) (m : Nat) : Prop extends RegB ops m where
 tail : ∀ k, m ≤ k → k < ops.size → ∀ (D : Nat → Prop), (∀ (j : Nat) o, D j → ops[j]? = some o → ∀ d ∈ deps o, D d) → (∀ o, ops[k]? = some o → ∀ d ∈ deps o, D d) → ∀ j, j < k → D j
def okBack : List Oper → Nat → Bool
 | [], _ => true
 | o :: r, i => (deps o).all (fun k => Nat.blt k i) && okBack r (i + 1)
def regB (ops : List Oper) (m : Nat) : Bool :=
 Nat.ble m ops.length && okBack ops 0 &&
 (ops.take m).all (fun o => let ds := deps o; (o.looksAt ops.toArray).all fun t => ((ops.take m).zipIdx.all fun (p, j) => p.dst != some t || elemN j ds)) &&
 (let l := (ops.take m).filterMap (·.dst); decide l.Nodup) && (ops.take m).all (fun o => !isSelect o.op)
def regOk (ops : List Oper) (m : Nat) : Bool :=
 regB ops m && (let ms := masks ops []; (List.range ops.length).all fun k => Nat.blt k m || (ms.getD k 0) % 2 ^ k == 2 ^ k - 1)
theorem okBack_spec : ∀ (l : List Oper) (i : Nat), okBack l i = true → ∀ (j : Nat) o, l[j]? = some o → ∀ k ∈ deps o, k < i + j := by
 intro l
 induction l with
 | nil => intro i _ j o h; simp at h
 | cons p r ih =>
  intro i h j o ho k hk
  simp only [okBack, Bool.and_eq_true, List.all_eq_true] at h
  cases j with
  | zero => simp at ho; subst ho; have := h.1 k hk; simp only [Nat.blt] at this; have := Nat.le_of_ble_eq_true this; omega
  | succ j => have := ih (i + 1) h.2 j o (by simpa using ho) k hk; omega
theorem foldl_bits (acc : List Nat) : ∀ (ds : List Nat) (s j : Nat), (ds.foldl (fun s d => s ||| ((2 ^ d) ||| acc.getD d 0)) s).testBit j = true →
  s.testBit j = true ∨ ∃ d ∈ ds, j = d ∨ (acc.getD d 0).testBit j = true := by
 intro ds
 induction ds with
 | nil => intro s j h; exact .inl h
 | cons d r ih =>
  intro s j h
  rcases ih _ j h with h1 | ⟨d', hd', h1⟩
  ·
   simp only [Nat.testBit_or, Bool.or_eq_true] at h1
   rcases h1 with h1 | h1 | h1
   ·
    exact .inl h1
   ·
    refine .inr ⟨d, by simp, .inl ?_⟩
    simp only [Nat.testBit_two_pow, decide_eq_true_eq] at h1
    exact h1.symm
   ·
    exact .inr ⟨d, by simp, .inr h1⟩
  ·
   exact .inr ⟨d', by simp [hd'], h1⟩
theorem masks_spec (D : Nat → Prop) : ∀ (l pre : List Oper) (acc : List Nat), acc.length = pre.length →
  (∀ (j : Nat) o, D j → (pre ++ l)[j]? = some o → ∀ d ∈ deps o, D d) →
  (∀ (k : Nat) o, pre[k]? = some o → (∀ d ∈ deps o, D d) → ∀ j, (acc.getD k 0).testBit j = true → D j) →
  (∀ (k : Nat) o, (pre ++ l)[k]? = some o → ∀ d ∈ deps o, d < k) →
  ∀ (k : Nat) o, (pre ++ l)[k]? = some o → (∀ d ∈ deps o, D d) → ∀ j, ((masks l acc).getD k 0).testBit j = true → D j := by
 intro l
 induction l with
 | nil => intro pre acc hlen hcl hacc hb k o ho hd j hj; exact hacc k o (by simpa using ho) hd j hj
 | cons p r ih =>
  intro pre acc hlen hcl hacc hb k o ho hd j hj
  simp only [masks] at hj
  refine ih (pre ++ [p]) _ (by simp [hlen]) (by simpa using hcl) ?_ (by simpa using hb) k o (by simpa using ho) hd j hj
  intro k o ho hd j hj
  rcases Nat.lt_or_ge k pre.length with hlt | hge
  ·
   rw [List.getElem?_append_left (by omega)] at ho
   refine hacc k o ho hd j ?_
   simpa [List.getD, List.getElem?_append_left (show k < acc.length by omega)] using hj
  ·
   have hk : k = pre.length := by
    have := (List.getElem?_eq_some_iff.1 ho).1
    simp at this; omega
   subst hk
   simp at ho
   subst ho
   have e : (acc ++ [(deps p).foldl (fun s d => s ||| ((2 ^ d) ||| acc.getD d 0)) 0]).getD pre.length 0 = (deps p).foldl (fun s d => s ||| ((2 ^ d) ||| acc.getD d 0)) 0 := by
    rw [← hlen]; simp
   rw [e] at hj
   rcases foldl_bits acc _ _ _ hj with h1 | ⟨d, hdm, h1⟩
   ·
    simp at h1
   ·
    rcases h1 with rfl | h1
    ·
     exact hd _ hdm
    ·
     have hdl : d < pre.length := hb pre.length p (by simp) d hdm
     have hpd : ∃ q, pre[d]? = some q := ⟨pre[d], by simp [hdl]⟩
     obtain ⟨q, hq⟩ := hpd
     refine hacc d q hq (fun x hx => hcl d q (hd d hdm) ?_ x hx) j h1
     rw [List.getElem?_append_left hdl]; exact hq
theorem regB_spec {l : List Oper} {m : Nat} (h : regB l m = true) : RegB l.toArray m := by
 simp only [regB, Bool.and_eq_true] at h
 obtain ⟨⟨⟨⟨h1, h2⟩, h3⟩, h4⟩, h6⟩ := h
 have hm : m ≤ l.length := Nat.le_of_ble_eq_true h1
 have hback : ∀ (i : Nat) o, l[i]? = some o → ∀ k ∈ deps o, k < i := fun i o ho k hk => by have := okBack_spec l 0 h2 i o ho k hk; omega
 have hget : ∀ (i : Nat) (o : Oper), i < m → l[i]? = some o → (l.take m)[i]? = some o := fun i o hi ho => by rw [List.getElem?_take, if_pos hi]; exact ho
 have hdst : ∀ (j : Nat) t, dstAt l.toArray j = some t → ∃ p, l[j]? = some p ∧ p.dst = some t := fun j t hj => by
  unfold dstAt at hj
  simp only [List.getElem?_toArray] at hj
  cases hp : l[j]? with
  | none => rw [hp] at hj; simp at hj
  | some p => rw [hp] at hj; exact ⟨p, rfl, hj⟩
 refine ⟨by simpa using hm, fun i o ho => hback i o (by simpa using ho), ?_, ?_, fun i o hi ho => by simpa using List.all_eq_true.1 h6 o (List.mem_of_getElem? (hget i o hi (by simpa using ho)))⟩
 ·
  intro i o hi ho t ht j hj hjt
  have ho' : o ∈ l.take m := List.mem_of_getElem? (hget i o hi (by simpa using ho))
  have := List.all_eq_true.1 h3 o ho'
  have := List.all_eq_true.1 this t ht
  obtain ⟨p, hp, hpt⟩ := hdst j t hjt
  have hpm : (p, j) ∈ (l.take m).zipIdx := by
   rw [List.mem_zipIdx_iff_getElem?]
   exact hget j p hj hp
  have := List.all_eq_true.1 this (p, j) hpm
  simp only [Bool.or_eq_true, bne_iff_ne, ne_eq, hpt, not_true_eq_false, false_or] at this
  exact elemN_iff.1 this
 ·
  intro i j hi hj hne t hit hjt
  obtain ⟨p, hp, hpt⟩ := hdst i t hit
  obtain ⟨q, hq, hqt⟩ := hdst j t hjt
  have hnd : ((l.take m).filterMap (·.dst)).Nodup := by simpa using h4
  have key : ∀ (L : List Oper), (L.filterMap (·.dst)).Nodup → ∀ (i j : Nat) p q, i < j → L[i]? = some p → L[j]? = some q → p.dst = some t → q.dst ≠ some t := by
   intro L
   induction L with
   | nil => intro _ i j p q _ hp; simp at hp
   | cons x r ih =>
    intro hn i j p q hij hp hq hpt hqt
    cases j with
    | zero => omega
    | succ j =>
     cases i with
     | zero =>
      simp at hp hq
      subst hp
      rw [List.filterMap_cons, hpt] at hn
      simp only [List.nodup_cons] at hn
      exact hn.1 (List.mem_filterMap.2 ⟨q, List.mem_of_getElem? hq, hqt⟩)
     | succ i =>
      refine ih ?_ i j p q (by omega) (by simpa using hp) (by simpa using hq) hpt hqt
      rw [List.filterMap_cons] at hn
      split at hn
      ·
       exact hn
      ·
       exact (List.nodup_cons.1 hn).2
  rcases Nat.lt_or_ge i j with hlt | hge
  ·
   exact key _ hnd i j p q hlt (hget i p hi hp) (hget j q hj hq) hpt hqt
  ·
   exact key _ hnd j i q p (by omega) (hget j q hj hq) (hget i p hi hp) hqt hpt
theorem regOk_spec {l : List Oper} {m : Nat} (h : regOk l m = true) : RegOk l.toArray m := by
 simp only [regOk, Bool.and_eq_true] at h
 have hB := regB_spec h.1
 refine { hB with tail := ?_ }
 have h5 := h.2
 have hback : ∀ (i : Nat) o, l[i]? = some o → ∀ k ∈ deps o, k < i := fun i o ho => hB.back i o (by simpa using ho)
 ·
  intro k hmk hkn D hD hk j hj
  have := List.all_eq_true.1 h5 k (by simpa using hkn)
  simp only [Bool.or_eq_true, beq_iff_eq] at this
  rcases this with h | h
  ·
   simp only [Nat.blt] at h; have := Nat.le_of_ble_eq_true h; omega
  ·
   have hkn' : k < l.length := by simpa using hkn
   refine masks_spec D l [] [] rfl (fun j o hj ho => hD j o hj (by simpa using ho)) (fun k o ho => by simp at ho) (fun k o ho => hback k o (by simpa using ho)) k l[k] (by simp [hkn']) (hk l[k] (by simp [hkn'])) j ?_
   have hb : ((masks l []).getD k 0 % 2 ^ k).testBit j = true := by rw [h, Nat.testBit_two_pow_sub_one]; simpa using hj
   rw [Nat.testBit_mod_two_pow] at hb
   simp only [Bool.and_eq_true] at hb
   exact hb.2
end Go.Rc

namespace Go.Rc
open Go
section
variable {P : Program} {ops : Array Oper} {Q : Exit → Act → World → Prop} {n m : Nat} {C : World → Prop} {T : Nat → World → World → Prop} {E : Nat → Option (Value → World → Prop)}
/-- What is known when the operations of L have been carried out. -/
structure Inv (P : Program) (ops : Array Oper) (n m : Nat) (C : World → Prop) (E : Nat → Option (Value → World → Prop)) (a0 : Act) (L : Nat → Bool) (vals : Nat → Value) (a : Act) (w : World) : Prop where
 c : C w
 size : a.tmps.size = n
 nod : a.defers = []
 here : ∀ j, j < m → L j = true → ∀ t, dstAt ops j = some t → a.tmps.getD t undef = vals j
 old : ∀ t, (∀ j, j < m → L j = true → dstAt ops j ≠ some t) → a.tmps.getD t undef = a0.tmps.getD t undef
 no : ∀ j o, j < m → L j = true → ops[j]? = some o → Region.wanted o (yielded ops a.tmps) = false → vals j = undef
 det : ∀ j o, j < m → L j = true → ops[j]? = some o → Region.wanted o (yielded ops a.tmps) = true → E j = none → ∃ wj, C wj ∧ (execOp a.eval o).run P wj = .ok (.value (vals j)) wj
 eff : ∀ j o S, j < m → L j = true → ops[j]? = some o → Region.wanted o (yielded ops a.tmps) = true → E j = some S → S (vals j) w
 closed : ∀ j o, j < m → L j = true → ops[j]? = some o → ∀ k ∈ deps o, L k = true
theorem agree_of {a0 a : Act} {kv0 : KV} (hok : RegB ops m) (h0 : Fr n a0 kv0) {L : Nat → Bool} {vals vals' : Nat → Value} {w : World} (hI : Inv P ops n m C E a0 L vals a w)
  (hv : ∀ j, L j = true → vals' j = vals j) {i : Nat} {o : Oper} (hi : i < m) (ho : ops[i]? = some o) (hd : ∀ k ∈ deps o, L k = true) : Agree ops o a (kvOf ops kv0 vals' i) := by
 intro t v ht hl
 rcases look_kvOf i hl with ⟨j, hj, hjt, rfl⟩ | ⟨hno, hl0⟩
 ·
  have hjd := hok.waits i o hi ho t ht j (by omega) hjt
  have hLj := hd j hjd
  rw [hv j hLj]
  exact hI.here j (by omega) hLj t hjt
 ·
  rw [hI.old t fun j hj hLj hjt => ?_]
  ·
   exact h0.val t v hl0
  ·
   have hjd := hok.waits i o hi ho t ht j hj hjt
   exact hno j (hok.back i o ho j hjd) hjt
variable (hS : ∀ i S, E i = some S → ∀ j S', E j = some S' → j ≠ i → j ∉ depsAt ops i → ∀ v w w', C w → C w' → T j w w' → S v w → S v w')
include hS
theorem path {a0 a : Act} {kv0 : KV} {Fin : KV → World → Prop} (hok : RegB ops m) (h0 : Fr n a0 kv0) {L : Nat → Bool} {vals : Nat → Value} {w : World} (hI : Inv P ops n m C E a0 L vals a w)
  (hdw : DW P ops n C T E Fin 0 (ops.toList.take m) kv0 []) : ∀ i, i ≤ m → ∃ vals' F wh, (∀ j, L j = true → vals' j = vals j) ∧
   DW P ops n C T E Fin i ((ops.toList.take m).drop i) (kvOf ops kv0 vals' i) F ∧ C wh ∧ (∀ j S v, j < m → L j = true → E j = some S → S v w → S v wh) ∧ (∀ p ∈ F, p.2 wh) ∧
   (∀ p ∈ F, p.1 < i ∧ (∃ S v, E p.1 = some S ∧ p.2 = S v) ∧ (L p.1 = true → p.2 w)) := by
 intro i
 induction i with
 | zero => intro _; exact ⟨vals, [], w, fun _ _ => rfl, by simpa [kvOf] using hdw, hI.c, fun _ _ _ _ _ _ h => h, by simp, by simp⟩
 | succ i ih =>
  intro hi
  obtain ⟨vals', F, wh, hv, hnode, hC, hpres, hF, hFw⟩ := ih (by omega)
  have hin : i < ops.size := by have := hok.le; omega
  obtain ⟨o, ho⟩ : ∃ o, ops[i]? = some o := ⟨ops[i], by simp [hin]⟩
  have hlen : i < (ops.toList.take m).length := by simp; omega
  have hcons : (ops.toList.take m).drop i = o :: (ops.toList.take m).drop (i + 1) := by
   rw [List.drop_eq_getElem_cons hlen]
   congr 1
   have : (ops.toList.take m)[i]? = some o := by rw [List.getElem?_take, if_pos (by omega)]; simpa using ho
   rw [List.getElem?_eq_getElem hlen] at this
   simpa using this
  rw [hcons] at hnode
  have hdst : dstAt ops i = o.dst := by simp [dstAt, ho]
  have next : ∀ u, kvOf ops kv0 (fun j => if j = i then u else vals' j) (i + 1) = upd (kvOf ops kv0 vals' i) o.dst u := fun u => by
   simp only [kvOf, hdst, if_true]
   rw [kvOf_congr (vals' := vals') i fun j hj => by rw [if_neg (by omega)]]
  have hv' : ∀ u, (L i = true → u = vals i) → ∀ j, L j = true → (if j = i then u else vals' j) = vals j := fun u hu j hj => by
   by_cases e : j = i
   ·
    subst e; rw [if_pos rfl]; exact hu hj
   ·
    rw [if_neg e]; exact hv j hj
  have hFw' : ∀ p ∈ F, p.1 < i + 1 ∧ (∃ S v, E p.1 = some S ∧ p.2 = S v) ∧ (L p.1 = true → p.2 w) := fun p hp => ⟨by have := (hFw p hp).1; omega, (hFw p hp).2⟩
  obtain ⟨hsel, hdok, hcase⟩ := hnode
  rcases hcase with ⟨hg, hrest⟩ | ⟨hg, hk, hE, e, hrun, hrest⟩ | ⟨hg, hk, S, hE, heff, hrest⟩
  ·
   refine ⟨fun j => if j = i then undef else vals' j, F, wh, hv' _ fun hLi => ?_, by rw [next]; exact hrest, hC, hpres, hF, hFw'⟩
   have hag := agree_of (vals' := vals') hok h0 hI hv (by omega) ho (hI.closed i o (by omega) hLi ho)
   exact (hI.no i o (by omega) hLi ho (hag.wanted hg)).symm
  ·
   refine ⟨fun j => if j = i then e else vals' j, F, wh, hv' _ fun hLi => ?_, by rw [next]; exact hrest, hC, hpres, hF, hFw'⟩
   have hag := agree_of (vals' := vals') hok h0 hI hv (by omega) ho (hI.closed i o (by omega) hLi ho)
   obtain ⟨wj, hCj, hrj⟩ := hI.det i o (by omega) hLi ho (hag.wanted hg) hE
   rw [hag.exec hsel hk, hrun wj hCj] at hrj
   simpa using hrj
  ·
   by_cases hLi : L i = true
   ·
    have hag := agree_of (vals' := vals') hok h0 hI hv (by omega) ho (hI.closed i o (by omega) hLi ho)
    have hSw := hI.eff i o S (by omega) hLi ho (hag.wanted hg) hE
    have hSh := hpres i S _ (by omega) hLi hE hSw
    refine ⟨fun j => if j = i then vals i else vals' j, (i, S (vals i)) :: F, wh, hv' _ fun _ => rfl, by rw [next]; exact hrest _ wh hC hSh, hC, hpres, ?_, ?_⟩
    ·
     intro p hp
     rcases List.mem_cons.1 hp with rfl | hp
     ·
      exact hSh
     ·
      exact hF p hp
    ·
     intro p hp
     rcases List.mem_cons.1 hp with rfl | hp
     ·
      exact ⟨by simp, ⟨S, _, hE, rfl⟩, fun _ => hSw⟩
     ·
      exact hFw' p hp
   ·
    obtain ⟨v, wh', hC', hT, hSv⟩ := (heff wh hC (depF_of fun p hp _ => hF p hp)).exists
    refine ⟨fun j => if j = i then v else vals' j, (i, S v) :: F, wh', hv' _ fun h => absurd h hLi, by rw [next]; exact hrest _ wh' hC' hSv, hC', fun j S' u hjm hLj hE' h => hS j S' hE' i S hE (fun e => hLi (e ▸ hLj)) (fun hm => ?_) u wh wh' hC hC' hT (hpres j S' u hjm hLj hE' h), ?_, ?_⟩
    ·
     obtain ⟨p, hp⟩ : ∃ p, ops[j]? = some p := ⟨ops[j]'(by have := hok.le; omega), by simp⟩
     simp only [depsAt, hp] at hm
     exact hLi (hI.closed j p hjm hLj hp i hm)
    ·
     intro p hp
     rcases List.mem_cons.1 hp with rfl | hp
     ·
      exact hSv
     ·
      obtain ⟨_, ⟨S', u, hE', hp2⟩, _⟩ := hFw p hp
      have := hF p hp
      rw [hp2] at this ⊢
      refine hS p.1 S' hE' i S hE (by have := (hFw p hp).1; omega) (fun hm => ?_) u wh wh' hC hC' hT this
      obtain ⟨q, hq⟩ : ∃ q, ops[p.1]? = some q := ⟨ops[p.1]'(by have := (hFw p hp).1; omega), by simp⟩
      simp only [depsAt, hq] at hm
      have := hok.back p.1 q hq i hm
      have := (hFw p hp).1
      omega
    ·
     intro p hp
     rcases List.mem_cons.1 hp with rfl | hp
     ·
      exact ⟨by simp, ⟨S, _, hE, rfl⟩, fun h => absurd h hLi⟩
     ·
      exact hFw' p hp
omit hS in
/-- An operation that has come up is put down. -/
theorem Inv.put {a0 a : Act} {L : Nat → Bool} {vals : Nat → Value} {w w' : World} {i : Nat} {o : Oper} {v : Value} (hok : RegB ops m) (hI : Inv P ops n m C E a0 L vals a w) (hi : i < m) (ho : ops[i]? = some o) (hL : L i = false)
  (hd : ∀ k ∈ deps o, L k = true) (hdo : dstOk n o.dst = true) (hc : C w') (hst : ∀ j S u, j < m → L j = true → E j = some S → S u w → S u w')
  (hno : Region.wanted o (yielded ops a.tmps) = false → v = undef) (hdet : Region.wanted o (yielded ops a.tmps) = true → E i = none → ∃ wj, C wj ∧ (execOp a.eval o).run P wj = .ok (.value v) wj)
  (heff : ∀ S, Region.wanted o (yielded ops a.tmps) = true → E i = some S → S v w') :
  Inv P ops n m C E a0 (fun j => if j = i then true else L j) (fun j => if j = i then v else vals j) (a.put o.dst v) w' := by
 have hdst : dstAt ops i = o.dst := by simp [dstAt, ho]
 -- the new slot is looked at by no operation that is carried out, nor by this one
 have hlook : ∀ j p, j < m → (j = i ∨ L j = true) → ops[j]? = some p → ∀ d, o.dst = some d → d ∉ p.looksAt ops := by
  intro j p hj hji hp d hod hmem
  have hmd := hok.waits j p hj hp d hmem i hi (by rw [hdst, hod])
  rcases hji with rfl | hLj
  ·
   have := hok.back j p hp j hmd; omega
  ·
   have := hI.closed j p hj hLj hp i hmd
   rw [hL] at this; cases this
 have hex : ∀ j p, j < m → (j = i ∨ L j = true) → ops[j]? = some p → execOp (a.put o.dst v).eval p = execOp a.eval p := fun j p hj hji hp =>
  execOp_put (ops := ops) p (fun cs b e => by have := hok.nosel j p hj hp; rw [e] at this; simp [isSelect] at this) a o.dst v (hlook j p hj hji hp)
 have hwa : ∀ j p, j < m → (j = i ∨ L j = true) → ops[j]? = some p → Region.wanted p (yielded ops (a.put o.dst v).tmps) = Region.wanted p (yielded ops a.tmps) := fun j p hj hji hp =>
  wanted_put p a o.dst v (hlook j p hj hji hp)
 have hcases : ∀ j, (if j = i then true else L j) = true → j = i ∨ (j ≠ i ∧ L j = true) := fun j h => by
  by_cases e : j = i
  ·
   exact .inl e
  ·
   rw [if_neg e] at h; exact .inr ⟨e, h⟩
 have hget : ∀ t, o.dst ≠ some t → (a.put o.dst v).tmps.getD t undef = a.tmps.getD t undef := fun t ht => by
  cases hod : o.dst with
  | none => rfl
  | some d =>
   have hne : d ≠ t := fun e => ht (by rw [hod, e])
   simp [Act.put, Array.getElem?_setIfInBounds_ne hne]
 refine ⟨hc, ?_, ?_, ?_, ?_, ?_, ?_, ?_, ?_⟩
 ·
  cases hod : o.dst <;> simp [Act.put, hI.size]
 ·
  cases hod : o.dst <;> simp [Act.put, hI.nod]
 ·
  intro j hj hLj t hjt
  rcases hcases j hLj with rfl | ⟨hne, hLj⟩
  ·
   rw [if_pos rfl]
   rw [hdst] at hjt
   have hts : t < a.tmps.size := by
    rw [hI.size]
    rw [hjt] at hdo
    simp only [dstOk, Nat.blt] at hdo
    exact Nat.le_of_ble_eq_true hdo
   rw [hjt]
   simp [Act.put, hts]
  ·
   rw [if_neg hne, hget t fun hod => hok.apart i j hi hj (fun e => hne e.symm) t (by rw [hdst, hod]) hjt]
   exact hI.here j hj hLj t hjt
 ·
  intro t ht
  have h1 : o.dst ≠ some t := fun hod => ht i hi (by simp) (by rw [hdst, hod])
  rw [hget t h1]
  exact hI.old t fun j hj hLj => ht j hj (by by_cases e : j = i <;> simp [e, hLj])
 ·
  intro j p hj hLj hp hw
  rcases hcases j hLj with rfl | ⟨hne, hLj⟩
  ·
   rw [hwa j p hj (.inl rfl) hp] at hw
   rw [ho] at hp
   simp at hp
   subst hp
   simp [hno hw]
  ·
   rw [hwa j p hj (.inr hLj) hp] at hw
   rw [if_neg hne]
   exact hI.no j p hj hLj hp hw
 ·
  intro j p hj hLj hp hw hE
  rcases hcases j hLj with rfl | ⟨hne, hLj⟩
  ·
   rw [hwa j p hj (.inl rfl) hp] at hw
   rw [hex j p hj (.inl rfl) hp, if_pos rfl]
   rw [ho] at hp
   simp at hp
   subst hp
   exact hdet hw hE
  ·
   rw [hwa j p hj (.inr hLj) hp] at hw
   rw [hex j p hj (.inr hLj) hp, if_neg hne]
   exact hI.det j p hj hLj hp hw hE
 ·
  intro j p S hj hLj hp hw hE
  rcases hcases j hLj with rfl | ⟨hne, hLj⟩
  ·
   rw [hwa j p hj (.inl rfl) hp] at hw
   rw [if_pos rfl]
   rw [ho] at hp
   simp at hp
   subst hp
   exact heff S hw hE
  ·
   rw [hwa j p hj (.inr hLj) hp] at hw
   rw [if_neg hne]
   exact hst j S _ hj hLj hE (hI.eff j p S hj hLj hp hw hE)
 ·
  intro j p hj hLj hp k hk
  rcases hcases j hLj with rfl | ⟨hne, hLj⟩
  ·
   rw [ho] at hp
   simp at hp
   subst hp
   by_cases e : k = j
   ·
    simp [e]
   ·
    rw [if_neg e]; exact hd k hk
  ·
   by_cases e : k = i
   ·
    simp [e]
   ·
    rw [if_neg e]; exact hI.closed j p hj hLj hp k hk
/-- The number of operations that have not come up. -/
def left (L : Nat → Bool) : Nat → Nat
 | 0 => 0
 | k + 1 => left L k + (!L k).toNat
omit hS in
theorem left_zero {L : Nat → Bool} : ∀ {k : Nat}, left L k = 0 → ∀ j, j < k → L j = true := by
 intro k
 induction k with
 | zero => intro _ j hj; omega
 | succ k ih =>
  intro h j hj
  simp only [left] at h
  rcases Nat.lt_or_ge j k with hlt | hge
  ·
   exact ih (by omega) j hlt
  ·
   rw [show j = k by omega]
   cases hL : L k with
   | true => rfl
   | false => rw [hL] at h; simp at h
omit hS in
theorem left_set {L L' : Nat → Bool} {i : Nat} (hL : L i = false) (hL' : ∀ j, L' j = if j = i then true else L j) : ∀ {k : Nat}, (k ≤ i → left L' k = left L k) ∧ (i < k → left L' k + 1 = left L k) := by
 intro k
 induction k with
 | zero => exact ⟨fun _ => rfl, fun h => by omega⟩
 | succ k ih =>
  refine ⟨fun h => ?_, fun h => ?_⟩
  ·
   simp only [left]
   rw [ih.1 (by omega), hL' k, if_neg (by omega)]
  ·
   simp only [left]
   by_cases e : k = i
   ·
    subst e
    rw [ih.1 (Nat.le_refl _), hL' k, if_pos rfl, hL]
    simp
   ·
    have := ih.2 (by omega)
    rw [hL' k, if_neg e]
    omega
omit hS in
/-- The end of the region, in order. -/
theorem phase2 (hok : RegOk ops m) : ∀ (fuel k : Nat) (listed : Array Bool) (a : Act) (w : World), m ≤ k → k ≤ ops.size → (∀ j, j < ops.size → listed[j]? = some (decide (j < k))) → listed.size = ops.size →
  ops.size - k ≤ fuel → wpList P ops Q (ops.toList.drop k) a w → wpAny P .any ops Q fuel listed a w := by
 intro fuel
 induction fuel with
 | zero =>
  intro k listed a w hmk hk hlist hsz hf h
  have hk' : k = ops.size := by omega
  subst hk'
  rw [List.drop_eq_nil_of_le (by simp)] at h
  refine ⟨?_, h⟩
  refine List.eq_nil_iff_forall_not_mem.2 fun i hi => ?_
  obtain ⟨h0, o, ho, _⟩ := mem_ready.1 hi
  have hlt : i < ops.size := (Array.getElem?_eq_some_iff.1 ho).1
  have := hlist i hlt
  simp [this, hlt] at h0
 | succ fuel ih =>
  intro k listed a w hmk hk hlist hsz hf h
  have hready : ∀ i, i ∈ Region.ready .any ops listed → i = k ∧ k < ops.size := by
   intro i hi
   obtain ⟨h0, o, ho, hdo⟩ := mem_ready.1 hi
   have hlt : i < ops.size := (Array.getElem?_eq_some_iff.1 ho).1
   have hl := hlist i hlt
   have hge : ¬ i < k := by
    intro hik
    simp [hl, hik] at h0
   refine ⟨?_, by omega⟩
   rcases Nat.lt_or_ge k i with hki | hki
   ·
    exfalso
    have hD := hok.tail i (by omega) hlt (fun j => j < k) (fun j p hj hp d hd => by have := hok.back j p hp d hd; omega) (fun p hp d hd => by
     rw [ho] at hp; simp at hp; subst hp
     unfold deps at hd
     obtain ⟨e, he, rfl⟩ := List.mem_map.1 hd
     obtain ⟨he1, he2⟩ := List.mem_filter.1 he
     have hb := hdo e (by simpa using he1) he2
     have hes : e.on < ops.size := by have := hok.back i o ho e.on (List.mem_map.2 ⟨e, he, rfl⟩); omega
     simp [hlist e.on hes] at hb
     exact hb) k hki
    omega
   ·
    omega
  refine ⟨fun hnil => ?_, fun i hi => ?_⟩
  ·
   rcases Nat.lt_or_ge k ops.size with hlt | hge
   ·
    exfalso
    have : k ∈ Region.ready .any ops listed := by
     refine mem_ready.2 ⟨by simp [hlist k hlt], ops[k], by simp [hlt], fun e he hb => ?_⟩
     have hek : e.on < k := hok.back k ops[k] (by simp [hlt]) e.on (List.mem_map.2 ⟨e, List.mem_filter.2 ⟨by simpa using he, hb⟩, rfl⟩)
     simp [hlist e.on (by omega), hek]
    rw [hnil] at this
    cases this
   ·
    rw [List.drop_eq_nil_of_le (by simpa using hge)] at h
    exact h
  ·
   obtain ⟨rfl, hlt⟩ := hready i hi
   have hcons : ops.toList.drop i = ops[i] :: ops.toList.drop (i + 1) := by
    rw [List.drop_eq_getElem_cons (by simpa using hlt)]; simp
   rw [hcons] at h
   have hset : ∀ j, j < ops.size → (listed.setIfInBounds i true)[j]? = some (decide (j < i + 1)) := fun j hj => by
    by_cases e : i = j
    ·
     subst e; simp [hsz, hlt]
    ·
     rw [Array.getElem?_setIfInBounds_ne e, hlist j hj]
     congr 1
     simp only [decide_eq_decide]
     omega
   have next := fun a w => ih (i + 1) (listed.setIfInBounds i true) a w (by omega) (by omega) hset (by simpa using hsz) (by omega)
   unfold wpOp
   rw [show ops[i]? = some ops[i] by simp [hlt]]
   simp only
   unfold wpList at h
   by_cases hw : Region.wanted ops[i] (yielded ops a.tmps) = true
   ·
    rw [if_pos hw] at h
    rw [if_pos hw]
    exact h.imp (Oper.wp_mono next) id
   ·
    rw [if_neg hw] at h
    rw [if_neg hw]
    exact next _ _ h
theorem phase1 {a0 : Act} {kv0 : KV} (hok : RegOk ops m) (h0 : Fr n a0 kv0)
  (hdw : DW P ops n C T E (fun kv w => WL P ops Q (ops.toList.drop m) n kv w) 0 (ops.toList.take m) kv0 []) :
  ∀ (fuel : Nat) (listed : Array Bool) (vals : Nat → Value) (a : Act) (w : World), listed.size = ops.size → left (fun j => listed.getD j false) ops.size ≤ fuel → (∀ j, m ≤ j → listed.getD j false = false) →
  Inv P ops n m C E a0 (fun j => listed.getD j false) vals a w → wpAny P .any ops Q fuel listed a w := by
 -- when all of the first part has come up
 have fin : ∀ (listed : Array Bool) (vals : Nat → Value) (a : Act) (w : World), (∀ j, j < m → listed.getD j false = true) → Inv P ops n m C E a0 (fun j => listed.getD j false) vals a w → wpList P ops Q (ops.toList.drop m) a w := by
  intro listed vals a w hall hI
  obtain ⟨vals', F, wh, hv, hnode, hC, _, hF, hFw⟩ := path hS hok.toRegB h0 hI hdw m (Nat.le_refl _)
  have hnil : (ops.toList.take m).drop m = [] := List.drop_eq_nil_of_le (by simp; omega)
  rw [hnil] at hnode
  refine hnode w hI.c (allF_iff.2 fun p hp => (hFw p hp).2.2 (hall p.1 (hFw p hp).1)) a ⟨hI.size, hI.nod, fun t v hl => ?_⟩
  rcases look_kvOf m hl with ⟨j, hj, hjt, rfl⟩ | ⟨hno, hl0⟩
  ·
   rw [hv j (hall j hj)]
   exact hI.here j hj (hall j hj) t hjt
  ·
   rw [hI.old t fun j hj _ => hno j hj]
   exact h0.val t v hl0
 intro fuel
 induction fuel with
 | zero =>
  intro listed vals a w hsz hleft htail hI
  have hall := left_zero (Nat.le_zero.1 hleft)
  have hm : m = ops.size := by
   rcases Nat.lt_or_ge m ops.size with h | h
   ·
    have h1 := hall m h
    have h2 := htail m (Nat.le_refl _)
    rw [h2] at h1; cases h1
   ·
    have := hok.le; omega
  have h := fin listed vals a w (fun j hj => hall j (by omega)) hI
  rw [List.drop_eq_nil_of_le (by simp; omega)] at h
  refine ⟨List.eq_nil_iff_forall_not_mem.2 fun i hi => ?_, h⟩
  obtain ⟨h0, o, ho, _⟩ := mem_ready.1 hi
  have hlt : i < ops.size := (Array.getElem?_eq_some_iff.1 ho).1
  have h1 := hall i hlt
  simp only [Array.getD_eq_getD_getElem?] at h0 h1
  cases hx : listed[i]? with
  | none => rw [hx] at h0; simp at h0
  | some b => rw [hx] at h0 h1; simp at h0 h1; rw [h0] at h1; cases h1
 | succ fuel ih =>
  intro listed vals a w hsz hleft htail hI
  have hlistB : ∀ j, j < ops.size → ∀ b, listed.getD j b = listed.getD j false := fun j hj b => by
   simp [Array.getD, show j < listed.size by omega]
  -- the least operation that has not come up may come up
  have least : Region.ready .any ops listed = [] → ∀ j, j < ops.size → listed.getD j false = true := by
   intro hnil j
   induction j using Nat.strongRecOn with
   | _ j ihj =>
    intro hj
    cases hb : listed.getD j false with
    | true => rfl
    | false =>
     exfalso
     have : j ∈ Region.ready .any ops listed := by
      refine mem_ready.2 ⟨by rw [hlistB j hj true, hb], ops[j], by simp [hj], fun e he hbd => ?_⟩
      have hek : e.on < j := hok.back j ops[j] (by simp [hj]) e.on (List.mem_map.2 ⟨e, List.mem_filter.2 ⟨by simpa using he, hbd⟩, rfl⟩)
      exact ihj e.on hek (by omega)
     rw [hnil] at this
     cases this
  refine ⟨fun hnil => ?_, fun i hi => ?_⟩
  ·
   have hall := least hnil
   have hm : m = ops.size := by
    rcases Nat.lt_or_ge m ops.size with h | h
    ·
     have h1 := hall m h
     have h2 := htail m (Nat.le_refl _)
     rw [h2] at h1; cases h1
    ·
     have := hok.le; omega
   have h := fin listed vals a w (fun j hj => hall j (by omega)) hI
   rw [List.drop_eq_nil_of_le (by simp; omega)] at h
   exact h
  ·
   obtain ⟨hli, o, ho, hdo⟩ := mem_ready.1 hi
   have hlt : i < ops.size := (Array.getElem?_eq_some_iff.1 ho).1
   have hLi : listed.getD i false = false := by rw [← hlistB i hlt true]; exact hli
   have hd : ∀ k ∈ deps o, listed.getD k false = true := fun k hk => by
    unfold deps at hk
    obtain ⟨e, he, rfl⟩ := List.mem_map.1 hk
    obtain ⟨he1, he2⟩ := List.mem_filter.1 he
    exact hdo e (by simpa using he1) he2
   rcases Nat.lt_or_ge i m with him | him
   ·
    -- one of the first part
    obtain ⟨vals', F, wh, hv, hnode, hC, _, hF, hFw⟩ := path hS hok.toRegB h0 hI hdw i (by omega)
    have hlen : i < (ops.toList.take m).length := by simp; omega
    have hcons : (ops.toList.take m).drop i = o :: (ops.toList.take m).drop (i + 1) := by
     rw [List.drop_eq_getElem_cons hlen]
     congr 1
     have : (ops.toList.take m)[i]? = some o := by rw [List.getElem?_take, if_pos him]; simpa using ho
     rw [List.getElem?_eq_getElem hlen] at this
     simpa using this
    rw [hcons] at hnode
    obtain ⟨hsel, hdok, hcase⟩ := hnode
    have hag := agree_of (vals' := vals') hok.toRegB h0 hI hv him ho hd
    have hL' : ∀ j, (listed.setIfInBounds i true).getD j false = if j = i then true else listed.getD j false := fun j => by
     by_cases e : j = i
     ·
      subst e; simp [hsz, hlt]
     ·
      rw [if_neg e]
      simp [Array.getElem?_setIfInBounds_ne (fun h => e h.symm)]
    have next : ∀ v w', Inv P ops n m C E a0 (fun j => if j = i then true else listed.getD j false) (fun j => if j = i then v else vals j) (a.put o.dst v) w' → wpAny P .any ops Q fuel (listed.setIfInBounds i true) (a.put o.dst v) w' := fun v w' hI' => by
     refine ih _ _ _ _ (by simpa using hsz) ?_ (fun j hj => by rw [hL', if_neg (by omega)]; exact htail j hj) (by have e : (fun j => (listed.setIfInBounds i true).getD j false) = (fun j => if j = i then true else listed.getD j false) := funext hL'; rw [e]; exact hI')
     have := (left_set (L := fun j => listed.getD j false) (L' := fun j => (listed.setIfInBounds i true).getD j false) hLi hL' (k := ops.size)).2 hlt
     omega
    unfold wpOp
    rw [ho]
    simp only
    rcases hcase with ⟨hg, _⟩ | ⟨hg, hk, hE, e, hrun, _⟩ | ⟨hg, hk, S, hE, heff, _⟩
    ·
     have hw := hag.wanted hg
     rw [if_neg (by rw [hw]; simp)]
     exact next undef w (hI.put hok.toRegB him ho hLi hd hdok hI.c (fun _ _ _ _ _ _ h => h) (fun _ => rfl) (fun h => by rw [hw] at h; cases h) (fun S h => by rw [hw] at h; cases h))
    ·
     have hw := hag.wanted hg
     rw [if_pos hw]
     refine .inl ?_
     have hr := hrun w hI.c
     rw [← hag.exec hsel hk] at hr
     unfold Oper.wp
     rw [hr]
     exact next e w (hI.put hok.toRegB him ho hLi hd hdok hI.c (fun _ _ _ _ _ _ h => h) (fun h => by rw [hw] at h; cases h) (fun _ _ => ⟨w, hI.c, hr⟩) (fun S _ h => by rw [hE] at h; cases h))
    ·
     have hw := hag.wanted hg
     rw [if_pos hw]
     refine .inl ?_
     unfold Oper.wp
     rw [hag.exec hsel hk]
     refine outc_upon (heff w hI.c (depF_of fun p hp hm => (hFw p hp).2.2 (hd p.1 hm))) fun v w' ⟨hC', hT, hSv⟩ => ?_
     exact next v w' (hI.put hok.toRegB him ho hLi hd hdok hC' (fun j S' u hjm hLj hE' h => hS j S' hE' i S hE (fun e => by subst e; rw [hLi] at hLj; cases hLj) (fun hm => by
      obtain ⟨p, hp⟩ : ∃ p, ops[j]? = some p := ⟨ops[j]'(by have := hok.le; omega), by simp⟩
      simp only [depsAt, hp] at hm
      have h3 := hI.closed j p hjm hLj hp i hm
      simp only [hLi] at h3
      cases h3) u w w' hI.c hC' hT h) (fun h => by rw [hw] at h; cases h) (fun _ h => by rw [hE] at h; cases h) (fun S' _ h => by rw [hE] at h; simp at h; subst h; exact hSv))
   ·
    -- the first of the rest: all before it has come up
    have hD := hok.tail i him hlt (fun j => listed.getD j false = true) (fun j p hj hp d hdm => by
     have hjm : j < m := by
      rcases Nat.lt_or_ge j m with h | h
      ·
       exact h
      ·
       have := htail j h; rw [this] at hj; cases hj
     exact hI.closed j p hjm hj hp d hdm) (fun p hp d hdm => by rw [ho] at hp; simp at hp; subst hp; exact hd d hdm)
    have him' : i = m := by
     rcases Nat.lt_or_ge m i with h | h
     ·
      have h1 := hD m h
      have h2 := htail m (Nat.le_refl _)
      rw [h2] at h1; cases h1
     ·
      omega
    subst him'
    have hall : ∀ j, j < i → listed.getD j false = true := hD
    have h := fin listed vals a w hall hI
    have hlist : ∀ j, j < ops.size → listed[j]? = some (decide (j < i)) := fun j hj => by
     have hjs : j < listed.size := by omega
     rcases Nat.lt_or_ge j i with hji | hji
     ·
      have := hall j hji
      simp [Array.getD, hjs] at this
      simp [hjs, this, hji]
     ·
      have := htail j hji
      simp [Array.getD, hjs] at this
      simp [hjs, this, show ¬ j < i by omega]
    have h2 := phase2 (P := P) (Q := Q) hok (fuel + 1) i listed a w (Nat.le_refl _) (by omega) hlist hsz (by
     have hl : ∀ k, k ≤ ops.size → left (fun j => listed.getD j false) k ≥ k - i := by
      intro k
      induction k with
      | zero => intro _; simp
      | succ k ihk =>
       intro hk
       have := ihk (by omega)
       simp only [left]
       rcases Nat.lt_or_ge k i with h | h
       ·
        omega
       ·
        have h9 := htail k h
        simp only [h9, Bool.not_false, Bool.toNat_true]
        omega
     have := hl ops.size (Nat.le_refl _)
     omega) h
    exact h2.2 i hi
omit hS in
/-- **A region that draws its order, by one walk in the order of the text.** -/
theorem WC.drawn {kv : KV} {w : World} {id : Nat} {l : List Oper}
  (hS : ∀ i S, E i = some S → ∀ j S', E j = some S' → j ≠ i → j ∉ depsAt l.toArray i → ∀ v w w', C w → C w' → T j w w' → S v w → S v w') (hm : P.follows .mixedOrders = true) (hok : regOk l m = true) (hC : C { w with drawn := w.drawn + 1 })
  (hdw : DW P l.toArray n C T E (fun kv w => WL P l.toArray Q (l.drop m) n kv w) 0 (l.take m) kv []) : WC P (.region id l.toArray true) Q n kv w := by
 intro a hF
 refine wp_region_any hm ?_
 have hok' := regOk_spec hok
 have hfalse : ∀ j, (Array.replicate l.toArray.size false).getD j false = false := fun j => by
  by_cases h : j < l.length <;> simp [Array.getD, h]
 refine phase1 (m := m) (vals := fun _ => undef) hS hok' hF (by simpa using hdw) l.toArray.size _ a _ (by simp) ?_ (fun j _ => hfalse j) ⟨hC, hF.size, hF.nod, ?_, fun _ _ => rfl, ?_, ?_, ?_, ?_⟩
 ·
  have : ∀ k (L : Nat → Bool), left L k ≤ k := by
   intro k L
   induction k with
   | zero => simp [left]
   | succ k ih => simp only [left]; cases L k <;> simp <;> omega
  exact this _ _
 all_goals (intro j; intros; rename_i h _ ; first | (have := hfalse j; simp_all; done) | skip)
end
/-! ### the walk of such a region -/
def lookE : List (Nat × (Value → World → Prop)) → Nat → Option (Value → World → Prop)
 | [], _ => none
 | (j, S) :: r, i => match Nat.beq j i with
  | true => some S
  | false => lookE r i
section
variable {P : Program} {ops : Array Oper} {n i : Nat} {C : World → Prop} {T : Nat → World → World → Prop} {E : Nat → Option (Value → World → Prop)} {Fin : KV → World → Prop}
variable {rest : List Oper} {kv : KV} {F : Facts} {d : Tmp} {op : Op} {ty : TypeId} {pos : String} {af : Array Edge} {g : Option (Nat × Bool)}
theorem DW.p {v : Value} (hg : gd ops kv ⟨some d, op, ty, pos, af, g⟩ = some true) (hs : isSelect op = false) (hk : known kv op = true) (hd : Nat.blt d n = true) (hE : E i = none) (h : ∀ w, C w → PV P op ty kv w v)
  (next : DW P ops n C T E Fin (i + 1) rest ((d, v) :: kv) F) : DW P ops n C T E Fin i (⟨some d, op, ty, pos, af, g⟩ :: rest) kv F :=
 ⟨hs, hd, .inr (.inl ⟨hg, hk, hE, v, fun w hw => (h w hw).2.2 _ _ _ _, next⟩)⟩
theorem DW.no (hg : gd ops kv ⟨some d, op, ty, pos, af, g⟩ = some false) (hs : isSelect op = false) (hd : Nat.blt d n = true)
  (next : DW P ops n C T E Fin (i + 1) rest ((d, undef) :: kv) F) : DW P ops n C T E Fin i (⟨some d, op, ty, pos, af, g⟩ :: rest) kv F :=
 ⟨hs, hd, .inl ⟨hg, next⟩⟩
/-- An operation with effects, and a slot. -/
theorem DW.e {S : Value → World → Prop} (hg : gd ops kv ⟨some d, op, ty, pos, af, g⟩ = some true) (hs : isSelect op = false) (hk : known kv op = true) (hd : Nat.blt d n = true) (hE : E i = some S)
  (h : ∀ w, C w → depF (deps ⟨some d, op, ty, pos, af, g⟩) F w → OX P ⟨some d, op, ty, pos, af, g⟩ n kv w fun kv' w' => C w' ∧ T i w w' ∧ ∃ v, kv' = (d, v) :: kv ∧ S v w')
  (next : ∀ v w, C w → S v w → DW P ops n C T E Fin (i + 1) rest ((d, v) :: kv) ((i, S v) :: F)) : DW P ops n C T E Fin i (⟨some d, op, ty, pos, af, g⟩ :: rest) kv F := by
 refine ⟨hs, hd, .inr (.inr ⟨hg, hk, S, hE, fun w hw hf => ?_, next⟩)⟩
 refine (h w hw hf).2.2.2.mono fun v w' ⟨a, b, u, e, s⟩ => ?_
 simp only [upd, List.cons.injEq, Prod.mk.injEq, true_and, and_true] at e
 subst e
 exact ⟨a, b, s⟩
/-- An operation with effects, without a slot. -/
theorem DW.e0 {S : Value → World → Prop} (hg : gd ops kv ⟨none, op, ty, pos, af, g⟩ = some true) (hs : isSelect op = false) (hk : known kv op = true) (hE : E i = some S)
  (h : ∀ w, C w → depF (deps ⟨none, op, ty, pos, af, g⟩) F w → OX P ⟨none, op, ty, pos, af, g⟩ n kv w fun _ w' => C w' ∧ T i w w' ∧ ∀ v, S v w')
  (next : ∀ v w, C w → S v w → DW P ops n C T E Fin (i + 1) rest kv ((i, S v) :: F)) : DW P ops n C T E Fin i (⟨none, op, ty, pos, af, g⟩ :: rest) kv F :=
 ⟨hs, rfl, .inr (.inr ⟨hg, hk, S, hE, fun w hw hf => (h w hw hf).2.2.2.mono fun v w' ⟨a, b, s⟩ => ⟨a, b, s v⟩, next⟩)⟩
theorem DW.nil (h : ∀ w, C w → allF F w → Fin kv w) : DW P ops n C T E Fin i [] kv F := h
end
end Go.Rc

namespace Go.Rc
open Go
theorem FA_of {P : Program} {T f off s : Nat} {fs : Array Field} {fd : Field} (hu : P.underlying T = some (.struct fs)) (hf : fs[f]? = some fd) (hs : ∀ w, (sizeOf fd.type).run P w = .ok s w) (h0 : s ≠ 0) (ho : fd.offset = off) :
  FA P T f off := by
 intro b o w
 subst ho
 simp [Instr.fieldAt, run_underlying hu, hf, Instr.sureAddr, fieldPlace, hs, h0, Addr.add_at]
end Go.Rc

namespace Go.Rc
open Go
def dropN : Nat → KV → KV
 | 0, kv => kv
 | _ + 1, [] => []
 | k + 1, _ :: r => dropN k r
def hasKey (t : Nat) : KV → Bool
 | [] => false
 | (s, _) :: r => match Nat.beq s t with
  | true => true
  | false => hasKey t r
def disjN : Nat → KV → KV → Bool
 | 0, _, _ => true
 | _ + 1, [], _ => true
 | k + 1, (t, _) :: r, kv => match hasKey t kv with
  | true => false
  | false => disjN k r kv
theorem hasKey_false {t : Nat} : ∀ {kv : KV}, hasKey t kv = false → look kv t = none := by
 intro kv
 induction kv with
 | nil => intro _; rfl
 | cons p r ih =>
  obtain ⟨s, v⟩ := p
  intro h
  simp only [hasKey] at h
  cases hb : Nat.beq s t with
  | true => rw [hb] at h; cases h
  | false => rw [hb] at h; simp only [look, hb]; exact ih h
theorem look_drop {t : Nat} {v : Value} : ∀ (k : Nat) (kvl kv : KV), dropN k kvl = kv → disjN k kvl kv = true → look kv t = some v → look kvl t = some v := by
 intro k
 induction k with
 | zero => intro kvl kv h _ hl; simp only [dropN] at h; rw [h]; exact hl
 | succ k ih =>
  intro kvl kv h hd hl
  cases kvl with
  | nil => simp only [dropN] at h; rw [← h] at hl; simp [look] at hl
  | cons p r =>
   obtain ⟨s, u⟩ := p
   simp only [dropN] at h
   simp only [disjN] at hd
   cases hk : hasKey s kv with
   | true => rw [hk] at hd; cases hd
   | false =>
    rw [hk] at hd
    have hst : Nat.beq s t = false := by
     cases hb : Nat.beq s t with
     | false => rfl
     | true =>
      have : s = t := Nat.eq_of_beq_eq_true hb
      rw [this] at hk
      rw [hasKey_false hk] at hl
      cases hl
    simp only [look, hst]
    exact ih r kv h hd hl
theorem look_dropE {t : Nat} {v : Value} : ∀ (k : Nat) (kvl kv : KV) {kve : KV}, dropN k kvl = kv → disjN k kvl kve = true → (∀ s u, look kve s = some u → look kv s = some u) → look kve t = some v → look kvl t = some v := by
 intro k
 induction k with
 | zero => intro kvl kv kve h _ he hl; simp only [dropN] at h; rw [h]; exact he _ _ hl
 | succ k ih =>
  intro kvl kv kve h hd he hl
  cases kvl with
  | nil => simp only [dropN] at h; have := he _ _ hl; rw [← h] at this; simp [look] at this
  | cons p r =>
   obtain ⟨s, u⟩ := p
   simp only [dropN] at h
   simp only [disjN] at hd
   cases hk : hasKey s kve with
   | true => rw [hk] at hd; cases hd
   | false =>
    rw [hk] at hd
    have hst : Nat.beq s t = false := by
     cases hb : Nat.beq s t with
     | false => rfl
     | true =>
      have : s = t := Nat.eq_of_beq_eq_true hb
      rw [this] at hk
      rw [hasKey_false hk] at hl
      cases hl
    simp only [look, hst]
    exact ih r kv h hd he hl
/-- A list without a slot. -/
def eraseK (t : Nat) : KV → KV
 | [] => []
 | (s, v) :: r => match Nat.beq s t with
  | true => eraseK t r
  | false => (s, v) :: eraseK t r
theorem look_eraseT {t : Nat} : ∀ {kv : KV}, look (eraseK t kv) t = none := by
 intro kv
 induction kv with
 | nil => rfl
 | cons p r ih =>
  obtain ⟨s, v⟩ := p
  simp only [eraseK]
  cases hb : Nat.beq s t with
  | true => exact ih
  | false => simp only [look, hb]; exact ih
theorem look_erase {t s : Nat} {u : Value} : ∀ {kv : KV}, look (eraseK t kv) s = some u → look kv s = some u := by
 intro kv
 induction kv with
 | nil => intro h; cases h
 | cons p r ih =>
  obtain ⟨q, v⟩ := p
  intro h
  simp only [eraseK] at h
  cases hb : Nat.beq q t with
  | true =>
   rw [hb] at h
   have hqt : q = t := Nat.eq_of_beq_eq_true hb
   simp only [look]
   cases hs : Nat.beq q s with
   | true =>
    have : q = s := Nat.eq_of_beq_eq_true hs
    rw [← this, hqt, look_eraseT] at h; cases h
   | false => exact ih h
  | false =>
   rw [hb] at h
   simp only [look] at h ⊢
   cases hs : Nat.beq q s with
   | true => rw [hs] at h; exact h
   | false => rw [hs] at h; exact ih h
theorem Fr.drop {n : Nat} {a : Act} {kvl kv : KV} (h : Fr n a kvl) (k : Nat) (hd : dropN k kvl = kv) (hj : disjN k kvl kv = true) : Fr n a kv :=
 ⟨h.size, h.nod, fun t v hl => h.val t v (look_drop k kvl kv hd hj hl)⟩
theorem Fr.add {n : Nat} {a : Act} {kv : KV} (h : Fr n a kv) {t : Nat} {v : Value} (hv : a.tmps.getD t undef = v) : Fr n a ((t, v) :: kv) :=
 ⟨h.size, h.nod, fun s u hl => by
  simp only [look] at hl
  cases hb : Nat.beq t s with
  | true => rw [hb] at hl; simp at hl; rw [← hl, ← Nat.eq_of_beq_eq_true hb]; exact hv
  | false => rw [hb] at hl; exact h.val s u hl⟩
theorem Sub.nil {kv : KV} : Sub kv [] := trivial
theorem Sub.cons {kv r : KV} {t : Nat} {v : Value} (h : Rc.look kv t = some v) (hr : Sub kv r) : Sub kv ((t, v) :: r) := ⟨h, hr⟩
theorem Sub.consI {kv r : KV} {t : Nat} {k : IntKind} {z z' : Int} (h : Rc.look kv t = some (.int k z)) (hz : z = z') (hr : Sub kv r) : Sub kv ((t, .int k z') :: r) := ⟨by rw [h, hz], hr⟩
theorem Sub.consV {kv r : KV} {t : Nat} {v v' : Value} (h : Rc.look kv t = some v) (hz : v = v') (hr : Sub kv r) : Sub kv ((t, v') :: r) := ⟨by rw [h, hz], hr⟩
section
variable {P : Program} {ops : Array Oper} {Q : Exit → Act → World → Prop} {n : Nat} {kv : KV} {w : World}
def Post1 (n t : Nat) (v : Value) (kv : KV) (J : World → Prop) : Exit → Act → World → Prop := fun e a w' => e = .normal ∧ Fr n a ((t, v) :: kv) ∧ J w'
/-- A piece of code that leaves one slot, and what holds of the world. -/
theorem WC.cut1 {c : Code} {t : Nat} {v : Value} (J : World → Prop) (h : WC P c (Post1 n t v kv J) n kv w) (hJ : ∀ w', J w' → EX Q .normal n ((t, v) :: kv) w') : WC P c Q n kv w :=
 fun a hF => wp_mono (h a hF) fun e a' w' ⟨he, hF', hj⟩ => by subst he; exact hJ w' hj a' hF'
theorem EX.meet1 {kvl : KV} {t : Nat} {v v' : Value} {J : World → Prop} (k : Nat) (hd : dropN k kvl = kv) (hj : disjN k kvl kv = true) (hv : look kvl t = some v') (he : v' = v) (hJ : J w) :
  EX (Post1 n t v kv J) .normal n kvl w := fun _ hF => ⟨rfl, (hF.drop k hd hj).add (by rw [← he]; exact hF.val t v' hv), hJ⟩
/-- .. where the slot had a value. -/
theorem WC.cut1e {c : Code} {t : Nat} {v : Value} (J : World → Prop) (h : WC P c (Post1 n t v (eraseK t kv) J) n kv w) (hJ : ∀ w', J w' → EX Q .normal n ((t, v) :: eraseK t kv) w') : WC P c Q n kv w :=
 fun a hF => wp_mono (h a hF) fun e a' w' ⟨he, hF', hj⟩ => by subst he; exact hJ w' hj a' hF'
theorem EX.meet1e {kvl : KV} {t : Nat} {v v' : Value} {J : World → Prop} (k : Nat) (hd : dropN k kvl = kv) (hj : disjN k kvl (eraseK t kv) = true) (hv : look kvl t = some v') (he : v' = v) (hJ : J w) :
  EX (Post1 n t v (eraseK t kv) J) .normal n kvl w := fun a hF => ⟨rfl, Fr.add ⟨hF.size, hF.nod, fun s u hl => hF.val s u (look_dropE k kvl kv hd hj (fun s u h => look_erase h) hl)⟩ (by rw [← he]; exact hF.val t v' hv), hJ⟩
theorem WL.gsplit {l : List Oper} {t : Nat} {b : Bool} (ht : look kv t = some (.bool b)) (hT : b = true → WL P ops Q l n ((t, .bool true) :: kv) w) (hF : b = false → WL P ops Q l n ((t, .bool false) :: kv) w) :
  WL P ops Q l n kv w := fun a hF' => by
 cases b
 ·
  exact hF rfl a (hF'.add (hF'.val t _ ht))
 ·
  exact hT rfl a (hF'.add (hF'.val t _ ht))
def Like (kv kv' : KV) : Prop := ∀ t, look kv t = look kv' t
theorem Like.upd {kv kv' : KV} (h : Like kv kv') (d : Option Tmp) (v : Value) : Like (upd kv d v) (upd kv' d v) := by
 intro t
 cases d with
 | none => exact h t
 | some d => simp only [Rc.upd, look]; cases Nat.beq d t <;> simp [h t]
theorem Like.ev {kv kv' : KV} (h : Like kv kv') (x : Operand) : ev kv x = ev kv' x := by cases x <;> simp [Rc.ev, h _]
theorem Like.lkO {kv kv' : KV} (h : Like kv kv') : lkO kv = lkO kv' := funext fun x => by simp [Rc.lkO, h.ev x]
theorem Like.known {kv kv' : KV} (h : Like kv kv') (op : Op) : known kv op = known kv' op := by simp [Rc.known, h.ev]
theorem Like.gd {kv kv' : KV} (h : Like kv kv') (ops : Array Oper) (o : Oper) : gd ops kv o = gd ops kv' o := by
 unfold Rc.gd
 cases o.guard with
 | none => rfl
 | some g =>
  simp only
  cases (ops[g.1]?).bind (·.dst) with
  | none => rfl
  | some t => simp [h t]
theorem DW.like {n : Nat} {C : World → Prop} {T : Nat → World → World → Prop} {E : Nat → Option (Value → World → Prop)} {Fin : KV → World → Prop} (hFin : ∀ kv kv' w, Like kv kv' → Fin kv w → Fin kv' w) :
  ∀ (l : List Oper) (i : Nat) (kv kv' : KV) (F : Facts), Like kv kv' → DW P ops n C T E Fin i l kv F → DW P ops n C T E Fin i l kv' F := by
 intro l
 induction l with
 | nil => intro i kv kv' F h hd w hC hF; exact hFin _ _ _ h (hd w hC hF)
 | cons o r ih =>
  intro i kv kv' F h hd
  obtain ⟨h1, h2, h3⟩ := hd
  refine ⟨h1, h2, ?_⟩
  rw [← h.gd, ← h.known, ← h.lkO]
  rcases h3 with ⟨a, b⟩ | ⟨a, b, c, e, d, f⟩ | ⟨a, b, S, c, d, f⟩
  ·
   exact .inl ⟨a, ih _ _ _ _ (h.upd _ _) b⟩
  ·
   exact .inr (.inl ⟨a, b, c, e, d, ih _ _ _ _ (h.upd _ _) f⟩)
  ·
   exact .inr (.inr ⟨a, b, S, c, d, fun v w hC hS => ih _ _ _ _ (h.upd _ _) (f v w hC hS)⟩)
theorem Like.fr {a : Act} {kv kv' : KV} (h : Like kv kv') (hF : Fr n a kv') : Fr n a kv := ⟨hF.size, hF.nod, fun t v hv => hF.val t v (by rw [← h t]; exact hv)⟩
/-- A guard is told: in a region that draws its order. -/
theorem DW.gsplit {m i : Nat} {C : World → Prop} {T : Nat → World → World → Prop} {E : Nat → Option (Value → World → Prop)} {ops' : Array Oper} {l l' : List Oper} {F : Facts} {t : Nat} {b : Bool}
  (ht : look kv t = some (.bool b)) (hT : b = true → DW P ops m C T E (fun kv w => WL P ops' Q l' n kv w) i l ((t, .bool true) :: kv) F)
  (hF : b = false → DW P ops m C T E (fun kv w => WL P ops' Q l' n kv w) i l ((t, .bool false) :: kv) F) : DW P ops m C T E (fun kv w => WL P ops' Q l' n kv w) i l kv F := by
 have key : ∀ c : Bool, look kv t = some (.bool c) → Like ((t, .bool c) :: kv) kv := fun c hc s => by
  simp only [look]
  cases hb : Nat.beq t s with
  | true => rw [← Nat.eq_of_beq_eq_true hb]; exact hc.symm
  | false => rfl
 have hFin : ∀ (kv kv' : KV) (w : World), Like kv kv' → WL P ops' Q l' n kv w → WL P ops' Q l' n kv' w := fun _ _ _ h hw a hF => hw a (h.fr hF)
 cases b
 ·
  exact DW.like hFin _ _ _ _ _ (key false ht) (hF rfl)
 ·
  exact DW.like hFin _ _ _ _ _ (key true ht) (hT rfl)
theorem lookE_spec : ∀ {l : List (Nat × (Value → World → Prop))} {i S}, lookE l i = some S → ∃ p ∈ l, p.2 = S := by
 intro l
 induction l with
 | nil => intro i S h; simp [lookE] at h
 | cons p r ih =>
  obtain ⟨j, R⟩ := p
  intro i S h
  simp only [lookE] at h
  cases hb : Nat.beq j i with
  | true => rw [hb] at h; simp at h; exact ⟨(j, R), by simp, h⟩
  | false => rw [hb] at h; obtain ⟨p, hp, hS⟩ := ih h; exact ⟨p, by simp [hp], hS⟩
/-- Posts that each step keeps. -/
def StE (C : World → Prop) (T : Nat → World → World → Prop) : List (Nat × (Value → World → Prop)) → Prop
 | [] => True
 | (_, S) :: r => (∀ j v w w', C w → C w' → T j w w' → S v w → S v w') ∧ StE C T r
theorem lookE_st {C : World → Prop} {T : Nat → World → World → Prop} {l : List (Nat × (Value → World → Prop))} {ops : Array Oper} (h : StE C T l) :
  ∀ i S, lookE l i = some S → ∀ j S', lookE l j = some S' → j ≠ i → j ∉ depsAt ops i → ∀ v w w', C w → C w' → T j w w' → S v w → S v w' := by
 intro i S hi j S' hj _ _
 obtain ⟨p, hp, hS⟩ := lookE_spec hi
 clear hi hj
 induction l with
 | nil => cases hp
 | cons q r ih =>
  rcases List.mem_cons.1 hp with rfl | hp
  ·
   subst hS; exact h.1 j
  ·
   exact ih h.2 hp
/-- Posts that those steps keep that may come later. -/
def StP (C : World → Prop) (T : Nat → World → World → Prop) (ops : Array Oper) (i : Nat) (S : Value → World → Prop) : List (Nat × (Value → World → Prop)) → Prop
 | [] => True
 | (j, _) :: r => (match Nat.beq j i || elemN j (depsAt ops i) with
  | true => True
  | false => ∀ v w w', C w → C w' → T j w w' → S v w → S v w') ∧ StP C T ops i S r
def StQ (C : World → Prop) (T : Nat → World → World → Prop) (ops : Array Oper) (all : List (Nat × (Value → World → Prop))) : List (Nat × (Value → World → Prop)) → Prop
 | [] => True
 | (i, S) :: r => StP C T ops i S all ∧ StQ C T ops all r
theorem lookE_memj : ∀ {l : List (Nat × (Value → World → Prop))} {i S}, lookE l i = some S → (i, S) ∈ l := by
 intro l
 induction l with
 | nil => intro i S h; cases h
 | cons q r ih =>
  obtain ⟨j, S'⟩ := q
  intro i S h
  simp only [lookE] at h
  cases hb : Nat.beq j i with
  | true => rw [hb] at h; simp at h; have := Nat.eq_of_beq_eq_true hb; subst this; subst h; simp
  | false => rw [hb] at h; exact List.mem_cons_of_mem _ (ih h)
theorem StP_spec {C : World → Prop} {T : Nat → World → World → Prop} {ops : Array Oper} {i : Nat} {S : Value → World → Prop} : ∀ {l : List (Nat × (Value → World → Prop))}, StP C T ops i S l →
  ∀ j S', (j, S') ∈ l → j ≠ i → j ∉ depsAt ops i → ∀ v w w', C w → C w' → T j w w' → S v w → S v w' := by
 intro l
 induction l with
 | nil => intro _ j S' h; cases h
 | cons q r ih =>
  obtain ⟨j', S''⟩ := q
  intro h j S' hm hne hnd
  rcases List.mem_cons.1 hm with e | hm
  ·
   simp at e
   obtain ⟨rfl, _⟩ := e
   have h1 := h.1
   have e1 : Nat.beq j i = false := by cases hb : Nat.beq j i with | false => rfl | true => exact absurd (Nat.eq_of_beq_eq_true hb) hne
   have e2 : elemN j (depsAt ops i) = false := by cases hb : elemN j (depsAt ops i) with | false => rfl | true => exact absurd (elemN_iff.1 hb) hnd
   rw [e1, e2] at h1
   exact h1
  ·
   exact ih h.2 j S' hm hne hnd
theorem StQ_spec {C : World → Prop} {T : Nat → World → World → Prop} {ops : Array Oper} {all : List (Nat × (Value → World → Prop))} : ∀ {l : List (Nat × (Value → World → Prop))}, StQ C T ops all l →
  ∀ i S, (i, S) ∈ l → StP C T ops i S all := by
 intro l
 induction l with
 | nil => intro _ i S h; cases h
 | cons q r ih =>
  obtain ⟨i', S''⟩ := q
  intro h i S hm
  rcases List.mem_cons.1 hm with e | hm
  ·
   simp at e; obtain ⟨rfl, rfl⟩ := e; exact h.1
  ·
   exact ih h.2 i S hm
theorem lookE_stP {C : World → Prop} {T : Nat → World → World → Prop} {l : List (Nat × (Value → World → Prop))} {ops : Array Oper} (h : StQ C T ops l l) :
  ∀ i S, lookE l i = some S → ∀ j S', lookE l j = some S' → j ≠ i → j ∉ depsAt ops i → ∀ v w w', C w → C w' → T j w w' → S v w → S v w' :=
 fun i S hi j S' hj hne hnd => StP_spec (StQ_spec h i S (lookE_memj hi)) j S' (lookE_memj hj) hne hnd
theorem New.ge' {S : List Nat} {w0 w w' : World} {b : Nat} (h : New w w' b) (c : Chg S w0 w) : w0.heap.size ≤ b := Nat.le_trans c.size h.ge
theorem Chg.own {S : List Nat} {a w w' : World} {b : Nat} (c : Chg S a w) (s : Chg [b] w w') (hb : a.heap.size ≤ b) : Chg S a w' :=
 c.trans' s fun x hx => .inr (by simp at hx; subst hx; exact hb)
theorem New.ne {w w' : World} {b x : Nat} (h : New w w' b) (hx : x < w.heap.size) : x ≠ b := by have := h.ge; omega
/-! ### results that lie in memory -/
inductive RS (P : Program) (kv : KV) (w : World) : List ResultVar → List Value → Prop where
 | nil : RS P kv w [] []
 | tmp {t v r vs} (h : look kv t = some v) (hr : RS P kv w r vs) : RS P kv w (.tmp t :: r) (v :: vs)
 | cell {t T k b us r vs} (hT : Agg P T k) (h : look kv t = some (.pointer (some ⟨b, 0, none⟩))) (hc : w.rangeAt b 0 us) (hl : us.length = k) (hr : RS P kv w r vs) : RS P kv w (.cell t T :: r) (.agg us.toArray :: vs)
def resF (tmps : Array Value) : ResultVar → Sem Value
 | .tmp t => pure (tmps.getD t undef)
 | .cell x t => do loadVar t (← asAddr (tmps.getD x undef))
theorem run_mapM_RS {a : Act} (hF : Fr n a kv) : ∀ {rs : List ResultVar} {vs : List Value}, RS P kv w rs vs → (rs.mapM (resF a.tmps)).run P w = .ok vs w := by
 intro rs vs h
 induction h with
 | nil => rfl
 | tmp h hr ih =>
  have := hF.val _ _ h
  simp only [List.mapM_cons, Sem.run_bind, resF, this, Sem.run_pure, Result.andThen_ok, ih]
 | cell hT h hc hl hr ih =>
  have := hF.val _ _ h
  obtain ⟨de, hu, hrw⟩ := hT.row
  have hld := run_loadVar_mid (P := P) w _ 0 _ _ de hc hu hrw (by rw [hT.2, hl])
  simp only [List.mapM_cons, Sem.run_bind, resF, this, asAddr, Sem.run_pure, Result.andThen_ok, hld, ih]
theorem run_results {fn : Func} {a : Act} (hF : Fr n a kv) {rs : List ResultVar} {vs : List Value} (hr : fn.results = rs.toArray) (h : RS P kv w rs vs) :
  (results fn a.tmps).run P w = .ok (if h : vs.toArray.size = 1 then vs.toArray[0] else .tuple vs.toArray) w := by
 have e : results fn a.tmps = (do let vs ← fn.results.mapM (resF a.tmps); pure (if h : vs.size = 1 then vs[0] else .tuple vs)) := rfl
 rw [e, hr, List.mapM_toArray]
 simp only [Sem.run_bind, map_eq_pure_bind, run_mapM_RS hF h, Result.andThen_ok, Sem.run_pure]
theorem EX.retN {fn : Func} {R : Ending → World → Prop} {rs : List ResultVar} {vs : List Value} (hr : fn.results = rs.toArray) (h : RS P kv w rs vs) (hl : Nat.beq vs.length 1 = false)
  (hR : R (.returned (.tuple vs.toArray)) w) : EX (bodyPost P fn R) .ret n kv w := fun a hF => by
 refine ⟨hF.nod, _, run_results hF hr h, ?_⟩
 have : ¬ vs.toArray.size = 1 := fun e => by simp at e; rw [e] at hl; cases hl
 rw [dif_neg this]
 exact hR
/-- One result, a struct in memory. -/
theorem EX.retC {fn : Func} {R : Ending → World → Prop} {t T k b : Nat} {us : List Value} (hT : Agg P T k) (hr : fn.results = #[.cell t T]) (ht : look kv t = some (.pointer (some ⟨b, 0, none⟩))) (hc : w.rangeAt b 0 us) (hl : us.length = k)
  (hR : R (.returned (.agg us.toArray)) w) : EX (bodyPost P fn R) .ret n kv w := fun a hF =>
 ⟨hF.nod, _, run_results hF (rs := [.cell t T]) hr (.cell hT ht hc hl .nil), by simpa using hR⟩
end
end Go.Rc

namespace Go.Rc
open Go
/-- The slice at a, of n elements of k cells each and of capacity c, holds the cells cs, in a block that A allows. -/
structure SL (A : Nat → Prop) (w : World) (k : Nat) (a : Option Addr) (n c : Nat) (cs : List Value) : Prop where
 len : cs.length = n * k
 le : n ≤ 140737488355328
 one : ∀ u ∈ cs, u.oneCell' = true
 at_ : (a = none ∧ n = 0 ∧ c = 0) ∨ ∃ b o, a = some ⟨b, o, none⟩ ∧ n ≤ c ∧ c ≤ maxLen ∧ A b ∧ b < w.heap.size ∧ w.rangeAt b o cs
variable {α : Type} {A : Nat → Prop} {w w' : World} {k n c : Nat} {a : Option Addr} {cs : List Value}
theorem SL.nil (A : Nat → Prop) (w : World) (k : Nat) : SL A w k none 0 0 [] := ⟨by simp, by omega, by simp, .inl ⟨rfl, rfl, rfl⟩⟩
theorem SL.chg {S : List Nat} (h : SL A w k a n c cs) (hc : Chg S w w') (hS : ∀ b ∈ S, ¬ A b) : SL A w' k a n c cs := by
 refine ⟨h.len, h.le, h.one, ?_⟩
 rcases h.at_ with h1 | ⟨b, o, h1, h2, h3, h4, h5, h6⟩
 ·
  exact .inl h1
 ·
  exact .inr ⟨b, o, h1, h2, h3, h4, Nat.lt_of_lt_of_le h5 hc.size, range_chg h6 hc fun hm => hS b hm h4⟩
theorem SL.ext (h : SL A w k a n c cs) (hc : Chg [] w w') : SL A w' k a n c cs := h.chg hc (by simp)
theorem SL.mono {A' : Nat → Prop} (h : SL A w k a n c cs) (hA : ∀ b, A b → b < w.heap.size → A' b) : SL A' w k a n c cs := by
 refine ⟨h.len, h.le, h.one, ?_⟩
 rcases h.at_ with h1 | ⟨b, o, h1, h2, h3, h4, h5, h6⟩
 ·
  exact .inl h1
 ·
  exact .inr ⟨b, o, h1, h2, h3, hA b h4 h5, h5, h6⟩
/-- .. as a list of things, each by its row of cells. -/
def SR (A : Nat → Prop) (w : World) (k : Nat) (R : α → List Value → Prop) (a : Option Addr) (n c : Nat) (xs : List α) : Prop :=
 n = xs.length ∧ ∃ rows : List (List Value), rows.length = xs.length ∧ (∀ r ∈ rows, r.length = k) ∧ SL A w k a n c rows.flatten ∧ ∀ (i : Nat) x r, xs[i]? = some x → rows[i]? = some r → R x r
theorem flatten_row : ∀ (rows : List (List Value)) (k i : Nat) (r : List Value), (∀ r ∈ rows, r.length = k) → rows[i]? = some r → ∀ j v, r[j]? = some v → rows.flatten[i * k + j]? = some v := by
 intro rows
 induction rows with
 | nil => intro k i r _ h; simp at h
 | cons x xs ih =>
  intro k i r hk h j v hv
  have hx : x.length = k := hk x (by simp)
  cases i with
  | zero =>
   simp at h; subst h
   have hj : j < x.length := (List.getElem?_eq_some_iff.1 hv).1
   simp only [Nat.zero_mul, Nat.zero_add, List.flatten_cons]
   rw [List.getElem?_append_left hj]; exact hv
  | succ i =>
   have := ih k i r (fun r hr => hk r (by simp [hr])) (by simpa using h) j v hv
   simp only [List.flatten_cons]
   rw [List.getElem?_append_right (by rw [hx, Nat.succ_mul]; omega), hx, ← this]
   congr 1
   rw [Nat.succ_mul]; omega
theorem SR.at {R : α → List Value → Prop} {xs : List α} (h : SR A w k R a n c xs) {i : Nat} {x : α} (hi : xs[i]? = some x) :
  ∃ b o r, a = some ⟨b, o, none⟩ ∧ r.length = k ∧ R x r ∧ w.rangeAt b (o + i * k) r ∧ A b := by
 obtain ⟨hn, rows, hl, hk, hs, hR⟩ := h
 have hlt : i < xs.length := (List.getElem?_eq_some_iff.1 hi).1
 obtain ⟨r, hr⟩ : ∃ r, rows[i]? = some r := ⟨rows[i], by simp [hl, hlt]⟩
 rcases hs.at_ with ⟨_, h0, _⟩ | ⟨b, o, h1, _, _, h4, _, h6⟩
 ·
  omega
 ·
  exact ⟨b, o, r, h1, hk r (List.mem_of_getElem? hr), hR i x r hi hr, range_part h6 (i * k) r (flatten_row rows k i r hk hr), h4⟩
theorem SR.chg {R R' : α → List Value → Prop} {xs : List α} {S : List Nat} (h : SR A w k R a n c xs) (hc : Chg S w w') (hS : ∀ b ∈ S, ¬ A b) (hR : ∀ x r, R x r → R' x r) : SR A w' k R' a n c xs := by
 obtain ⟨hn, rows, hl, hk, hs, hx⟩ := h
 exact ⟨hn, rows, hl, hk, hs.chg hc hS, fun i x r h1 h2 => hR x r (hx i x r h1 h2)⟩
theorem SR.ext {R : α → List Value → Prop} {xs : List α} (h : SR A w k R a n c xs) (hc : Chg [] w w') : SR A w' k R a n c xs := h.chg hc (by simp) fun _ _ h => h
theorem SR.mono {R R' : α → List Value → Prop} {xs : List α} {A' : Nat → Prop} (h : SR A w k R a n c xs) (hA : ∀ b, A b → b < w.heap.size → A' b) (hR : ∀ x r, R x r → R' x r) : SR A' w k R' a n c xs := by
 obtain ⟨hn, rows, hl, hk, hs, hx⟩ := h
 exact ⟨hn, rows, hl, hk, hs.mono hA, fun i x r h1 h2 => hR x r (hx i x r h1 h2)⟩
theorem SR.nil (A : Nat → Prop) (w : World) (k : Nat) (R : α → List Value → Prop) : SR A w k R none 0 0 [] := ⟨rfl, [], rfl, by simp, SL.nil A w k, by simp⟩
theorem SR.le {R : α → List Value → Prop} {xs : List α} (h : SR A w k R a n c xs) : n ≤ 140737488355328 := by obtain ⟨_, _, _, _, h, _⟩ := h; exact h.le
theorem SR.len {R : α → List Value → Prop} {xs : List α} (h : SR A w k R a n c xs) : n = xs.length := h.1
/-- An element's address. -/
theorem PV.ixS {P : Program} {kv : KV} {T E k : Nat} {ty : TypeId} {w : World} (hT : SlT P T E k) {x y : Operand} {a : Option Addr} {b o m c i : Nat} (ha : a = some ⟨b, o, none⟩) (hx : ev kv x = some (.slice a m c)) (hy : ev kv y = some (.int .i64 (i : Int))) (hi : i < m) :
  PV P (.indexAddr T x y) ty kv w (.pointer (some ⟨b, o + i * k, none⟩)) := by
 subst ha; exact PV.ix hT hx hy hi
theorem PV.ixZ {P : Program} {kv : KV} {T E k : Nat} {ty : TypeId} {w : World} (hT : SlT P T E k) {x y : Operand} {a : Option Addr} {b o m c : Nat} {z : Int} (i : Nat) (ha : a = some ⟨b, o, none⟩) (hx : ev kv x = some (.slice a m c)) (hy : ev kv y = some (.int .i64 z)) (hz : z = (i : Int)) (hi : i < m) :
  PV P (.indexAddr T x y) ty kv w (.pointer (some ⟨b, o + i * k, none⟩)) := by
 subst ha hz; exact PV.ix hT hx hy hi
/-! things of a fixed shape -/
structure Key where
 kind : Int
 text : ByteArray
 deriving DecidableEq
instance : Inhabited Key := ⟨⟨0, ⟨#[]⟩⟩⟩
def Key.cells (k : Key) : List Value := [.int .i64 k.kind, .string k.text]
def Key.val (k : Key) : Value := .agg #[.int .i64 k.kind, .string k.text]
def Keys (A : Nat → Prop) (w : World) (a : Option Addr) (n c : Nat) (l : List Key) : Prop := SR A w 2 (fun k r => r = Key.cells k) a n c l
def Strs (A : Nat → Prop) (w : World) (a : Option Addr) (n c : Nat) (l : List ByteArray) : Prop := SR A w 1 (fun s r => r = [.string s]) a n c l
structure Ask where
 cell : Bool
 pick : Bool
 n : Int
 els : Int
 deriving DecidableEq
def Ask.cells (x : Ask) : List Value := [.bool x.cell, .bool x.pick, .int .i64 x.n, .int .i64 x.els]
structure Rule where
 ring : Bool
 asks : List Ask
 final : Int
 c : Int
 deriving DecidableEq
def RuleR (A : Nat → Prop) (w : World) (x : Rule) (r : List Value) : Prop :=
 ∃ a n c, r = [.bool x.ring, .slice a n c, .int .i64 x.final, .int .i64 x.c] ∧ SR A w 4 (fun k r => r = Ask.cells k) a n c x.asks
def Rules (A : Nat → Prop) (w : World) (a : Option Addr) (n c : Nat) (l : List Rule) : Prop := SR A w 4 (RuleR A w) a n c l
theorem Keys.chg {S : List Nat} {l : List Key} (h : Keys A w a n c l) (hc : Chg S w w') (hS : ∀ b ∈ S, ¬ A b) : Keys A w' a n c l := SR.chg h hc hS fun _ _ h => h
theorem Keys.ext {l : List Key} (h : Keys A w a n c l) (hc : Chg [] w w') : Keys A w' a n c l := Keys.chg h hc (by simp)
theorem Strs.chg {S : List Nat} {l : List ByteArray} (h : Strs A w a n c l) (hc : Chg S w w') (hS : ∀ b ∈ S, ¬ A b) : Strs A w' a n c l := SR.chg h hc hS fun _ _ h => h
theorem Strs.ext {l : List ByteArray} (h : Strs A w a n c l) (hc : Chg [] w w') : Strs A w' a n c l := Strs.chg h hc (by simp)
theorem RuleR.chg {S : List Nat} {x : Rule} {r : List Value} (h : RuleR A w x r) (hc : Chg S w w') (hS : ∀ b ∈ S, ¬ A b) : RuleR A w' x r := by
 obtain ⟨a, n, c, h1, h2⟩ := h; exact ⟨a, n, c, h1, h2.chg hc hS fun _ _ h => h⟩
theorem Rules.chg {S : List Nat} {l : List Rule} (h : Rules A w a n c l) (hc : Chg S w w') (hS : ∀ b ∈ S, ¬ A b) : Rules A w' a n c l := SR.chg h hc hS fun _ _ h => h.chg hc hS
theorem Rules.ext {l : List Rule} (h : Rules A w a n c l) (hc : Chg [] w w') : Rules A w' a n c l := Rules.chg h hc (by simp)
end Go.Rc

set_option linter.unusedSimpArgs false
namespace Go.Rc
open Go
/-! ### literals -/
def overw : List Value → List Value → List Value
 | _ :: l, u :: us => u :: overw l us
 | l, [] => l
 | [], _ :: _ => []
def putAt : List Value → Nat → List Value → List Value
 | l, 0, us => overw l us
 | [], _ + 1, _ => []
 | x :: l, n + 1, us => x :: putAt l n us
def cellsL : Value → List Value
 | .agg cs => cs.toList
 | v => [v]
theorem cellsL_eq (v : Value) : v.cells.toList = cellsL v := by cases v <;> rfl
def fillV (places : List (Nat × Nat)) : List Value → List (Nat × Value) → List Value
 | z, [] => z
 | z, (i, v) :: r => match places[i]? with
  | none => z
  | some (off, _) => fillV places (putAt z off (cellsL v)) r
def fillOk (places : List (Nat × Nat)) : Nat → List (Nat × Value) → Bool
 | _, [] => true
 | n, (i, v) :: r => match places[i]? with
  | none => false
  | some (off, size) => Nat.beq (cellsL v).length size && Nat.ble (off + (cellsL v).length) n && fillOk places n r
theorem overw_eq : ∀ (us l : List Value), us.length ≤ l.length → overw l us = us ++ l.drop us.length := by
 intro us
 induction us with
 | nil => intro l _; cases l <;> simp [overw]
 | cons u us ih =>
  intro l h
  cases l with
  | nil => simp at h
  | cons x l => simp only [overw, List.cons_append, List.length_cons, List.drop_succ_cons]; rw [ih l (by simpa using h)]
theorem putAt_eq : ∀ (n : Nat) (l us : List Value), n + us.length ≤ l.length → putAt l n us = l.take n ++ us ++ l.drop (n + us.length) := by
 intro n
 induction n with
 | zero => intro l us h; simp [putAt, overw_eq us l (by omega)]
 | succ n ih =>
  intro l us h
  cases l with
  | nil => simp at h
  | cons x l =>
   simp only [putAt, List.take_succ_cons, List.cons_append, Nat.succ_add, List.drop_succ_cons]
   rw [ih l us (by simp at h; omega)]
theorem foldl_set (us : List Value) : ∀ (i off : Nat) (cells : Array Value), off + i + us.length ≤ cells.size →
  ((us.zipIdx i).foldl (fun cs (p : Value × Nat) => cs.setIfInBounds (off + p.2) p.1) cells).toList = cells.toList.take (off + i) ++ us ++ cells.toList.drop (off + i + us.length) := by
 induction us with
 | nil => intro i off cells _; simp
 | cons u us ih =>
  intro i off cells h
  simp only [List.zipIdx_cons, List.foldl_cons]
  rw [ih (i + 1) off _ (by simp at h ⊢; omega)]
  have hlt : off + i < cells.toList.length := by simp at h ⊢; omega
  simp only [Array.toList_setIfInBounds]
  rw [List.take_set, List.drop_set, if_pos (by omega)]
  rw [show off + (i + 1) = off + i + 1 by omega, List.take_succ_eq_append_getElem hlt]
  have : (cells.toList.take (off + i) ++ [cells.toList[off + i]]).set (off + i) u = cells.toList.take (off + i) ++ [u] := by
   rw [List.set_append_right _ _ (by simp; omega)]
   simp [show min (off + i) cells.size = off + i by simp at hlt; omega]
  rw [this]
  simp only [List.length_cons, List.append_assoc, List.cons_append, List.nil_append]
  congr 3
  simp; omega
theorem fill_eq (places : List (Nat × Nat)) : ∀ (parts : List (Nat × Value)) (cells : Array Value), fillOk places cells.size parts = true →
  Instr.fill (fun i : Nat => places[i]?) cells parts = some (fillV places cells.toList parts).toArray := by
 intro parts
 induction parts with
 | nil => intro cells _; simp [Instr.fill, fillV]
 | cons p r ih =>
  obtain ⟨i, v⟩ := p
  intro cells h
  simp only [fillOk] at h
  simp only [Instr.fill, fillV]
  cases hp : places[i]? with
  | none => rw [hp] at h; cases h
  | some q =>
   obtain ⟨off, size⟩ := q
   rw [hp] at h
   simp only [Bool.and_eq_true] at h
   obtain ⟨⟨h1, h2⟩, h3⟩ := h
   have e1 : (cellsL v).length = size := Nat.eq_of_beq_eq_true h1
   have e2 : off + (cellsL v).length ≤ cells.size := Nat.le_of_ble_eq_true h2
   have hs : v.cells.size = (cellsL v).length := by rw [← cellsL_eq]; simp
   simp only
   rw [if_neg (by simp [hs, e1]; omega)]
   have hfold : (v.cells.zipIdx.foldl (fun cs (c, j) => cs.setIfInBounds (off + j) c) cells).toList = putAt cells.toList off (cellsL v) := by
    rw [← Array.foldl_toList, Array.toList_zipIdx, cellsL_eq]
    have := foldl_set (cellsL v) 0 off cells (by omega)
    simp only [Nat.add_zero] at this
    rw [putAt_eq off cells.toList (cellsL v) (by simpa using e2)]
    exact this
   rw [ih _ (by
    have : (v.cells.zipIdx.foldl (fun cs (c, j) => cs.setIfInBounds (off + j) c) cells).size = cells.size := by
     rw [← Array.length_toList, hfold, putAt_eq off _ _ (by simpa using e2)]
     simp; omega
    rw [this]; exact h3)]
   rw [hfold]
/-- A struct's zero value and where its fields lie. -/
structure BT (P : Program) (T : TypeId) (z : List Value) (places : List (Nat × Nat)) : Prop where
 zero : ∃ v : Value, (∀ w, (zeroValue T).run P w = .ok v w) ∧ v.cells = z.toArray
 und : ∃ fs : Array Field, P.underlying T = some (.struct fs) ∧ ∀ w, (fs.mapM fun f => (do pure (f.offset, ← sizeOf f.type) : Sem (Nat × Nat))).run P w = .ok places.toArray w
section
variable {P : Program} {n : Nat} {kv : KV} {w : World} {K : KV → World → Prop}
variable {d : Tmp} {ty : TypeId} {pos : String} {af : Array Edge} {g : Option (Nat × Bool)} {T : TypeId}
def evParts (kv : KV) : List (Nat × Operand) → Option (List (Nat × Value))
 | [] => some []
 | (i, x) :: r => match ev kv x with
  | none => none
  | some v => match evParts kv r with
   | none => none
   | some vs => some ((i, v) :: vs)
theorem evParts_spec {kv : KV} : ∀ {ps : List (Nat × Operand)} {vs : List (Nat × Value)}, evParts kv ps = some vs → ps.map (fun p => (p.1, lkO kv p.2)) = vs ∧ ∀ p ∈ ps, (ev kv p.2).isSome = true := by
 intro ps
 induction ps with
 | nil => intro vs h; simp [evParts] at h; subst h; simp
 | cons p r ih =>
  obtain ⟨i, x⟩ := p
  intro vs h
  simp only [evParts] at h
  cases hx : ev kv x with
  | none => rw [hx] at h; cases h
  | some v =>
   rw [hx] at h
   cases hr : evParts kv r with
   | none => rw [hr] at h; cases h
   | some us =>
    rw [hr] at h
    simp at h
    obtain ⟨h1, h2⟩ := ih hr
    subst h
    refine ⟨by simp [lkO_of hx, h1], fun p hp => ?_⟩
    rcases List.mem_cons.1 hp with rfl | hp
    ·
     simp [hx]
    ·
     exact h2 p hp
theorem PV.build {z : List Value} {places : List (Nat × Nat)} (hT : BT P T z places) {ps : List (Nat × Operand)} {vs : List (Nat × Value)} (hv : evParts kv ps = some vs) (hok : fillOk places z.length vs = true) :
  PV P (.build T ps.toArray) ty kv w (.agg (fillV places z vs).toArray) := by
 obtain ⟨⟨v, hz, hzc⟩, fs, hu, hm⟩ := hT
 obtain ⟨h1, h2⟩ := evParts_spec hv
 refine ⟨rfl, by simpa [known, opers] using h2, fun _ _ _ _ => ?_⟩
 have hf := fill_eq places vs z.toArray (by simpa using hok)
 have e : (ps.toArray.map fun (i, x) => (i, lkO kv x)).toList = vs := by rw [← h1]; simp
 simp only [execOp, Instr.build, Sem.run_bind, hz w, Result.andThen_ok, run_underlying hu, hm w, e]
 rw [hzc]
 rw [show (fun x : Nat => places.toArray[x]?) = fun i => places[i]? from by funext i; simp, hf]
 rfl
/-- A literal of a slice: a new row. -/
structure BS (P : Program) (T E k len : Nat) (z : List Value) : Prop where
 und : P.underlying T = some (.slice E)
 size : ∀ w, (sizeOf E).run P w = .ok k w
 pos : len * k ≠ 0
 small : len * k ≤ 2 ^ 24
 zero : ∃ v : Value, (∀ w, (zeroValue E).run P w = .ok v w) ∧ (Array.range (len * k)).map (v.cells[· % v.cells.size]!) = z.toArray
def bsOk (k : Nat) : Nat → List (Nat × Value) → Bool
 | _, [] => true
 | n, (i, v) :: r => Nat.beq (cellsL v).length k && Nat.ble (i * k + (cellsL v).length) n && bsOk k n r
def bsV (k : Nat) : List Value → List (Nat × Value) → List Value
 | z, [] => z
 | z, (i, v) :: r => bsV k (putAt z (i * k) (cellsL v)) r
theorem bs_eq (k : Nat) : ∀ (parts : List (Nat × Value)) (cells : Array Value), bsOk k cells.size parts = true →
  Instr.fill (fun i => some (i * k, k)) cells parts = some (bsV k cells.toList parts).toArray := by
 intro parts
 induction parts with
 | nil => intro cells _; simp [Instr.fill, bsV]
 | cons p r ih =>
  obtain ⟨i, v⟩ := p
  intro cells h
  simp only [bsOk, Bool.and_eq_true] at h
  simp only [Instr.fill, bsV]
  obtain ⟨⟨h1, h2⟩, h3⟩ := h
  have e1 : (cellsL v).length = k := Nat.eq_of_beq_eq_true h1
  have e2 : i * k + (cellsL v).length ≤ cells.size := Nat.le_of_ble_eq_true h2
  have hs : v.cells.size = (cellsL v).length := by rw [← cellsL_eq]; simp
  rw [if_neg (by simp [hs, e1]; omega)]
  have hfold : (v.cells.zipIdx.foldl (fun cs (c, j) => cs.setIfInBounds (i * k + j) c) cells).toList = putAt cells.toList (i * k) (cellsL v) := by
   rw [← Array.foldl_toList, Array.toList_zipIdx, cellsL_eq]
   have := foldl_set (cellsL v) 0 (i * k) cells (by omega)
   simp only [Nat.add_zero] at this
   rw [putAt_eq (i * k) cells.toList (cellsL v) (by simpa using e2)]
   exact this
  rw [ih _ (by
   have : (v.cells.zipIdx.foldl (fun cs (c, j) => cs.setIfInBounds (i * k + j) c) cells).size = cells.size := by
    rw [← Array.length_toList, hfold, putAt_eq (i * k) _ _ (by simpa using e2)]
    simp; omega
   rw [this]; exact h3), hfold]
theorem OX.bslice {E k len : Nat} {z : List Value} (hT : BS P T E k len z) {ps : List (Nat × Operand)} {vs : List (Nat × Value)} (hd : Nat.blt d n = true) (hv : evParts kv ps = some vs) (hok : bsOk k z.length vs = true)
  (h : ∀ b w', New w w' b → Blk w' b E (bsV k z vs) → K ((d, .slice (some ⟨b, 0, none⟩) len len) :: kv) w') : OX P ⟨some d, .buildSlice T len ps.toArray, ty, pos, af, g⟩ n kv w K := by
 obtain ⟨v, hz, hzc⟩ := hT.zero
 obtain ⟨h1, h2⟩ := evParts_spec hv
 refine ⟨rfl, hd, by simpa [known, opers] using h2, ?_⟩
 have hf := bs_eq k vs z.toArray (by simpa using hok)
 have e : (ps.toArray.map fun (i, x) => (i, lkO kv x)).toList = vs := by rw [← h1]; simp
 have hr : (execOp (lkO kv) ⟨some d, .buildSlice T len ps.toArray, ty, pos, af, g⟩).run P w = .ok (.value (.slice (some ⟨w.heap.size, 0, none⟩) len len)) (w.alloc (.cells (bsV k z vs).toArray E)) := by
  have hs := hT.small
  simp only [execOp, Instr.buildSlice, Sem.run_bind, run_underlying hT.und, Result.andThen_ok, hT.size w, e]
  rw [if_neg (by omega), if_neg hT.pos]
  simp only [Sem.run_bind, hz w, Result.andThen_ok, Sem.run_pure, hzc, hf]
  rfl
 rw [hr]
 exact h _ _ ⟨chg_alloc _ _, Nat.le_refl _, by simp⟩ (alloc_get _ _)
/-! ### bytes -/
theorem PV.sidx {x y : Operand} {s : ByteArray} {i : Nat} {b : UInt8} (hT : P.underlying T = some .string) (hx : ev kv x = some (.string s)) (hy : ev kv y = some (.int .i64 (i : Int))) (hi : s[i]? = some b) :
  PV P (.index T x y) ty kv w (.int .u8 (b.toNat : Int)) :=
 ⟨rfl, by simp [known, opers, hx, hy], fun _ _ _ _ => by
  simp only [execOp, lkO_of hx, lkO_of hy, Instr.index]
  simp [asIntOf, run_underlying hT, hi]⟩
theorem PV.subu8 {U : TypeId} {x y : Operand} {p q : Int} (hx : ev kv x = some (.int .u8 p)) (hy : ev kv y = some (.int .u8 q)) (h1 : 0 ≤ p - q) (h2 : p - q ≤ 255) :
  PV P (.binOp .sub T x y U) ty kv w (.int .u8 (p - q)) :=
 ⟨rfl, by simp [known, opers, hx, hy], fun _ _ _ _ => run_binInt .sub (by simp) _ (by simp only [Op.intArith, IntWalk.u8_in _ ⟨h1, h2⟩]; rfl) hx hy⟩
theorem PV.conv {U : TypeId} {x : Operand} {k : IntKind} {p : Int} (hT : ∃ de, P.underlying T = some de) (hU : P.underlying U = some (.int .i64)) (hx : ev kv x = some (.int k p)) (h1 : -9223372036854775808 ≤ p) (h2 : p ≤ 9223372036854775807) :
  PV P (.convert T U x) ty kv w (.int .i64 p) := by
 obtain ⟨de, hT⟩ := hT
 refine ⟨rfl, by simp [known, opers, hx], fun _ _ _ _ => ?_⟩
 simp only [execOp, lkO_of hx, convert, Sem.run_bind, run_underlying hT, Result.andThen_ok, run_underlying hU]
 simp [Conv.intToInt, wrap_id h1 h2]
/-! ### keys compared -/
/-- A struct of an int and a string. -/
structure KeyT (P : Program) (T : TypeId) : Prop where
 eq : ∀ (a b : Int) (s t : ByteArray) (w : World), (Op.equalIn 10000 T (.agg #[.int .i64 a, .string s]) (.agg #[.int .i64 b, .string t])).run P w = .ok (decide (a = b) && decide (s = t)) w
 guard : P.eqGuardType P.depth T = false
theorem KeyT_of {T0 T1 : TypeId} {f0 f1 : Field} (hu : P.underlying T = some (.struct #[f0, f1])) (ht0 : f0.type = T0) (ht1 : f1.type = T1) (ho0 : f0.offset = 0) (ho1 : f1.offset = 1) (hn0 : f0.name ≠ "_") (hn1 : f1.name ≠ "_")
  (h0 : P.underlying T0 = some (.int .i64)) (h1 : P.underlying T1 = some .string) (a0 : ∀ w, (isAgg T0).run P w = .ok false w) (a1 : ∀ w, (isAgg T1).run P w = .ok false w)
  (hs : P.stoodInHeld T = false) (hg : P.eqGuardType P.depth T = false) : KeyT P T := by
 refine ⟨fun a b s t w => ?_, hg⟩
 subst ht0 ht1
 have hfo : P.fieldsOf T = #[f0, f1] := by simp [Program.fieldsOf, hu]
 rw [show (10000 : Nat) = 9999 + 1 from rfl, run_equalIn_struct (P := P) w 9999 T _ _ (by rw [hfo]; exact hu) hs, hfo]
 have e : (s.toList == t.toList) = decide (s = t) := by
  by_cases e : s = t
  ·
   simp [e]
  ·
   have : s.toList ≠ t.toList := fun h => e (ByteArray.ext (Array.toList_inj.1 (by rw [← ByteArray.toList_eq, ← ByteArray.toList_eq]; exact h)))
   simp [e, this]
 have e2 : (a == b) = decide (a = b) := by by_cases h : a = b <;> simp [h]
 have r0 := run_equalIn_int (P := P) w 9998 f0.type .i64 .i64 a b h0
 have r1 := run_equalIn_string (P := P) w 9998 f1.type s t h1
 rw [e2] at r0
 rw [e] at r1
 rw [show (9998 + 1 : Nat) = 9999 from rfl] at r0 r1
 simp only [Op.eqFields, ho0, ho1, part, Sem.run_bind, a0, a1, Result.andThen_ok]
 by_cases hab : a = b
 ·
  subst hab
  by_cases hst : s = t
  ·
   subst hst; simp [hn0, hn1, a0, a1, r0, r1]
  ·
   simp [hn0, hn1, a0, a1, r0, r1, hst]
 ·
  simp [hn0, hn1, a0, a1, r0, r1, hab]
theorem PV.eqK (hT : KeyT P T) {U : TypeId} {x y : Operand} {p q : Key} (hx : ev kv x = some p.val) (hy : ev kv y = some q.val) :
  PV P (.binOp .eql T x y U) ty kv w (.bool (decide (p = q))) := by
 refine ⟨rfl, by simp [known, opers, hx, hy], fun _ _ _ _ => ?_⟩
 have e : (decide (p.kind = q.kind) && decide (p.text = q.text)) = decide (p = q) := by
  obtain ⟨a, s⟩ := p; obtain ⟨b, t⟩ := q; simp [Bool.decide_and]
 simp only [execOp, lkO_of hx, lkO_of hy, Key.val]
 simp [run_eqGuard_agg w .eql T _ _ _ _ hT.guard, run_eql_struct, hT.eq, e]
theorem PV.neK (hT : KeyT P T) {U : TypeId} {x y : Operand} {p q : Key} (hx : ev kv x = some p.val) (hy : ev kv y = some q.val) :
  PV P (.binOp .neq T x y U) ty kv w (.bool (decide (p ≠ q))) := by
 refine ⟨rfl, by simp [known, opers, hx, hy], fun _ _ _ _ => ?_⟩
 have e : (decide (p.kind = q.kind) && decide (p.text = q.text)) = decide (p = q) := by
  obtain ⟨a, s⟩ := p; obtain ⟨b, t⟩ := q; simp [Bool.decide_and]
 simp only [execOp, lkO_of hx, lkO_of hy, Key.val]
 simp only [Sem.run_bind, run_eqGuard_agg w .neq T _ _ _ _ hT.guard, run_neq_struct, hT.eq, e, Result.andThen_ok]
 by_cases h : p = q <;> simp [h]
end
end Go.Rc

namespace Go.Rc
open Go
/-- The block of a slice. -/
def oblk : Option Addr → List Nat
 | some a => [a.block]
 | none => []
/-- A slice of one's own: its block is none of those below base, and may be written. -/
def OL (base : Nat) (w : World) (E k : Nat) (a : Option Addr) (n c : Nat) (cs : List Value) : Prop :=
 (∀ u ∈ cs, u.oneCell' = true) ∧ w.ownsRow base E k (.slice a n c) n cs
variable {α : Type} {A : Nat → Prop} {w w' : World} {base E k n c : Nat} {a : Option Addr} {cs : List Value}
theorem OL.nil (base : Nat) (w : World) (E k : Nat) : OL base w E k none 0 0 [] := ⟨by simp, World.ownsRow_nil _ _ _ _⟩
theorem OL.cases (h : OL base w E k a n c cs) : (a = none ∧ n = 0 ∧ c = 0 ∧ cs = []) ∨ ∃ g cur, a = some ⟨g, 0, none⟩ ∧ base ≤ g ∧ w.heap[g]? = some (.cells cur E (0, 0)) ∧ n ≤ c ∧ c ≤ maxLen ∧ cur.size = c * k ∧ cur.toList.take (n * k) = cs := by
 rcases h.2.2 with ⟨h1, h2⟩ | ⟨g, cap, cur, h1, h2⟩
 ·
  simp at h1; obtain ⟨h1, h3, h4⟩ := h1
  exact .inl ⟨h1, h2, h4, List.eq_nil_of_length_eq_zero (by rw [h.2.1, h2]; simp)⟩
 ·
  simp at h1; obtain ⟨h1, h3⟩ := h1
  subst h3
  exact .inr ⟨g, cur, h1, h2⟩
theorem OL.ge (h : OL base w E k a n c cs) : ∀ x ∈ oblk a, base ≤ x := by
 rcases h.cases with ⟨rfl, _⟩ | ⟨g, cur, rfl, hb, _⟩ <;> simp [oblk, *]
theorem OL.lt (h : OL base w E k a n c cs) : ∀ x ∈ oblk a, x < w.heap.size := by
 rcases h.cases with ⟨rfl, _⟩ | ⟨g, cur, rfl, hb, hg, _⟩
 ·
  simp [oblk]
 ·
  simp [oblk]; exact (Array.getElem?_eq_some_iff.1 hg).1
theorem OL.chg {S : List Nat} (h : OL base w E k a n c cs) (hc : Chg S w w') (hS : ∀ x ∈ oblk a, x ∉ S) : OL base w' E k a n c cs := by
 refine ⟨h.1, h.2.1, ?_⟩
 rcases h.2.2 with hn | ⟨g, cap, cur, h1, h2, h3, rest⟩
 ·
  exact .inl hn
 ·
  simp at h1
  obtain ⟨rfl, rfl⟩ := h1
  exact .inr ⟨g, c, cur, rfl, h2, hc.get h3 (hS g (by simp [oblk])), rest⟩
theorem OL.ext (h : OL base w E k a n c cs) (hc : Chg [] w w') : OL base w' E k a n c cs := h.chg hc (by simp)
theorem OL.mono {base' : Nat} (h : OL base w E k a n c cs) (hb : base' ≤ base) : OL base' w E k a n c cs := by
 refine ⟨h.1, h.2.1, ?_⟩
 rcases h.2.2 with hn | ⟨g, cap, cur, h1, h2, rest⟩
 ·
  exact .inl hn
 ·
  exact .inr ⟨g, cap, cur, h1, by omega, rest⟩
/-- It may be read. -/
theorem OL.sl (h : OL base w E k a n c cs) (hA : ∀ b, base ≤ b → A b) (hle : n ≤ 140737488355328) : SL A w k a n c cs := by
 refine ⟨h.2.1, hle, h.1, ?_⟩
 rcases h.cases with ⟨h1, h2, h3, _⟩ | ⟨g, cur, h1, h2, h3, h4, h5, h6, h7⟩
 ·
  exact .inl ⟨h1, h2, h3⟩
 ·
  refine .inr ⟨g, 0, h1, h4, h5, hA g h2, (Array.getElem?_eq_some_iff.1 h3).1, fun j v hv => ?_⟩
  rw [← h7, List.getElem?_take] at hv
  split at hv
  ·
   simp only [World.cell?, h3, Nat.zero_add]; simpa using hv
  ·
   cases hv
/-- .. of a new block. -/
theorem SL.blk {b e : Nat} {l : List Value} (h : Blk w b e l) (hA : A b) (m : Nat) (hl : l.length = m * k) (h1 : ∀ u ∈ l, u.oneCell' = true) (hm : m ≤ 140737488355328) : SL A w k (some ⟨b, 0, none⟩) m m l :=
 ⟨hl, hm, h1, .inr ⟨b, 0, rfl, Nat.le_refl _, by simp [maxLen]; omega, hA, h.lt, h.range⟩⟩
/-! ### append -/
structure AP (P : Program) (T E k bytes : Nat) : Prop where
 und : P.underlying T = some (.slice E)
 info : ∃ i z, P.info? E = some i ∧ i.zero = some z ∧ i.size = k ∧ i.bytes = bytes ∧ z.cells.size = k
 pos : 0 < k
theorem run_app {P : Program} {T bytes : Nat} (hT : AP P T E k bytes) {ty : TypeId} {xs news : List Value} (hown : OL base w E k a n c xs) {a2 : Option Addr} {m c2 : Nat} {A : Nat → Prop} (hx : SL A w k a2 m c2 news)
  (hbytes : (n + m) * bytes ≤ 140737488355328) (hnm : n + m ≤ 140737488355328) (hbase : base ≤ w.heap.size) :
  ∃ a' c' w', (Builtin.append_ #[T, T] ty #[.slice a n c, .slice a2 m c2]).run P w = .ok (.slice a' (n + m) c') w' ∧ OL base w' E k a' (n + m) c' (xs ++ news) ∧ Chg (oblk a) w w' ∧ (∀ x ∈ oblk a', x ∈ oblk a ∨ w.heap.size ≤ x) ∧
   (a' = none → a = none ∧ m = 0) ∧ (m = 0 → a' = a) ∧ (Chg [] w w' ∨ (n + m ≤ c ∧ ∃ g, ∃ cur cur' : Array Value, a = some ⟨g, 0, none⟩ ∧ w.heap[g]? = some (.cells cur E (0, 0)) ∧ w'.heap[g]? = some (.cells cur' E (0, 0)) ∧ cur'.size = cur.size ∧ cur.size = c * k ∧ cur'.toList.take (n * k) = cur.toList.take (n * k))) := by
 obtain ⟨i, z, hi, hz, rfl, rfl, hzs⟩ := hT.info
 have hsz := hT.pos
 have h1 : ∀ u ∈ xs ++ news, u.oneCell' = true := fun u hu => by
  rcases List.mem_append.1 hu with h | h
  ·
   exact hown.1 u h
  ·
   exact hx.one u h
 rcases hx.at_ with ⟨rfl, rfl, rfl⟩ | ⟨b2, o2, rfl, hmc, hcm2, _, hb2, hr2⟩
 ·
  have hn : news = [] := List.eq_nil_of_length_eq_zero (by rw [hx.len]; simp)
  subst hn
  refine ⟨a, c, w, run_append_owned_none (P := P) w base T ty E i i.size hT.und hi _ n xs hown.2, by simpa using hown, Chg.refl _ _, fun x h => .inl h, fun h => ⟨h, rfl⟩, fun _ => rfl, .inl (Chg.refl _ _)⟩
 ·
  have hnews : ∀ j u, news[j]? = some u → w.cell? ((⟨b2, o2, none⟩ : Addr).add j) = some u := fun j u hu => by rw [Addr.add_at]; exact hr2 j u hu
  have hl := hx.len
  have hlen : (xs ++ news).length = (n + m) * i.size := by rw [List.length_append, hown.2.1, hl, Nat.add_mul]
  have h1n := hx.one
  have grown : ∀ (old : Nat), old < n + m →
    OL base (w.drew.alloc (.cells (xs.toArray ++ news.toArray ++ Builtin.zeroCells z.cells (grownCap w (n + m) old E - (n + m))) E)) E i.size
     (some ⟨w.heap.size, 0, none⟩) (n + m) (grownCap w (n + m) old E) (xs ++ news) ∧
    ∀ S, Chg S w (w.drew.alloc (.cells (xs.toArray ++ news.toArray ++ Builtin.zeroCells z.cells (grownCap w (n + m) old E - (n + m))) E)) := by
   intro old ho
   have hge := grownCap_ge w (n + m) old E
   have hcm : grownCap w (n + m) old E ≤ maxLen := grownCap_le_maxLen w (n + m) old E (by simp [maxLen]; omega)
   refine ⟨⟨h1, hlen, .inr ⟨w.heap.size, _, _, rfl, hbase, heap_alloc_new w.drew _, hge, hcm, ?_, ?_⟩⟩, fun S => ⟨rfl, rfl, rfl, by simp, fun k hk _ => heap_alloc_old w.drew _ (h := hk)⟩⟩
   ·
    simp only [Array.size_append, List.size_toArray, size_zeroCells, hzs, hown.2.1, hl, ← Nat.add_mul]
    congr 1
    omega
   ·
    simp only [Array.toList_append, List.append_assoc]
    rw [← List.append_assoc, ← hlen]
    exact List.take_left
  rcases hown.cases with ⟨rfl, rfl, rfl, rfl⟩ | ⟨g, cur, rfl, hbg, hg, hnc, hcm, hcs, htake⟩
  ·
   by_cases hm : m = 0
   ·
    subst hm
    have hn : news = [] := List.eq_nil_of_length_eq_zero (by simpa using hl)
    subst hn
    refine ⟨none, 0, w, ?_, OL.nil base w E i.size, Chg.refl _ _, by simp [oblk], by simp, fun _ => rfl, .inl (Chg.refl _ _)⟩
    simp [Builtin.append_, run_underlying hT.und, sizeOf, typeInfo, hi, Builtin.lenOf, Builtin.firstCells, loadCells, loadCellsFrom]
   ·
    have hr := run_append_nil (P := P) w T ty E i z hT.und hi hz ⟨b2, o2, none⟩ m c2 news hl hnews (by omega) (by omega) (by have hb := hbytes; simp only [Nat.zero_add] at hb; omega)
    have hgr := grown 0 (by omega)
    simp only [Nat.zero_add, List.nil_append, Array.empty_append] at hgr ⊢
    exact ⟨_, _, _, hr, hgr.1, hgr.2 _, fun x hx => .inr (by simp [oblk] at hx; omega), by simp, fun h => absurd h hm, .inl (hgr.2 _)⟩
  ·
   by_cases hroom : n + m ≤ c
   ·
    have hfit : n * i.size + news.length ≤ cur.size := by rw [hl, hcs, ← Nat.add_mul]; exact Nat.mul_le_mul_right _ hroom
    have hr := run_append_room (P := P) w T ty E i hT.und hi g n c cur hg ⟨b2, o2, none⟩ m c2 news hl hnews h1n hroom hfit
    refine ⟨_, _, _, hr, ⟨h1, hlen, .inr ⟨g, c, _, rfl, hbg, setRow_heap w g cur _ E _ hg, hroom, hcm, ?_, ?_⟩⟩, chg_setRow w g _, fun x hx => .inl hx, by simp, fun _ => rfl, .inr ⟨hroom, g, cur, _, rfl, hg, setRow_heap w g cur _ E _ hg, ?_, hcs, ?_⟩⟩
    ·
     simp only [List.size_toArray, List.length_append, List.length_take, List.length_drop, Array.length_toList]
     omega
    ·
     rw [htake, ← hlen]
     exact List.take_left
    ·
     simp only [List.size_toArray, List.length_append, List.length_take, List.length_drop, Array.length_toList]
     omega
    ·
     have hnk : n * i.size ≤ cur.toList.length := by rw [Array.length_toList, hcs]; exact Nat.mul_le_mul_right _ hnc
     show (cur.toList.take (n * i.size) ++ news ++ cur.toList.drop (n * i.size + news.length)).take (n * i.size) = _
     rw [List.append_assoc, List.take_append_of_le_length (by rw [List.length_take]; omega), List.take_take, Nat.min_self]
   ·
    have holds : ∀ j u, xs[j]? = some u → w.cell? ((⟨g, 0, none⟩ : Addr).add j) = some u := hown.2.cells (g := g) rfl
    have hr := run_append_grow (P := P) w T ty E i z hT.und hi hz ⟨g, 0, none⟩ n c xs hown.2.1 holds ⟨b2, o2, none⟩ m c2 news hl hnews (by omega) (by omega) (growslice_fits (by omega) hbytes)
    have hgr := grown c (by omega)
    exact ⟨_, _, _, hr, hgr.1, hgr.2 _, fun x hx => .inr (by simp [oblk] at hx; omega), by simp, fun h => absurd h (by omega), .inl (hgr.2 _)⟩
/-- Own slices that read as lists of things. -/
def OR (base : Nat) (w : World) (E k : Nat) (R : α → List Value → Prop) (a : Option Addr) (n c : Nat) (xs : List α) : Prop :=
 n = xs.length ∧ ∃ rows : List (List Value), rows.length = xs.length ∧ (∀ r ∈ rows, r.length = k) ∧ OL base w E k a n c rows.flatten ∧ ∀ (i : Nat) x r, xs[i]? = some x → rows[i]? = some r → R x r
variable {R R' : α → List Value → Prop} {xs ys : List α}
theorem OR.nil (base : Nat) (w : World) (E k : Nat) (R : α → List Value → Prop) : OR base w E k R none 0 0 [] := ⟨rfl, [], rfl, by simp, OL.nil _ _ _ _, by simp⟩
theorem OR.ge (h : OR base w E k R a n c xs) : ∀ x ∈ oblk a, base ≤ x := by obtain ⟨_, _, _, _, h, _⟩ := h; exact h.ge
theorem OR.lt (h : OR base w E k R a n c xs) : ∀ x ∈ oblk a, x < w.heap.size := by obtain ⟨_, _, _, _, h, _⟩ := h; exact h.lt
theorem OR.len (h : OR base w E k R a n c xs) : n = xs.length := h.1
theorem OR.chg' {S : List Nat} (h : OR base w E k R a n c xs) (hc : Chg S w w') (hS : ∀ x ∈ oblk a, x ∉ S) (hR : ∀ x r, R x r → R' x r) : OR base w' E k R' a n c xs := by
 obtain ⟨hn, rows, hl, hk, hs, hx⟩ := h
 exact ⟨hn, rows, hl, hk, hs.chg hc hS, fun i x r h1 h2 => hR x r (hx i x r h1 h2)⟩
theorem OR.chg {S : List Nat} (h : OR base w E k R a n c xs) (hc : Chg S w w') (hS : ∀ x ∈ oblk a, x ∉ S) : OR base w' E k R a n c xs := h.chg' hc hS fun _ _ h => h
theorem OR.ext (h : OR base w E k R a n c xs) (hc : Chg [] w w') : OR base w' E k R a n c xs := h.chg hc (by simp)
/-- One row in a new block. -/
theorem SR.blk1 {b e : Nat} {l : List Value} {x : α} (h : Blk w b e l) (hA : A b) (hl : l.length = k) (h1 : ∀ u ∈ l, u.oneCell' = true) (hR : R x l) : SR A w k R (some ⟨b, 0, none⟩) 1 1 [x] :=
 ⟨rfl, [l], rfl, by simpa using hl, by simpa using SL.blk h hA 1 (by simpa using hl) h1 (by omega), fun i y r h1 h2 => by
  cases i with
  | zero => simp at h1 h2; subst h1 h2; exact hR
  | succ i => simp at h1⟩
section
variable {P : Program} {N : Nat} {kv : KV} {K : KV → World → Prop}
variable {d : Tmp} {ty : TypeId} {pos : String} {af : Array Edge} {g : Option (Nat × Bool)} {T bytes : Nat}
theorem OX.app (hT : AP P T E k bytes) {s x : Operand} {xs news : List Value} {a2 : Option Addr} {m c2 : Nat} (hd : Nat.blt d N = true) (hs : ev kv s = some (.slice a n c)) (hx : ev kv x = some (.slice a2 m c2))
  (hown : OL base w E k a n c xs) (hsrc : SL A w k a2 m c2 news) (hbytes : (n + m) * bytes ≤ 140737488355328) (hnm : n + m ≤ 140737488355328) (hbase : base ≤ w.heap.size)
  (h : ∀ a' c' w', OL base w' E k a' (n + m) c' (xs ++ news) → Chg (oblk a) w w' → (∀ x ∈ oblk a', x ∈ oblk a ∨ w.heap.size ≤ x) → (a' = none → a = none ∧ m = 0) → K ((d, .slice a' (n + m) c') :: kv) w') :
  OX P ⟨some d, .call { callee := .builtin .append, args := #[s, x], argTypes := #[T, T] }, ty, pos, af, g⟩ N kv w K := by
 refine ⟨rfl, hd, by simp [known, opers, hs, hx], ?_⟩
 obtain ⟨a', c', w', hr, h1, h2, h3, h4, _⟩ := run_app hT (ty := ty) hown hsrc hbytes hnm hbase
 have hr' : (execOp (lkO kv) ⟨some d, .call { callee := .builtin .append, args := #[s, x], argTypes := #[T, T] }, ty, pos, af, g⟩).run P w = .ok (.value (.slice a' (n + m) c')) w' := by
  simp only [execOp, resolve, invoke, builtin, Sem.run_bind, Sem.run_pure, Result.andThen_ok, List.map_toArray, List.map_cons, List.map_nil, lkO_of hs, lkO_of hx, hr]
 rw [hr']
 exact h _ _ _ h1 h2 h3 h4
/-- .. of things. -/
theorem OX.appR (hT : AP P T E k bytes) {s x : Operand} {a2 : Option Addr} {m c2 : Nat} (hd : Nat.blt d N = true) (hs : ev kv s = some (.slice a n c)) (hx : ev kv x = some (.slice a2 m c2))
  (hown : OR base w E k R a n c xs) (hsrc : SR A w k R a2 m c2 ys) (hbytes : (n + m) * bytes ≤ 140737488355328) (hnm : n + m ≤ 140737488355328) (hbase : base ≤ w.heap.size)
  (h : ∀ a' c' w', OR base w' E k R a' (n + m) c' (xs ++ ys) → Chg (oblk a) w w' → (∀ x ∈ oblk a', x ∈ oblk a ∨ w.heap.size ≤ x) → (a' = none → a = none ∧ m = 0) → K ((d, .slice a' (n + m) c') :: kv) w') :
  OX P ⟨some d, .call { callee := .builtin .append, args := #[s, x], argTypes := #[T, T] }, ty, pos, af, g⟩ N kv w K := by
 obtain ⟨hn, rows, hl, hk, hs1, hx1⟩ := hown
 obtain ⟨hn2, rows2, hl2, hk2, hs2, hx2⟩ := hsrc
 refine OX.app hT hd hs hx hs1 hs2 hbytes hnm hbase fun a' c' w' h1 h2 h3 h4 => h a' c' w' ⟨by simp [hn, hn2], rows ++ rows2, by simp [hl, hl2], ?_, by simpa using h1, ?_⟩ h2 h3 h4
 ·
  intro r hr
  rcases List.mem_append.1 hr with h | h
  ·
   exact hk r h
  ·
   exact hk2 r h
 ·
  intro i x r hi hr
  rcases Nat.lt_or_ge i xs.length with hlt | hge
  ·
   rw [List.getElem?_append_left hlt] at hi
   rw [List.getElem?_append_left (by omega)] at hr
   exact hx1 i x r hi hr
  ·
   rw [List.getElem?_append_right hge] at hi
   rw [List.getElem?_append_right (by omega)] at hr
   exact hx2 (i - xs.length) x r hi (by rw [← hl]; exact hr)
end
end Go.Rc

namespace Go.Rc
open Go
section
variable {κ : Type} [DecidableEq κ]
def mget : List (κ × Value) → κ → Option Value
 | [], _ => none
 | (k', v) :: r, k => if k' = k then some v else mget r k
def mput : List (κ × Value) → κ → Value → List (κ × Value)
 | [], k, v => [(k, v)]
 | (k', v') :: r, k, v => if k' = k then (k', v) :: r else (k', v') :: mput r k v
def mdel : List (κ × Value) → κ → List (κ × Value)
 | [], _ => []
 | (k', v') :: r, k => if k' = k then r else (k', v') :: mdel r k
def midx : List (κ × Value) → κ → Nat → Option (Nat × Value)
 | [], _, _ => none
 | (k', v) :: r, k, i => if k' = k then some (i, v) else midx r k (i + 1)
theorem mget_put (l : List (κ × Value)) (k k' : κ) (v : Value) : mget (mput l k v) k' = if k = k' then some v else mget l k' := by
 induction l with
 | nil => simp [mput, mget]
 | cons p r ih =>
  obtain ⟨k0, v0⟩ := p
  simp only [mput]
  by_cases h : k0 = k
  ·
   subst h; simp only [if_true, mget]; by_cases h2 : k0 = k' <;> simp [h2]
  ·
   rw [if_neg h]; simp only [mget, ih]
   by_cases h2 : k0 = k'
   ·
    subst h2; rw [if_pos rfl, if_pos rfl, if_neg (fun e => h e.symm)]
   ·
    simp [h2]
theorem mget_none {l : List (κ × Value)} {k : κ} : mget l k = none ↔ k ∉ l.map (·.1) := by
 induction l with
 | nil => simp [mget]
 | cons p r ih =>
  obtain ⟨k0, v0⟩ := p
  simp only [mget, List.map_cons, List.mem_cons, not_or]
  by_cases h : k0 = k
  ·
   subst h; simp
  ·
   rw [if_neg h, ih]; constructor
   ·
    exact fun h2 => ⟨fun e => h e.symm, h2⟩
   ·
    exact fun h2 => h2.2
theorem mput_keys (l : List (κ × Value)) (k : κ) (v : Value) : (mput l k v).map (·.1) = if k ∈ l.map (·.1) then l.map (·.1) else l.map (·.1) ++ [k] := by
 induction l with
 | nil => simp [mput]
 | cons p r ih =>
  obtain ⟨k0, v0⟩ := p
  simp only [mput]
  by_cases h : k0 = k
  ·
   subst h; simp
  ·
   rw [if_neg h]
   simp only [List.map_cons, ih, List.mem_cons, show ¬ (k = k0) from fun e => h e.symm, false_or]
   by_cases h2 : k ∈ r.map (·.1) <;> simp [h2]
theorem mput_nodup {l : List (κ × Value)} (hn : (l.map (·.1)).Nodup) (k : κ) (v : Value) : ((mput l k v).map (·.1)).Nodup := by
 rw [mput_keys]
 split
 ·
  exact hn
 ·
  rename_i h
  exact List.nodup_append.2 ⟨hn, by simp, fun a ha b hb e => by simp at hb; subst hb; subst e; exact h ha⟩
theorem midx_none : ∀ {l : List (κ × Value)} {k : κ} {i : Nat}, midx l k i = none → mget l k = none ∧ ∀ v, mput l k v = l ++ [(k, v)] := by
 intro l
 induction l with
 | nil => intro k i _; simp [mget, mput]
 | cons p r ih =>
  obtain ⟨k0, v0⟩ := p
  intro k i h
  simp only [midx] at h
  by_cases e : k0 = k
  ·
   rw [if_pos e] at h; cases h
  ·
   rw [if_neg e] at h
   obtain ⟨h1, h2⟩ := ih h
   simp [mget, mput, e, h1, h2]
theorem midx_some : ∀ {l : List (κ × Value)} {k : κ} {i j : Nat} {v : Value}, midx l k i = some (j, v) → ∃ m, j = i + m ∧ l[m]? = some (k, v) ∧ mget l k = some v ∧ (∀ u, mput l k u = l.set m (k, u)) ∧ mdel l k = l.eraseIdx m := by
 intro l
 induction l with
 | nil => intro k i j v h; cases h
 | cons p r ih =>
  obtain ⟨k0, v0⟩ := p
  intro k i j v h
  simp only [midx] at h
  by_cases e : k0 = k
  ·
   subst e
   rw [if_pos rfl] at h
   simp at h
   obtain ⟨rfl, rfl⟩ := h
   exact ⟨0, rfl, rfl, by simp [mget], by simp [mput], by simp [mdel]⟩
  ·
   rw [if_neg e] at h
   obtain ⟨m, h1, h2, h3, h4, h5⟩ := ih h
   exact ⟨m + 1, by omega, by simpa using h2, by simp [mget, e, h3], fun u => by simp [mput, e, h4 u], by simp [mdel, e, h5]⟩
theorem mdel_none {l : List (κ × Value)} {k : κ} (h : mget l k = none) : mdel l k = l := by
 induction l with
 | nil => rfl
 | cons p r ih =>
  obtain ⟨k0, v0⟩ := p
  simp only [mget] at h
  by_cases e : k0 = k
  ·
   rw [if_pos e] at h; cases h
  ·
   rw [if_neg e] at h; simp [mdel, e, ih h]
theorem mget_del {l : List (κ × Value)} (hn : (l.map (·.1)).Nodup) (k k' : κ) : mget (mdel l k) k' = if k = k' then none else mget l k' := by
 induction l with
 | nil => simp [mdel, mget]
 | cons p r ih =>
  obtain ⟨k0, v0⟩ := p
  simp only [List.map_cons, List.nodup_cons] at hn
  simp only [mdel]
  by_cases h : k0 = k
  ·
   subst h
   rw [if_pos rfl]
   by_cases h2 : k0 = k'
   ·
    subst h2; rw [if_pos rfl]; exact mget_none.2 hn.1
   ·
    simp [mget, h2]
  ·
   rw [if_neg h]
   simp only [mget, ih hn.2]
   by_cases h2 : k0 = k'
   ·
    subst h2; rw [if_pos rfl, if_pos rfl, if_neg (fun e => h e.symm)]
   ·
    simp [h2]
theorem mdel_sub (l : List (κ × Value)) (k : κ) : (mdel l k).Sublist l := by
 induction l with
 | nil => simp [mdel]
 | cons p r ih =>
  obtain ⟨k0, v0⟩ := p
  simp only [mdel]
  split
  ·
   exact List.sublist_cons_self _ _
  ·
   exact ih.cons_cons _
end
/-- Keys of a type. -/
structure KK (P : Program) (kt : TypeId) {κ : Type} [DecidableEq κ] (enc : κ → Value) : Prop where
 check : ∀ em k w, (Instr.checkKey em 10000 kt (enc k)).run P w = .ok () w
 find : ∀ (l : List (κ × Value)) (es : List MapEntry) k w, es.map (fun e => (e.key, e.val)) = l.map (fun p => (enc p.1, p.2)) → (Instr.findKey kt (enc k) es).run P w = .ok (midx l k 0) w
 same : ∀ k, Instr.sameBits 10000 (enc k) (enc k) = true
 inj : ∀ k k', enc k = enc k' → k = k'
/-- A map that lies in a block, with its entries in order. -/
def KM {κ : Type} (enc : κ → Value) (w : World) (b : Nat) (l : List (κ × Value)) : Prop :=
 ∃ es clock, w.heap[b]? = some (.map es clock) ∧ es.toList.map (fun e => (e.key, e.val)) = l.map (fun p => (enc p.1, p.2)) ∧ (l.map (·.1)).Nodup ∧ (∀ e ∈ es.toList, e.born < clock) ∧ (es.toList.map (·.born)).Nodup
section
variable {κ : Type} [DecidableEq κ] {enc : κ → Value} {P : Program} {kt : TypeId} {w w' : World} {b : Nat} {l : List (κ × Value)}
omit [DecidableEq κ] in
theorem KM.lt (h : KM enc w b l) : b < w.heap.size := by obtain ⟨es, c, h, _⟩ := h; exact (Array.getElem?_eq_some_iff.1 h).1
omit [DecidableEq κ] in
theorem KM.chg {S : List Nat} (h : KM enc w b l) (c : Chg S w w') (hS : b ∉ S) : KM enc w' b l := by
 obtain ⟨es, cl, h, r⟩ := h; exact ⟨es, cl, c.get h hS, r⟩
omit [DecidableEq κ] in
theorem KM.ext (h : KM enc w b l) (c : Chg [] w w') : KM enc w' b l := h.chg c (by simp)
omit [DecidableEq κ] in
theorem KM.nodup (h : KM enc w b l) : (l.map (·.1)).Nodup := by obtain ⟨_, _, _, _, h, _⟩ := h; exact h
theorem chg_set (w : World) (b : Nat) (o : Obj) : Chg [b] w { w with heap := w.heap.setIfInBounds b o } :=
 ⟨rfl, rfl, rfl, by simp, fun k _ hk => by simp at hk; simp [Array.getElem?_setIfInBounds_ne (fun e => hk e.symm)]⟩
variable {n : Nat} {kv : KV} {K : KV → World → Prop}
variable {d : Tmp} {ty : TypeId} {pos : String} {af : Array Edge} {g : Option (Nat × Bool)} {T e : TypeId}
omit [DecidableEq κ] in
theorem OX.makeMap (enc : κ → Value) (hd : Nat.blt d n = true) (h : ∀ b w', New w w' b → KM enc w' b [] → K ((d, .map (some b)) :: kv) w') : OX P ⟨some d, .makeMap T none, ty, pos, af, g⟩ n kv w K := by
 refine ⟨rfl, hd, by simp [known, opers], ?_⟩
 have hr : (execOp (lkO kv) ⟨some d, .makeMap T none, ty, pos, af, g⟩).run P w = .ok (.value (.map (some w.heap.size))) (w.alloc (.map #[] 0)) := by
  simp only [execOp, Instr.makeMap, Option.map_none]; rfl
 rw [hr]
 exact h _ _ ⟨chg_alloc _ _, Nat.le_refl _, by simp⟩ ⟨#[], 0, alloc_get _ _, by simp⟩
/-- Lookup. -/
theorem run_look (hK : KK P kt enc) (hT : P.underlying T = some (.map kt e)) {z : Value} (hz : ∀ w, (zeroValue e).run P w = .ok z w) (hb : KM enc w b l) (k : κ) (ok : Bool) :
  (Instr.lookup T (.map (some b)) (enc k) ok).run P w = .ok (if ok then .tuple #[(mget l k).getD z, .bool (mget l k).isSome] else (mget l k).getD z) w := by
 obtain ⟨es, clock, hm, he, _⟩ := hb
 simp only [Instr.lookup, Sem.run_bind, run_underlying hT, Result.andThen_ok, MapKept.run_getObj_map hm, Sem.run_pure, hK.check, hK.find l es.toList k w he]
 cases hx : midx l k 0 with
 | none =>
  have := (midx_none hx).1
  simp only [this]
  simp [hz w]
 | some p =>
  obtain ⟨j, v⟩ := p
  obtain ⟨m, _, _, h3, _⟩ := midx_some hx
  simp only [h3]
  simp
theorem PV.look (hK : KK P kt enc) (hT : P.underlying T = some (.map kt e)) {z : Value} (hz : ∀ w, (zeroValue e).run P w = .ok z w) (hb : KM enc w b l) {x y : Operand} {k : κ} (hx : ev kv x = some (.map (some b))) (hy : ev kv y = some (enc k)) :
  PV P (.lookup T x y false) ty kv w ((mget l k).getD z) :=
 ⟨rfl, by simp [known, opers, hx, hy], fun _ _ _ _ => by simp only [execOp, lkO_of hx, lkO_of hy, Sem.run_bind, run_look hK hT hz hb k false, Result.andThen_ok]; rfl⟩
theorem PV.lookOk (hK : KK P kt enc) (hT : P.underlying T = some (.map kt e)) {z : Value} (hz : ∀ w, (zeroValue e).run P w = .ok z w) (hb : KM enc w b l) {x y : Operand} {k : κ} (hx : ev kv x = some (.map (some b))) (hy : ev kv y = some (enc k)) :
  PV P (.lookup T x y true) ty kv w (.tuple #[(mget l k).getD z, .bool (mget l k).isSome]) :=
 ⟨rfl, by simp [known, opers, hx, hy], fun _ _ _ _ => by simp only [execOp, lkO_of hx, lkO_of hy, Sem.run_bind, run_look hK hT hz hb k true, Result.andThen_ok]; rfl⟩
omit [DecidableEq κ] in
theorem map_set_entries {u : Value} (es : Array MapEntry) (m : Nat) (k : κ) (v : Value) (f : MapEntry → MapEntry) (hf : ∀ e, (f e).key = enc k ∧ (f e).val = u ∧ (f e).born = e.born)
  (he : es.toList.map (fun e => (e.key, e.val)) = l.map (fun p => (enc p.1, p.2))) (hm : l[m]? = some (k, v)) :
  (es.modify m f).toList.map (fun e => (e.key, e.val)) = (l.set m (k, u)).map (fun p => (enc p.1, p.2)) ∧ (es.modify m f).toList.map (·.born) = es.toList.map (·.born) := by
 have hlen : es.toList.length = l.length := by simpa using congrArg List.length he
 have hml : m < l.length := (List.getElem?_eq_some_iff.1 hm).1
 constructor
 ·
  apply List.ext_getElem?
  intro i
  have hi := congrArg (fun x => x[i]?) he
  simp only [List.getElem?_map, Array.getElem?_toList] at hi ⊢
  rw [Array.getElem?_modify]
  by_cases e : m = i
  ·
   subst e
   have hms : m < es.size := by simpa using (by omega : m < es.toList.length)
   simp [hml, hf, hms]
  ·
   simp [e, hi]
 ·
  apply List.ext_getElem?
  intro i
  simp only [List.getElem?_map, Array.getElem?_toList]
  rw [Array.getElem?_modify]
  by_cases e : m = i
  ·
   subst e
   rw [if_pos rfl]
   cases hx : es[m]? <;> simp [hf]
  ·
   simp [e]
/-- Put. -/
theorem run_put (hK : KK P kt enc) (hT : P.underlying T = some (.map kt e)) (hb : KM enc w b l) (k : κ) (v : Value) :
  ∃ w', (Instr.mapUpdate T (.map (some b)) (enc k) v).run P w = .ok () w' ∧ Chg [b] w w' ∧ KM enc w' b (mput l k v) := by
 obtain ⟨es, clock, hm, he, hn, hbo, hbn⟩ := hb
 have hbs : b < w.heap.size := (Array.getElem?_eq_some_iff.1 hm).1
 cases hx : midx l k 0 with
 | none =>
  obtain ⟨h1, h2⟩ := midx_none hx
  refine ⟨_, ?_, chg_set w b (.map (es.push { key := enc k, val := v, born := clock }) (clock + 1)), ?_⟩
  ·
   simp only [Instr.mapUpdate, Sem.run_bind, run_underlying hT, Result.andThen_ok, MapKept.run_getObj_map hm, hK.check, hK.find l es.toList k w he, hx, MapKept.run_setObj_map _ hm]
  ·
   refine ⟨_, _, by first | (simp [hbs]; done) | (simp [hbs]; exact ⟨rfl, rfl⟩), ?_, mput_nodup hn k v, ?_, ?_⟩
   ·
    rw [h2]; simp [he]
   ·
    intro x hx
    simp at hx
    rcases hx with hx | rfl
    ·
     have := hbo x (by simpa using hx); omega
    ·
     simp
   ·
    simp only [Array.toList_push, List.map_append, List.map_cons, List.map_nil]
    refine List.nodup_append.2 ⟨hbn, by simp, fun a ha c hc e => ?_⟩
    simp only [List.mem_cons, List.not_mem_nil, or_false] at hc
    obtain ⟨x, hx, rfl⟩ := List.mem_map.1 ha
    have := hbo x hx
    omega
 | some p =>
  obtain ⟨j, v0⟩ := p
  obtain ⟨m, h1, h2, h3, h4, _⟩ := midx_some hx
  have hjm : j = m := by omega
  subst hjm
  have hkey : (((es[j]?).map (·.key)).getD (enc k)) = enc k := by
   have := congrArg (fun x => x[j]?) he
   simp only [List.getElem?_map, Array.getElem?_toList, h2, Option.map_some] at this
   cases hy : es[j]? with
   | none => rfl
   | some y => rw [hy] at this; simp at this; simp [this.1]
  refine ⟨_, ?_, chg_set w b (.map (es.modify j fun e => { e with key := enc k, val := v }) clock), ?_⟩
  ·
   simp only [Instr.mapUpdate, Sem.run_bind, run_underlying hT, Result.andThen_ok, MapKept.run_getObj_map hm, hK.check, hK.find l es.toList k w he, hx, Instr.keyThatStays, hkey, hK.same, if_true, Sem.run_pure, MapKept.run_setObj_map _ hm]
  ·
   obtain ⟨h5, h6⟩ := map_set_entries (u := v) es j k v0 (fun e => { e with key := enc k, val := v }) (fun e => ⟨rfl, rfl, rfl⟩) he h2
   refine ⟨_, _, by first | (simp [hbs]; done) | (simp [hbs]; exact ⟨rfl, rfl⟩), by rw [h4]; exact h5, mput_nodup hn k v, ?_, by rw [h6]; exact hbn⟩
   intro x hx
   have : x.born ∈ (es.modify j fun e => { e with key := enc k, val := v }).toList.map (·.born) := List.mem_map.2 ⟨x, hx, rfl⟩
   rw [h6] at this
   obtain ⟨y, hy, e⟩ := List.mem_map.1 this
   rw [← e]; exact hbo y hy
theorem OX.put (hK : KK P kt enc) (hT : P.underlying T = some (.map kt e)) (hb : KM enc w b l) {x y u : Operand} {k : κ} {v : Value} (hx : ev kv x = some (.map (some b))) (hy : ev kv y = some (enc k)) (hu : ev kv u = some v)
  (h : ∀ w', Chg [b] w w' → KM enc w' b (mput l k v) → K kv w') : OX P ⟨none, .mapUpdate T x y u, ty, pos, af, g⟩ n kv w K := by
 obtain ⟨w', hr, h1, h2⟩ := run_put hK hT hb k v
 refine ⟨rfl, rfl, by simp [known, opers, hx, hy, hu], ?_⟩
 have hr' : (execOp (lkO kv) ⟨none, .mapUpdate T x y u, ty, pos, af, g⟩).run P w = .ok .skip w' := by
  simp only [execOp, lkO_of hx, lkO_of hy, lkO_of hu, Sem.run_bind, hr, Result.andThen_ok]; rfl
 rw [hr']
 exact h _ h1 h2
theorem OX.ins (hK : KK P kt enc) (hT : P.underlying T = some (.map kt e)) (hb : KM enc w b l) {x y u : Operand} {k : κ} {v : Value} (hx : ev kv x = some (.map (some b))) (hy : ev kv y = some (enc k)) (hu : ev kv u = some v)
  (h : ∀ w', Chg [b] w w' → KM enc w' b (mput l k v) → K kv w') : OX P ⟨none, .insert T x y u, ty, pos, af, g⟩ n kv w K := by
 obtain ⟨w', hr, h1, h2⟩ := run_put hK hT hb k v
 refine ⟨rfl, rfl, by simp [known, opers, hx, hy, hu], ?_⟩
 have hr' : (execOp (lkO kv) ⟨none, .insert T x y u, ty, pos, af, g⟩).run P w = .ok .skip w' := by
  simp only [execOp, lkO_of hx, lkO_of hy, lkO_of hu, Sem.run_bind, hr, Result.andThen_ok]; rfl
 rw [hr']
 exact h _ h1 h2
/-- Delete. -/
theorem run_del (hK : KK P kt enc) (hT : P.underlying T = some (.map kt e)) (hb : KM enc w b l) (k : κ) (T2 : TypeId) :
  ∃ w', (Builtin.delete_ #[T, T2] ty #[.map (some b), enc k]).run P w = .ok (.tuple #[]) w' ∧ Chg [b] w w' ∧ KM enc w' b (mdel l k) := by
 obtain ⟨es, clock, hm, he, hn, hbo, hbn⟩ := hb
 have hbs : b < w.heap.size := (Array.getElem?_eq_some_iff.1 hm).1
 cases hx : midx l k 0 with
 | none =>
  obtain ⟨h1, h2⟩ := midx_none hx
  refine ⟨_, ?_, chg_set w b (.map es clock), ?_⟩
  ·
   simp [Builtin.delete_, run_underlying hT, MapKept.run_getObj_map hm, hK.check, hK.find l es.toList k w he, hx, MapKept.run_setObj_map _ hm]
  ·
   rw [mdel_none h1]
   exact ⟨_, _, by first | (simp [hbs]; done) | (simp [hbs]; exact ⟨rfl, rfl⟩), he, hn, hbo, hbn⟩
 | some p =>
  obtain ⟨j, v0⟩ := p
  obtain ⟨m, h1, h2, h3, _, h4⟩ := midx_some hx
  have hjm : j = m := by omega
  subst hjm
  refine ⟨_, ?_, chg_set w b (.map (es.eraseIdxIfInBounds j) clock), ?_⟩
  ·
   simp [Builtin.delete_, run_underlying hT, MapKept.run_getObj_map hm, hK.check, hK.find l es.toList k w he, hx, MapKept.run_setObj_map _ hm]
  ·
   have hes : (es.eraseIdxIfInBounds j).toList = es.toList.eraseIdx j := by
    by_cases h : j < es.size
    ·
     simp [Array.eraseIdxIfInBounds, h]
    ·
     rw [List.eraseIdx_of_length_le (by simpa using h)]; simp [Array.eraseIdxIfInBounds, h]
   refine ⟨_, _, by first | (simp [hbs]; done) | (simp [hbs]; exact ⟨rfl, rfl⟩), ?_, ?_, ?_, ?_⟩
   ·
    rw [hes, h4]
    have e1 : ∀ {α β : Type} (f : α → β) (L : List α) (i : Nat), (L.eraseIdx i).map f = (L.map f).eraseIdx i := fun f L => by
     induction L with
     | nil => intro i; rfl
     | cons x r ih => intro i; cases i <;> simp [ih]
    rw [e1, e1, he]
   ·
    exact ((mdel_sub l k).map _).nodup hn
   ·
    intro x hx; rw [hes] at hx; exact hbo x (List.mem_of_mem_eraseIdx hx)
   ·
    rw [hes]; exact ((List.eraseIdx_sublist _ _).map _).nodup hbn
theorem OX.del (hK : KK P kt enc) (hT : P.underlying T = some (.map kt e)) (hb : KM enc w b l) {x y : Operand} {k : κ} {T2 : TypeId} (hx : ev kv x = some (.map (some b))) (hy : ev kv y = some (enc k))
  (h : ∀ w', Chg [b] w w' → KM enc w' b (mdel l k) → K kv w') : OX P ⟨none, .call { callee := .builtin .delete, args := #[x, y], argTypes := #[T, T2] }, ty, pos, af, g⟩ n kv w K := by
 obtain ⟨w', hr, h1, h2⟩ := run_del (ty := ty) hK hT hb k T2
 refine ⟨rfl, rfl, by simp [known, opers, hx, hy], ?_⟩
 have hr' : (execOp (lkO kv) ⟨none, .call { callee := .builtin .delete, args := #[x, y], argTypes := #[T, T2] }, ty, pos, af, g⟩).run P w = .ok (.value (.tuple #[])) w' := by
  simp only [execOp, resolve, invoke, builtin, Sem.run_bind, Sem.run_pure, Result.andThen_ok, List.map_toArray, List.map_cons, List.map_nil, lkO_of hx, lkO_of hy, hr]
 rw [hr']
 exact h _ h1 h2
omit [DecidableEq κ] in
/-- The number of entries. -/
theorem PV.lenM (hT : P.underlying T = some (.map kt e)) (hb : KM enc w b l) {x : Operand} (hx : ev kv x = some (.map (some b))) :
  PV P (.call { callee := .builtin .len, args := #[x], argTypes := #[T] }) ty kv w (.int .i64 (l.length : Int)) := by
 obtain ⟨es, clock, hm, he, _⟩ := hb
 have hlen : es.size = l.length := by simpa using congrArg List.length he
 refine ⟨rfl, by simp [known, opers, hx], fun _ _ _ _ => ?_⟩
 simp only [execOp, resolve, invoke, builtin, Sem.run_bind, Sem.run_pure, Result.andThen_ok, List.map_toArray, List.map_cons, List.map_nil, lkO_of hx]
 simp [Builtin.len_, MapKept.run_getObj_map hm, hlen, run_underlying hT]
 rfl
end
/-! ### keys of whole numbers, and of structs of an int and a string -/
theorem KK_key {P : Program} {kt : TypeId} {f0 f1 : Field} (hu : P.underlying kt = some (.struct #[f0, f1])) (hK : KeyT P kt) (hch : ∀ em (k : Key) w, (Instr.checkKey em 10000 kt k.val).run P w = .ok () w) : KK P kt Key.val where
 check := hch
 same k := by
  have : ∀ n, Instr.sameBits (n + 1) k.val k.val = true := fun n => by simp [Key.val, Instr.sameBits, MapKept.bytes_beq]
  exact this 9999
 inj k k' h := by cases k; cases k'; simpa [Key.val] using h
 find l es k w he := by
  have hnow : ∀ (es : List MapEntry), es ≠ [] → (∃ a, Instr.findNow (.struct #[f0, f1]) k.val es 0 = a ∧ a = none) := by
   intro es hne
   cases es with
   | nil => exact absurd rfl hne
   | cons x xs => exact ⟨_, rfl, by simp [Instr.findNow, Instr.sameNow]⟩
  have key : ∀ (l : List (Key × Value)) (es : List MapEntry) (i : Nat), es.map (fun e => (e.key, e.val)) = l.map (fun p => (p.1.val, p.2)) → (Instr.findAsking kt k.val es i).run P w = .ok (midx l k i) w := by
   intro l
   induction l with
   | nil =>
    intro es i he
    have : es = [] := by simpa using he
    subst this; rfl
   | cons p r ih =>
    intro es i he
    cases es with
    | nil => simp at he
    | cons x xs =>
     simp at he
     obtain ⟨⟨h1, h2⟩, h3⟩ := he
     have heq : (Op.equal kt k.val x.key).run P w = .ok (decide (k = p.1)) w := by
      rw [h1]
      have := hK.eq k.kind p.1.kind k.text p.1.text w
      simp only [Key.val]
      have e : (decide (k.kind = p.1.kind) && decide (k.text = p.1.text)) = decide (k = p.1) := by
       obtain ⟨a, s⟩ := k; obtain ⟨q, _⟩ := p; obtain ⟨b, t⟩ := q; simp [Bool.decide_and]
      rw [e] at this
      exact this
     simp only [Instr.findAsking, Sem.run_bind, heq, Result.andThen_ok, midx]
     by_cases e : k = p.1
     ·
      simp [e, h2]
     ·
      rw [if_neg (by simpa using e), if_neg (fun h => e h.symm)]
      exact ih xs (i + 1) h3
  simp only [Instr.findKey, Sem.run_bind, run_underlying hu, Result.andThen_ok]
  cases es with
  | nil =>
   have : l = [] := by simpa using he.symm
   subst this; rfl
  | cons x xs =>
   obtain ⟨a, h1, h2⟩ := hnow (x :: xs) (by simp)
   rw [h1, h2]
   exact key l _ 0 he
end Go.Rc

namespace Go.Rc
open Go
section
variable {α : Type} {A : Nat → Prop} {w w' : World} {k n c : Nat} {a : Option Addr} {cs : List Value} {R : α → List Value → Prop} {xs : List α}
variable {P : Program} {N : Nat} {kv : KV} {K : KV → World → Prop}
variable {d : Tmp} {ty : TypeId} {pos : String} {af : Array Edge} {g : Option (Nat × Bool)} {T E : TypeId}
/-- Where a part of a slice begins. -/
def dropA (a : Option Addr) (i k c : Nat) : Option Addr := if c = i then a else a.map fun x => ⟨x.block, x.off + i * k, x.spot⟩
theorem dropA_eq {i k c : Nat} (hs : ∀ x, a = some x → x.spot = none) : (if c = i then a else a.map fun x => x.add (i * k)) = dropA a i k c := by
 unfold dropA
 cases a with
 | none => rfl
 | some x =>
  obtain ⟨b, o, s⟩ := x
  have := hs _ rfl
  simp at this
  subst this
  simp [Addr.add_at]
theorem SL.spot (h : SL A w k a n c cs) : ∀ x, a = some x → x.spot = none := by
 intro x hx
 rcases h.at_ with ⟨rfl, _⟩ | ⟨b, o, rfl, _⟩
 ·
  cases hx
 ·
  simp at hx; subst hx; rfl
theorem SL.le_c (h : SL A w k a n c cs) : n ≤ c := by
 rcases h.at_ with ⟨_, rfl, rfl⟩ | ⟨_, _, _, h, _⟩
 ·
  omega
 ·
  exact h
theorem run_sliceH (hT : SlT P T E k) {i : Nat} (hi : i ≤ c) (hs : ∀ x, a = some x → x.spot = none) : (Instr.sliceAt T (.slice a n c) none (some (.int .i64 (i : Int))) none).run P w = .ok (.slice a i c) w := by
 have e : (if c = 0 then a else a.map fun x => x.add (0 * k)) = a := by
  cases a with
  | none => simp
  | some x => obtain ⟨b, o, s⟩ := x; have := hs _ rfl; simp at this; subst this; simp [Addr.add_at]
 simp only [Instr.sliceAt, Instr.slice, Sem.run_bind, run_underlying hT.und, Result.andThen_ok, Instr.sliceBounds, Sem.run_pure]
 rw [run_sliceBound (P := P) _ _ _ _ _ (by omega) (by omega)]
 simp only [Result.andThen_ok, Int.toNat_natCast, Nat.sub_zero, hT.size w]
 rw [e]
theorem run_sliceL (hT : SlT P T E k) {i : Nat} (hi : i ≤ n) (hs : ∀ x, a = some x → x.spot = none) : (Instr.sliceAt T (.slice a n c) (some (.int .i64 (i : Int))) none none).run P w = .ok (.slice (dropA a i k c) (n - i) (c - i)) w := by
 simp only [Instr.sliceAt, Instr.slice, Sem.run_bind, run_underlying hT.und, Result.andThen_ok, Instr.sliceBounds, Sem.run_pure, Option.isSome_none, Bool.false_eq_true, if_false]
 rw [run_sliceBound (P := P) _ _ _ _ _ (by omega) (by omega)]
 simp only [Result.andThen_ok, Int.toNat_natCast, hT.size w]
 rw [← dropA_eq hs]
theorem PV.sliceH (hT : SlT P T E k) {x y : Operand} {i : Nat} (h : SR A w k R a n c xs) (hx : ev kv x = some (.slice a n c)) (hy : ev kv y = some (.int .i64 (i : Int))) (hi : i ≤ n) : PV P (.slice T x none (some y) none) ty kv w (.slice a i c) := by
 obtain ⟨_, rows, _, _, hs, _⟩ := h
 refine ⟨rfl, by simp [known, opers, hx, hy], fun _ _ _ _ => ?_⟩
 have := hs.le_c
 simp only [execOp, lkO_of hx, lkO_of hy, Option.map_none, Option.map_some, Sem.run_bind, run_sliceH hT (show i ≤ c by omega) hs.spot, Result.andThen_ok]; rfl
theorem PV.sliceL (hT : SlT P T E k) {x y : Operand} {i : Nat} (h : SR A w k R a n c xs) (hx : ev kv x = some (.slice a n c)) (hy : ev kv y = some (.int .i64 (i : Int))) (hi : i ≤ n) : PV P (.slice T x (some y) none none) ty kv w (.slice (dropA a i k c) (n - i) (c - i)) := by
 obtain ⟨_, rows, _, _, hs, _⟩ := h
 refine ⟨rfl, by simp [known, opers, hx, hy], fun _ _ _ _ => ?_⟩
 simp only [execOp, lkO_of hx, lkO_of hy, Option.map_none, Option.map_some, Sem.run_bind, run_sliceL hT hi hs.spot, Result.andThen_ok]; rfl
theorem flatten_take : ∀ (rows : List (List Value)) (k i : Nat), (∀ r ∈ rows, r.length = k) → i ≤ rows.length → (rows.take i).flatten = rows.flatten.take (i * k) := by
 intro rows
 induction rows with
 | nil => intro k i _ h; simp at h; subst h; simp
 | cons x xs ih =>
  intro k i hk hi
  cases i with
  | zero => simp
  | succ i =>
   have hx : x.length = k := hk x (by simp)
   simp only [List.take_succ_cons, List.flatten_cons]
   have h1 : x.take (i * k + k) = x := List.take_of_length_le (by omega)
   rw [ih k i (fun r hr => hk r (by simp [hr])) (by simpa using hi), List.take_append, Nat.succ_mul, h1]
   congr 2
   omega
theorem flatten_drop : ∀ (rows : List (List Value)) (k i : Nat), (∀ r ∈ rows, r.length = k) → i ≤ rows.length → (rows.drop i).flatten = rows.flatten.drop (i * k) := by
 intro rows
 induction rows with
 | nil => intro k i _ h; simp at h; subst h; simp
 | cons x xs ih =>
  intro k i hk hi
  cases i with
  | zero => simp
  | succ i =>
   have hx : x.length = k := hk x (by simp)
   simp only [List.drop_succ_cons, List.flatten_cons]
   have h1 : x.drop (i * k + k) = [] := List.drop_of_length_le (by omega)
   rw [ih k i (fun r hr => hk r (by simp [hr])) (by simpa using hi), List.drop_append, Nat.succ_mul, h1]
   simp only [List.nil_append]
   congr 1
   omega
theorem SR.take (h : SR A w k R a n c xs) {i : Nat} (hi : i ≤ n) : SR A w k R a i c (xs.take i) := by
 obtain ⟨hn, rows, hl, hk, hs, hx⟩ := h
 refine ⟨by simp; omega, rows.take i, by simp [hl], fun r hr => hk r (List.mem_of_mem_take hr), ?_, ?_⟩
 ·
  rw [flatten_take rows k i hk (by omega)]
  refine ⟨by rw [List.length_take, hs.len]; exact Nat.min_eq_left (Nat.mul_le_mul_right _ hi), by have := hs.le; omega, fun u hu => hs.one u (List.mem_of_mem_take hu), ?_⟩
  rcases hs.at_ with ⟨h1, h2, h3⟩ | ⟨b, o, h1, h2, h3, h4, h5, h6⟩
  ·
   exact .inl ⟨h1, by omega, h3⟩
  ·
   refine .inr ⟨b, o, h1, by omega, h3, h4, h5, fun j v hv => h6 j v ?_⟩
   rw [List.getElem?_take] at hv
   split at hv
   ·
    exact hv
   ·
    cases hv
 ·
  intro j x r h1 h2
  rw [List.getElem?_take] at h1 h2
  split at h1
  ·
   rename_i h; rw [if_pos h] at h2; exact hx j x r h1 h2
  ·
   cases h1
theorem SR.drop (h : SR A w k R a n c xs) {i : Nat} (hi : i ≤ n) : SR A w k R (dropA a i k c) (n - i) (c - i) (xs.drop i) := by
 obtain ⟨hn, rows, hl, hk, hs, hx⟩ := h
 refine ⟨by simp; omega, rows.drop i, by simp [hl], fun r hr => hk r (List.mem_of_mem_drop hr), ?_, ?_⟩
 ·
  rw [flatten_drop rows k i hk (by omega)]
  refine ⟨by rw [List.length_drop, hs.len, Nat.sub_mul], by have := hs.le; omega, fun u hu => hs.one u (List.mem_of_mem_drop hu), ?_⟩
  rcases hs.at_ with ⟨h1, h2, h3⟩ | ⟨b, o, h1, h2, h3, h4, h5, h6⟩
  ·
   refine .inl ⟨?_, by omega, by omega⟩
   subst h1; unfold dropA; split <;> rfl
  ·
   by_cases e : c = i
   ·
    refine .inr ⟨b, o, by rw [dropA, if_pos e]; exact h1, by omega, by omega, h4, h5, fun j v hv => ?_⟩
    have : n = i := by omega
    have : (rows.flatten.drop (i * k)) = [] := List.drop_eq_nil_of_le (by rw [hs.len, this]; exact Nat.le_refl _)
    rw [this] at hv; simp at hv
   ·
    refine .inr ⟨b, o + i * k, by rw [dropA, if_neg e, h1]; rfl, by omega, by omega, h4, h5, fun j v hv => ?_⟩
    rw [Nat.add_assoc]
    exact h6 (i * k + j) v (by simpa using hv)
 ·
  intro j x r h1 h2
  rw [List.getElem?_drop] at h1 h2
  exact hx _ x r h1 h2
/-- A part of a struct's value. -/
theorem PV.fieldOf {f off : Nat} {fs : Array Field} {fd : Field} (hu : P.underlying T = some (.struct fs)) (hf : fs[f]? = some fd) (ho : fd.offset = off) (h1 : ∀ w, (isAgg fd.type).run P w = .ok false w)
  {x : Operand} {us : List Value} {v : Value} (hx : ev kv x = some (.agg us.toArray)) (hv : us[off]? = some v) : PV P (.field T x f) ty kv w v := by
 subst ho
 refine ⟨rfl, by simp [known, opers, hx], fun _ _ _ _ => ?_⟩
 simp [execOp, lkO_of hx, Instr.field, run_underlying hu, hf, part, h1 w, asAgg, hv]
theorem PV.maxI {x y : Operand} {p q : Int} {i : IntKind} {ats : Array TypeId} (hx : ev kv x = some (.int i p)) (hy : ev kv y = some (.int i q)) : PV P (.call { callee := .builtin .max, args := #[x, y], argTypes := ats }) ty kv w (.int i (max p q)) := by
 refine ⟨rfl, by simp [known, opers, hx, hy], fun _ _ _ _ => ?_⟩
 simp only [execOp, resolve, invoke, builtin, Sem.run_bind, Sem.run_pure, Result.andThen_ok, List.map_toArray, List.map_cons, List.map_nil, lkO_of hx, lkO_of hy]
 have : (if q > p then q else p) = max p q := by rw [Int.max_def]; split <;> split <;> omega
 simp [Builtin.max_, Builtin.max2, this]
/-- A function as a value. -/
theorem PV.func {fn : Fn} {fs cs : List Operand} {us vs : List Value} (hf : fs.map (ev kv) = us.map some) (hc : cs.map (ev kv) = vs.map some) : PV P (.makeFunc fn fs.toArray cs.toArray) ty kv w (.func fn us.toArray vs.toArray) := by
 have key : ∀ (l : List Operand) (vs : List Value), l.map (ev kv) = vs.map some → l.map (lkO kv) = vs ∧ ∀ x ∈ l, (ev kv x).isSome = true := by
  intro l
  induction l with
  | nil => intro vs h; simp at h; simp [h]
  | cons x r ih =>
   intro vs h
   cases vs with
   | nil => simp at h
   | cons v vs =>
    simp at h
    obtain ⟨h1, h2⟩ := ih vs h.2
    exact ⟨by simp [lkO_of h.1, h1], fun y hy => by rcases List.mem_cons.1 hy with rfl | hy; simp [h.1]; exact h2 y hy⟩
 obtain ⟨h1, h2⟩ := key fs us hf
 obtain ⟨h3, h4⟩ := key cs vs hc
 refine ⟨rfl, ?_, fun _ _ _ _ => ?_⟩
 ·
  simp only [known, opers]
  simp only [List.all_eq_true]
  intro x hx
  simp at hx
  rcases hx with hx | hx
  ·
   exact h2 x hx
  ·
   exact h4 x hx
 ·
  simp only [execOp, Instr.makeFunc, List.map_toArray, h1, h3]; rfl
end
/-! ### places in maps -/
/-- .. and the entry of k has the stamp st. -/
def KE {κ : Type} (enc : κ → Value) (w : World) (b : Nat) (l : List (κ × Value)) (k : κ) (st : Nat) : Prop :=
 ∃ es clock, w.heap[b]? = some (Obj.map es clock) ∧ es.toList.map (fun e => (e.key, e.val)) = l.map (fun p => (enc p.1, p.2)) ∧ (l.map (·.1)).Nodup ∧ (∀ e ∈ es.toList, e.born < clock) ∧ (es.toList.map (·.born)).Nodup ∧
  ∃ (m : Nat) (e : MapEntry) (v : Value), es.toList[m]? = some e ∧ e.born = st ∧ l[m]? = some (k, v)
section
variable {κ : Type} [DecidableEq κ] {enc : κ → Value} {P : Program} {kt : TypeId} {w w' : World} {b : Nat} {l : List (κ × Value)}
variable {n : Nat} {kv : KV} {K : KV → World → Prop}
variable {d : Tmp} {ty : TypeId} {pos : String} {af : Array Edge} {g : Option (Nat × Bool)} {T e : TypeId}
omit [DecidableEq κ] in
theorem KE.km {k : κ} {st : Nat} (h : KE enc w b l k st) : KM enc w b l := by obtain ⟨es, c, h1, h2, h3, h4, h5, _⟩ := h; exact ⟨es, c, h1, h2, h3, h4, h5⟩
omit [DecidableEq κ] in
theorem KE.chg {S : List Nat} {k : κ} {st : Nat} (h : KE enc w b l k st) (c : Chg S w w') (hS : b ∉ S) : KE enc w' b l k st := by
 obtain ⟨es, cl, h, r⟩ := h; exact ⟨es, cl, c.get h hS, r⟩
theorem mput_at : ∀ {l : List (κ × Value)} {m : Nat} {k : κ} {v : Value}, (l.map (·.1)).Nodup → l[m]? = some (k, v) → ∀ u, mput l k u = l.set m (k, u) := by
 intro l
 induction l with
 | nil => intro m k v _ h; simp at h
 | cons p r ih =>
  obtain ⟨k0, v0⟩ := p
  intro m k v hn h u
  simp only [List.map_cons, List.nodup_cons] at hn
  cases m with
  | zero => simp at h; obtain ⟨rfl, rfl⟩ := h; simp [mput]
  | succ m =>
   simp at h
   have hne : k0 ≠ k := fun e => hn.1 (by subst e; exact List.mem_map.2 ⟨_, List.mem_of_getElem? h, rfl⟩)
   simp only [mput, if_neg hne, List.set_cons_succ, ih hn.2 h u]
theorem run_ment (hK : KK P kt enc) (hT : P.underlying T = some (.map kt e)) {z : Value} (hz : ∀ w, (zeroValue e).run P w = .ok z w) (hb : KM enc w b l) (k : κ) :
  ∃ (w' : World) (st : Nat) (v : Value), (Instr.mapEntry T (.map (some b)) (enc k)).run P w = .ok (.tuple #[v, .int .i64 (st : Int)]) w' ∧ Chg [b] w w' ∧ w'.heap.size = w.heap.size ∧ KE enc w' b (mput l k ((mget l k).getD z)) k st := by
 obtain ⟨es, clock, hm, he, hn, hbo, hbn⟩ := hb
 have hbs : b < w.heap.size := (Array.getElem?_eq_some_iff.1 hm).1
 have hlen : es.toList.length = l.length := by simpa using congrArg List.length he
 cases hx : midx l k 0 with
 | none =>
  obtain ⟨h1, h2⟩ := midx_none hx
  refine ⟨_, clock, z, ?_, chg_set w b (.map (es.push { key := enc k, val := z, born := clock }) (clock + 1)), by simp, ?_⟩
  ·
   simp only [Instr.mapEntry, Sem.run_bind, run_underlying hT, Result.andThen_ok, MapKept.run_getObj_map hm, hK.check, hK.find l es.toList k w he, hx, hz, MapKept.run_setObj_map _ hm]
   first | done | rfl
  ·
   refine ⟨_, _, by simp [hbs]; exact ⟨rfl, rfl⟩, ?_, mput_nodup hn k _, ?_, ?_, l.length, { key := enc k, val := z, born := clock }, z, ?_, rfl, ?_⟩
   ·
    rw [h2, h1]; simp [he]
   ·
    intro x hx
    simp at hx
    rcases hx with hx | rfl
    ·
     have := hbo x (by simpa using hx); omega
    ·
     simp
   ·
    simp only [Array.toList_push, List.map_append, List.map_cons, List.map_nil]
    refine List.nodup_append.2 ⟨hbn, by simp, fun a ha c hc e => ?_⟩
    simp only [List.mem_cons, List.not_mem_nil, or_false] at hc
    obtain ⟨x, hx, rfl⟩ := List.mem_map.1 ha
    have := hbo x hx
    omega
   ·
    simp [← hlen]
   ·
    rw [h2, h1]; simp
 | some p =>
  obtain ⟨j, v0⟩ := p
  obtain ⟨m, h1, h2, h3, h4, _⟩ := midx_some hx
  have hjm : j = m := by omega
  subst hjm
  have hjl : j < es.toList.length := by have := (List.getElem?_eq_some_iff.1 h2).1; omega
  have hkey : (((es[j]?).map (·.key)).getD (enc k)) = enc k := by
   have := congrArg (fun x => x[j]?) he
   simp only [List.getElem?_map, Array.getElem?_toList, h2, Option.map_some] at this
   cases hy : es[j]? with
   | none => rfl
   | some y => rw [hy] at this; simp at this; simp [this.1]
  have hvj : (es[j]'(by simpa using hjl)).val = v0 := by
   have := congrArg (fun x => x[j]?) he
   simp only [List.getElem?_map, Array.getElem?_toList, h2, Option.map_some] at this
   rw [Array.getElem?_eq_getElem (by simpa using hjl)] at this
   simp at this
   exact this.2
  obtain ⟨h5, h6⟩ := map_set_entries (u := v0) es j k v0 (fun e => { e with key := enc k, val := v0 }) (fun e => ⟨rfl, rfl, rfl⟩) he h2
  have hmod : (es.modify j fun e => { e with key := enc k }) = es.modify j fun e => { e with key := enc k, val := v0 } := by
   apply Array.ext_getElem?
   intro i
   rw [Array.getElem?_modify, Array.getElem?_modify]
   by_cases e : j = i
   ·
    subst e; rw [if_pos rfl, if_pos rfl, Array.getElem?_eq_getElem (by simpa using hjl)]; simp [← hvj]
   ·
    rw [if_neg e, if_neg e]
  refine ⟨_, ((es[j]?).map (·.born)).getD 0, v0, ?_, chg_set w b (.map (es.modify j fun e => { e with key := enc k }) clock), by simp, ?_⟩
  ·
   simp only [Instr.mapEntry, Sem.run_bind, run_underlying hT, Result.andThen_ok, MapKept.run_getObj_map hm, hK.check, hK.find l es.toList k w he, hx, Instr.keyThatStays, hkey, hK.same, if_true, Sem.run_pure, MapKept.run_setObj_map _ hm]
   rw [Array.getElem?_eq_getElem (show j < es.size by simpa using hjl)]
   rfl
  ·
   rw [hmod]
   refine ⟨_, _, by simp [hbs]; exact ⟨rfl, rfl⟩, by rw [h4, h3]; exact h5, mput_nodup hn k _, ?_, by rw [h6]; exact hbn, j, { es[j]'(by simpa using hjl) with key := enc k, val := v0 }, v0, ?_, ?_, ?_⟩
   ·
    intro x hx
    have : x.born ∈ (es.modify j fun e => { e with key := enc k, val := v0 }).toList.map (·.born) := List.mem_map.2 ⟨x, hx, rfl⟩
    rw [h6] at this
    obtain ⟨y, hy, e⟩ := List.mem_map.1 this
    rw [← e]; exact hbo y hy
   ·
    rw [Array.getElem?_toList, Array.getElem?_modify, if_pos rfl, Array.getElem?_eq_getElem (by simpa using hjl)]; rfl
   ·
    rw [Array.getElem?_eq_getElem (by simpa using hjl)]; rfl
   ·
    rw [h4, List.getElem?_set, if_pos rfl, if_pos (by omega), h3]; rfl
theorem OX.ment (hK : KK P kt enc) (hT : P.underlying T = some (.map kt e)) {z : Value} (hz : ∀ w, (zeroValue e).run P w = .ok z w) (hb : KM enc w b l) {x y : Operand} {k : κ} (hd : Nat.blt d n = true) (hx : ev kv x = some (.map (some b))) (hy : ev kv y = some (enc k))
  (h : ∀ (w' : World) (st : Nat) (v : Value), Chg [b] w w' → w'.heap.size = w.heap.size → KE enc w' b (mput l k ((mget l k).getD z)) k st → K ((d, .tuple #[v, .int .i64 (st : Int)]) :: kv) w') : OX P ⟨some d, .mapEntry T x y, ty, pos, af, g⟩ n kv w K := by
 obtain ⟨w', st, v, hr, h1, h2, h3⟩ := run_ment hK hT hz hb k
 refine ⟨rfl, hd, by simp [known, opers, hx, hy], ?_⟩
 have hr' : (execOp (lkO kv) ⟨some d, .mapEntry T x y, ty, pos, af, g⟩).run P w = .ok (.value (.tuple #[v, .int .i64 (st : Int)])) w' := by
  simp only [execOp, lkO_of hx, lkO_of hy, Sem.run_bind, hr, Result.andThen_ok]; rfl
 rw [hr']
 exact h _ _ _ h1 h2 h3
theorem OX.estore {k : κ} {st : Nat} (hb : KE enc w b l k st) {x y u : Operand} {v : Value} (hx : ev kv x = some (.map (some b))) (hy : ev kv y = some (.int .i64 (st : Int))) (hu : ev kv u = some v)
  (h : ∀ w', Chg [b] w w' → w'.heap.size = w.heap.size → KM enc w' b (mput l k v) → K kv w') : OX P ⟨none, .entryStore T x y u, ty, pos, af, g⟩ n kv w K := by
 obtain ⟨es, clock, hm, he, hn, hbo, hbn, m, en, v0, hme, hst, hlm⟩ := hb
 have hbs : b < w.heap.size := (Array.getElem?_eq_some_iff.1 hm).1
 have hmlt : m < es.size := by have := (List.getElem?_eq_some_iff.1 hme).1; simpa using this
 have hfi : es.findIdx? (fun e => (e.born : Int) == (st : Int)) = some m := by
  rw [Array.findIdx?_eq_some_iff_getElem]
  have hem : es[m] = en := by have := hme; rw [Array.getElem?_toList, Array.getElem?_eq_getElem hmlt] at this; simpa using this
  refine ⟨hmlt, by simp [hem, hst], fun j hj => ?_⟩
  have hjlt : j < es.size := by omega
  simp only [beq_iff_eq, Int.natCast_inj]
  intro e
  have h1 : (es.toList.map (·.born))[j]? = some st := by simp [hjlt, e]
  have h2 : (es.toList.map (·.born))[m]? = some st := by simp [hmlt, hem, hst]
  have := (List.getElem?_inj (i := j) (j := m) (by simp [hjlt]) hbn).1 (h1.trans h2.symm)
  omega
 obtain ⟨h5, h6⟩ := map_set_entries (u := v) es m k v0 (fun e => { e with key := enc k, val := v }) (fun e => ⟨rfl, rfl, rfl⟩) he hlm
 have hkm : (es[m]).key = enc k := by
  have := congrArg (fun x => x[m]?) he
  simp only [List.getElem?_map, Array.getElem?_toList, hlm, Option.map_some] at this
  rw [Array.getElem?_eq_getElem hmlt] at this
  simp at this
  exact this.1
 have hmod : (es.modify m fun e => { e with val := v }) = es.modify m fun e => { e with key := enc k, val := v } := by
  apply Array.ext_getElem?
  intro i
  rw [Array.getElem?_modify, Array.getElem?_modify]
  by_cases e : m = i
  ·
   subst e; rw [if_pos rfl, if_pos rfl, Array.getElem?_eq_getElem hmlt]; simp [← hkm]
  ·
   rw [if_neg e, if_neg e]
 refine ⟨rfl, rfl, by simp [known, opers, hx, hy, hu], ?_⟩
 have hr' : (execOp (lkO kv) ⟨none, .entryStore T x y u, ty, pos, af, g⟩).run P w = .ok .skip { w with heap := w.heap.setIfInBounds b (.map (es.modify m fun e => { e with val := v }) clock) } := by
  simp only [execOp, lkO_of hx, lkO_of hy, lkO_of hu, Sem.run_bind, Instr.entryStore, MapKept.run_getObj_map hm, Result.andThen_ok, asInt, asIntOf, Sem.run_pure, hfi, MapKept.run_setObj_map _ hm]
 rw [hr']
 refine h _ (chg_set w b _) (by simp) ?_
 rw [hmod]
 refine ⟨_, _, by simp [hbs]; exact ⟨rfl, rfl⟩, by rw [mput_at hn hlm v]; exact h5, mput_nodup hn k v, ?_, by rw [h6]; exact hbn⟩
 intro x hx
 have : x.born ∈ (es.modify m fun e => { e with key := enc k, val := v }).toList.map (·.born) := List.mem_map.2 ⟨x, hx, rfl⟩
 rw [h6] at this
 obtain ⟨y, hy, e⟩ := List.mem_map.1 this
 rw [← e]; exact hbo y hy
end
end Go.Rc

namespace Go.Rc
open Go
section
variable {α : Type} {A : Nat → Prop} {w w' : World} {k n c base : Nat} {a : Option Addr} {cs : List Value} {R : α → List Value → Prop} {xs : List α}
variable {P : Program} {N : Nat} {kv : KV} {K : KV → World → Prop}
variable {d : Tmp} {ty : TypeId} {pos : String} {af : Array Edge} {g : Option (Nat × Bool)} {T E : TypeId}
theorem PV.build' {z us : List Value} {places : List (Nat × Nat)} (hT : BT P T z places) {ps : List (Nat × Operand)} {vs : List (Nat × Value)} (hv : evParts kv ps = some vs) (hok : fillOk places z.length vs = true) (hu : fillV places z vs = us) :
  PV P (.build T ps.toArray) ty kv w (.agg us.toArray) := by subst hu; exact PV.build hT hv hok
theorem OX.bslice' {len : Nat} {z us : List Value} (hT : BS P T E k len z) {ps : List (Nat × Operand)} {vs : List (Nat × Value)} (hd : Nat.blt d N = true) (hv : evParts kv ps = some vs) (hok : bsOk k z.length vs = true) (hu : bsV k z vs = us)
  (h : ∀ b w', New w w' b → Blk w' b E us → K ((d, .slice (some ⟨b, 0, none⟩) len len) :: kv) w') : OX P ⟨some d, .buildSlice T len ps.toArray, ty, pos, af, g⟩ N kv w K := by
 subst hu; exact OX.bslice hT hd hv hok h
theorem OL.blk {b m : Nat} {l : List Value} (h : Blk w b E l) (hb : base ≤ b) (hl : l.length = m * k) (h1 : ∀ u ∈ l, u.oneCell' = true) (hm : m ≤ 140737488355328) : OL base w E k (some ⟨b, 0, none⟩) m m l :=
 ⟨h1, hl, .inr ⟨b, m, l.toArray, rfl, hb, h, Nat.le_refl _, by simp [maxLen]; omega, by simpa using hl, by rw [← hl]; simp⟩⟩
theorem OR.blk1 {b : Nat} {l : List Value} {x : α} (h : Blk w b E l) (hb : base ≤ b) (hl : l.length = k) (h1 : ∀ u ∈ l, u.oneCell' = true) (hR : R x l) : OR base w E k R (some ⟨b, 0, none⟩) 1 1 [x] :=
 ⟨rfl, [l], rfl, by simpa using hl, by simpa using OL.blk (k := k) h hb (m := 1) (by simpa using hl) h1 (by omega), fun i y r h1 h2 => by
  cases i with
  | zero => simp at h1 h2; subst h1 h2; exact hR
  | succ i => simp at h1⟩
/-- A function that is a value. -/
theorem OX.callV {f : FuncId} (hf : CF P f) {t : Tmp} {fs cs : Array Value} {xs : List Operand} {ats : Array TypeId} {args : List Value} (hd : Nat.blt d N = true) (ht : look kv t = some (.func (.func f) fs cs)) (hx : xs.map (ev kv) = args.map some)
  (h : Calls P f (fs ++ args.toArray ++ cs) w fun e w' => ∃ v, e = .returned v ∧ K ((d, v) :: kv) w') : OX P ⟨some d, .call { callee := .value (.tmp t), args := xs.toArray, argTypes := ats }, ty, pos, af, g⟩ N kv w K := by
 have key : ∀ (l : List Operand) (vs : List Value), l.map (ev kv) = vs.map some → l.map (lkO kv) = vs ∧ ∀ x ∈ l, (ev kv x).isSome = true := by
  intro l
  induction l with
  | nil => intro vs h; simp at h; simp [h]
  | cons x r ih =>
   intro vs h
   cases vs with
   | nil => simp at h
   | cons v vs =>
    simp at h
    obtain ⟨h1, h2⟩ := ih vs h.2
    exact ⟨by simp [lkO_of h.1, h1], fun y hy => by rcases List.mem_cons.1 hy with rfl | hy; simp [h.1]; exact h2 y hy⟩
 obtain ⟨h1, h2⟩ := key xs args hx
 have hev : ev kv (.tmp t) = some (.func (.func f) fs cs) := ht
 refine ⟨rfl, hd, ?_, ?_⟩
 ·
  simp only [known, opers, List.all_eq_true]
  intro x hx
  simp at hx
  rcases hx with rfl | hx
  ·
   simp [hev]
  ·
   exact h2 x hx
 ·
  have hr : (execOp (lkO kv) ⟨some d, .call { callee := .value (.tmp t), args := xs.toArray, argTypes := ats }, ty, pos, af, g⟩).run P w = .ok (.enter f (fs ++ args.toArray ++ cs)) w := by
   simp only [execOp, resolve, Deferred.ofValue, lkO_of hev, Sem.run_bind, List.map_toArray, h1]
   first
    | (simp only [Sem.run_pure, Result.andThen_ok, invoke]; exact hf _ w)
    | (simp only [invoke]; exact hf _ w)
  rw [hr]
  exact h
end
/-- The library's table lies in a block that A allows. -/
def Tab (P : Program) (A : Nat → Prop) (w : World) : Prop := ∃ b, A b ∧ b < w.heap.size ∧ ∀ w', w'.heap[b]? = w.heap[b]? → Lib.TabIs P w' "internal/strconv.uint64pow10" .u64 Lib.pow10Tab
theorem Tab.is {P : Program} {A : Nat → Prop} {w : World} (h : Tab P A w) : Lib.TabIs P w "internal/strconv.uint64pow10" .u64 Lib.pow10Tab := by obtain ⟨b, _, _, h⟩ := h; exact h w rfl
theorem Tab.chg {P : Program} {A : Nat → Prop} {w w' : World} {S : List Nat} (h : Tab P A w) (c : Chg S w w') (hS : ∀ b ∈ S, ¬ A b) : Tab P A w' := by
 obtain ⟨b, hA, hlt, h⟩ := h
 exact ⟨b, hA, Nat.lt_of_lt_of_le hlt c.size, fun w2 h2 => h w2 (by rw [h2, c.block b hlt fun hm => hS b hm hA])⟩
theorem Tab.ext {P : Program} {A : Nat → Prop} {w w' : World} (h : Tab P A w) (c : Chg [] w w') : Tab P A w' := h.chg c (by simp)
/-- A number's numeral. -/
def itoa (n : Int) : ByteArray := ⟨(Lib.itoa n).toArray⟩
end Go.Rc

namespace Go.Rc
open Go
def PL (P : Program) : List Field → List (Nat × Nat) → Prop
 | [], [] => True
 | f :: fs, (o, s) :: ps => f.offset = o ∧ (∀ w, (sizeOf f.type).run P w = .ok s w) ∧ PL P fs ps
 | _, _ => False
theorem PL_run {P : Program} : ∀ {fs : List Field} {ps : List (Nat × Nat)}, PL P fs ps → ∀ w, (fs.mapM fun f => (do pure (f.offset, ← sizeOf f.type) : Sem (Nat × Nat))).run P w = .ok ps w := by
 intro fs
 induction fs with
 | nil => intro ps h w; cases ps with
  | nil => rfl
  | cons p r => cases h
 | cons f fs ih =>
  intro ps h w
  cases ps with
  | nil => cases h
  | cons p r =>
   obtain ⟨o, s⟩ := p
   obtain ⟨h1, h2, h3⟩ := h
   subst h1
   simp only [List.mapM_cons, Sem.run_bind, h2 w, Result.andThen_ok, Sem.run_pure, ih h3 w]
theorem BT_of {P : Program} {T : TypeId} {v : Value} {z : List Value} {fs : List Field} {places : List (Nat × Nat)} (h1 : ∀ w, (zeroValue T).run P w = .ok v w) (h2 : v.cells = z.toArray) (h3 : P.underlying T = some (.struct fs.toArray)) (h4 : PL P fs places) :
  BT P T z places := by
 refine ⟨⟨v, h1, h2⟩, fs.toArray, h3, fun w => ?_⟩
 have := PL_run h4 w
 rw [List.mapM_toArray]
 rw [map_eq_pure_bind]
 simp only [Sem.run_bind, this, Result.andThen_ok]
 rfl
theorem check_key {P : Program} {T T0 T1 : TypeId} {f0 f1 : Field} (hu : P.underlying T = some (.struct #[f0, f1])) (ht0 : f0.type = T0) (ht1 : f1.type = T1) (ho0 : f0.offset = 0) (ho1 : f1.offset = 1)
  (h0 : P.underlying T0 = some (.int .i64)) (h1 : P.underlying T1 = some .string) (a0 : ∀ w, (isAgg T0).run P w = .ok false w) (a1 : ∀ w, (isAgg T1).run P w = .ok false w) :
  ∀ em (k : Key) w, (Instr.checkKey em 10000 T k.val).run P w = .ok () w := by
 intro em k w
 subst ht0 ht1
 have r0 : ∀ n v w, (Instr.checkKey em (n + 1) f0.type (.int .i64 v)).run P w = .ok () w := fun n v w => by simp [Instr.checkKey, run_underlying h0]
 have r1 : ∀ n v w, (Instr.checkKey em (n + 1) f1.type (.string v)).run P w = .ok () w := fun n v w => by simp [Instr.checkKey, run_underlying h1]
 have key : ∀ n, (Instr.checkKey em (n + 2) T k.val).run P w = .ok () w := fun n => by
  rw [show n + 2 = (n + 1) + 1 from rfl]
  unfold Instr.checkKey
  simp only [Key.val, Sem.run_bind, run_underlying hu, Result.andThen_ok]
  by_cases e0 : f0.name = "_" <;> by_cases e1 : f1.name = "_" <;> simp [part, a0, a1, ho0, ho1, r0 n, r1 n, e0, e1]
 exact key 9998
end Go.Rc
namespace Go.Rc
open Go
theorem AP_of {P : Program} {T E k bytes : Nat} {z : Value} (hu : P.underlying T = some (.slice E)) (hi : (P.info? E).map (fun i => (i.zero, i.size, i.bytes)) = some (some z, k, bytes)) (hz : z.cells.size = k) (hp : 0 < k) : AP P T E k bytes := by
 cases h : P.info? E with
 | none => rw [h] at hi; cases hi
 | some i =>
  rw [h] at hi
  simp only [Option.map_some, Option.some.injEq, Prod.mk.injEq] at hi
  exact ⟨hu, ⟨i, z, rfl.trans h, hi.1, hi.2.1, hi.2.2, hz⟩, hp⟩
end Go.Rc

namespace Go.Rc
def ringAt (l : List Rule) (i : Nat) : Bool := (l[i]?).any (·.ring)
def blockLo (l : List Rule) : Nat → Nat
 | 0 => 0
 | k + 1 => if ringAt l k then blockLo l k else k + 1
def hiFrom (l : List Rule) (m : Nat) : Nat := m + ((l.drop m).takeWhile (·.ring)).length
def block (l : List Rule) (n : Int) : Int × Int :=
 if n < 0 ∨ (l.length : Int) ≤ n then (0, 0) else if ringAt l n.toNat then (blockLo l n.toNat, hiFrom l (n.toNat + 1)) else (n, n + 1)
theorem block_out (l : List Rule) (n : Int) (h : n < 0 ∨ l.length ≤ n) : block l n = (0, 0) := if_pos h
theorem getElem_some {α : Type} {l : List α} {i : Nat} (h : i < l.length) : l[i]? = some l[i] := by simp [h]
theorem ringAt_get {l : List Rule} {i : Nat} (h : i < l.length) : ringAt l i = l[i].ring := by simp [ringAt, h]
theorem hiFrom_step {l : List Rule} {m : Nat} (h : ringAt l m = true) : hiFrom l m = hiFrom l (m + 1) := by
 unfold ringAt at h
 have hm : m < l.length := by
  rcases Nat.lt_or_ge m l.length with h' | h'
  ·
   exact h'
  ·
   rw [List.getElem?_eq_none h'] at h; simp at h
 rw [getElem_some hm] at h
 simp only [Option.any_some] at h
 unfold hiFrom
 rw [List.drop_eq_getElem_cons hm, List.takeWhile_cons, if_pos h]
 simp; omega
theorem hiFrom_end {l : List Rule} {m : Nat} (h : ringAt l m = false) : hiFrom l m = m := by
 unfold hiFrom
 rcases Nat.lt_or_ge m l.length with hm | hm
 ·
  rw [ringAt_get hm] at h
  rw [List.drop_eq_getElem_cons hm, List.takeWhile_cons, if_neg (by simp [h])]
  simp
 ·
  rw [List.drop_eq_nil_of_le hm]; simp
theorem ringAt_out {l : List Rule} {m : Nat} (h : l.length ≤ m) : ringAt l m = false := by simp [ringAt, List.getElem?_eq_none h]
theorem blockLo_step {l : List Rule} {k : Nat} (h : ringAt l k = true) : blockLo l (k + 1) = blockLo l k := by simp [blockLo, h]
theorem blockLo_end {l : List Rule} {k : Nat} (h : k = 0 ∨ ringAt l (k - 1) = false) : blockLo l k = k := by
 cases k with
 | zero => rfl
 | succ k => simp [blockLo] at *; intro h'; rw [h'] at h; cases h
end Go.Rc
namespace Go.Rc
theorem below_succ {α : Type} {l : List α} {k : Nat} (hk : k < l.length) {P : Nat → α → Prop} (h : ∀ j x, j < k → l[j]? = some x → P j x) (hP : P k l[k]) : ∀ j x, j < k + 1 → l[j]? = some x → P j x := by
 intro j x hj hx
 rcases Nat.lt_or_ge j k with h1 | h1
 ·
  exact h j x h1 hx
 ·
  have e : j = k := by omega
  subst e
  rw [List.getElem?_eq_getElem hk] at hx
  simp at hx
  subst hx
  exact hP
end Go.Rc

namespace Go.Rc
open Go
def isInput (k : Key) : Bool := decide (k.kind = 1) || (decide (k.kind = 2) || decide (k.kind = 30))
def isCyc22 (n : Int) : Bool := decide (n = 7) || (decide (n = 14) || (decide (n = 17) || decide (n = 18)))
def isCyclic (k : Key) : Bool := decide (k.kind = 32) || (decide (1 ≤ k.kind) && decide (k.kind ≤ 22) && isCyc22 k.kind)
/-- What is left of a text gives this number. -/
def decFrom (s : List UInt8) (n : Int) : Int := match s with
 | [] => n
 | c :: r => if c.toNat < 48 ∨ 57 < c.toNat then -1 else decFrom r (10 * n + ((c.toNat : Int) - 48))
def decimal (s : ByteArray) : Int :=
 if s.size = 0 ∨ 9 < s.size ∨ (s.data.toList.head? = some 48 ∧ s.size ≠ 1) then -1 else decFrom s.data.toList 0
def number (k : Key) : Int := if 30 ≤ k.kind ∧ k.kind ≤ 32 ∧ decimal k.text ≤ 99 then decimal k.text else -1
def validK (k : Key) : Bool :=
 if 30 ≤ k.kind ∧ k.kind ≤ 32 then decide (0 ≤ number k)
 else decide (1 ≤ k.kind ∧ k.kind ≤ 22 ∧ k.text.size ≤ 1073741824 ∧ (k.text = ⟨#[]⟩ ∨ (k.kind ≠ 1 ∧ k.kind ≠ 21)))
def noKey : Key := ⟨0, ⟨#[]⟩⟩
def cellK (n : Int) : Key := if n < 0 ∨ 99 < n then noKey else ⟨30, itoa n⟩
def ofK (rules : List Rule) (n : Int) : Key := if n < 0 ∨ (rules.length : Int) ≤ n ∨ 99 < n then noKey else ⟨if ringAt rules n.toNat then 32 else 31, itoa n⟩
def cmpK (a b : Key) : Int := if a.kind < b.kind then -1 else if b.kind < a.kind then 1 else Lib.compareBytes a.text.data.toList b.text.data.toList
end Go.Rc
namespace Go.Rc
open Go
theorem bytes_nil (s : ByteArray) : s = ⟨#[]⟩ ↔ s.size = 0 := by
 constructor
 ·
  rintro rfl; rfl
 ·
  intro h; obtain ⟨d⟩ := s; simp [ByteArray.size] at h; simp [h]
/-- What Decimal refuses at once. -/
def decBad (s : ByteArray) : Bool := decide (s = ⟨#[]⟩) || (decide (9 < (s.size : Int)) || (decide (((s.data.toList.head?.map (·.toNat)).getD 0 : Int) = 48) && decide (s ≠ ⟨#[48]⟩)))
theorem bytes_first (s : ByteArray) (h : 0 < s.size) : ∃ b, s[0]? = some b ∧ ((s.data.toList.head?.map (·.toNat)).getD 0 : Int) = (b.toNat : Int) := by
 obtain ⟨⟨l⟩⟩ := s
 cases l with
 | nil => simp [ByteArray.size] at h
 | cons b r => exact ⟨b, rfl, by simp⟩
theorem bytes_zero (s : ByteArray) : s = ⟨#[48]⟩ ↔ s.data.toList.head? = some 48 ∧ s.size = 1 := by
 obtain ⟨⟨l⟩⟩ := s
 cases l with
 | nil => simp
 | cons b r =>
  cases r with
  | nil => simp [ByteArray.size]
  | cons c r => simp [ByteArray.size]
theorem decimal_bad (s : ByteArray) : decimal s = if decBad s = true then -1 else decFrom s.data.toList 0 := by
 unfold decimal
 congr 1
 simp only [decBad, Bool.or_eq_true, Bool.and_eq_true, decide_eq_true_eq, bytes_nil]
 refine propext (or_congr_right (or_congr (by omega) ?_))
 rw [show (s ≠ ⟨#[48]⟩) = ¬ (s.data.toList.head? = some 48 ∧ s.size = 1) from by rw [ne_eq, bytes_zero]]
 cases h : s.data.toList.head? with
 | none => simp
 | some b =>
  simp
  have : (b.toNat = 48 ↔ b = 48) := by rw [← UInt8.toNat_inj]; rfl
  constructor
  ·
   rintro ⟨rfl, h2⟩; exact ⟨by decide, fun _ => h2⟩
  ·
   rintro ⟨h1, h2⟩
   have hb : b = 48 := by rw [← UInt8.toNat_inj]; show b.toNat = 48; omega
   exact ⟨hb, h2 hb⟩
theorem decBad_le {s : ByteArray} (h : decBad s = false) : s.size ≤ 9 := by
 simp [decBad] at h
 omega
theorem decFrom_step (s : ByteArray) {i : Nat} {n : Int} (h : i < s.size) : ∃ b, s[i]? = some b ∧ decFrom (s.data.toList.drop i) n = if (b.toNat : Int) < 48 ∨ 57 < (b.toNat : Int) then -1 else decFrom (s.data.toList.drop (i + 1)) (10 * n + ((b.toNat : Int) - 48)) := by
 have h' : i < s.data.toList.length := by rw [Array.length_toList]; exact h
 refine ⟨s.data.toList[i], ?_, ?_⟩
 ·
  obtain ⟨⟨l⟩⟩ := s
  have e : (ByteArray.mk ⟨l⟩)[i]? = if h : i < (ByteArray.mk ⟨l⟩).size then some (ByteArray.mk ⟨l⟩)[i] else none := rfl
  rw [e, dif_pos h]
  rfl
 ·
  rw [List.drop_eq_getElem_cons h']
  simp only [decFrom]
  congr 1
  exact propext ⟨fun h => by omega, fun h => by omega⟩
theorem validK_lang (k : Key) (h : k.kind < 30 ∨ 32 < k.kind) : validK k = (decide (1 ≤ k.kind) && (decide (k.kind ≤ 22) && (decide ((k.text.size : Int) ≤ 1073741824) && (decide (k.text = ⟨#[]⟩) || (decide (k.kind ≠ 1) && decide (k.kind ≠ 21)))))) := by
 unfold validK
 rw [if_neg (by omega), Bool.eq_iff_iff]
 simp only [decide_eq_true_eq, Bool.and_eq_true, Bool.or_eq_true]
 have : (k.text.size ≤ 1073741824 ↔ (k.text.size : Int) ≤ 1073741824) := by omega
 rw [this]
end Go.Rc

namespace Go.Rc
open Go
instance : Inhabited Rule := ⟨⟨false, [], 0, 0⟩⟩
instance : Inhabited Ask := ⟨⟨false, false, 0, 0⟩⟩
def Ask.val (x : Ask) : Value := .agg #[.bool x.cell, .bool x.pick, .int .i64 x.n, .int .i64 x.els]
structure Turn where
 done : Bool
 value : ByteArray
 ask : Key
 deriving DecidableEq
def Turn.val (t : Turn) : Value := .agg #[.bool t.done, .string t.value, .int .i64 t.ask.kind, .string t.ask.text]
def mayTop (rules : List Rule) (i : Nat) : Int := if ringAt rules i then (block rules i).2 else (block rules i).1
def mayOk (rules : List Rule) (i : Nat) (cell : Bool) (n : Int) : Bool :=
 if cell then decide (0 ≤ n) && decide (n ≤ 15) else decide (0 ≤ n) && decide (n < mayTop rules i)
def valS (s : ByteArray) : Nat := if decimal s < 0 ∨ 65535 < decimal s then 0 else (decimal s).toNat
theorem valS_le (s : ByteArray) : valS s ≤ 65535 := by unfold valS; split <;> omega
def sumV (c : Nat) (l : List Nat) : Nat := l.foldl (· + ·) c
def mostV (c : Nat) (l : List Nat) : Nat := l.foldl max c
def bitsV (c : Nat) (l : List Nat) : Nat := l.foldl (· ||| ·) c
def finalV (kind : Int) (c : Nat) (l : List Nat) : Nat :=
 if kind = 1 then sumV c l % 1000 else if kind = 2 then sumV c l / 2 % 1000 else if kind = 3 then mostV c l else if kind = 4 then sumV c l % 2 else bitsV c l
theorem foldl_take {f : Nat → Nat → Nat} {c : Nat} {l : List Nat} {i : Nat} (h : i < l.length) : (l.take (i + 1)).foldl f c = f ((l.take i).foldl f c) l[i] := by
 rw [List.take_succ_eq_append_getElem h, List.foldl_append]; rfl
theorem sumV_take {c : Nat} {l : List Nat} {i : Nat} (h : i < l.length) : sumV c (l.take (i + 1)) = sumV c (l.take i) + l[i] := foldl_take h
theorem mostV_take {c : Nat} {l : List Nat} {i : Nat} (h : i < l.length) : mostV c (l.take (i + 1)) = max (mostV c (l.take i)) l[i] := foldl_take h
theorem bitsV_take {c : Nat} {l : List Nat} {i : Nat} (h : i < l.length) : bitsV c (l.take (i + 1)) = bitsV c (l.take i) ||| l[i] := foldl_take h
theorem sumV_le {c : Nat} : ∀ {l : List Nat}, (∀ x ∈ l, x ≤ 65535) → sumV c l ≤ c + 65535 * l.length := by
 intro l
 induction l generalizing c with
 | nil => simp [sumV]
 | cons x r ih =>
  intro h
  have h1 := ih (c := c + x) fun y hy => h y (by simp [hy])
  have h2 := h x (by simp)
  simp only [sumV, List.foldl_cons, List.length_cons] at h1 ⊢
  omega
theorem mostV_le {c : Nat} : ∀ {l : List Nat}, c ≤ 65535 → (∀ x ∈ l, x ≤ 65535) → mostV c l ≤ 65535 := by
 intro l
 induction l generalizing c with
 | nil => intro h _; simpa [mostV] using h
 | cons x r ih =>
  intro h0 h
  have h2 := h x (by simp)
  exact ih (c := max c x) (by omega) fun y hy => h y (by simp [hy])
theorem bitsV_le {c : Nat} : ∀ {l : List Nat}, c ≤ 65535 → (∀ x ∈ l, x ≤ 65535) → bitsV c l ≤ 65535 := by
 intro l
 induction l generalizing c with
 | nil => intro h _; simpa [bitsV] using h
 | cons x r ih =>
  intro h0 h
  have h2 := h x (by simp)
  refine ih (c := c ||| x) ?_ fun y hy => h y (by simp [hy])
  have : c ||| x < 2 ^ 16 := Nat.or_lt_two_pow (by omega) (by omega)
  omega
theorem finalV_le {kind : Int} {c : Nat} {l : List Nat} (hc : c ≤ 65535) (h : ∀ x ∈ l, x ≤ 65535) : finalV kind c l ≤ 65535 := by
 unfold finalV
 have := mostV_le hc h
 have := bitsV_le hc h
 split
 ·
  omega
 ·
  split
  ·
   omega
  ·
   split
   ·
    omega
   ·
    split <;> omega
def turnV (rules : List Rule) (k : Key) (answers : List ByteArray) : Turn :=
 if number k < 0 ∨ (rules.length : Int) ≤ number k ∨ ofK rules (number k) ≠ k then ⟨true, ⟨#[]⟩, noKey⟩
 else
  let r := rules[(number k).toNat]!
  if r.asks.length ≤ answers.length then ⟨true, itoa (finalV r.final r.c.toNat ((answers.take r.asks.length).map valS)), noKey⟩
  else
   let x := r.asks[answers.length]!
   let to := if x.pick = true ∧ (answers.length = 0 ∨ valS answers[answers.length - 1]! % 2 = 0) then x.els else x.n
   ⟨false, ⟨#[]⟩, if x.cell then cellK to else ofK rules to⟩
def pickNow (x : Ask) (answers : List ByteArray) : Bool := x.pick && (decide (answers.length = 0) || decide (valS answers[answers.length - 1]! % 2 = 0))
def toOf (x : Ask) (answers : List ByteArray) : Int := if pickNow x answers then x.els else x.n
theorem turnV_no {rules : List Rule} {k : Key} {answers : List ByteArray} (h : number k < 0 ∨ (rules.length : Int) ≤ number k ∨ ofK rules (number k) ≠ k) : turnV rules k answers = ⟨true, ⟨#[]⟩, noKey⟩ := by
 unfold turnV; rw [if_pos h]
theorem turnV_end {rules : List Rule} {k : Key} {answers : List ByteArray} {i : Nat} (hk : number k = i) (hi : i < rules.length) (ho : ofK rules (number k) = k) (hn : rules[i].asks.length ≤ answers.length) :
  turnV rules k answers = ⟨true, itoa (finalV rules[i].final rules[i].c.toNat ((answers.take rules[i].asks.length).map valS)), noKey⟩ := by
 unfold turnV
 rw [if_neg (by rw [ho]; simp; omega)]
 simp only [hk, Int.toNat_natCast, getElem!_pos rules i hi]
 rw [if_pos hn]
theorem turnV_ask {rules : List Rule} {k : Key} {answers : List ByteArray} {i : Nat} (hk : number k = i) (hi : i < rules.length) (ho : ofK rules (number k) = k) (hn : answers.length < rules[i].asks.length) :
  turnV rules k answers = ⟨false, ⟨#[]⟩, if rules[i].asks[answers.length].cell then cellK (toOf rules[i].asks[answers.length] answers) else ofK rules (toOf rules[i].asks[answers.length] answers)⟩ := by
 unfold turnV
 rw [if_neg (by rw [ho]; simp; omega)]
 simp only [hk, Int.toNat_natCast, getElem!_pos rules i hi, getElem!_pos rules[i].asks answers.length hn]
 rw [if_neg (by omega)]
 simp only [toOf, pickNow, Bool.and_eq_true, Bool.or_eq_true, decide_eq_true_eq]
/-- What Valid says of one ask, of a rule, of rules. -/
def askOk (rules : List Rule) (i : Nat) (ring : Bool) (k : Nat) (x : Ask) : Bool :=
 mayOk rules i x.cell x.n && (if x.pick then !ring && decide (k ≠ 0) && mayOk rules i x.cell x.els else decide (x.els = 0))
def endOk (r : Rule) : Bool :=
 if r.ring then decide (r.final = 5) && decide (0 ≤ r.c) && decide (r.c ≤ 65535) else decide (1 ≤ r.final) && decide (r.final ≤ 4) && decide (0 ≤ r.c) && decide (r.c ≤ 999)
def ruleOk (rules : List Rule) (i : Nat) (r : Rule) : Prop := r.asks.length ≤ 6 ∧ (∀ k x, r.asks[k]? = some x → askOk rules i r.ring k x = true) ∧ endOk r = true
def rulesOk (rules : List Rule) : Prop := rules.length ≤ 24 ∧ ∀ i r, rules[i]? = some r → ruleOk rules i r
/-- Bits of whole numbers. -/
theorem PV.orN {P : Program} {kv : KV} {w : World} {T U ty : TypeId} {x y : Operand} {p q : Nat} (hx : ev kv x = some (.int .i64 (p : Int))) (hy : ev kv y = some (.int .i64 (q : Int))) (hp : p < 2 ^ 62) (hq : q < 2 ^ 62) :
  PV P (.binOp .or T x y U) ty kv w (.int .i64 ((p ||| q : Nat) : Int)) := by
 refine ⟨rfl, by simp [known, opers, hx, hy], fun _ _ _ _ => run_binInt .or (by simp) _ ?_ hx hy⟩
 have h : p ||| q < 2 ^ 62 := Nat.or_lt_two_pow hp hq
 have e : ((BitVec.ofInt (IntKind.bits .i64) (p : Int)) ||| (BitVec.ofInt (IntKind.bits .i64) (q : Int))).toNat = p ||| q := by
  have hb : IntKind.bits .i64 = 64 := rfl
  rw [BitVec.toNat_or, BitVec.ofInt_natCast, BitVec.ofInt_natCast, BitVec.toNat_ofNat, BitVec.toNat_ofNat, hb, Nat.mod_eq_of_lt (by omega), Nat.mod_eq_of_lt (by omega)]
 simp only [Op.intBits, e]
 rw [wrap_id (by omega) (by omega)]
 rfl
end Go.Rc

namespace Go.Rc
open Go
def IntsR (z : Int) (r : List Value) : Prop := r = [.int .i64 z]
def Ints (A : Nat → Prop) (w : World) (a : Option Addr) (n c : Nat) (l : List Int) : Prop := SR A w 1 IntsR a n c l
/-- Dice, in a block of their own. -/
def Dice (A : Nat → Prop) (w : World) (E d : Nat) : Prop :=
 ∃ (l : List Int) (a : Option Addr) (n c : Nat) (at_ : Nat), Blk w d E [.slice a n c, .int .i64 (at_ : Int)] ∧ Ints A w a n c l ∧ n ≤ 400 ∧ at_ ≤ 400
variable {A : Nat → Prop} {w w' : World} {E d : Nat}
theorem Dice.lt (h : Dice A w E d) : d < w.heap.size := by obtain ⟨_, _, _, _, _, h, _⟩ := h; exact h.lt
theorem Dice.chg {S : List Nat} (h : Dice A w E d) (c : Chg S w w') (hS : ∀ b ∈ S, ¬ A b ∧ b ≠ d) : Dice A w' E d := by
 obtain ⟨l, a, n, c', t, h1, h2, h3⟩ := h
 exact ⟨l, a, n, c', t, h1.chg c (fun hm => (hS d hm).2 rfl), SR.chg h2 c (fun b hb => (hS b hb).1) (fun _ _ h => h), h3⟩
theorem Dice.ext (h : Dice A w E d) (c : Chg [] w w') : Dice A w' E d := h.chg c (by simp)
/-- .. whose numbers lie in blocks below N. -/
structure DN (N : Nat) (w : World) (E d : Nat) : Prop where
 dice : Dice (fun x => x < N) w E d
 le : N ≤ d
theorem DN.lt {N : Nat} (h : DN N w E d) : d < w.heap.size := h.dice.lt
theorem DN.chg {N : Nat} {S : List Nat} (h : DN N w E d) (c : Chg S w w') (hS : ∀ b ∈ S, N ≤ b ∧ b ≠ d) : DN N w' E d := ⟨h.dice.chg c (fun b hb => ⟨by have := hS b hb; omega, (hS b hb).2⟩), h.le⟩
theorem DN.ext {N : Nat} (h : DN N w E d) (c : Chg [] w w') : DN N w' E d := h.chg c (by simp)
theorem Strs.blk {b e : Nat} {l : List ByteArray} {n : Nat} (h : Blk w b e (l.map Value.string)) (hA : A b) (hn : n = l.length) (hl : l.length ≤ 140737488355328) : Strs A w (some ⟨b, 0, none⟩) n n l := by
 subst hn
 have hf : (l.map fun s => [Value.string s]).flatten = l.map Value.string := by
  clear h hl
  induction l with
  | nil => rfl
  | cons x r ih => simp [ih]
 refine ⟨rfl, l.map fun s => [Value.string s], by simp, by simp, ?_, ?_⟩
 ·
  rw [hf]
  exact SL.blk h hA l.length (by simp) (by simp [Value.oneCell']) hl
 ·
  intro i x r h1 h2
  rw [List.getElem?_map, h1] at h2
  simp at h2
  exact h2.symm
structure Change where
 key : Key
 value : ByteArray
def Change.cells (c : Change) : List Value := [.int .i64 c.key.kind, .string c.key.text, .string c.value]
/-- A change of a cell, short. -/
def Change.small (c : Change) : Prop := (∃ n : Int, 0 ≤ n ∧ n ≤ 3 ∧ c.key = cellK n) ∧ c.value.size ≤ 100
def KeyR (k : Key) (r : List Value) : Prop := r = k.cells
end Go.Rc
namespace Go.Rc
open Go
end Go.Rc

namespace Go.Rc
open Go
/-- Block x holds elements of type E. -/
def TA (E : Nat) (w : World) (x : Nat) : Prop := ∃ cs fr, w.heap[x]? = some (Obj.cells cs E fr)
variable {E EK ER EI base : Nat} {w w' : World} {a : Option Addr} {n c : Nat} {S : List Nat}
theorem TA.lt {x : Nat} (h : TA E w x) : x < w.heap.size := by obtain ⟨_, _, h⟩ := h; exact (Array.getElem?_eq_some_iff.1 h).1
theorem TA.chg {x : Nat} (h : TA E w x) (c : Chg S w w') (hS : x ∉ S) : TA E w' x := by obtain ⟨cs, fr, h⟩ := h; exact ⟨cs, fr, c.get h hS⟩
/-- A slice of keys inside a row. -/
def KSl (EK : Nat) (w : World) (a : Option Addr) (n c : Nat) (l : List Key) : Prop := SR (TA EK w) w 2 KeyR a n c l
theorem KSl.chg {l : List Key} (h : KSl EK w a n c l) (cg : Chg S w w') (hS : ∀ b ∈ S, ¬ TA EK w b) : KSl EK w' a n c l :=
 (SR.chg h cg hS fun _ _ h => h).mono (fun b hb _ => hb.chg cg fun hm => hS b hm hb) fun _ _ h => h
theorem KSl.ext {l : List Key} (h : KSl EK w a n c l) (cg : Chg [] w w') : KSl EK w' a n c l := h.chg cg (by simp)
theorem KSl.keys {l : List Key} (h : KSl EK w a n c l) : Keys (TA EK w) w a n c l := h
structure Rec where
 key : Key
 value : ByteArray
 reads : List Key
 changed : Int
 verified : Int
 cost : Int
 dirty : Bool
 deriving DecidableEq
instance : Inhabited Rec := ⟨⟨noKey, ⟨#[]⟩, [], 0, 0, 0, false⟩⟩
def noRec : Rec := ⟨noKey, ⟨#[]⟩, [], 0, 0, 0, false⟩
def Rec.row (x : Rec) (a : Option Addr) (n c : Nat) : List Value := [.int .i64 x.key.kind, .string x.key.text, .string x.value, .slice a n c, .int .i64 x.changed, .int .i64 x.verified, .int .i64 x.cost, .bool x.dirty]
def RecR (EK : Nat) (w : World) (x : Rec) (r : List Value) : Prop := ∃ a n c, r = x.row a n c ∧ KSl EK w a n c x.reads ∧ x.reads.length ≤ 4000
theorem RecR.chg {x : Rec} {r : List Value} (h : RecR EK w x r) (cg : Chg S w w') (hS : ∀ b ∈ S, ¬ TA EK w b) : RecR EK w' x r := by
 obtain ⟨a, n, c, h1, h2, h3⟩ := h; exact ⟨a, n, c, h1, h2.chg cg hS, h3⟩
theorem RecR.ext {x : Rec} {r : List Value} (h : RecR EK w x r) (cg : Chg [] w w') : RecR EK w' x r := h.chg cg (by simp)
def Recs (EK ER : Nat) (w : World) (a : Option Addr) (n c : Nat) (l : List Rec) : Prop := SR (TA ER w) w 8 (RecR EK w) a n c l
theorem Recs.chg {l : List Rec} (h : Recs EK ER w a n c l) (cg : Chg S w w') (hS : ∀ b ∈ S, ¬ TA EK w b ∧ ¬ TA ER w b) : Recs EK ER w' a n c l :=
 (SR.chg h cg (fun b hb => (hS b hb).2) fun _ _ h => h.chg cg fun b hb => (hS b hb).1).mono (fun b hb _ => hb.chg cg fun hm => (hS b hm).2 hb) fun _ _ h => h
theorem Recs.ext {l : List Rec} (h : Recs EK ER w a n c l) (cg : Chg [] w w') : Recs EK ER w' a n c l := h.chg cg (by simp)
/-- Records in a slice of one's own. -/
def ORecs (EK base : Nat) (w : World) (ER : Nat) (a : Option Addr) (n c : Nat) (l : List Rec) : Prop := OR base w ER 8 (RecR EK w) a n c l
theorem ORecs.chg {l : List Rec} (h : ORecs EK base w ER a n c l) (cg : Chg S w w') (hS : ∀ x ∈ oblk a, x ∉ S) (hT : ∀ b ∈ S, ¬ TA EK w b) : ORecs EK base w' ER a n c l :=
 OR.chg' h cg hS fun _ _ h => h.chg cg hT
theorem ORecs.ext {l : List Rec} (h : ORecs EK base w ER a n c l) (cg : Chg [] w w') : ORecs EK base w' ER a n c l := h.chg cg (by simp) (by simp)
theorem ORecs.app {l : List Rec} (h : OR base w' ER 8 (RecR EK w) a n c l) (cg : Chg S w w') (hT : ∀ b ∈ S, ¬ TA EK w b) : ORecs EK base w' ER a n c l := by
 obtain ⟨h1, rows, h2, h3, h4, h5⟩ := h
 exact ⟨h1, rows, h2, h3, h4, fun i x r hx hr => (h5 i x r hx hr).chg cg hT⟩
theorem ORecs.lt {l : List Rec} (h : ORecs EK base w ER a n c l) : ∀ x ∈ oblk a, x < w.heap.size := OR.lt h
theorem ORecs.ge {l : List Rec} (h : ORecs EK base w ER a n c l) : ∀ x ∈ oblk a, base ≤ x := OR.ge h
theorem ORecs.len {l : List Rec} (h : ORecs EK base w ER a n c l) : n = l.length := OR.len h
theorem OR.ta {α : Type} {R : α → List Value → Prop} {k : Nat} {xs : List α} (h : OR base w E k R a n c xs) (hle : xs.length ≤ 140737488355328) : SR (TA E w) w k R a n c xs := by
 obtain ⟨hn, rows, hl, hk, hs, hx⟩ := h
 refine ⟨hn, rows, hl, hk, ?_, hx⟩
 have h1 := hs.sl (A := fun x => x ∈ oblk a ∨ True) (fun _ _ => .inr trivial) (by omega)
 refine ⟨h1.len, h1.le, h1.one, ?_⟩
 rcases hs.cases with ⟨h2, h3, h4, _⟩ | ⟨g, cur, h2, _, hg, h4, h5, h6, h7⟩
 ·
  exact .inl ⟨h2, h3, h4⟩
 ·
  rcases h1.at_ with ⟨h8, _⟩ | ⟨b, o, h8, h9, h10, _, h12, h13⟩
  ·
   rw [h2] at h8; cases h8
  ·
   rw [h2] at h8; simp at h8
   obtain ⟨rfl, rfl⟩ := h8
   exact .inr ⟨g, 0, h2, h9, h10, ⟨_, _, hg⟩, h12, h13⟩
theorem ORecs.recs {l : List Rec} (h : ORecs EK base w ER a n c l) (hle : l.length ≤ 140737488355328) : Recs EK ER w a n c l := OR.ta h hle
structure Inp where
 key : Key
 value : ByteArray
 changed : Int
 deriving DecidableEq
def Inp.cells (x : Inp) : List Value := [.int .i64 x.key.kind, .string x.key.text, .string x.value, .int .i64 x.changed]
def InpR (x : Inp) (r : List Value) : Prop := r = x.cells
def Inps (EI : Nat) (w : World) (a : Option Addr) (n c : Nat) (l : List Inp) : Prop := SR (TA EI w) w 4 InpR a n c l
theorem Inps.chg {l : List Inp} (h : Inps EI w a n c l) (cg : Chg S w w') (hS : ∀ b ∈ S, ¬ TA EI w b) : Inps EI w' a n c l :=
 (SR.chg h cg hS fun _ _ h => h).mono (fun b hb _ => hb.chg cg fun hm => hS b hm hb) fun _ _ h => h
theorem Inps.ext {l : List Inp} (h : Inps EI w a n c l) (cg : Chg [] w w') : Inps EI w' a n c l := h.chg cg (by simp)
structure Bas where
 revision : Int
 inputs : List Inp
 recs : List Rec
 deriving DecidableEq
def BasR (EK ER EI : Nat) (w : World) (x : Bas) (r : List Value) : Prop :=
 ∃ a1 n1 c1 a2 n2 c2, r = [.int .i64 x.revision, .slice a1 n1 c1, .slice a2 n2 c2] ∧ Inps EI w a1 n1 c1 x.inputs ∧ Recs EK ER w a2 n2 c2 x.recs
theorem BasR.chg {x : Bas} {r : List Value} (h : BasR EK ER EI w x r) (cg : Chg S w w') (hS : ∀ b ∈ S, ¬ TA EK w b ∧ ¬ TA ER w b ∧ ¬ TA EI w b) : BasR EK ER EI w' x r := by
 obtain ⟨a1, n1, c1, a2, n2, c2, h1, h2, h3⟩ := h
 exact ⟨a1, n1, c1, a2, n2, c2, h1, h2.chg cg fun b hb => (hS b hb).2.2, h3.chg cg fun b hb => ⟨(hS b hb).1, (hS b hb).2.1⟩⟩
theorem BasR.ext {x : Bas} {r : List Value} (h : BasR EK ER EI w x r) (cg : Chg [] w w') : BasR EK ER EI w' x r := h.chg cg (by simp)
/-! the plain meaning -/
def findR (l : List Rec) (k : Key) : Option Rec := l.find? fun r => r.key == k
def findI (l : List Inp) (k : Key) : Inp := (l.find? fun x => x.key == k).getD ⟨k, ⟨#[]⟩, 0⟩
def dropR (l : List Rec) (k : Key) : List Rec := l.filter fun r => !(r.key == k)
end Go.Rc
namespace Go.Rc
open Go
theorem find_before {α : Type} {p : α → Bool} {l : List α} {i : Nat} (hi : i < l.length) (hno : ∀ j x, j < i → l[j]? = some x → p x = false) (hp : p l[i] = true) : l.find? p = some l[i] := by
 induction l generalizing i with
 | nil => simp at hi
 | cons y r ih =>
  cases i with
  | zero => simp at hp; simp [hp]
  | succ i =>
   have h0 : p y = false := hno 0 y (by omega) rfl
   rw [List.find?_cons, h0]
   simp at hp
   simpa using ih (i := i) (by simpa using hi) (fun j x hj hx => hno (j + 1) x (by omega) (by simpa using hx)) hp
theorem find_all {α : Type} {p : α → Bool} {l : List α} {i : Nat} (hi : l.length ≤ i) (hno : ∀ j x, j < i → l[j]? = some x → p x = false) : l.find? p = none := by
 rw [List.find?_eq_none]
 intro x hx
 obtain ⟨j, hj, rfl⟩ := List.mem_iff_getElem.1 hx
 simp [hno j _ (by omega) (List.getElem?_eq_getElem hj)]
theorem Rec.one (x : Rec) (a : Option Addr) (n c : Nat) : ∀ u ∈ x.row a n c, u.oneCell' = true := by simp [Rec.row, Value.oneCell']
theorem Inp.one (x : Inp) : ∀ u ∈ x.cells, u.oneCell' = true := by simp [Inp.cells, Value.oneCell']
end Go.Rc
namespace Go.Rc
theorem nns {l : List Go.Value} {j : Nat} {v : Go.Value} (h : nth l j = some v) : nth l j ≠ none := by rw [h]; simp
end Go.Rc
namespace Go.Rc
open Go
/-- Put, as a walk over the records. -/
def putGo (r : Rec) : List Rec → Bool → List Rec
 | [], put => if put then [] else [r]
 | x :: xs, put => (if decide (0 ≤ cmpK x.key r.key) && !put then [r] else []) ++ (if cmpK x.key r.key = 0 then [] else [x]) ++ putGo r xs (put || decide (0 ≤ cmpK x.key r.key))
def putR (l : List Rec) (r : Rec) : List Rec := putGo r l false
theorem putGo_len (r : Rec) : ∀ (l : List Rec) (b : Bool), (putGo r l b).length ≤ l.length + 1 := by
 intro l
 induction l with
 | nil => intro b; cases b <;> simp [putGo]
 | cons x xs ih =>
  intro b
  have h1 := ih (b || decide (0 ≤ cmpK x.key r.key))
  simp only [putGo, List.length_append, List.length_cons]
  have h2 : ∀ l : List Rec, (putGo r l true).length ≤ l.length := by
   intro l
   induction l with
   | nil => simp [putGo]
   | cons y ys ih2 => simp only [putGo, Bool.not_true, Bool.and_false, Bool.false_eq_true, if_false, Bool.true_or, List.length_append, List.length_cons, List.nil_append]; split <;> simp <;> omega
  by_cases h : (decide (0 ≤ cmpK x.key r.key) && !b) = true
  ·
   have hb : (b || decide (0 ≤ cmpK x.key r.key)) = true := by simp at h; simp [h.1]
   rw [if_pos h, hb]
   have h3 := h2 xs
   split <;> simp <;> omega
  ·
   rw [if_neg h]
   split <;> simp <;> omega
end Go.Rc
namespace Go.Rc
open Go
def recTail (x : Rec) : Bool :=
 validK x.key && (!isInput x.key && (decide ((x.value.size : Int) ≤ 1073741824) && (decide ((x.reads.length : Int) ≤ 4000) && (decide (0 ≤ x.changed) && (decide (x.changed ≤ x.verified) && (decide (x.verified ≤ 1073741824) &&
  (decide (1 ≤ x.cost) && (decide (x.cost ≤ 1073741824) && (!x.dirty || isCyclic x.key)))))))))
def validRec (x : Rec) : Bool := x.reads.all validK && recTail x
def ordBad (l : List Rec) (i : Nat) : Bool := !validRec l[i]! || (decide (0 < (i : Int)) && decide (0 ≤ cmpK l[i - 1]!.key l[i]!.key))
def recOkAt (l : List Rec) (i : Nat) (x : Rec) : Prop := validRec x = true ∧ (0 < i → cmpK l[i - 1]!.key x.key < 0)
def recsOk (l : List Rec) : Prop := l.length ≤ 4000 ∧ ∀ i x, l[i]? = some x → recOkAt l i x
theorem ordBad_false {l : List Rec} {i : Nat} (hi : i < l.length) : ordBad l i = false ↔ recOkAt l i l[i] := by
 simp only [ordBad, recOkAt, getElem!_pos l i hi, Bool.or_eq_false_iff, Bool.and_eq_false_iff, decide_eq_false_iff_not, Bool.not_eq_false']
 constructor
 ·
  rintro ⟨h1, h2⟩
  exact ⟨h1, fun h => by rcases h2 with h2 | h2 <;> omega⟩
 ·
  rintro ⟨h1, h2⟩
  refine ⟨h1, ?_⟩
  by_cases h : 0 < i
  ·
   have := h2 h; exact .inr (by omega)
  ·
   exact .inl (by omega)
end Go.Rc

