/- Base of the proof: frames, memory, ownership, and the plain meaning of rule systems. Conditions: as each lemma says. -/
import Derived.Test.YtlineioeefgnhaaGreatDoorBb
import Derived.Lib.SliceRun
import Derived.Deep.Slices
import Derived.SizedLaws
import Derived.Lib.LaidU8
import Derived.Lib.LaidTab
import GoSem.ClaimFn
import Derived.JoinedOf
import Derived.LaidOnce
import Derived.TwinInFollowed
set_option linter.unusedVariables false
set_option linter.unusedSimpArgs false
set_option linter.unusedSectionVars false
namespace Go.Rc
open Go
/-- What an operation is: of a value that stays; a new block, owned by the value; one of those that are in order. -/
inductive Kd where
 | pure
 | side (sh : Value → Prop) (it : Value → As)
 | chain
def Kd.E : Kd → Option (Value → World → Prop)
 | .pure => none
 | .side sh _ => some fun v _ => sh v
 | .chain => some fun _ _ => True
def kvS (ops : Array Oper) (vals : Nat → Value) : List Nat → KV → KV
 | [], kv => kv
 | j :: r, kv => kvS ops vals r (upd kv (dstAt ops j) (vals j))
theorem kvS_app (ops : Array Oper) (vals : Nat → Value) : ∀ (a b : List Nat) (kv : KV), kvS ops vals (a ++ b) kv = kvS ops vals b (kvS ops vals a kv)
 | [], _, _ => rfl
 | _ :: r, b, _ => kvS_app ops vals r b _
theorem kvS_congr {ops : Array Oper} {vals vals' : Nat → Value} : ∀ {l : List Nat} {kv : KV}, (∀ j ∈ l, vals j = vals' j) → kvS ops vals l kv = kvS ops vals' l kv
 | [], _, _ => rfl
 | j :: r, kv, h => by simp only [kvS]; rw [h j (by simp), kvS_congr fun x hx => h x (by simp [hx])]
theorem look_kvS {ops : Array Oper} {vals : Nat → Value} {t : Nat} {u : Value} : ∀ {l : List Nat} {kv : KV}, look (kvS ops vals l kv) t = some u →
  (∃ j ∈ l, dstAt ops j = some t ∧ u = vals j) ∨ ((∀ j ∈ l, dstAt ops j ≠ some t) ∧ look kv t = some u)
 | [], _, h => .inr ⟨by simp, h⟩
 | j :: r, kv, h => by
  rcases look_kvS (l := r) h with ⟨x, hx, h1, h2⟩ | ⟨h1, h2⟩
  ·
   exact .inl ⟨x, by simp [hx], h1, h2⟩
  ·
   rcases look_upd h2 with ⟨h3, h4⟩ | ⟨h3, h4⟩
   ·
    exact .inl ⟨j, by simp, h3, h4⟩
   ·
    refine .inr ⟨fun x hx => ?_, h4⟩
    rcases List.mem_cons.1 hx with rfl | hx
    ·
     exact h3
    ·
     exact h1 x hx
def CG (w0 : World) (M : Nat → Prop) (N : Nat) (ls1 : List As) (w : World) : Prop := N ≤ w.heap.size ∧ ∃ Z R, St w0 M Z w R ∧ ∀ A ∈ ls1, A ∈ R
section
variable (P : Program) (ops : Array Oper) (n : Nat) (w0 : World) (M : Nat → Prop) (N : Nat) (ls1 : List As) (K : Nat → Kd) (Fin : KV → World → Prop)
def DG : List Nat → KV → List (Nat × As) → (Nat → Prop) → List As → Prop
 | [], kv, sd, Z, ls => ∀ w, N ≤ w.heap.size → St w0 M Z w (sd.map (·.2) ++ ls) → Fin kv w
 | i :: l, kv, sd, Z, ls => ∃ o, ops[i]? = some o ∧ isSelect o.op = false ∧ dstOk n o.dst = true ∧
  ((gd ops kv o = some false ∧ DG l (upd kv o.dst undef) sd Z ls) ∨
   (gd ops kv o = some true ∧ known kv o.op = true ∧
   ((K i = .pure ∧ ∃ e, (∀ w, CG w0 M N ls1 w → (execOp (lkO kv) o).run P w = .ok (.value e) w) ∧ DG l (upd kv o.dst e) sd Z ls) ∨
    (∃ sh it, K i = .side sh it ∧ (∀ w Zx R, N ≤ w.heap.size → St w0 M Zx w R → outc P ((execOp (lkO kv) o).run P w) fun v w' => w.heap.size ≤ w'.heap.size ∧ sh v ∧ St w0 M Zx w' (it v :: R)) ∧
    (∀ v, sh v → DG l (upd kv o.dst v) ((i, it v) :: sd) Z ls)) ∨
    (K i = .chain ∧ ∀ w R, N ≤ w.heap.size → St w0 M Z w (ls ++ R) → (∀ p ∈ sd, p.2 ∈ R) → outc P ((execOp (lkO kv) o).run P w) fun v w' => w.heap.size ≤ w'.heap.size ∧ ∃ Z' ls', St w0 M Z' w' (ls' ++ R) ∧ (∀ A ∈ ls1, A ∈ ls') ∧
    DG l (upd kv o.dst v) sd Z' ls'))))
end
structure SigOk (ops : Array Oper) (m : Nat) (K : Nat → Kd) (σ : List Nat) : Prop where
 lt : ∀ i ∈ σ, i < m
 all : ∀ i, i < m → i ∈ σ
 nd : σ.Nodup
 topo : ∀ a i b, σ = a ++ i :: b → ∀ o, ops[i]? = some o → ∀ d ∈ deps o, d ∈ a
 clo : ∀ a i b, σ = a ++ i :: b → K i = .chain → ∀ (D : Nat → Prop), (∀ (j : Nat) o, D j → ops[j]? = some o → ∀ d ∈ deps o, D d) → (∀ o, ops[i]? = some o → ∀ d ∈ deps o, D d) → ∀ j ∈ a, D j
/-- Items by their keys. -/
theorem sub_perm : ∀ {l SL : List (Nat × As)}, (SL.map (·.1)).Nodup → (l.map (·.1)).Nodup → (∀ q ∈ l, q ∈ SL) → ∃ ex, List.Perm SL (l ++ ex)
 | [], SL, _, _, _ => ⟨SL, .refl _⟩
 | q :: l, SL, h1, h2, h3 => by
  obtain ⟨s, t, rfl⟩ := List.append_of_mem (h3 q (by simp))
  have hp : List.Perm (s ++ q :: t) (q :: (s ++ t)) := List.perm_middle
  have h4 := (hp.map (·.1)).nodup_iff.1 h1
  simp only [List.map_cons, List.nodup_cons] at h2 h4
  obtain ⟨ex, he⟩ := sub_perm h4.2 h2.2 fun x hx => by
   have := h3 x (by simp [hx])
   rcases List.mem_append.1 this with h | h
   ·
    exact List.mem_append_left _ h
   ·
    rcases List.mem_cons.1 h with rfl | h
    ·
     exact absurd (List.mem_map.2 ⟨x, hx, rfl⟩) h2.1
    ·
     exact List.mem_append_right _ h
  exact ⟨ex, hp.trans (.cons q he)⟩
theorem St.dropR {w0 w : World} {M Z : Nat → Prop} : ∀ {ex l : List As}, St w0 M Z w (l ++ ex) → St w0 M Z w l
 | [], l, h => by simpa using h
 | A :: ex, l, h => by
  have h1 : St w0 M Z w (A :: (l ++ ex)) := h.perm (List.perm_middle.symm)
  exact St.dropR h1.drop
section
variable {P : Program} {ops : Array Oper} {Q : Exit → Act → World → Prop} {n m N : Nat} {X σ : List Nat} {w0 : World} {M : Nat → Prop} {ls1 : List As} {K : Nat → Kd} {Fin : KV → World → Prop}
theorem agreeS {a0 a : Act} {kv0 : KV} {C : World → Prop} {E : Nat → Option (Value → World → Prop)} (hok : RegB ops m) (h0 : Fr n a0 kv0) {L : Nat → Bool} {vals vals' : Nat → Value} {w : World} (hI : Inv P ops n m C E a0 L vals a w)
  (hv : ∀ j, L j = true → vals' j = vals j) {i : Nat} {o : Oper} {τ : List Nat} (hτ : ∀ j ∈ τ, j < m) (hi : i < m) (ho : ops[i]? = some o) (hd : ∀ k ∈ deps o, L k = true) (hdt : ∀ k ∈ deps o, k ∈ τ) : Agree ops o a (kvS ops vals' τ kv0) := by
 intro t v ht hl
 rcases look_kvS hl with ⟨j, hj, hjt, rfl⟩ | ⟨hno, hl0⟩
 ·
  have hjd := hok.waits i o hi ho t ht j (hτ j hj) hjt
  have hLj := hd j hjd
  rw [hv j hLj]
  exact hI.here j (hτ j hj) hLj t hjt
 ·
  rw [hI.old t fun j hj hLj hjt => ?_]
  ·
   exact h0.val t v hl0
  ·
   exact hno j (hdt j (hok.waits i o hi ho t ht j hj hjt)) hjt
abbrev IG (P : Program) (ops : Array Oper) (n m N : Nat) (w0 : World) (M : Nat → Prop) (ls1 : List As) (K : Nat → Kd) := Inv P ops n m (CG w0 M N ls1) (fun j => (K j).E)
/-- What is known beside: how far the walk has come, and what is owned. -/
structure FG (P : Program) (ops : Array Oper) (n m N : Nat) (w0 : World) (M : Nat → Prop) (ls1 : List As) (K : Nat → Kd) (Fin : KV → World → Prop) (kv0 : KV) (L : Nat → Bool) (vals : Nat → Value) (w : World) (τ ρ : List Nat) (sd SL : List (Nat × As)) (Z : Nat → Prop) (ls : List As) : Prop where
 tau : ∀ j ∈ τ, L j = true
 rho : ∀ j ∈ ρ, K j = .chain → L j = false
 node : DG P ops n w0 M N ls1 K Fin ρ (kvS ops vals τ kv0) sd Z ls
 st : St w0 M Z w (SL.map (·.2) ++ ls)
 sub : ∀ A ∈ ls1, A ∈ ls
 nd : (SL.map (·.1)).Nodup
 key : ∀ q ∈ SL, L q.1 = true
 sds : ∀ q ∈ sd, q ∈ SL
 sdn : (sd.map (·.1)).Nodup
 sdt : ∀ q ∈ sd, q.1 ∈ τ
 own : ∀ j sh it, j < m → L j = true → K j = .side sh it → sh (vals j) → (j, it (vals j)) ∈ SL
/-- A way through what has not come up, to an operation. -/
theorem pathG {a0 a : Act} {kv0 : KV} (hok : RegB ops m) (h0 : Fr n a0 kv0) {L : Nat → Bool} {vals : Nat → Value} {w : World} (hI : IG P ops n m N w0 M ls1 K a0 L vals a w)
  {SL : List As} (hown : ∀ j sh it, j < m → L j = true → K j = .side sh it → sh (vals j) → it (vals j) ∈ SL) :
  ∀ (ρ1 : List Nat) (τ : List Nat) (ρ : List Nat) (vals' : Nat → Value) (sd : List (Nat × As)) (Z : Nat → Prop) (ls R : List As) (wh : World), (∀ j, L j = true → vals' j = vals j) → (∀ j ∈ τ ++ ρ1, j < m) → (τ ++ ρ1).Nodup →
   (∀ x i y, ρ1 = x ++ i :: y → ∀ o, ops[i]? = some o → ∀ d ∈ deps o, d ∈ τ ++ x) → (∀ j ∈ ρ1, K j = .chain → L j = false) →
   DG P ops n w0 M N ls1 K Fin (ρ1 ++ ρ) (kvS ops vals' τ kv0) sd Z ls → N ≤ wh.heap.size → St w0 M Z wh (ls ++ R) → (∀ A ∈ SL, A ∈ R) → (∀ p ∈ sd, p.2 ∈ R) →
   ∃ vals' sd Z ls, (∀ j, L j = true → vals' j = vals j) ∧ DG P ops n w0 M N ls1 K Fin ρ (kvS ops vals' (τ ++ ρ1) kv0) sd Z ls := by
 intro ρ1
 induction ρ1 with
 | nil => intro τ ρ vals' sd Z ls R wh hv _ _ _ _ hD _ _ _ _; exact ⟨vals', sd, Z, ls, hv, by simpa using hD⟩
 | cons i ρ1 ih =>
  intro τ ρ vals' sd Z ls R wh hv hlt hnd htopo hch hD hN hst hSL hsd
  obtain ⟨o, ho, hsel, hdok, hcase⟩ := hD
  have him : i < m := hlt i (by simp)
  have hdst : dstAt ops i = o.dst := by simp [dstAt, ho]
  have hdt : ∀ d ∈ deps o, d ∈ τ := fun d hd => by simpa using htopo [] i ρ1 rfl o ho d hd
  have hni : i ∉ τ := fun h => by
   have := (List.nodup_append.1 hnd).2.2 i h i (by simp)
   exact this rfl
  have hlt' : ∀ j ∈ (τ ++ [i]) ++ ρ1, j < m := fun j hj => hlt j (by simpa using hj)
  have hnd' : ((τ ++ [i]) ++ ρ1).Nodup := by simpa using hnd
  have htopo' : ∀ x k y, ρ1 = x ++ k :: y → ∀ o, ops[k]? = some o → ∀ d ∈ deps o, d ∈ (τ ++ [i]) ++ x := fun x k y e o ho d hd => by
   have := htopo (i :: x) k y (by rw [e]; rfl) o ho d hd
   simpa using this
  have next : ∀ u, kvS ops (fun j => if j = i then u else vals' j) (τ ++ [i]) kv0 = upd (kvS ops vals' τ kv0) o.dst u := fun u => by
   rw [kvS_app, kvS_congr (vals' := vals') (l := τ) fun j hj => by rw [if_neg fun e => hni (by rw [← e]; exact hj)]]
   simp only [kvS, hdst, if_true]
  have hv' : ∀ u, (L i = true → u = vals i) → ∀ j, L j = true → (if j = i then u else vals' j) = vals j := fun u hu j hj => by
   by_cases e : j = i
   ·
    subst e; rw [if_pos rfl]; exact hu hj
   ·
    rw [if_neg e]; exact hv j hj
  have fin : ∀ u sd' Z' ls' R' wh', (L i = true → u = vals i) → DG P ops n w0 M N ls1 K Fin (ρ1 ++ ρ) (upd (kvS ops vals' τ kv0) o.dst u) sd' Z' ls' → N ≤ wh'.heap.size → St w0 M Z' wh' (ls' ++ R') → (∀ A ∈ SL, A ∈ R') → (∀ p ∈ sd', p.2 ∈ R') →
    ∃ vals' sd Z ls, (∀ j, L j = true → vals' j = vals j) ∧ DG P ops n w0 M N ls1 K Fin ρ (kvS ops vals' (τ ++ i :: ρ1) kv0) sd Z ls := fun u sd' Z' ls' R' wh' hu hD hN hst hSL hsd => by
   have := ih (τ ++ [i]) ρ (fun j => if j = i then u else vals' j) sd' Z' ls' R' wh' (hv' u hu) hlt' hnd' htopo' (fun j hj => hch j (by simp [hj])) (by rw [next]; exact hD) hN hst hSL hsd
   simpa using this
  have hag : L i = true → Agree ops o a (kvS ops vals' τ kv0) := fun hLi => agreeS hok h0 hI hv (fun j hj => hlt j (by simp [hj])) him ho (hI.closed i o him hLi ho) hdt
  rcases hcase with ⟨hg, hrest⟩ | ⟨hg, hk, hcase⟩
  ·
   exact fin undef sd Z ls R wh (fun hLi => (hI.no i o him hLi ho ((hag hLi).wanted hg)).symm) hrest hN hst hSL hsd
  ·
   rcases hcase with ⟨hK, e, hrun, hrest⟩ | ⟨sh, it, hK, hout, hrest⟩ | ⟨hK, hout⟩
   ·
    refine fin e sd Z ls R wh (fun hLi => ?_) hrest hN hst hSL hsd
    obtain ⟨wj, hCj, hrj⟩ := hI.det i o him hLi ho ((hag hLi).wanted hg) (by show (K i).E = none; rw [hK]; rfl)
    rw [(hag hLi).exec hsel hk, hrun wj hCj] at hrj
    simpa using hrj
   ·
    by_cases hLi : L i = true
    ·
     have hs : sh (vals i) := hI.eff i o (fun v _ => sh v) him hLi ho ((hag hLi).wanted hg) (by show (K i).E = _; rw [hK]; rfl)
     exact fin (vals i) _ Z ls R wh (fun _ => rfl) (hrest _ hs) hN hst hSL (fun p hp => by
      rcases List.mem_cons.1 hp with rfl | hp
      ·
       exact hSL _ (hown i sh it him hLi hK hs)
      ·
       exact hsd p hp)
    ·
     obtain ⟨v, wh', hs1, hs, hs2⟩ := (hout wh Z _ hN hst).exists
     exact fin v _ Z ls (it v :: R) wh' (fun h => absurd h hLi) (hrest v hs) (Nat.le_trans hN hs1) (hs2.perm List.perm_middle) (fun A hA => by simp [hSL A hA]) (fun p hp => by
      rcases List.mem_cons.1 hp with rfl | hp
      ·
       simp
      ·
       simp [hsd p hp])
   ·
    obtain ⟨v, wh', hs1, Z', ls', hs2, _, hs4⟩ := (hout wh R hN hst hsd).exists
    exact fin v sd Z' ls' R wh' (fun h => by rw [hch i (by simp) hK] at h; cases h) hs4 (Nat.le_trans hN hs1) hs2 hSL hsd
/-- A way through what has come up. -/
theorem pathL {a0 a : Act} {kv0 : KV} (hok : RegB ops m) (h0 : Fr n a0 kv0) {L : Nat → Bool} {vals : Nat → Value} {w : World} (hI : IG P ops n m N w0 M ls1 K a0 L vals a w)
  {SL : List (Nat × As)} (hown : ∀ j sh it, j < m → L j = true → K j = .side sh it → sh (vals j) → (j, it (vals j)) ∈ SL) {Z : Nat → Prop} {ls : List As} :
  ∀ (ρ1 : List Nat) (τ : List Nat) (ρ : List Nat) (sd : List (Nat × As)), (∀ j ∈ τ ++ ρ1, j < m) → (τ ++ ρ1).Nodup →
   (∀ x i y, ρ1 = x ++ i :: y → ∀ o, ops[i]? = some o → ∀ d ∈ deps o, d ∈ τ ++ x) → (∀ j ∈ ρ1, L j = true) → (∀ j ∈ ρ1, K j = .chain → L j = false) →
   DG P ops n w0 M N ls1 K Fin (ρ1 ++ ρ) (kvS ops vals τ kv0) sd Z ls → (∀ q ∈ sd, q ∈ SL) → (sd.map (·.1)).Nodup → (∀ q ∈ sd, q.1 ∈ τ) →
   ∃ sd', DG P ops n w0 M N ls1 K Fin ρ (kvS ops vals (τ ++ ρ1) kv0) sd' Z ls ∧ (∀ q ∈ sd', q ∈ SL) ∧ (sd'.map (·.1)).Nodup ∧ (∀ q ∈ sd', q.1 ∈ τ ++ ρ1) := by
 intro ρ1
 induction ρ1 with
 | nil => intro τ ρ sd _ _ _ _ _ hD h1 h2 h3; exact ⟨sd, by simpa using hD, h1, h2, by simpa using h3⟩
 | cons i ρ1 ih =>
  intro τ ρ sd hlt hnd htopo hall hch hD h1 h2 h3
  obtain ⟨o, ho, hsel, hdok, hcase⟩ := hD
  have him : i < m := hlt i (by simp)
  have hdst : dstAt ops i = o.dst := by simp [dstAt, ho]
  have hdt : ∀ d ∈ deps o, d ∈ τ := fun d hd => by simpa using htopo [] i ρ1 rfl o ho d hd
  have hni : i ∉ τ := fun h => by
   have := (List.nodup_append.1 hnd).2.2 i h i (by simp)
   exact this rfl
  have hLi := hall i (by simp)
  have next : kvS ops vals (τ ++ [i]) kv0 = upd (kvS ops vals τ kv0) o.dst (vals i) := by rw [kvS_app]; simp only [kvS, hdst]
  have fin : ∀ sd', DG P ops n w0 M N ls1 K Fin (ρ1 ++ ρ) (upd (kvS ops vals τ kv0) o.dst (vals i)) sd' Z ls → (∀ q ∈ sd', q ∈ SL) → (sd'.map (·.1)).Nodup → (∀ q ∈ sd', q.1 ∈ τ ++ [i]) →
    ∃ sd', DG P ops n w0 M N ls1 K Fin ρ (kvS ops vals (τ ++ i :: ρ1) kv0) sd' Z ls ∧ (∀ q ∈ sd', q ∈ SL) ∧ (sd'.map (·.1)).Nodup ∧ (∀ q ∈ sd', q.1 ∈ τ ++ i :: ρ1) := fun sd' hD g1 g2 g3 => by
   have := ih (τ ++ [i]) ρ sd' (fun j hj => hlt j (by simpa using hj)) (by simpa using hnd) (fun x k y e o ho d hd => by
    have := htopo (i :: x) k y (by rw [e]; rfl) o ho d hd
    simpa using this) (fun j hj => hall j (by simp [hj])) (fun j hj => hch j (by simp [hj])) (by rw [next]; exact hD) g1 g2 g3
   simpa using this
  have hag : Agree ops o a (kvS ops vals τ kv0) := agreeS hok h0 hI (fun _ _ => rfl) (fun j hj => hlt j (by simp [hj])) him ho (hI.closed i o him hLi ho) hdt
  rcases hcase with ⟨hg, hrest⟩ | ⟨hg, hk, hcase⟩
  ·
   have := hI.no i o him hLi ho (hag.wanted hg)
   exact fin sd (by rw [this]; exact hrest) h1 h2 (fun q hq => by simp [h3 q hq])
  ·
   rcases hcase with ⟨hK, e, hrun, hrest⟩ | ⟨sh, it, hK, hout, hrest⟩ | ⟨hK, hout⟩
   ·
    obtain ⟨wj, hCj, hrj⟩ := hI.det i o him hLi ho (hag.wanted hg) (by show (K i).E = none; rw [hK]; rfl)
    rw [hag.exec hsel hk, hrun wj hCj] at hrj
    have he : e = vals i := by simpa using hrj
    exact fin sd (by rw [← he]; exact hrest) h1 h2 (fun q hq => by simp [h3 q hq])
   ·
    have hs : sh (vals i) := hI.eff i o (fun v _ => sh v) him hLi ho (hag.wanted hg) (by show (K i).E = _; rw [hK]; rfl)
    refine fin _ (hrest _ hs) (fun q hq => ?_) ?_ (fun q hq => ?_)
    ·
     rcases List.mem_cons.1 hq with rfl | hq
     ·
      exact hown i sh it him hLi hK hs
     ·
      exact h1 q hq
    ·
     simp only [List.map_cons, List.nodup_cons]
     exact ⟨fun h => by obtain ⟨q, hq, e⟩ := List.mem_map.1 h; exact hni (by rw [← e]; exact h3 q hq), h2⟩
    ·
     rcases List.mem_cons.1 hq with rfl | hq
     ·
      simp
     ·
      simp [h3 q hq]
   ·
    rw [hch i (by simp) hK] at hLi; cases hLi
theorem FG.pass {kv0 : KV} {L : Nat → Bool} {vals : Nat → Value} {w : World} {τ ρ : List Nat} {sd SL : List (Nat × As)} {Z : Nat → Prop} {ls : List As} (h : FG P ops n m N w0 M ls1 K Fin kv0 L vals w τ ρ sd SL Z ls) {i : Nat} {v : Value} (hL : L i = false) (hK : K i ≠ .chain) (hv : ∀ sh it, K i = .side sh it → ¬ sh v) :
  FG P ops n m N w0 M ls1 K Fin kv0 (fun j => if j = i then true else L j) (fun j => if j = i then v else vals j) w τ ρ sd SL Z ls := by
 have hit : i ∉ τ := fun h1 => by have := h.tau i h1; rw [hL] at this; cases this
 refine ⟨fun j hj => ?_, fun j hj hc => ?_, ?_, h.st, h.sub, h.nd, fun q hq => ?_, h.sds, h.sdn, h.sdt, fun j sh it hj hLj hKj hs => ?_⟩
 ·
  by_cases e : j = i <;> simp [e]; exact h.tau j hj
 ·
  rw [if_neg fun e => hK (by rw [← e]; exact hc)]; exact h.rho j hj hc
 ·
  rw [kvS_congr (vals' := vals) fun j hj => by rw [if_neg fun e => hit (by rw [← e]; exact hj)]]; exact h.node
 ·
  by_cases e : q.1 = i <;> simp [e]; exact h.key q hq
 ·
  by_cases e : j = i
  ·
   subst e; simp only [if_true] at hs; exact absurd hs (hv sh it hKj)
  ·
   simp only [if_neg e] at hLj hs ⊢; exact h.own j sh it hj hLj hKj hs
theorem FG.side {kv0 : KV} {L : Nat → Bool} {vals : Nat → Value} {w w' : World} {τ ρ : List Nat} {sd SL : List (Nat × As)} {Z : Nat → Prop} {ls : List As} (h : FG P ops n m N w0 M ls1 K Fin kv0 L vals w τ ρ sd SL Z ls) {i : Nat} {v : Value} {sh : Value → Prop} {it : Value → As} (hL : L i = false) (hK : K i = .side sh it)
  (hst : St w0 M Z w' (it v :: (SL.map (·.2) ++ ls))) :
  FG P ops n m N w0 M ls1 K Fin kv0 (fun j => if j = i then true else L j) (fun j => if j = i then v else vals j) w' τ ρ sd ((i, it v) :: SL) Z ls := by
 have hit : i ∉ τ := fun h1 => by have := h.tau i h1; rw [hL] at this; cases this
 refine ⟨fun j hj => ?_, fun j hj hc => ?_, ?_, hst, h.sub, ?_, fun q hq => ?_, fun q hq => by simp [h.sds q hq], h.sdn, h.sdt, fun j sh' it' hj hLj hKj hs => ?_⟩
 ·
  by_cases e : j = i <;> simp [e]; exact h.tau j hj
 ·
  rw [if_neg fun e => by rw [← e, hc] at hK; cases hK]; exact h.rho j hj hc
 ·
  rw [kvS_congr (vals' := vals) fun j hj => by rw [if_neg fun e => hit (by rw [← e]; exact hj)]]; exact h.node
 ·
  simp only [List.map_cons, List.nodup_cons]
  exact ⟨fun hm => by (obtain ⟨q, hq, e⟩ := List.mem_map.1 hm; have := h.key q hq; rw [e, hL] at this; exact Bool.noConfusion this), h.nd⟩
 ·
  rcases List.mem_cons.1 hq with rfl | hq
  ·
   simp
  ·
   by_cases e : q.1 = i <;> simp [e]; exact h.key q hq
 ·
  by_cases e : j = i
  ·
   subst e
   rw [hK] at hKj
   simp only [Kd.side.injEq] at hKj
   obtain ⟨rfl, rfl⟩ := hKj
   simp
  ·
   simp only [if_neg e] at hLj hs ⊢
   exact List.mem_cons_of_mem _ (h.own j sh' it' hj hLj hKj hs)
theorem phaseG {a0 : Act} {kv0 : KV} (hXp : ∀ x ∈ X, K x = .pure) (hok : RegX ops m X) (hsig : SigOk ops m K σ) (hsh : ∀ j sh it, K j = .side sh it → ¬ sh undef) (h0 : Fr n a0 kv0) :
  ∀ (fuel : Nat) (listed : Array Bool) (vals : Nat → Value) (a : Act) (w : World) (τ ρ : List Nat) (sd SL : List (Nat × As)) (Z : Nat → Prop) (ls : List As), σ = τ ++ ρ → listed.size = ops.size → left (fun j => listed.getD j false) ops.size ≤ fuel → (∀ j, m ≤ j → listed.getD j false = false) →
  IG P ops n m N w0 M ls1 K a0 (fun j => listed.getD j false) vals a w → FG P ops n m N w0 M ls1 K (fun kv w => WL P ops (NP Q) (ops.toList.drop m) n kv w) kv0 (fun j => listed.getD j false) vals w τ ρ sd SL Z ls → wpAny P .any ops (NP Q) fuel listed a w := by
 have hltp : ∀ {τ ρ : List Nat}, σ = τ ++ ρ → ∀ j ∈ τ ++ ρ, j < m := fun e j hj => hsig.lt j (by rw [e]; exact hj)
 -- when all of the first part has come up
 have fin : ∀ (listed : Array Bool) (vals : Nat → Value) (a : Act) (w : World) (τ ρ : List Nat) (sd SL : List (Nat × As)) (Z : Nat → Prop) (ls : List As), σ = τ ++ ρ → (∀ j, j < m → listed.getD j false = true) → IG P ops n m N w0 M ls1 K a0 (fun j => listed.getD j false) vals a w →
   FG P ops n m N w0 M ls1 K (fun kv w => WL P ops (NP Q) (ops.toList.drop m) n kv w) kv0 (fun j => listed.getD j false) vals w τ ρ sd SL Z ls → wpList P ops (NP Q) (ops.toList.drop m) a w := by
  intro listed vals a w τ ρ sd SL Z ls hs hall hI hF
  obtain ⟨sd', hD, h1, h2, _⟩ := pathL (ρ := []) hok.toRegB h0 hI (fun j sh it hj hLj hKj hs => hF.own j sh it hj hLj hKj hs) ρ τ sd (hltp hs) (by rw [← hs]; exact hsig.nd) (fun x i y e => hsig.topo (τ ++ x) i y (by rw [hs, e, List.append_assoc])) (fun j hj => hall j (hltp hs j (List.mem_append_right _ hj))) hF.rho (by simpa using hF.node) hF.sds hF.sdn hF.sdt
  obtain ⟨ex, hp⟩ := sub_perm hF.nd h2 h1
  have hp2 : List.Perm ((sd'.map (·.2) ++ ls) ++ ex.map (·.2)) (SL.map (·.2) ++ ls) := by
   have h3 : List.Perm (SL.map (·.2)) (sd'.map (·.2) ++ ex.map (·.2)) := by simpa using hp.map (·.2)
   refine List.Perm.trans ?_ (h3.symm.append_right ls)
   rw [List.append_assoc, List.append_assoc]
   exact List.Perm.append_left _ List.perm_append_comm
  refine hD w hI.c.1 ((hF.st.perm hp2).dropR) a ⟨hI.size, hI.nod, fun t v hl => ?_⟩
  rw [← hs] at hl
  rcases look_kvS hl with ⟨j, hj, hjt, rfl⟩ | ⟨hno, hl0⟩
  ·
   exact hI.here j (hsig.lt j hj) (hall j (hsig.lt j hj)) t hjt
  ·
   rw [hI.old t fun j hj _ => hno j (hsig.all j hj)]
   exact h0.val t v hl0
 intro fuel
 induction fuel with
 | zero =>
  intro listed vals a w τ ρ sd SL Z ls hs hsz hleft htail hI hF
  have hall := left_zero (Nat.le_zero.1 hleft)
  have hm : m = ops.size := by
   rcases Nat.lt_or_ge m ops.size with h | h
   ·
    have h1 := hall m h
    have h2 := htail m (Nat.le_refl _)
    rw [h2] at h1; cases h1
   ·
    have := hok.le; omega
  have h := fin listed vals a w τ ρ sd SL Z ls hs (fun j hj => hall j (by omega)) hI hF
  rw [List.drop_eq_nil_of_le (by simp; omega)] at h
  refine ⟨List.eq_nil_iff_forall_not_mem.2 fun i hi => ?_, h⟩
  obtain ⟨h0, o, ho, _⟩ := mem_ready.1 hi
  have hlt : i < ops.size := (Array.getElem?_eq_some_iff.1 ho).1
  have h1 := hall i hlt
  simp only [Array.getD_eq_getD_getElem?] at h0 h1
  cases hx : listed[i]? with
  | none => rw [hx] at h0; simp at h0
  | some b => rw [hx] at h0 h1; simp at h0 h1; rw [h0] at h1; cases h1
 | succ fuel ih =>
  intro listed vals a w τ ρ sd SL Z ls hs hsz hleft htail hI hF
  have hlistB : ∀ j, j < ops.size → ∀ b, listed.getD j b = listed.getD j false := fun j hj b => by
   simp [Array.getD, show j < listed.size by omega]
  have least : Region.ready .any ops listed = [] → ∀ j, j < ops.size → listed.getD j false = true := by
   intro hnil j
   induction j using Nat.strongRecOn with
   | _ j ihj =>
    intro hj
    cases hb : listed.getD j false with
    | true => rfl
    | false =>
     exfalso
     have : j ∈ Region.ready .any ops listed := by
      refine mem_ready.2 ⟨by rw [hlistB j hj true, hb], ops[j], by simp [hj], fun e he hbd => ?_⟩
      have hek : e.on < j := hok.back j ops[j] (by simp [hj]) e.on (List.mem_map.2 ⟨e, List.mem_filter.2 ⟨by simpa using he, hbd⟩, rfl⟩)
      exact ihj e.on hek (by omega)
     rw [hnil] at this
     cases this
  -- what is known of an operation of the first part that may come up
  have at_ : ∀ i, i ∈ Region.ready .any ops listed → i < m → ∃ o ρ1 ρ2, ops[i]? = some o ∧ ρ = ρ1 ++ i :: ρ2 ∧ listed.getD i false = false ∧ i < ops.size ∧ (∀ k ∈ deps o, listed.getD k false = true) ∧ (∀ k ∈ deps o, k ∈ τ ++ ρ1) := by
   intro i hi him
   obtain ⟨hli, o, ho, hdo⟩ := mem_ready.1 hi
   have hlt : i < ops.size := (Array.getElem?_eq_some_iff.1 ho).1
   have hLi : listed.getD i false = false := by rw [← hlistB i hlt true]; exact hli
   have hmem : i ∈ τ ++ ρ := by rw [← hs]; exact hsig.all i him
   have hir : i ∈ ρ := by
    rcases List.mem_append.1 hmem with h | h
    ·
     have := hF.tau i h; simp only [hLi] at this; cases this
    ·
     exact h
   obtain ⟨ρ1, ρ2, hr⟩ := List.append_of_mem hir
   refine ⟨o, ρ1, ρ2, ho, hr, hLi, hlt, fun k hk => ?_, hsig.topo (τ ++ ρ1) i ρ2 (by rw [hs, hr, List.append_assoc]) o ho⟩
   unfold deps at hk
   obtain ⟨e, he, rfl⟩ := List.mem_map.1 hk
   obtain ⟨he1, he2⟩ := List.mem_filter.1 he
   exact hdo e (by simpa using he1) he2
  have hL' : ∀ i, i < ops.size → ∀ j, (listed.setIfInBounds i true).getD j false = if j = i then true else listed.getD j false := fun i hlt j => by
   by_cases e : j = i
   ·
    subst e; simp [hsz, hlt]
   ·
    rw [if_neg e]
    simp [Array.getElem?_setIfInBounds_ne (fun h => e h.symm)]
  have next : ∀ i o v w' τ' ρ' sd' SL' Z' ls', i < m → i < ops.size → listed.getD i false = false → σ = τ' ++ ρ' → IG P ops n m N w0 M ls1 K a0 (fun j => if j = i then true else listed.getD j false) (fun j => if j = i then v else vals j) (a.put o v) w' →
    FG P ops n m N w0 M ls1 K (fun kv w => WL P ops (NP Q) (ops.toList.drop m) n kv w) kv0 (fun j => if j = i then true else listed.getD j false) (fun j => if j = i then v else vals j) w' τ' ρ' sd' SL' Z' ls' → wpAny P .any ops (NP Q) fuel (listed.setIfInBounds i true) (a.put o v) w' := by
   intro i o v w' τ' ρ' sd' SL' Z' ls' him hlt hLi hs' hI' hF'
   have e : (fun j => (listed.setIfInBounds i true).getD j false) = (fun j => if j = i then true else listed.getD j false) := funext (hL' i hlt)
   refine ih _ _ _ _ τ' ρ' sd' SL' Z' ls' hs' (by simpa using hsz) ?_ (fun j hj => by rw [hL' i hlt, if_neg (by omega)]; exact htail j hj) (by rw [e]; exact hI') (by rw [e]; exact hF')
   have := (left_set (L := fun j => listed.getD j false) (L' := fun j => (listed.setIfInBounds i true).getD j false) hLi (hL' i hlt) (k := ops.size)).2 hlt
   omega
  -- a node for it
  have nodeAt : ∀ i o ρ1 ρ2, i < m → ops[i]? = some o → ρ = ρ1 ++ i :: ρ2 → (∀ k ∈ deps o, listed.getD k false = true) → (∀ k ∈ deps o, k ∈ τ ++ ρ1) → ∃ kv sd' Z' ls', Agree ops o a kv ∧ DG P ops n w0 M N ls1 K (fun kv w => WL P ops (NP Q) (ops.toList.drop m) n kv w) (i :: ρ2) kv sd' Z' ls' := by
   intro i o ρ1 ρ2 him ho hr hd hdt
   have hlt1 : ∀ j ∈ τ ++ ρ1, j < m := fun j hj => hltp hs j (by rw [hr]; rcases List.mem_append.1 hj with h | h <;> simp [h])
   have hnd1 : (τ ++ ρ1).Nodup := by
    have := hsig.nd
    rw [hs, hr, ← List.append_assoc] at this
    exact (List.nodup_append.1 this).1
   obtain ⟨vals', sd', Z', ls', hv, hD⟩ := pathG hok.toRegB h0 hI (SL := SL.map (·.2)) (fun j sh it hj hLj hKj hs => List.mem_map.2 ⟨_, hF.own j sh it hj hLj hKj hs, rfl⟩) ρ1 τ (i :: ρ2) vals sd Z ls (SL.map (·.2)) w (fun _ _ => rfl) hlt1 hnd1
    (fun x j y e => hsig.topo (τ ++ x) j (y ++ i :: ρ2) (by rw [hs, hr, e]; simp)) (fun j hj => hF.rho j (by rw [hr]; simp [hj])) (by rw [← hr]; exact hF.node) hI.c.1 (hF.st.perm List.perm_append_comm) (fun A h => h) (fun p hp => List.mem_map.2 ⟨p, hF.sds p hp, rfl⟩)
   exact ⟨_, sd', Z', ls', agreeS hok.toRegB h0 hI hv hlt1 him ho hd hdt, hD⟩
  by_cases hx : ∃ i, i ∈ X ∧ i ∈ Region.ready .any ops listed
  ·
   obtain ⟨i, hiX, hi⟩ := hx
   have him := hok.xlt i hiX
   obtain ⟨o, ρ1, ρ2, ho, hr, hLi, hlt, hd, hdt⟩ := at_ i hi him
   obtain ⟨kv, sd', Z', ls', hag, o', ho', hsel, hdok, hcase⟩ := nodeAt i o ρ1 ρ2 him ho hr hd hdt
   have eo : o' = o := by rw [ho] at ho'; exact (Option.some.inj ho').symm
   subst eo
   have hKp := hXp i hiX
   have first : ∀ v, Yields P ops o' v a → IG P ops n m N w0 M ls1 K a0 (fun j => if j = i then true else listed.getD j false) (fun j => if j = i then v else vals j) (a.put o'.dst v) w → wpAny P .any ops (NP Q) (fuel + 1) listed a w := fun v hy hI' =>
    wpAny_first ho (fun j p cs b hp e => by have := hok.nosels j p hp; rw [e] at this; simp [isSelect] at this) (fun c _ _ h => absurd rfl (h.1 c)) fuel listed a w
     (fun j p hp hne hun hno => by
      rcases hok.xap i hiX o' ho j p hp hne with h | h | h
      ·
       obtain ⟨e, he, hei⟩ := List.mem_map.1 h
       obtain ⟨he1, he2⟩ := List.mem_filter.1 he
       exact absurd hei (hno e (by simpa using he1) he2)
      ·
       have h1 := hd j h
       have h2 : j < ops.size := (Array.getElem?_eq_some_iff.1 hp).1
       rw [hlistB j h2 true, h1] at hun; cases hun
      ·
       exact h) hi hy (next i o'.dst v w τ ρ sd SL Z ls him hlt hLi hs hI' (hF.pass hLi (by rw [hKp]; simp) (fun sh it h => by rw [hKp] at h; cases h)))
   rcases hcase with ⟨hg, _⟩ | ⟨hg, hk, hcase⟩
   ·
    have hw := hag.wanted hg
    exact first undef (.inr ⟨hw, rfl⟩) (hI.put hok.toRegB him ho hLi hd hdok hI.c (fun _ _ _ _ _ _ h => h) (fun _ => rfl) (fun h => by rw [hw] at h; cases h) (fun S h => by rw [hw] at h; cases h))
   ·
    have hw := hag.wanted hg
    rcases hcase with ⟨_, e, hrun, _⟩ | ⟨sh, it, hK, _⟩ | ⟨hK, _⟩
    ·
     have hr := hrun w hI.c
     rw [← hag.exec hsel hk] at hr
     exact first e (.inl ⟨hw, fun w' => mv_any (hok.xmv i hiX o' ho) hr w'⟩) (hI.put hok.toRegB him ho hLi hd hdok hI.c (fun _ _ _ _ _ _ h => h) (fun h => by rw [hw] at h; cases h) (fun _ _ => ⟨w, hI.c, hr⟩) (fun S _ h => by simp only [hKp, Kd.E] at h; cases h))
    ·
     rw [hKp] at hK; cases hK
    ·
     rw [hKp] at hK; cases hK
  refine ⟨fun hnil => ?_, fun i hi => ?_⟩
  ·
   have hall := least hnil
   have hm : m = ops.size := by
    rcases Nat.lt_or_ge m ops.size with h | h
    ·
     have h1 := hall m h
     have h2 := htail m (Nat.le_refl _)
     rw [h2] at h1; cases h1
    ·
     have := hok.le; omega
   have h := fin listed vals a w τ ρ sd SL Z ls hs (fun j hj => hall j (by omega)) hI hF
   rw [List.drop_eq_nil_of_le (by simp; omega)] at h
   exact h
  ·
   rcases Nat.lt_or_ge i m with him | him
   ·
    obtain ⟨o, ρ1, ρ2, ho, hr, hLi, hlt, hd, hdt⟩ := at_ i hi him
    have hclosed : ∀ (j : Nat) o, listed.getD j false = true → ops[j]? = some o → ∀ d ∈ deps o, listed.getD d false = true := fun j p hj hp d hdm => by
     have hjm : j < m := by
      rcases Nat.lt_or_ge j m with h | h
      ·
       exact h
      ·
       have := htail j h; rw [this] at hj; cases hj
     exact hI.closed j p hjm hj hp d hdm
    unfold wpOp
    rw [ho]
    simp only
    by_cases hKc : K i = .chain
    ·
     -- one of those in order
     have hallt : ∀ j ∈ τ ++ ρ1, listed.getD j false = true := hsig.clo (τ ++ ρ1) i ρ2 (by rw [hs, hr, List.append_assoc]) hKc (fun j => listed.getD j false = true) hclosed (fun p hp => by rw [ho] at hp; simp at hp; subst hp; exact hd)
     have hlt1 : ∀ j ∈ τ ++ ρ1, j < m := fun j hj => hltp hs j (by rw [hr]; rcases List.mem_append.1 hj with h | h <;> simp [h])
     have hnd2 : ((τ ++ ρ1) ++ i :: ρ2).Nodup := by have := hsig.nd; rw [hs, hr, ← List.append_assoc] at this; exact this
     have hni : i ∉ τ ++ ρ1 := fun h => (List.nodup_append.1 hnd2).2.2 i h i (by simp) rfl
     have hni2 : i ∉ ρ2 := by have := (List.nodup_append.1 hnd2).2.1; simp only [List.nodup_cons] at this; exact this.1
     obtain ⟨sd', hD, h1, h2, h3⟩ := pathL (ρ := i :: ρ2) hok.toRegB h0 hI (fun j sh it hj hLj hKj hs => hF.own j sh it hj hLj hKj hs) ρ1 τ sd hlt1 (List.nodup_append.1 hnd2).1 (fun x j y e => hsig.topo (τ ++ x) j (y ++ i :: ρ2) (by rw [hs, hr, e]; simp)) (fun j hj => hallt j (by simp [hj])) (fun j hj => hF.rho j (by rw [hr]; simp [hj])) (by rw [← hr]; exact hF.node) hF.sds hF.sdn hF.sdt
     have hag : Agree ops o a (kvS ops vals (τ ++ ρ1) kv0) := agreeS hok.toRegB h0 hI (fun _ _ => rfl) hlt1 him ho hd hdt
     obtain ⟨o', ho', hsel, hdok, hcase⟩ := hD
     have eo : o' = o := by rw [ho] at ho'; exact (Option.some.inj ho').symm
     subst eo
     have hdst : dstAt ops i = o'.dst := by simp [dstAt, ho]
     have adv : ∀ v w' Z' ls', St w0 M Z' w' (ls' ++ SL.map (·.2)) → (∀ A ∈ ls1, A ∈ ls') → DG P ops n w0 M N ls1 K (fun kv w => WL P ops (NP Q) (ops.toList.drop m) n kv w) ρ2 (upd (kvS ops vals (τ ++ ρ1) kv0) o'.dst v) sd' Z' ls' →
       FG P ops n m N w0 M ls1 K (fun kv w => WL P ops (NP Q) (ops.toList.drop m) n kv w) kv0 (fun j => if j = i then true else listed.getD j false) (fun j => if j = i then v else vals j) w' ((τ ++ ρ1) ++ [i]) ρ2 sd' SL Z' ls' := fun v w' Z' ls' hst hsub hD => by
      refine ⟨fun j hj => ?_, fun j hj hc => ?_, ?_, hst.perm List.perm_append_comm, hsub, hF.nd, fun q hq => ?_, h1, h2, fun q hq => by simp only [List.mem_append]; exact .inl (List.mem_append.1 (h3 q hq)), fun j sh it hj hLj hKj hs => ?_⟩
      ·
       rcases List.mem_append.1 hj with hj | hj
       ·
        show (if j = i then true else listed.getD j false) = true
        split
        ·
         rfl
        ·
         exact hallt j hj
       ·
        simp at hj; simp [hj]
      ·
       rw [if_neg fun e => hni2 (by rw [← e]; exact hj)]; exact hF.rho j (by rw [hr]; simp [hj]) hc
      ·
       rw [kvS_app, kvS_congr (vals' := vals) (l := τ ++ ρ1) fun j hj => by rw [if_neg fun e => hni (by rw [← e]; exact hj)]]
       simp only [kvS, hdst, if_true]
       exact hD
      ·
       show (if q.1 = i then true else listed.getD q.1 false) = true
       split
       ·
        rfl
       ·
        exact hF.key q hq
      ·
       by_cases e : j = i
       ·
        subst e; rw [hKc] at hKj; cases hKj
       ·
        simp only [if_neg e] at hLj hs ⊢; exact hF.own j sh it hj hLj hKj hs
     have hσ' : σ = ((τ ++ ρ1) ++ [i]) ++ ρ2 := by rw [hs, hr]; simp
     rcases hcase with ⟨hg, hrest⟩ | ⟨hg, hk, hcase⟩
     ·
      have hw := hag.wanted hg
      rw [if_neg (by rw [hw]; simp)]
      exact next i o'.dst undef w _ ρ2 sd' SL Z ls him hlt hLi hσ' (hI.put hok.toRegB him ho hLi hd hdok hI.c (fun _ _ _ _ _ _ h => h) (fun _ => rfl) (fun h => by rw [hw] at h; cases h) (fun S h => by rw [hw] at h; cases h)) (adv undef w Z ls (hF.st.perm List.perm_append_comm) hF.sub hrest)
     ·
      rcases hcase with ⟨hK, _⟩ | ⟨sh, it, hK, _⟩ | ⟨_, hout⟩
      ·
       rw [hKc] at hK; cases hK
      ·
       rw [hKc] at hK; cases hK
      ·
       have hw := hag.wanted hg
       rw [if_pos hw]
       refine .inl ?_
       unfold Oper.wp
       rw [hag.exec hsel hk]
       refine outc_upon (hout w (SL.map (·.2)) hI.c.1 (hF.st.perm List.perm_append_comm) (fun p hp => List.mem_map.2 ⟨p, h1 p hp, rfl⟩)) fun v w' ⟨hsz', Z', ls', hst, hsub, hD⟩ => ?_
       have hC' : CG w0 M N ls1 w' := ⟨Nat.le_trans hI.c.1 hsz', Z', _, hst, fun A hA => List.mem_append_left _ (hsub A hA)⟩
       exact next i o'.dst v w' _ ρ2 sd' SL Z' ls' him hlt hLi hσ' (hI.put hok.toRegB him ho hLi hd hdok hC' (fun j S u hjm hLj hE' h => by
        have hE' : (K j).E = some S := hE'
        cases hKj : K j with
        | pure => simp only [hKj, Kd.E] at hE'; cases hE'
        | side sh it => simp only [hKj, Kd.E, Option.some.injEq] at hE'; subst hE'; exact h
        | chain => simp only [hKj, Kd.E, Option.some.injEq] at hE'; subst hE'; trivial) (fun h => by rw [hw] at h; cases h) (fun _ h => by simp only [hKc, Kd.E] at h; cases h) (fun S' _ h => by simp only [hKc, Kd.E, Option.some.injEq] at h; subst h; trivial)) (adv v w' Z' ls' hst hsub hD)
    ·
     obtain ⟨kv, sd', Z', ls', hag, o', ho', hsel, hdok, hcase⟩ := nodeAt i o ρ1 ρ2 him ho hr hd hdt
     have eo : o' = o := by rw [ho] at ho'; exact (Option.some.inj ho').symm
     subst eo
     rcases hcase with ⟨hg, _⟩ | ⟨hg, hk, hcase⟩
     ·
      have hw := hag.wanted hg
      rw [if_neg (by rw [hw]; simp)]
      exact next i o'.dst undef w τ ρ sd SL Z ls him hlt hLi hs (hI.put hok.toRegB him ho hLi hd hdok hI.c (fun _ _ _ _ _ _ h => h) (fun _ => rfl) (fun h => by rw [hw] at h; cases h) (fun S h => by rw [hw] at h; cases h)) (hF.pass hLi hKc (fun sh it h => hsh i sh it h))
     ·
      have hw := hag.wanted hg
      rw [if_pos hw]
      refine .inl ?_
      rcases hcase with ⟨hK, e, hrun, _⟩ | ⟨sh, it, hK, hout, _⟩ | ⟨hK, _⟩
      ·
       have hr := hrun w hI.c
       rw [← hag.exec hsel hk] at hr
       unfold Oper.wp
       rw [hr]
       exact next i o'.dst e w τ ρ sd SL Z ls him hlt hLi hs (hI.put hok.toRegB him ho hLi hd hdok hI.c (fun _ _ _ _ _ _ h => h) (fun h => by rw [hw] at h; cases h) (fun _ _ => ⟨w, hI.c, hr⟩) (fun S _ h => by simp only [hK, Kd.E] at h; cases h)) (hF.pass hLi hKc (fun sh it h => by rw [hK] at h; cases h))
      ·
       unfold Oper.wp
       rw [hag.exec hsel hk]
       refine outc_upon (hout w Z _ hI.c.1 hF.st) fun v w' ⟨hsz', hs', hst⟩ => ?_
       have hC' : CG w0 M N ls1 w' := ⟨Nat.le_trans hI.c.1 hsz', Z, _, hst, fun A hA => by simp [hF.sub A hA]⟩
       exact next i o'.dst v w' τ ρ sd ((i, it v) :: SL) Z ls him hlt hLi hs (hI.put hok.toRegB him ho hLi hd hdok hC' (fun j S u hjm hLj hE' h => by
        have hE' : (K j).E = some S := hE'
        cases hKj : K j with
        | pure => simp only [hKj, Kd.E] at hE'; cases hE'
        | side sh it => simp only [hKj, Kd.E, Option.some.injEq] at hE'; subst hE'; exact h
        | chain => simp only [hKj, Kd.E, Option.some.injEq] at hE'; subst hE'; trivial) (fun h => by rw [hw] at h; cases h) (fun _ h => by simp only [hK, Kd.E] at h; cases h) (fun S' _ h => by simp only [hK, Kd.E, Option.some.injEq] at h; subst h; exact hs')) (hF.side hLi hK hst)
      ·
       exact absurd hK hKc
   ·
    -- the first of the rest: all before it has come up
    obtain ⟨hli, o, ho, hdo⟩ := mem_ready.1 hi
    have hlt : i < ops.size := (Array.getElem?_eq_some_iff.1 ho).1
    have hD := hok.tail i him hlt (fun j => listed.getD j false = true) (fun j p hj hp d hdm => by
     have hjm : j < m := by
      rcases Nat.lt_or_ge j m with h | h
      ·
       exact h
      ·
       have := htail j h; rw [this] at hj; cases hj
     exact hI.closed j p hjm hj hp d hdm) (fun x p hxX hp hdx => by
     have hxlt : x < ops.size := (Array.getElem?_eq_some_iff.1 hp).1
     cases hb : listed.getD x false with
     | true => rfl
     | false => exact absurd ⟨x, hxX, mem_ready.2 ⟨by rw [hlistB x hxlt true, hb], p, hp, fun e he hbd => hdx e.on (List.mem_map.2 ⟨e, List.mem_filter.2 ⟨by simpa using he, hbd⟩, rfl⟩)⟩⟩ hx) (fun p hp d hdm => by
     rw [ho] at hp; simp at hp; subst hp
     unfold deps at hdm
     obtain ⟨e, he, rfl⟩ := List.mem_map.1 hdm
     obtain ⟨he1, he2⟩ := List.mem_filter.1 he
     exact hdo e (by simpa using he1) he2)
    have him' : i = m := by
     rcases Nat.lt_or_ge m i with h | h
     ·
      have h1 := hD m h
      have h2 := htail m (Nat.le_refl _)
      rw [h2] at h1; cases h1
     ·
      omega
    subst him'
    have h := fin listed vals a w τ ρ sd SL Z ls hs hD hI hF
    have hlist : ∀ j, j < ops.size → listed[j]? = some (decide (j < i)) := fun j hj => by
     have hjs : j < listed.size := by omega
     rcases Nat.lt_or_ge j i with hji | hji
     ·
      have := hD j hji
      simp [Array.getD, hjs] at this
      simp [hjs, this, hji]
     ·
      have := htail j hji
      simp [Array.getD, hjs] at this
      simp [hjs, this, show ¬ j < i by omega]
    have h2 := phase2X (P := P) (Q := NP Q) hok (fuel + 1) i listed a w (Nat.le_refl _) (by omega) hlist hsz (by
     have hl : ∀ k, k ≤ ops.size → left (fun j => listed.getD j false) k ≥ k - i := by
      intro k
      induction k with
      | zero => intro _; simp
      | succ k ihk =>
       intro hk
       have := ihk (by omega)
       simp only [left]
       rcases Nat.lt_or_ge k i with h | h
       ·
        omega
       ·
        have h9 := htail k h
        simp only [h9, Bool.not_false, Bool.toNat_true]
        omega
     have := hl ops.size (Nat.le_refl _)
     omega) h
    exact h2.2 i hi
end
/-! ### the checks, and the walk -/
def nthO : List Oper → Nat → Option Oper
 | [], _ => none
 | o :: _, 0 => some o
 | _ :: r, i + 1 => nthO r i
theorem nthO_eq : ∀ (l : List Oper) (i : Nat), nthO l i = l[i]?
 | [], _ => rfl
 | _ :: _, 0 => rfl
 | _ :: r, i + 1 => by simp [nthO, nthO_eq r i]
def sigGo (l : List Oper) (ms chs : List Nat) : Nat → List Nat → Bool
 | _, [] => true
 | k, i :: r => (match nthO l i with | some o => Nat.beq (Nat.land (dmask (deps o)) k) (dmask (deps o)) | none => true) &&
  (match elemN i chs with | true => Nat.beq (Nat.land k (ms.getD i 0)) k | false => true) && sigGo l ms chs (k ||| 2 ^ i) r
def sigOk (l : List Oper) (m : Nat) (chs σ : List Nat) : Bool :=
 σ.all (fun i => Nat.blt i m) && (List.range m).all (fun i => elemN i σ) && decide σ.Nodup && sigGo l (masks l []) chs 0 σ
theorem sigGo_spec {l : List Oper} {ms chs : List Nat} : ∀ {σ : List Nat} {k : Nat} {a : List Nat}, (∀ d, k.testBit d = true ↔ d ∈ a) → sigGo l ms chs k σ = true → ∀ x i y, σ = x ++ i :: y →
  (∀ o, l[i]? = some o → ∀ d ∈ deps o, d ∈ a ++ x) ∧ (elemN i chs = true → ∀ j ∈ a ++ x, (ms.getD i 0).testBit j = true)
 | [], _, _, _, _, x, i, y, e => by simp at e
 | i0 :: r, k, a, hk, h, x, i, y, e => by
  simp only [sigGo, Bool.and_eq_true] at h
  cases x with
  | nil =>
   simp only [List.nil_append, List.cons.injEq] at e
   obtain ⟨rfl, rfl⟩ := e
   refine ⟨fun o ho d hd => ?_, fun hc j hj => ?_⟩
   ·
    have h1 := h.1.1
    rw [nthO_eq, ho] at h1
    have he : (dmask (deps o)) &&& k = dmask (deps o) := Nat.eq_of_beq_eq_true h1
    have h2 := dmask_bit hd
    rw [← he, Nat.testBit_and] at h2
    simp only [Bool.and_eq_true] at h2
    simpa using (hk d).1 h2.2
   ·
    have h1 := h.1.2
    rw [hc] at h1
    have he : k &&& (ms.getD i0 0) = k := Nat.eq_of_beq_eq_true h1
    have h2 := (hk j).2 (by simpa using hj)
    rw [← he, Nat.testBit_and] at h2
    simp only [Bool.and_eq_true] at h2
    exact h2.2
  | cons z x =>
   simp only [List.cons_append, List.cons.injEq] at e
   obtain ⟨rfl, e⟩ := e
   have := sigGo_spec (a := a ++ [i0]) (fun d => by
    simp only [Nat.testBit_or, Bool.or_eq_true, hk, Nat.testBit_two_pow, decide_eq_true_eq, List.mem_append, List.mem_singleton]
    exact or_congr_right eq_comm) h.2 x i y e
   simpa using this
/-- A new block, of this kind. -/
inductive SdK where
 | blk (T : TypeId) (cs : List Value)
 | map
 | sl (T : TypeId) (len : Nat) (cs : List Value)
def As.nil : As where
 fp _ := False
 ok _ _ := True
 lt _ _ hx := hx.elim
 mono _ h := h
 st _ _ h := h
def SdK.sh : SdK → Value → Prop
 | .blk _ _, v => ∃ b, v = .pointer (some ⟨b, 0, none⟩)
 | .map, v => ∃ b, v = .map (some b)
 | .sl _ len _, v => ∃ b, v = .slice (some ⟨b, 0, none⟩) len len
def SdK.it : SdK → Value → As
 | .blk T cs, .pointer (some ⟨b, _, _⟩) => As.blk b T cs
 | .map, .map (some b) => As.map Key.val b []
 | .sl T _ cs, .slice (some ⟨b, _, _⟩) _ _ => As.blk b T cs
 | _, _ => As.nil
def lookK : List (Nat × SdK) → Nat → Kd
 | [], _ => .pure
 | (j, s) :: r, i => match Nat.beq j i with
  | true => .side s.sh s.it
  | false => lookK r i
def kdOf (chs : List Nat) (sides : List (Nat × SdK)) (i : Nat) : Kd := match elemN i chs with
 | true => .chain
 | false => lookK sides i
def Kd.isPure : Kd → Bool
 | .pure => true
 | _ => false
theorem Kd.pure_of : ∀ {k : Kd}, k.isPure = true → k = .pure
 | .pure, _ => rfl
 | .side _ _, h => by cases h
 | .chain, h => by cases h
theorem lookK_side {i : Nat} {sh : Value → Prop} {it : Value → As} : ∀ {l : List (Nat × SdK)}, lookK l i = .side sh it → ∃ s : SdK, sh = s.sh
 | [], h => by simp [lookK] at h
 | (j, s) :: r, h => by
  simp only [lookK] at h
  split at h
  ·
   simp only [Kd.side.injEq] at h; exact ⟨s, h.1.symm⟩
  ·
   exact lookK_side h
theorem lookK_chain {i : Nat} : ∀ {l : List (Nat × SdK)}, lookK l i ≠ .chain
 | [], h => by simp [lookK] at h
 | (j, s) :: r, h => by
  simp only [lookK] at h
  split at h
  ·
   cases h
  ·
   exact lookK_chain h
section
variable {P : Program} {Q : Exit → Act → World → Prop} {n m N : Nat} {w0 w : World} {M Z : Nat → Prop} {ls ls1 : List As} {Fin : KV → World → Prop}
theorem WC.drawnG {id : Nat} {kv : KV} {l : List Oper} (X chs σ : List Nat) (sides : List (Nat × SdK)) (hst : St w0 M Z w ls) (h1 : ∀ A ∈ ls1, A ∈ ls) (hm : P.follows .mixedOrders = true) (hok : regX l m X = true) (hsg : sigOk l m chs σ = true) (hX : (X.all fun x => (kdOf chs sides x).isPure) = true)
  (hdg : DG P l.toArray n w0 M w.heap.size ls1 (kdOf chs sides) (fun kv w => WL P l.toArray (NP Q) (l.drop m) n kv w) σ kv [] Z ls) : WC P (.region id l.toArray true) Q n kv w := by
 intro a hF
 refine wp_mono (Q := NP Q) ?_ fun _ _ _ h => h.2
 refine wp_region_any hm ?_
 have hok' := regX_spec hok
 simp only [sigOk, Bool.and_eq_true] at hsg
 have hsig : SigOk l.toArray m (kdOf chs sides) σ := by
  have hgo := sigGo_spec (a := []) (fun d => by simp) hsg.2
  refine ⟨fun i hi => ?_, fun i hi => elemN_iff.1 (List.all_eq_true.1 hsg.1.1.2 i (by simpa using hi)), by simpa using hsg.1.2, fun x i y e o ho d hd => by simpa using (hgo x i y e).1 o (by simpa using ho) d hd, fun x i y e hc D hD hk j hj => ?_⟩
  ·
   have := List.all_eq_true.1 hsg.1.1.1 i hi
   simp only [Nat.blt] at this
   have := Nat.le_of_ble_eq_true this
   omega
  ·
   have hel : elemN i chs = true := by
    unfold kdOf at hc
    cases he : elemN i chs with
    | true => rfl
    | false => rw [he] at hc; exact absurd hc lookK_chain
   have hb := (hgo x i y e).2 hel j (by simpa using hj)
   cases hoi : l[i]? with
   | none =>
    exfalso
    have h3 : ∀ (l : List Oper) (acc : List Nat), (masks l acc).length = acc.length + l.length := by
     intro l
     induction l with
     | nil => intro acc; rfl
     | cons p r ih => intro acc; simp only [masks]; rw [ih]; simp; omega
    have h2 : (masks l [])[i]? = none := List.getElem?_eq_none (by rw [h3]; simpa using List.getElem?_eq_none_iff.1 hoi)
    rw [List.getD_eq_getElem?_getD, h2] at hb
    simp at hb
   | some o =>
    exact masks_spec D l [] [] rfl (fun j o hj ho => hD j o hj (by simpa using ho)) (fun k o ho => by simp at ho) (fun k o ho => hok'.back k o (by simpa using ho)) i o (by simpa using hoi) (hk o (by simpa using hoi)) j hb
 have hfalse : ∀ j, (Array.replicate l.toArray.size false).getD j false = false := fun j => by
  by_cases h : j < l.length <;> simp [Array.getD, h]
 have hst' : St w0 M Z { w with drawn := w.drawn + 1 } ls := hst.step (Chg.drew [] w)
 refine phaseG (X := X) (K := kdOf chs sides) (vals := fun _ => undef) (fun x hx => ?_) hok' hsig (fun j sh it h => ?_) hF l.toArray.size _ a _ [] σ [] [] Z ls rfl (by simp) ?_ (fun j _ => hfalse j) ⟨⟨Nat.le_refl _, Z, ls, hst', h1⟩, hF.size, hF.nod, ?_, fun _ _ => rfl, ?_, ?_, ?_, ?_⟩
  ⟨by simp, fun j _ _ => hfalse j, by simpa [kvS] using hdg, by simpa using hst', h1, by simp, by simp, by simp, by simp, by simp, fun j _ _ _ h => by rw [hfalse j] at h; cases h⟩
 ·
  have := List.all_eq_true.1 hX x hx
  cases hk : kdOf chs sides x with
  | pure => rfl
  | side => rw [hk] at this; cases this
  | chain => rw [hk] at this; cases this
 ·
  unfold kdOf at h
  split at h
  ·
   cases h
  ·
   obtain ⟨s, rfl⟩ := lookK_side h
   intro hu
   cases s <;> (simp only [SdK.sh] at hu; obtain ⟨b, hb⟩ := hu; cases hb)
 ·
  have : ∀ k (L : Nat → Bool), left L k ≤ k := by
   intro k L
   induction k with
   | zero => simp [left]
   | succ k ih => simp only [left]; cases L k <;> simp <;> omega
  exact this _ _
 all_goals (intro j; intros; rename_i h _ ; first | (have := hfalse j; simp_all; done) | skip)
variable {l : List Oper} {i : Nat} {σ' : List Nat} {kv : KV} {sd : List (Nat × As)} {K : Nat → Kd} {d : Tmp} {op : Op} {ty : TypeId} {pos : String} {af : Array Edge} {g : Option (Nat × Bool)}
theorem DG.no (ho : nthO l i = some ⟨some d, op, ty, pos, af, g⟩) (hg : gd l.toArray kv ⟨some d, op, ty, pos, af, g⟩ = some false) (hs : isSelect op = false) (hd : Nat.blt d n = true)
  (next : DG P l.toArray n w0 M N ls1 K Fin σ' ((d, undef) :: kv) sd Z ls) : DG P l.toArray n w0 M N ls1 K Fin (i :: σ') kv sd Z ls :=
 ⟨⟨some d, op, ty, pos, af, g⟩, by (rw [nthO_eq] at ho; simpa using ho), hs, hd, .inl ⟨hg, next⟩⟩
theorem DG.p {v : Value} (ho : nthO l i = some ⟨some d, op, ty, pos, af, g⟩) (hg : gd l.toArray kv ⟨some d, op, ty, pos, af, g⟩ = some true) (hs : isSelect op = false) (hk : known kv op = true) (hd : Nat.blt d n = true) (hK : (K i).isPure = true)
  (h : ∀ w Zx R, N ≤ w.heap.size → St w0 M Zx w R → (∀ A ∈ ls1, A ∈ R) → PV P op ty kv w v)
  (next : DG P l.toArray n w0 M N ls1 K Fin σ' ((d, v) :: kv) sd Z ls) : DG P l.toArray n w0 M N ls1 K Fin (i :: σ') kv sd Z ls :=
 ⟨⟨some d, op, ty, pos, af, g⟩, by (rw [nthO_eq] at ho; simpa using ho), hs, hd, .inr ⟨hg, hk, .inl ⟨Kd.pure_of hK, v, fun w ⟨h1, Zx, R, h2, h3⟩ => (h w Zx R h1 h2 h3).2.2 _ _ _ _, next⟩⟩⟩
theorem DG.side (s : SdK) (ho : nthO l i = some ⟨some d, op, ty, pos, af, g⟩) (hg : gd l.toArray kv ⟨some d, op, ty, pos, af, g⟩ = some true) (hs : isSelect op = false) (hk : known kv op = true) (hd : Nat.blt d n = true) (hK : K i = .side s.sh s.it)
  (h : ∀ w Zx R, N ≤ w.heap.size → St w0 M Zx w R → OX P ⟨some d, op, ty, pos, af, g⟩ n kv w fun kv' w' => w.heap.size ≤ w'.heap.size ∧ ∃ v, kv' = (d, v) :: kv ∧ s.sh v ∧ St w0 M Zx w' (s.it v :: R))
  (next : ∀ v, s.sh v → DG P l.toArray n w0 M N ls1 K Fin σ' ((d, v) :: kv) ((i, s.it v) :: sd) Z ls) : DG P l.toArray n w0 M N ls1 K Fin (i :: σ') kv sd Z ls :=
 ⟨⟨some d, op, ty, pos, af, g⟩, by (rw [nthO_eq] at ho; simpa using ho), hs, hd, .inr ⟨hg, hk, .inr (.inl ⟨s.sh, s.it, hK, fun w Zx R h1 h2 => (h w Zx R h1 h2).2.2.2.mono fun v w' ⟨a, u, e, b, c⟩ => by
  simp only [upd, List.cons.injEq, Prod.mk.injEq, true_and, and_true] at e
  subst e
  exact ⟨a, b, c⟩, next⟩)⟩⟩
theorem DG.c (ho : nthO l i = some ⟨some d, op, ty, pos, af, g⟩) (hg : gd l.toArray kv ⟨some d, op, ty, pos, af, g⟩ = some true) (hs : isSelect op = false) (hk : known kv op = true) (hd : Nat.blt d n = true) (hK : K i = .chain)
  (h : ∀ w R, N ≤ w.heap.size → St w0 M Z w (ls ++ R) → (∀ p ∈ sd, p.2 ∈ R) → OX P ⟨some d, op, ty, pos, af, g⟩ n kv w fun kv' w' => w.heap.size ≤ w'.heap.size ∧ ∃ v, kv' = (d, v) :: kv ∧ ∃ Z' ls', St w0 M Z' w' (ls' ++ R) ∧ (∀ A ∈ ls1, A ∈ ls') ∧
   DG P l.toArray n w0 M N ls1 K Fin σ' ((d, v) :: kv) sd Z' ls') : DG P l.toArray n w0 M N ls1 K Fin (i :: σ') kv sd Z ls :=
 ⟨⟨some d, op, ty, pos, af, g⟩, by (rw [nthO_eq] at ho; simpa using ho), hs, hd, .inr ⟨hg, hk, .inr (.inr ⟨hK, fun w R h1 h2 h3 => (h w R h1 h2 h3).2.2.2.mono fun v w' ⟨a, u, e, b⟩ => by
  simp only [upd, List.cons.injEq, Prod.mk.injEq, true_and, and_true] at e
  subst e
  exact ⟨a, b⟩⟩)⟩⟩
theorem DG.nil (h : ∀ w, N ≤ w.heap.size → St w0 M Z w (sd.map (·.2) ++ ls) → Fin kv w) : DG P l.toArray n w0 M N ls1 K Fin [] kv sd Z ls := h
end
end Go.Rc

namespace Go.Rc
open Go
/-- What holds of some of what is owned. -/
structure SV (w0 : World) (M Z : Nat → Prop) (w : World) (l : List As) : Prop where
 chg : ChgP M w0 w
 zlt : ∀ x, Z x → x < w.heap.size
 ok : ∀ A ∈ l, A.ok Z w
section
variable {w0 w : World} {M Z : Nat → Prop} {l R ls : List As} {A0 A1 A2 A3 A4 A5 A6 A7 A8 A9 A10 A11 A12 : As}
theorem St.sv (h : St w0 M Z w R) (hi : ∀ A ∈ l, A ∈ R) : SV w0 M Z w l := ⟨h.chg, h.zlt, fun A hA => h.ok A (hi A hA)⟩
theorem SV.cg (h : SV w0 (fun _ => False) Z w l) : Chg [] w0 w := h.chg.chg fun _ h => h.elim
theorem SV.g0 (h : SV w0 M Z w (A0 :: l)) : A0.ok Z w := h.ok _ M0
theorem SV.tl (h : SV w0 M Z w (A0 :: l)) : SV w0 M Z w l := ⟨h.chg, h.zlt, fun A hA => h.ok A (.tail _ hA)⟩
theorem SV.g1 (h : SV w0 M Z w (A0 :: A1 :: l)) : A1.ok Z w := h.tl.g0
theorem SV.g2 (h : SV w0 M Z w (A0 :: A1 :: A2 :: l)) : A2.ok Z w := h.tl.g1
theorem SV.g3 (h : SV w0 M Z w (A0 :: A1 :: A2 :: A3 :: l)) : A3.ok Z w := h.tl.g2
theorem SV.g4 (h : SV w0 M Z w (A0 :: A1 :: A2 :: A3 :: A4 :: l)) : A4.ok Z w := h.tl.g3
theorem SV.g5 (h : SV w0 M Z w (A0 :: A1 :: A2 :: A3 :: A4 :: A5 :: l)) : A5.ok Z w := h.tl.g4
theorem SV.g6 (h : SV w0 M Z w (A0 :: A1 :: A2 :: A3 :: A4 :: A5 :: A6 :: l)) : A6.ok Z w := h.tl.g5
theorem SV.g7 (h : SV w0 M Z w (A0 :: A1 :: A2 :: A3 :: A4 :: A5 :: A6 :: A7 :: l)) : A7.ok Z w := h.tl.g6
theorem SV.g8 (h : SV w0 M Z w (A0 :: A1 :: A2 :: A3 :: A4 :: A5 :: A6 :: A7 :: A8 :: l)) : A8.ok Z w := h.tl.g7
theorem SV.g9 (h : SV w0 M Z w (A0 :: A1 :: A2 :: A3 :: A4 :: A5 :: A6 :: A7 :: A8 :: A9 :: l)) : A9.ok Z w := h.tl.g8
theorem SV.g10 (h : SV w0 M Z w (A0 :: A1 :: A2 :: A3 :: A4 :: A5 :: A6 :: A7 :: A8 :: A9 :: A10 :: l)) : A10.ok Z w := h.tl.g9
theorem SV.g11 (h : SV w0 M Z w (A0 :: A1 :: A2 :: A3 :: A4 :: A5 :: A6 :: A7 :: A8 :: A9 :: A10 :: A11 :: l)) : A11.ok Z w := h.tl.g10
theorem SV.g12 (h : SV w0 M Z w (A0 :: A1 :: A2 :: A3 :: A4 :: A5 :: A6 :: A7 :: A8 :: A9 :: A10 :: A11 :: A12 :: l)) : A12.ok Z w := h.tl.g11
theorem Sub1.nil : ∀ A ∈ ([] : List As), A ∈ ls := by simp
theorem Sub1.cons (h : A0 ∈ ls) (t : ∀ A ∈ l, A ∈ ls) : ∀ A ∈ A0 :: l, A ∈ ls := List.forall_mem_cons.2 ⟨h, t⟩
theorem AppE.nil : R = [] ++ R := rfl
theorem AppE.cons {L : List As} (h : L = l ++ R) : A0 :: L = (A0 :: l) ++ R := by rw [h]; rfl
end
section
variable {P : Program} {n m N : Nat} {w0 w : World} {M Z : Nat → Prop} {ls ls1 : List As} {Fin : KV → World → Prop}
variable {l : List Oper} {i : Nat} {σ' : List Nat} {kv : KV} {sd : List (Nat × As)} {K : Nat → Kd} {d : Tmp} {op : Op} {ty : TypeId} {pos : String} {af : Array Edge} {g : Option (Nat × Bool)}
theorem DG.ch (ho : nthO l i = some ⟨some d, op, ty, pos, af, g⟩) (hg : gd l.toArray kv ⟨some d, op, ty, pos, af, g⟩ = some true) (hs : isSelect op = false) (hk : known kv op = true) (hd : Nat.blt d n = true) (hK : K i = .chain)
  (h : ∀ w R, N ≤ w.heap.size → St w0 M Z w (ls ++ R) → (∀ p ∈ sd, p.2 ∈ R) → OX P ⟨some d, op, ty, pos, af, g⟩ n kv w fun kv' w' => w.heap.size ≤ w'.heap.size ∧ ∃ v, kv' = (d, v) :: kv ∧ ∃ Z' L ls', St w0 M Z' w' L ∧ L = ls' ++ R ∧ (∀ A ∈ ls1, A ∈ ls') ∧
   DG P l.toArray n w0 M N ls1 K Fin σ' ((d, v) :: kv) sd Z' ls') : DG P l.toArray n w0 M N ls1 K Fin (i :: σ') kv sd Z ls :=
 DG.c ho hg hs hk hd hK fun w R h1 h2 h3 => by
  obtain ⟨a, b, c, e⟩ := h w R h1 h2 h3
  refine ⟨a, b, c, e.mono fun kv' w' ⟨x1, v, x2, Z', L, ls', x3, x4, x5, x6⟩ => ⟨x1, v, x2, Z', ls', ?_, x5, x6⟩⟩
  rw [← x4]; exact x3
/-- A store, or another operation without a value. -/
theorem DG.cs (ho : nthO l i = some ⟨none, op, ty, pos, af, g⟩) (hg : gd l.toArray kv ⟨none, op, ty, pos, af, g⟩ = some true) (hs : isSelect op = false) (hk : known kv op = true) (hK : K i = .chain)
  (h : ∀ w R, N ≤ w.heap.size → St w0 M Z w (ls ++ R) → (∀ p ∈ sd, p.2 ∈ R) → OX P ⟨none, op, ty, pos, af, g⟩ n kv w fun kv' w' => w.heap.size ≤ w'.heap.size ∧ kv' = kv ∧ ∃ Z' L ls', St w0 M Z' w' L ∧ L = ls' ++ R ∧ (∀ A ∈ ls1, A ∈ ls') ∧
   DG P l.toArray n w0 M N ls1 K Fin σ' kv sd Z' ls') : DG P l.toArray n w0 M N ls1 K Fin (i :: σ') kv sd Z ls :=
 ⟨⟨none, op, ty, pos, af, g⟩, by (rw [nthO_eq] at ho; simpa using ho), hs, rfl, .inr ⟨hg, hk, .inr (.inr ⟨hK, fun w R h1 h2 h3 => (h w R h1 h2 h3).2.2.2.mono fun v w' ⟨a, _, Z', L, ls', x3, x4, x5, x6⟩ => ⟨a, Z', ls', by rw [← x4]; exact x3, x5, x6⟩⟩)⟩⟩
end
/-! ### loops of a known number of rounds -/
def LoopN (P : Program) (c : Code) (Q : Exit → Act → World → Prop) (n : Nat) : Nat → KV → World → Prop
 | 0, _, _ => False
 | m + 1, kv, w => WC P c (Exit.then (fun a' w' => ∃ kv', Fr n a' kv' ∧ LoopN P c Q n m kv' w') Q) n kv w
section
variable {P : Program} {c : Code} {Q : Exit → Act → World → Prop} {n m : Nat} {kv : KV} {w : World}
theorem WC.loopN (m : Nat) (h : LoopN P c Q n m kv w) : WC P (.loop c) Q n kv w := by
 intro a hF b k cs
 have key : ∀ m kv a w, LoopN P c Q n m kv w → Fr n a kv → ∃ e a' w', Q e a' w' ∧ Arrives P (lone (b.at a (.code c :: .inLoop c :: k)) cs w) b k cs e a' w' := by
  intro m
  induction m with
  | zero => intro kv a w h _; exact h.elim
  | succ m ih =>
   intro kv a w hI hF
   obtain ⟨e, a₁, w₁, hq, harr⟩ := hI a hF b (.inLoop c :: k) cs
   cases e with
   | normal =>
    obtain ⟨kv', hF', hI'⟩ := hq
    obtain ⟨e₂, a₂, w₂, hq₂, harr₂⟩ := ih kv' a₁ w₁ hI' hF'
    exact ⟨e₂, a₂, w₂, hq₂, .of_steps (Steps.trans harr (.one step_inLoop)) harr₂⟩
   | exit id => exact ⟨_, a₁, w₁, hq, .pass (x := .inLoop c) rfl (fun _ _ => .inl (by simp)) harr⟩
   | goto l => exact ⟨_, a₁, w₁, hq, .pass (x := .inLoop c) rfl (fun _ _ => .inl (by simp)) harr⟩
   | ret => exact ⟨_, a₁, w₁, hq, .pass (x := .inLoop c) rfl (fun _ _ => .inl (by simp)) harr⟩
   | panic ch => exact ⟨_, a₁, w₁, hq, .pass (x := .inLoop c) rfl (fun _ _ => .inl (by simp)) harr⟩
   | outgrown => exact ⟨_, a₁, w₁, hq, .pass (x := .inLoop c) rfl (fun _ _ => .inl (by simp)) harr⟩
 obtain ⟨e, a', w', hq, harr⟩ := key m kv a w h hF
 exact ⟨e, a', w', hq, .of_steps (.one step_loop) harr⟩
theorem LoopN.s (h : WC P c (Exit.then (fun a' w' => ∃ kv', Fr n a' kv' ∧ LoopN P c Q n m kv' w') Q) n kv w) : LoopN P c Q n (m + 1) kv w := h
theorem EX.againN (h : LoopN P c Q n m kv w) : EX (Exit.then (fun a' w' => ∃ kv', Fr n a' kv' ∧ LoopN P c Q n m kv' w') Q) .normal n kv w := fun _ hF => ⟨kv, hF, h⟩
end
end Go.Rc

namespace Go.Rc
open Go
section
variable {P : Program} {kv : KV} {w : World} {T U ty : TypeId} {x y : Operand}
theorem run_eqPtrNil {e : TypeId} (hT : P.underlying T = some (.pointer e)) (a : Option Addr) : (Op.equalIn 10000 T (.pointer a) (.pointer none)).run P w = .ok (decide (a = none)) w := by
 rw [show (10000 : Nat) = 9999 + 1 from rfl]
 unfold Op.equalIn
 cases a <;> simp [run_underlying hT]
theorem run_eqSlNil {e : TypeId} (hT : P.underlying T = some (.slice e)) (a : Option Addr) (n c : Nat) : (Op.equalIn 10000 T (.slice a n c) (.slice none 0 0)).run P w = .ok (decide (a = none)) w := by
 rw [show (10000 : Nat) = 9999 + 1 from rfl]
 unfold Op.equalIn
 cases a <;> simp [run_underlying hT]
theorem run_eqIfNil {e : Array String} (hT : ∃ ms, P.underlying T = some (.interface ms)) : (Op.equalIn 10000 T .nilIface .nilIface).run P w = .ok true w := by
 obtain ⟨ms, hT⟩ := hT
 rw [show (10000 : Nat) = 9999 + 1 from rfl]
 unfold Op.equalIn
 simp [run_underlying hT]
theorem PV.eqPN {e : TypeId} {a : Option Addr} (hT : P.underlying T = some (.pointer e)) (hx : ev kv x = some (.pointer a)) (hy : ev kv y = some (.pointer none)) : PV P (.binOp .eql T x y U) ty kv w (.bool (decide (a = none))) :=
 ⟨rfl, by simp [known, opers, hx, hy], fun _ _ _ _ => by
  simp only [execOp, lkO_of hx, lkO_of hy]
  simp [eqGuard, binOp, Op.equal, Op.maxDepth, run_eqPtrNil hT]⟩
theorem PV.nePN {e : TypeId} {a : Option Addr} (hT : P.underlying T = some (.pointer e)) (hx : ev kv x = some (.pointer a)) (hy : ev kv y = some (.pointer none)) : PV P (.binOp .neq T x y U) ty kv w (.bool (decide (a ≠ none))) :=
 ⟨rfl, by simp [known, opers, hx, hy], fun _ _ _ _ => by
  simp only [execOp, lkO_of hx, lkO_of hy]
  simp [eqGuard, binOp, Op.equal, Op.maxDepth, run_eqPtrNil hT]⟩
theorem PV.eqSN {e : TypeId} {a : Option Addr} {n c : Nat} (hT : P.underlying T = some (.slice e)) (hx : ev kv x = some (.slice a n c)) (hy : ev kv y = some (.slice none 0 0)) : PV P (.binOp .eql T x y U) ty kv w (.bool (decide (a = none))) :=
 ⟨rfl, by simp [known, opers, hx, hy], fun _ _ _ _ => by
  simp only [execOp, lkO_of hx, lkO_of hy]
  simp [eqGuard, binOp, Op.equal, Op.maxDepth, run_eqSlNil hT]⟩
theorem PV.neIN (hT : ∃ ms, P.underlying T = some (.interface ms)) (hx : ev kv x = some .nilIface) : PV P (.binOp .neq T x (.const .nilIface) U) ty kv w (.bool false) := by
 have hy : ev kv (.const .nilIface) = some .nilIface := rfl
 refine ⟨rfl, by simp [known, opers, hx, hy], fun _ _ _ _ => ?_⟩
 simp only [execOp, lkO_of hx, lkO_of hy]
 simp [eqGuard, binOp, Op.equal, Op.maxDepth, run_eqIfNil (e := #[]) hT]
/-- A part of an array's value. -/
theorem PV.idxA {len e : Nat} {cs : List Value} {i : Nat} {v : Value} (hT : P.underlying T = some (.array len e)) (hs : ∀ w, (sizeOf e).run P w = .ok 1 w) (ha : ∀ w, (isAgg e).run P w = .ok false w)
  (hx : ev kv x = some (.agg cs.toArray)) (hy : ev kv y = some (.int .i64 (i : Int))) (hi : i < len) (hv : cs[i]? = some v) : PV P (.index T x y) ty kv w v :=
 ⟨rfl, by simp [known, opers, hx, hy], fun _ _ _ _ => by
  simp only [execOp, lkO_of hx, lkO_of hy]
  simp [Instr.index, asIntOf, run_underlying hT, hs w, part, ha w, hi, hv]⟩
theorem fill_congr {f g : Nat → Option (Nat × Nat)} : ∀ (ps : List (Nat × Value)) (cs : Array Value), (∀ p ∈ ps, f p.1 = g p.1) → Instr.fill f cs ps = Instr.fill g cs ps
 | [], _, _ => rfl
 | (i, v) :: r, cs, h => by
  simp only [Instr.fill]
  rw [h (i, v) (by simp)]
  cases g i with
  | none => rfl
  | some q =>
   simp only
   split
   ·
    rfl
   ·
    exact fill_congr r _ fun p hp => h p (by simp [hp])
/-- A literal of an array. -/
theorem PV.buildA {len e k : Nat} {z us : List Value} {vz : Value} {places : List (Nat × Nat)} {ps : List (Nat × Operand)} {vs : List (Nat × Value)} (hz : ∀ w, (zeroValue T).run P w = .ok vz w) (hzc : vz.cells = z.toArray) (hT : P.underlying T = some (.array len e)) (hs : ∀ w, (sizeOf e).run P w = .ok k w)
  (hv : evParts kv ps = some vs) (hp : ∀ p ∈ vs, places[p.1]? = some (p.1 * k, k)) (hok : fillOk places z.length vs = true) (hu : fillV places z vs = us) : PV P (.build T ps.toArray) ty kv w (.agg us.toArray) := by
 subst hu
 obtain ⟨h1, h2⟩ := evParts_spec hv
 refine ⟨rfl, by simpa [known, opers] using h2, fun _ _ _ _ => ?_⟩
 have hf := fill_eq places vs z.toArray (by simpa using hok)
 have e : (ps.toArray.map fun (i, x) => (i, lkO kv x)).toList = vs := by rw [← h1]; simp
 simp only [execOp, Instr.build, Sem.run_bind, hz w, Result.andThen_ok, run_underlying hT, hs w, e]
 rw [hzc, fill_congr (g := fun i : Nat => places[i]?) vs _ fun p hp' => (hp p hp').symm, hf]
 rfl
end
section
variable {α : Type} {R : RR α} {P : Program} {E k c b : Nat} {a : Option Addr} {u u' : α} {Z : Nat → Prop} {w : World}
variable {N : Nat} {kv : KV} {K : KV → World → Prop} {ty : TypeId} {pos : String} {af : Array Edge} {g : Option (Nat × Bool)} {T : TypeId}
theorem run_clear1 {t e : TypeId} {z : Value} {us : List Value} (ht : P.underlying t = some (.slice e)) (hv : ∀ w, (zeroValue e).run P w = .ok z w) (hz : z.cells = us.toArray) (hpos : 0 < us.length) (h1 : ∀ v ∈ us, v.oneCell' = true) {l : List Value} {b cap : Nat} {E : TypeId} (hb : Blk w b E l) (hl : us.length ≤ l.length) (ty : TypeId) :
  (Builtin.clear_ #[t] ty #[.slice (some ⟨b, 0, none⟩) 1 cap]).run P w = .ok (.tuple #[]) (w.setRow b (l.take 0 ++ us ++ l.drop (0 + us.length)).toArray) := by
 have hzc : (Builtin.zeroCells z.cells 1).toList = us := by
  rw [hz]
  simp only [Builtin.zeroCells, Nat.one_mul, List.size_toArray]
  apply List.ext_getElem
  ·
   simp
  ·
   intro i hi1 hi2
   simp at hi1
   have h9 : (us.toArray[i % us.length]!) = us[i] := by rw [Nat.mod_eq_of_lt hi1, getElem!_pos us.toArray i (by simpa using hi1)]; simp
   simpa using h9
 have hs := Go.run_storeCells_at (P := P) b 0 E us 0 l.toArray w (by simpa [Blk] using hb) (by simpa using hl) h1
 simp only [Nat.add_zero, Nat.zero_add] at hs
 simp [Builtin.clear_, run_underlying ht, hv w, hzc, hs]
/-- The one row of a slice of one's own is cleared. -/
theorem OX.clr1 {x : Operand} {e : TypeId} {z : Value} {us : List Value} (hT : P.underlying T = some (.slice e)) (hv : ∀ w, (zeroValue e).run P w = .ok z w) (hz : z.cells = us.toArray) (hlen : us.length = k) (hk : 0 < k) (h1 : us.all (·.oneCell') = true)
  (h : Ow R E k Z w a 1 c [u]) (ha : a = some ⟨b, 0, none⟩) {cap : Nat} (hx : ev kv x = some (.slice a 1 cap)) (u' : α) (hR : R.r Z w u' us)
  (hK : ∀ w', Chg (oblk a) w w' → OR 0 w' E k (R.r Z w) a 1 c [u'] → K kv w') : OX P ⟨none, .call { callee := .builtin .clear, args := #[x], argTypes := #[T] }, ty, pos, af, g⟩ N kv w K := by
 obtain ⟨hn, rows, hl, hk', ho, hRR⟩ := h
 have h1' : ∀ v ∈ us, v.oneCell' = true := fun v hv => List.all_eq_true.1 h1 v hv
 rcases ho.cases with ⟨h2, _⟩ | ⟨b', cur, h2, h3, h4, h5, h6, h7, h8⟩
 ·
  rw [ha] at h2; cases h2
 ·
  rw [ha] at h2; simp at h2; subst h2
  subst ha
  have hb : Blk w b E cur.toList := by simpa [Blk] using h4
  have hmul : 1 * k ≤ c * k := Nat.mul_le_mul_right _ h5
  have hcl : cur.toList.length = c * k := by simp [h7]
  have hr := run_clear1 (P := P) (w := w) (cap := cap) hT hv hz (by omega) h1' hb (by omega) ty
  refine ⟨rfl, rfl, by simp [known, opers, hx], ?_⟩
  simp only [execOp, resolve, invoke, builtin, Sem.run_bind, Sem.run_pure, Result.andThen_ok, List.map_toArray, List.map_cons, List.map_nil, lkO_of hx, hr]
  refine hK _ (chg_setRow _ _ _) ⟨rfl, [us], rfl, by simpa using hlen, ?_, ?_⟩
  ·
   refine ⟨by simpa using h1', by simp; omega, .inr ⟨b, c, _, rfl, h3, setRow_heap w b _ _ E _ hb, h5, h6, ?_, ?_⟩⟩
   ·
    simp only [List.size_toArray, List.length_append, List.length_take, List.length_drop, hcl]; omega
   ·
    simp [List.take_append, hlen]
  ·
   intro j z r hz hr
   cases j with
   | zero => simp at hz hr; subst hz hr; exact hR
   | succ j => simp at hz
/-- A literal of no element. -/
theorem OX.bslice0 {d : Tmp} {n : Nat} {E k : Nat} (hT : P.underlying T = some (.slice E)) (hs : ∀ w, (sizeOf E).run P w = .ok k w) (hd : Nat.blt d n = true)
  (h : ∀ b w', New w w' b → Blk w' b E [] → K ((d, .slice (some ⟨b, 0, none⟩) 0 0) :: kv) w') : OX P ⟨some d, .buildSlice T 0 #[], ty, pos, af, g⟩ n kv w K := by
 refine ⟨rfl, hd, rfl, ?_⟩
 have hr : (execOp (lkO kv) ⟨some d, .buildSlice T 0 #[], ty, pos, af, g⟩).run P w = .ok (.value (.slice (some ⟨w.heap.size, 0, none⟩) 0 0)) (w.alloc (.cells #[] E)) := by
  simp only [execOp, Instr.buildSlice, Sem.run_bind, run_underlying hT, Result.andThen_ok, hs w, Nat.zero_mul]
  rw [if_neg (by omega)]
  simp only [if_true, Sem.run_bind, Sem.run_pure, Result.andThen_ok]
  have hf : Instr.fill (fun i => some (i * k, k)) (Array.map (fun x => (#[] : Array Value)[x % (#[] : Array Value).size]!) (Array.range 0)) (Array.map (fun x : Nat × Operand => (x.fst, lkO kv x.snd)) #[]).toList = some #[] := by simp [Instr.fill]
  rw [hf]
  rfl
 rw [hr]
 exact h _ _ ⟨chg_alloc _ _, Nat.le_refl _, by simp⟩ (alloc_get _ _)
theorem OR.blk0 {α : Type} {R : α → List Value → Prop} {base b E k : Nat} {w : World} (h : Blk w b E []) (hb : base ≤ b) : OR base w E k R (some ⟨b, 0, none⟩) 0 0 [] :=
 ⟨rfl, [], rfl, by simp, by simpa using OL.blk (k := k) h hb (m := 0) (by simp) (by simp) (by omega), fun i y r h1 h2 => by simp at h1⟩
theorem Rd.none_nil {α : Type} {R : RR α} {k n c : Nat} {Z : Nat → Prop} {w : World} {xs : List α} (h : Rd R k Z w none n c xs) : xs = [] := by
 obtain ⟨hn, rows, hl, hk, h1, hx⟩ := h
 rcases h1.at_ with ⟨_, h2, _⟩ | ⟨b, o, h2, _⟩
 ·
  subst h2; exact List.length_eq_zero_iff.1 hn.symm
 ·
  cases h2
end
/-- A closure that has caught one variable; a method with its receiver. -/
theorem Calls.cap {P : Program} {f : FuncId} {r c : Value} {w : World} {Q : Ending → World → Prop} (h : Calls P f #[r, c] w Q) : Calls P f (#[] ++ [r].toArray ++ #[c]) w Q := by
 have e : (#[] ++ [r].toArray ++ #[c] : Array Value) = #[r, c] := by simp
 rw [e]; exact h
theorem Calls.recv {P : Program} {f : FuncId} {v r : Value} {w : World} {Q : Ending → World → Prop} (h : Calls P f #[v, r] w Q) : Calls P f (#[v] ++ [r].toArray ++ #[]) w Q := by
 have e : (#[v] ++ [r].toArray ++ #[] : Array Value) = #[v, r] := by simp
 rw [e]; exact h
end Go.Rc

namespace Go.Rc
open Go
/-- A slice, as far as its elements are read. -/
structure LR {α : Type} (A : Nat → Prop) (w : World) (k : Nat) (R : α → List Value → Prop) (a : Option Addr) (n : Nat) (xs : List α) : Prop where
 len : n = xs.length
 le : n ≤ 140737488355328
 at_ : ∀ {i : Nat} {x : α}, xs[i]? = some x → ∃ b o r, a = some ⟨b, o, none⟩ ∧ r.length = k ∧ R x r ∧ w.rangeAt b (o + i * k) r ∧ A b ∧ b < w.heap.size
theorem SR.lr {α : Type} {A : Nat → Prop} {w : World} {k n c : Nat} {R : α → List Value → Prop} {a : Option Addr} {xs : List α} (h : SR A w k R a n c xs) : LR A w k R a n xs :=
 ⟨SR.len h, SR.le h, fun {i x} hx => by
  obtain ⟨hn, rows, hl, hk, hs, hR⟩ := h
  have hlt : i < xs.length := (List.getElem?_eq_some_iff.1 hx).1
  obtain ⟨r, hr⟩ : ∃ r, rows[i]? = some r := ⟨rows[i], by simp [hl, hlt]⟩
  rcases hs.at_ with ⟨_, h0, _⟩ | ⟨b, o, h1, _, _, h4, h5, h6⟩
  ·
   omega
  ·
   exact ⟨b, o, r, h1, hk r (List.mem_of_getElem? hr), hR _ _ r hx hr, range_part h6 _ r (flatten_row rows k _ r hk hr), h4, h5⟩⟩
theorem LR.imp {α : Type} {A A' : Nat → Prop} {w w' : World} {k n : Nat} {R R' : α → List Value → Prop} {a : Option Addr} {xs : List α} (h : LR A w k R a n xs) (hA : ∀ x, A x → A' x) (hs : w.heap.size ≤ w'.heap.size) (hc : ∀ x, A x → x < w.heap.size → w'.heap[x]? = w.heap[x]?) (hR : ∀ x r, R x r → R' x r) : LR A' w' k R' a n xs :=
 ⟨h.len, h.le, fun hx => by
  obtain ⟨b, o, r, h1, h2, h3, h4, h5, h6⟩ := h.at_ hx
  exact ⟨b, o, r, h1, h2, hR _ _ h3, fun j v hv => by rw [← h4 j v hv]; exact World.cell?_of_block (a := ⟨b, _, none⟩) (hc b h5 h6), hA b h5, Nat.lt_of_lt_of_le h6 hs⟩⟩
/-- A row that is a slice of keys, in what B allows. -/
def KslR (B : Nat → Prop) (w : World) (ks : List Key) (row : List Value) : Prop := ∃ a n c, row = [.slice a n c] ∧ LR B w 2 (fun (k : Key) r => r = k.cells) a n ks
def Ksl (A B : Nat → Prop) (w : World) (a : Option Addr) (n : Nat) (l : List (List Key)) : Prop := LR A w 1 (KslR B w) a n l
theorem Ksl.ext {A B : Nat → Prop} {w w' : World} {a : Option Addr} {n : Nat} {l : List (List Key)} (h : Ksl A B w a n l) (s : Chg [] w w') : Ksl A B w' a n l :=
 LR.imp h (fun _ h => h) s.size (fun x _ hx => s.block x hx (by simp)) fun ks row ⟨a, n, c, h1, h2⟩ => ⟨a, n, c, h1, h2.imp (fun _ h => h) s.size (fun x _ hx => s.block x hx (by simp)) fun _ _ h => h⟩
def FZ.keys (a : Option Addr) (n : Nat) (l : List Key) : FZ :=
 ⟨fun Z w => LR Z w 2 (fun (k : Key) r => r = k.cells) a n l, fun hZ h => h.imp hZ (Nat.le_refl _) (fun _ _ _ => rfl) fun _ _ h => h, fun hs hc h => h.imp (fun _ h => h) hs hc fun _ _ h => h⟩
/-- The keys that are seen. -/
structure Cnt (ml : List (Key × Value)) (pre : List Key) : Prop where
 get : ∀ k, mget ml k = if k ∈ pre then some (.bool true) else none
 keys : ∀ k, k ∈ ml.map (·.1) ↔ k ∈ pre
 le : ml.length ≤ pre.length
 eq : ml.length = pre.length ↔ pre.Nodup
theorem Cnt.nil : Cnt [] [] := ⟨fun k => by simp [mget], by simp, by simp, by simp⟩
theorem nodup_snoc {l : List Key} {k : Key} : (l ++ [k]).Nodup ↔ l.Nodup ∧ k ∉ l := by
 rw [List.nodup_append]
 constructor
 ·
  rintro ⟨h1, _, h2⟩
  exact ⟨h1, fun hk => h2 k hk k (by simp) rfl⟩
 ·
  rintro ⟨h1, h2⟩
  exact ⟨h1, by simp, fun a ha b hb e => by simp at hb; subst hb; subst e; exact h2 ha⟩
theorem Cnt.put {ml : List (Key × Value)} {pre : List Key} (h : Cnt ml pre) (k : Key) : Cnt (mput ml k (.bool true)) (pre ++ [k]) := by
 have hk := mput_keys ml k (.bool true)
 have hlen : (mput ml k (.bool true)).length = if k ∈ pre then ml.length else ml.length + 1 := by
  have := congrArg List.length hk
  rw [List.length_map] at this
  rw [this]
  by_cases hm : k ∈ pre
  ·
   rw [if_pos ((h.keys k).2 hm), if_pos hm, List.length_map]
  ·
   rw [if_neg (fun e => hm ((h.keys k).1 e)), if_neg hm]; simp
 refine ⟨fun k' => ?_, fun k' => ?_, ?_, ?_⟩
 ·
  rw [mget_put, h.get]
  by_cases e : k = k'
  ·
   subst e; simp
  ·
   have e' : ¬ k' = k := fun h => e h.symm
   simp [e, e']
 ·
  rw [hk]
  by_cases hm : k ∈ ml.map (·.1)
  ·
   rw [if_pos hm, h.keys]
   have := (h.keys k).1 hm
   simp only [List.mem_append, List.mem_singleton]
   exact ⟨.inl, fun h => by rcases h with h | rfl; exact h; exact this⟩
  ·
   rw [if_neg hm]
   simp only [List.mem_append, List.mem_singleton, h.keys]
 ·
  rw [hlen]; have := h.le; simp only [List.length_append, List.length_singleton]; split <;> omega
 ·
  rw [hlen, nodup_snoc]
  have := h.le; have := h.eq
  simp only [List.length_append, List.length_singleton]
  by_cases hm : k ∈ pre
  ·
   rw [if_pos hm]; exact ⟨fun e => by omega, fun e => absurd hm e.2⟩
  ·
   rw [if_neg hm]
   exact ⟨fun e => ⟨h.eq.1 (by omega), hm⟩, fun e => by have := h.eq.2 e.1; omega⟩
theorem flat_take {l : List (List Key)} {i : Nat} (h : i < l.length) : (l.take (i + 1)).flatten = (l.take i).flatten ++ l[i] := by
 rw [List.take_succ_eq_append_getElem h, List.flatten_append, List.flatten_cons, List.flatten_nil, List.append_nil]
theorem flat_at {l : List (List Key)} {i j : Nat} (hi : i < l.length) (hj : j < l[i].length) (hk : l[i][j] ∈ (l.take i).flatten ++ l[i].take j) : ¬ l.flatten.Nodup := by
 intro hn
 have e1 : l.flatten = (l.take i).flatten ++ (l[i] ++ (l.drop (i + 1)).flatten) := by
  conv => lhs; rw [← List.take_append_drop i l, List.drop_eq_getElem_cons hi]
  rw [List.flatten_append, List.flatten_cons]
 have e2 : l[i] = l[i].take j ++ (l[i][j] :: l[i].drop (j + 1)) := by
  conv => lhs; rw [← List.take_append_drop j l[i], List.drop_eq_getElem_cons hj]
 rw [e1] at hn
 have h3 : ((l.take i).flatten ++ l[i]).Nodup := by
  rw [← List.append_assoc] at hn
  exact (List.nodup_append.1 hn).1
 rw [e2, ← List.append_assoc] at h3
 have h4 := (List.nodup_append.1 h3).2.2 _ hk l[i][j] List.mem_cons_self
 exact h4 rfl
theorem step_pre {l : List (List Key)} {i j : Nat} (hi : i < l.length) (hj : j < l[i].length) : (l.take i).flatten ++ l[i].take (j + 1) = ((l.take i).flatten ++ l[i].take j) ++ [l[i][j]] := by
 rw [List.take_succ_eq_append_getElem hj, List.append_assoc]
/-- Rows of a block. -/
theorem SR.blkR {α : Type} {w : World} {k b E : Nat} {R : α → List Value → Prop} {xs : List α} {rows : List (List Value)} (h : Blk w b E rows.flatten) (hl : xs.length = rows.length) (hk : ∀ r ∈ rows, r.length = k) (h1 : ∀ u ∈ rows.flatten, u.oneCell' = true)
  (hle : rows.length ≤ 140737488355328) (hR : ∀ (i : Nat) (x : α) (r : List Value), xs[i]? = some x → rows[i]? = some r → R x r) : SR (fun _ => True) w k R (some ⟨b, 0, none⟩) rows.length rows.length xs := by
 have hlen : rows.flatten.length = rows.length * k := by
  clear h hl h1 hle hR
  induction rows with
  | nil => simp
  | cons r t ih =>
   have h2 := ih fun x hx => hk x (by simp [hx])
   simp only [List.flatten_cons, List.length_append, List.length_cons, h2, hk r (by simp), Nat.succ_mul]; omega
 have ho := OL.blk (base := 0) (k := k) h (Nat.zero_le _) hlen h1 hle
 exact ⟨hl.symm, rows, hl.symm, hk, ho.sl (A := fun _ => True) (fun _ _ => trivial) hle, hR⟩
end Go.Rc

namespace Go.Rc
open Go
def r3 : Rule := ⟨false, [], 1, 3⟩
abbrev K0 : Key := ⟨31, itoa ((0 : Nat) : Int)⟩
abbrev v3 : ByteArray := itoa 3
theorem r3_sim : ∀ y ∈ [r3], SimR y := fun y hy => by simp at hy; subst hy; exact ⟨rfl, rfl, rfl, by decide, by decide⟩
theorem r3_ok : rulesOk [r3] := by
 refine ⟨by simp, fun i r h => ?_⟩
 have hi : i = 0 := by have := (List.getElem?_eq_some_iff.1 h).1; simp at this; omega
 subst hi
 simp at h; subst h
 exact ⟨by simp [r3], fun k x hx => by simp [r3] at hx, rfl⟩
theorem K0_of : ofK [r3] ((0 : Nat) : Int) = K0 := SimR.key (by simp) (by omega) (r3_sim _ (by simp))
theorem K0_knd : Knd [r3] K0 := by rw [← K0_of]; exact .rule (by simp) (by omega)
theorem bas0_ok : basOk ⟨0, [], []⟩ := ⟨fun i y h => by simp at h, fun i r h => by simp at h, by decide, by decide, by simp, by simp, fun i x h => by simp at h⟩
theorem K0_num : number K0 = ((0 : Nat) : Int) := by rw [← K0_of]; exact number_ofK (by simp) (by omega)
theorem K0_right : rightK [r3] K0 = true := by
 have h := K0_of
 simp [rightK, validK, K0_num] at h ⊢
 exact h
theorem check0 : checkE [r3] ⟨0, [], []⟩ [K0] = 0 := by
 unfold checkE
 rw [if_neg (fun h => h r3_ok), if_neg (fun h => h bas0_ok), if_neg (by simp), if_pos (by simp [K0_right])]
theorem good0 {rules : List Rule} : Good rules [] ⟨⟨0, [], []⟩, [], [], 0⟩ := ⟨rfl, by simp, by simp, by simp, by simp, fun k => .inl rfl⟩
abbrev s1 : ES := ⟨⟨0, [], [rec1 0 v3]⟩, [], [K0], 0⟩
theorem turn0 : turn28 [r3] K0 [] = ⟨true, v3, noKey⟩ := by
 unfold turn28
 rw [if_pos (.inl rfl)]
 rw [turnV_end (i := 0) K0_num (by simp) (by rw [K0_num]; exact K0_of) (by simp [r3])]
 rfl
theorem run0 (val : Key → ByteArray) : upAllV [r3] val 2 ⟨⟨0, [], []⟩, [], [], 0⟩ [K0] = some s1 := by
 have hi : isInput K0 = false := rfl
 have hp : putR [] (madeV ⟨0, [], []⟩ K0 v3 []) = [rec1 0 v3] := rfl
 simp [upAllV, upV, checkV, runV, turn0, upNow, findR, ES.on, mget, hi, mput, mdel, hp]
end Go.Rc
namespace Go.Rc
open Go
abbrev v4 : ByteArray := ⟨#[52]⟩
theorem v3_eq : v3 = ⟨#[51]⟩ := by
 simp [v3, itoa, Lib.itoa, Lib.decDigits]
theorem v3_size : v3.size ≤ 1000 := by rw [v3_eq]; decide
theorem v34 : v3 ≠ v4 := by rw [v3_eq]; decide
theorem s1_base : s1.base ⟨0, [], []⟩ = ⟨0, [], [rec1 0 v3]⟩ := rfl
theorem s1_list : s1.list = [K0] := rfl
end Go.Rc

namespace Go.Rc
open Go
def RR.hdr : RR (Option Addr × Nat × Nat) := RR.flat fun h => [.slice h.1 h.2.1 h.2.2]
theorem Ksl.monoZ {Z Z' : Nat → Prop} {w : World} {a : Option Addr} {n : Nat} {l : List (List Key)} (h : Ksl Z Z w a n l) (hZ : ∀ x, Z x → Z' x) : Ksl Z' Z' w a n l :=
 LR.imp h hZ (Nat.le_refl _) (fun _ _ _ => rfl) fun ks row ⟨a, n, c, h1, h2⟩ => ⟨a, n, c, h1, h2.imp hZ (Nat.le_refl _) (fun _ _ _ => rfl) fun _ _ h => h⟩
def FZ.ksl (a : Option Addr) (n : Nat) (l : List (List Key)) : FZ :=
 ⟨fun Z w => Ksl Z Z w a n l, fun hZ h => h.monoZ hZ, fun hs hc h => LR.imp h (fun _ h => h) hs hc fun ks row ⟨a, n, c, h1, h2⟩ => ⟨a, n, c, h1, h2.imp (fun _ h => h) hs hc fun _ _ h => h⟩⟩
/-- Earlier lists, all in what is frozen. -/
def FKS (hp : List (Option Addr × Nat × Nat)) (kp : List (List Key)) : FZ :=
 ⟨fun Z w => hp.length = kp.length ∧ ∀ (j : Nat) h k, hp[j]? = some h → kp[j]? = some k → Rd RR.key 2 Z w h.1 h.2.1 h.2.2 k, fun hZ h => ⟨h.1, fun j x k h1 h2 => (h.2 j x k h1 h2).mono hZ⟩, fun hs hc h => ⟨h.1, fun j x k h1 h2 => (h.2 j x k h1 h2).st hs hc⟩⟩
theorem FKS.nil (Z : Nat → Prop) (w : World) : (FKS [] []).p Z w := ⟨rfl, fun j h k hj => by simp at hj⟩
theorem FKS.snoc {Z : Nat → Prop} {w : World} {hp : List (Option Addr × Nat × Nat)} {kp : List (List Key)} {a : Option Addr} {n c : Nat} {ks : List Key} (h : (FKS hp kp).p Z w) (hk : Rd RR.key 2 Z w a n c ks) : (FKS (hp ++ [(a, n, c)]) (kp ++ [ks])).p Z w := by
 refine ⟨by simp [h.1], fun j x k h1 h2 => ?_⟩
 rcases Nat.lt_or_ge j hp.length with hj | hj
 ·
  rw [List.getElem?_append_left hj] at h1
  rw [List.getElem?_append_left (by rw [← h.1]; exact hj)] at h2
  exact h.2 j x k h1 h2
 ·
  rw [List.getElem?_append_right hj] at h1
  rw [List.getElem?_append_right (by rw [← h.1]; exact hj), ← h.1] at h2
  have : j - hp.length = 0 := by have := (List.getElem?_eq_some_iff.1 h1).1; simp at this; omega
  rw [this] at h1 h2
  simp at h1 h2
  subst h1 h2
  exact hk
theorem FKS.opt {Z : Nat → Prop} {w : World} {hp : List (Option Addr × Nat × Nat)} {kp : List (List Key)} {a : Option Addr} {n c : Nat} {ks : List Key} {b : Bool} (h : (FKS hp kp).p Z w) (hk : Rd RR.key 2 Z w a n c ks) :
  (FKS (hp ++ (if b then [(a, n, c)] else [])) (kp ++ (if b then [ks] else []))).p Z w := by
 cases b
 ·
  simpa using h
 ·
  simpa using FKS.snoc h hk
theorem FKS.ksl {Z : Nat → Prop} {w : World} {hp : List (Option Addr × Nat × Nat)} {kp : List (List Key)} {a : Option Addr} {n c : Nat} (h : (FKS hp kp).p Z w) (hr : Rd RR.hdr 1 Z w a n c hp) : Ksl Z Z w a n kp := by
 have hl := SR.lr hr
 refine ⟨hl.len.trans h.1, hl.le, fun {i x} hx => ?_⟩
 have hi : i < hp.length := by rw [h.1]; exact (List.getElem?_eq_some_iff.1 hx).1
 obtain ⟨b, o, r, h1, h2, h3, h4, h5, h6⟩ := hl.at_ (getElem_some hi)
 exact ⟨b, o, r, h1, h2, ⟨_, _, _, h3, SR.lr (h.2 i _ _ (getElem_some hi) hx)⟩, h4, h5, h6⟩
section
variable {P : Program} {kv : KV} {w : World} {T U ty : TypeId} {x y : Operand}
theorem PV.neBf {p q : Bool} (hT : P.underlying T = some .bool) (hx : ev kv x = some (.bool p)) (hy : ev kv y = some (.bool q)) (h : p = q) : PV P (.binOp .neq T x y U) ty kv w (.bool false) := by
 refine ⟨rfl, by simp [known, opers, hx, hy], fun _ _ _ _ => ?_⟩
 have he : (Op.equalIn 10000 T (.bool p) (.bool q)).run P w = .ok (p == q) w := by
  rw [show (10000 : Nat) = 9999 + 1 from rfl]
  unfold Op.equalIn
  simp [run_underlying hT]
 subst h
 simp only [execOp, lkO_of hx, lkO_of hy]
 simp [eqGuard, binOp, Op.equal, Op.maxDepth, he]
end
theorem Cnt.same {ml : List (Key × Value)} {pre : List Key} (h : Cnt ml pre) {t : Int} (ht : t = (pre.length : Int)) : decide pre.Nodup = decide (t = (ml.length : Int)) := by
 subst ht
 rw [decide_eq_decide, ← h.eq]
 omega
theorem flat_len {l : List (List Key)} {i : Nat} (h : i < l.length) : (l.take (i + 1)).flatten.length = (l.take i).flatten.length + l[i].length := by
 rw [flat_take h, List.length_append]
theorem set_last {α : Type} (l : List α) (x y : α) : (l ++ [x]).set l.length y = l ++ [y] := by simp
end Go.Rc
namespace Go.Rc
open Go
def ByteR (u : Nat) (r : List Value) : Prop := u ≤ 255 ∧ r = [.int .u8 (u : Int)]
def FZ.byt (a : Option Addr) (n : Nat) (l : List Nat) : FZ :=
 ⟨fun Z w => LR Z w 1 ByteR a n l, fun hZ h => h.imp hZ (Nat.le_refl _) (fun _ _ _ => rfl) fun _ _ h => h, fun hs hc h => h.imp (fun _ h => h) hs hc fun _ _ h => h⟩
theorem len_ite {α : Type} (b : Bool) (l : List α) (x : α) : (l ++ (if b then [x] else [])).length = l.length + b.toNat := by cases b <;> simp
end Go.Rc

namespace Go.Rc
open Go
section
variable {H : Type} {enc : TypeId × Value → H} {P : Program} {w : World}
theorem weights_all {e : TypeId} : ∀ {l : List (DataW H)} {d : DataW H}, d ∈ l → ∀ n ∈ d.weights P e, n ∈ DataW.weightsAll P e l
 | [], _, hd, _, _ => by cases hd
 | x :: r, d, hd, n, hn => by
  simp only [DataW.weightsAll, List.mem_append]
  rcases List.mem_cons.1 hd with rfl | hd
  ·
   exact .inl hn
  ·
   exact .inr (weights_all hd n hn)
/-- No string, slice or map of a datum is larger than the form's reach. -/
def Lim (P : Program) (t : TypeId) (d : DataW H) : Prop := ∀ n ∈ d.weights P t, n ≤ reachBytes
theorem Lim.len {t e : TypeId} {xs ys : List (DataW H)} (h : Lim P t (.slice xs ys)) (ht : P.underlying t = some (.slice e)) (hb : 1 ≤ P.bytesOf e) : xs.length ≤ 140737488355328 := by
 have h1 := h ((xs.length + ys.length) * P.bytesOf e) (by simp only [DataW.weights, ht]; exact List.mem_cons_self)
 unfold reachBytes at h1
 have h2 : xs.length * 1 ≤ (xs.length + ys.length) * P.bytesOf e := Nat.mul_le_mul (by omega) hb
 omega
theorem Lim.elem {t e : TypeId} {xs ys : List (DataW H)} (h : Lim P t (.slice xs ys)) (ht : P.underlying t = some (.slice e)) {d : DataW H} (hd : d ∈ xs) : Lim P e d := fun n hn =>
 h n (by simp only [DataW.weights, ht, List.mem_cons, List.mem_append]; exact .inr (.inl (weights_all hd n hn)))
theorem Lim.each {ts : List TypeId} {ds : List (DataW H)} (h : (DataW.weightsEach P ts ds).all (· ≤ reachBytes) = true) {j : Nat} {t : TypeId} {d : DataW H} (ht : ts[j]? = some t) (hd : ds[j]? = some d) : Lim P t d := fun n hn => by
 have := List.all_eq_true.1 h n (DataW.weights_mem_each ht hd n hn)
 simpa using this
/-- A slice of an argument, opened, for whatever its elements are. -/
theorem open_lr {α : Type} [Inhabited α] {R : α → List Value → Prop} {t e : TypeId} {k fuel n c : Nat} {a : Option Addr} {d : DataW H} {p : List MemPlace} (ht : P.underlying t = some (.slice e)) (hk : P.cellsOf e = k) (hk1 : 1 ≤ k) (hb : 1 ≤ P.bytesOf e)
  (hR : ∀ (m : Nat) (cs : List Value) (d : DataW H) (p : List MemPlace), DataW.trod enc P w 0 (fun _ => true) true m e cs = some (d, p) → cs.length = k → Lim P e d → ∃ x : α, R x cs)
  (h : DataW.trod enc P w 0 (fun _ => true) true fuel t [.slice a n c] = some (d, p)) (hl : Lim P t d) : ∃ xs : List α, LR (fun b => b < w.heap.size) w k R a n xs := by
 rcases Deep.open_slice ht h with ⟨hc, _⟩ | ⟨a', len, cap, m, fu, D, Pl, hc, _, hle, _, hm, hx, hel⟩
 ·
  simp only [List.cons.injEq, Value.slice.injEq, and_true] at hc
  obtain ⟨rfl, rfl, rfl⟩ := hc
  exact ⟨[], ⟨rfl, by omega, fun hx => by simp at hx⟩⟩
 ·
  simp only [List.cons.injEq, Value.slice.injEq, and_true] at hc
  obtain ⟨rfl, rfl, rfl⟩ := hc
  simp only [Prod.mk.injEq] at hx
  obtain ⟨rfl, _⟩ := hx
  simp only [if_true] at hm
  have hn : n ≤ 140737488355328 := by simpa using hl.len ht hb
  have each : ∀ i, i < n → ∃ q : α × List Value, w.cells? 0 (a'.add (i * k)) k = some q.2 ∧ R q.1 q.2 := fun i hi => by
   obtain ⟨cs', h1, h2⟩ := hel i (by omega)
   rw [hk] at h1
   obtain ⟨x, hx⟩ := hR _ _ _ _ h2 (World.cells?_some h1).2.1 (hl.elem ht (List.mem_map.2 ⟨i, by simpa using hi, rfl⟩))
   exact ⟨(x, cs'), h1, hx⟩
  obtain ⟨q, hq⟩ := Deep.choose_lt each
  refine ⟨(List.range n).map fun i => (q i).1, ⟨by simp, hn, fun {i x} hx => ?_⟩⟩
  obtain ⟨hi, rfl⟩ : i < n ∧ (q i).1 = x := by
   rw [List.getElem?_map] at hx
   obtain ⟨j, hj, hjx⟩ := Option.map_eq_some_iff.1 hx
   rw [List.getElem?_eq_some_iff] at hj
   obtain ⟨hj1, hj2⟩ := hj
   simp at hj1 hj2
   subst hj2
   exact ⟨hj1, hjx⟩
  have hs : a'.spot = none := by
   obtain ⟨_, hl0, hc0⟩ := World.cells?_some (hq 0 (by omega)).1
   have h0 := hc0 0 (by omega)
   rw [List.getElem?_eq_getElem (by omega)] at h0
   have := World.cell?_spot h0
   simpa [Addr.add] using this
  obtain ⟨b, o, s⟩ := a'
  simp only at hs
  subst hs
  obtain ⟨_, hcl, hcell⟩ := World.cells?_some (hq i hi).1
  have hr : w.rangeAt b (o + i * k) (q i).2 := fun j v hv => by
   have hj : j < k := by have := (List.getElem?_eq_some_iff.1 hv).1; omega
   have := hcell j hj
   rw [WideShapes.add_plain, WideShapes.add_plain] at this
   rw [this, hv]
  refine ⟨b, o, (q i).2, rfl, hcl, (hq i hi).2, hr, ?_, ?_⟩ <;>
   exact World.block_lt_of_cell? w ⟨b, _, none⟩ (hr 0 _ (List.getElem?_eq_getElem (by omega)))
theorem key_of {e : TypeId} {f0 f1 : Field} (he : P.underlying e = some (.struct #[f0, f1])) (o0 : f0.offset = 0) (o1 : f1.offset = 1) (c0 : P.cellsOf f0.type = 1) (c1 : P.cellsOf f1.type = 1) (hi : P.underlying f0.type = some (.int .i64)) (hs : P.underlying f1.type = some .string)
  {m : Nat} {cs : List Value} {d : DataW H} {p : List MemPlace} (h : DataW.trod enc P w 0 (fun _ => true) true m e cs = some (d, p)) (hl : cs.length = 2) : ∃ k : Key, cs = k.cells := by
 obtain ⟨xs, n, rfl, _, _, hxl, hf⟩ := DataW.trod_struct he h
 match cs, hl with
 | [v0, v1], _ =>
  have g0 := hf 0 f0 rfl
  have g1 := hf 1 f1 rfl
  simp [o0, o1, c0, c1] at g0 g1
  match xs, hxl with
  | [y0, y1], _ =>
   obtain ⟨z, e0, _⟩ := DataW.trod_int hi (by simpa using g0)
   obtain ⟨s, e1, _⟩ := DataW.trod_string hs (by simpa using g1)
   simp at e0 e1
   subst e0 e1
   exact ⟨⟨z, s⟩, rfl⟩
/-- A list of lists of keys. -/
theorem open_ksl {t t1 e : TypeId} {f0 f1 : Field} {fuel n c : Nat} {a : Option Addr} {d : DataW H} {p : List MemPlace} (ht : P.underlying t = some (.slice t1)) (k1 : P.cellsOf t1 = 1) (b1 : 1 ≤ P.bytesOf t1) (ht1 : P.underlying t1 = some (.slice e)) (k2 : P.cellsOf e = 2) (b2 : 1 ≤ P.bytesOf e)
  (he : P.underlying e = some (.struct #[f0, f1])) (o0 : f0.offset = 0) (o1 : f1.offset = 1) (c0 : P.cellsOf f0.type = 1) (c1 : P.cellsOf f1.type = 1) (hi : P.underlying f0.type = some (.int .i64)) (hs : P.underlying f1.type = some .string)
  (h : DataW.trod enc P w 0 (fun _ => true) true fuel t [.slice a n c] = some (d, p)) (hl : Lim P t d) : ∃ l : List (List Key), (FZ.ksl a n l).p (fun b => b < w.heap.size) w := by
 refine open_lr (R := KslR (fun b => b < w.heap.size) w) ht k1 (Nat.le_refl _) b1 (fun m cs d p hm hcl hd => ?_) h hl
 have hcs : ∃ a n c, cs = [.slice a n c] := by
  rcases DataW.trod_slice ht1 hm with ⟨rfl, _⟩ | ⟨a, len, cap, _, _, _, _, rfl, _⟩
  ·
   exact ⟨_, _, _, rfl⟩
  ·
   exact ⟨_, _, _, rfl⟩
 obtain ⟨a, n, c, rfl⟩ := hcs
 obtain ⟨ks, hks⟩ := open_lr (R := fun (k : Key) r => r = k.cells) ht1 k2 (by decide) b2 (fun m cs d p hm hcl _ => key_of he o0 o1 c0 c1 hi hs hm hcl) hm hd
 exact ⟨ks, a, n, c, rfl, hks⟩
/-- A slice of bytes. -/
theorem open_byt {t e : TypeId} {fuel n c : Nat} {a : Option Addr} {d : DataW H} {p : List MemPlace} (ht : P.underlying t = some (.slice e)) (k1 : P.cellsOf e = 1) (b1 : 1 ≤ P.bytesOf e) (he : P.underlying e = some (.int .u8))
  (h : DataW.trod enc P w 0 (fun _ => true) true fuel t [.slice a n c] = some (d, p)) (hl : Lim P t d) : ∃ l : List Nat, (FZ.byt a n l).p (fun b => b < w.heap.size) w := by
 refine open_lr (R := ByteR) ht k1 (Nat.le_refl _) b1 (fun m cs d p hm hcl _ => ?_) h hl
 obtain ⟨z, rfl, _, hz⟩ := DataW.trod_int he hm
 have hz2 : 0 ≤ z ∧ z ≤ 255 := by
  simp [Lit.wf, IntKind.min, IntKind.max, IntKind.signed, IntKind.bits] at hz
  omega
 exact ⟨z.toNat, by omega, by rw [show ((z.toNat : Nat) : Int) = z by omega]⟩
end
/-- The library's table, out of what a listed variable reads as. -/
theorem tab_of {P : Program} {w : World} {g t e : Nat} (hv : Lib.VarReads P w "internal/strconv.uint64pow10" (Lib.tabData .u64 Lib.pow10Tab)) (hg : P.globalNamed "internal/strconv.uint64pow10" = some g) (hty : (P.globals[g]?).map (·.type) = some t) (ht : P.underlying t = some (.array 20 e)) (he : P.underlying e = some (.int .u64))
  (hce : P.cellsOf e = 1) (hct : P.cellsOf t = 20) : Tab P (fun b => b < w.heap.size) w := by
 obtain ⟨g', t', cs, fuel, p, hg', ht', hvar, hd⟩ := hv
 obtain rfl := Option.some.inj (hg.symm.trans hg')
 obtain rfl := Option.some.inj (hty.symm.trans ht')
 have hc := Lib.cells_of_tab ht he hce hct hd
 have hT : Lib.TabIs P w "internal/strconv.uint64pow10" .u64 Lib.pow10Tab := by
  unfold Lib.TabIs
  rw [hvar, ← hc]
 have hlt : g < w.heap.size := by
  unfold World.var? at hvar
  simp only [hg, Option.bind_some] at hvar
  split at hvar
  ·
   rename_i hh
   exact (Array.getElem?_eq_some_iff.1 hh).1
  ·
   cases hvar
 refine ⟨g, hlt, hlt, fun w' e => ?_⟩
 unfold Lib.TabIs World.var? at hT ⊢
 simp only [hg, Option.bind_some] at hT ⊢
 rw [e]
 exact hT
theorem Chg.belowB {w w' : World} (h : Chg [] w w') (B : Nat) (hB : B ≤ w.heap.size) : RowKit.Below B w w' := ⟨h.os, h.tape, h.output, h.size, fun k hk => h.block k (by omega) (by simp)⟩
end Go.Rc

namespace Go.Rc
open Go
def bitN (m f : Nat) : Bool := Nat.beq (Nat.land (Nat.shiftRight m f) 1) 1
def cloF (look : FuncId → Option Func) (P : Program) : Nat → List FuncId → Nat → List FuncId → List FuncId
 | 0, _, _, seen => seen.reverse
 | _, [], _, seen => seen.reverse
 | n + 1, f :: todo, mask, seen =>
  match bitN mask f with
  | true => cloF look P n todo mask seen
  | false => cloF look P n ((look f).elim [] P.leadsTo ++ todo) (Nat.lor mask (Nat.shiftLeft 1 f)) (f :: seen)
theorem bitN_eq (m f : Nat) : bitN m f = m.testBit f := by
 unfold bitN
 show Nat.beq ((m >>> f) &&& 1) 1 = m.testBit f
 rw [Nat.testBit, Nat.and_comm]
 have h := Nat.and_one_is_mod (m >>> f)
 rw [Nat.and_comm]
 have h2 : (1 &&& m >>> f) = (m >>> f) % 2 := by rw [Nat.and_comm]; exact h
 rw [Nat.and_comm, h2]
 rcases Nat.mod_two_eq_zero_or_one (m >>> f) with e | e <;> rw [e] <;> rfl
theorem cloF_eq {look : FuncId → Option Func} (P : Program) (hl : ∀ g, P.funcs[g]? = look g) : ∀ (n : Nat) (todo : List FuncId) (mask : Nat) (seen : List FuncId), (∀ x : Nat, mask.testBit x = seen.contains x) → cloF look P n todo mask seen = P.closureVia n todo seen
 | 0, _, _, _, _ => by unfold cloF Program.closureVia; rfl
 | n + 1, [], _, _, _ => by unfold cloF Program.closureVia; rfl
 | n + 1, f :: todo, mask, seen, h => by
  unfold cloF Program.closureVia
  rw [bitN_eq, h f]
  cases hc : seen.contains f with
  | true => simp only [if_true]; exact cloF_eq P hl n todo mask seen h
  | false =>
   simp only [Bool.false_eq_true, if_false]
   rw [hl f]
   refine cloF_eq P hl n _ _ _ fun x => ?_
   show (mask ||| (1 <<< f)).testBit x = (f :: seen).contains x
   rw [Nat.testBit_or, h x, Nat.shiftLeft_eq, Nat.one_mul, Nat.testBit_two_pow, List.contains_cons, Bool.or_comm]
   congr 1
   by_cases e : f = x
   ·
    subst e; simp
   ·
    simp [e, Ne.symm e]
theorem closure_fast {look : FuncId → Option Func} (P : Program) (hl : ∀ g, P.funcs[g]? = look g) (f : FuncId) : P.closure f = cloF look P (1 + (P.funcs.toList.map fun g => (P.leadsTo g).length + 1).sum) [f] 0 [] := by
 unfold Program.closure
 exact (cloF_eq P hl _ _ _ _ fun x => by simp).symm
end Go.Rc

namespace Go.Rc
open Go
def grownF (P : Program) : Nat → List TypeId → List TypeId
 | 0, s => s
 | d + 1, s => match decide (P.grow s = s) with
  | true => s
  | false => grownF P d (P.grow s)
theorem grown_fix {P : Program} {s : List TypeId} (h : P.grow s = s) : ∀ n, P.grown n s = s
 | 0 => rfl
 | n + 1 => by
  show P.grown n (P.grow s) = s
  rw [h]
  exact grown_fix h n
theorem grownF_eq (P : Program) : ∀ (n : Nat) (s : List TypeId), P.grown n s = grownF P n s
 | 0, _ => rfl
 | n + 1, s => by
  show P.grown n (P.grow s) = match decide (P.grow s = s) with | true => s | false => grownF P n (P.grow s)
  by_cases h : P.grow s = s
  ·
   rw [decide_eq_true h]
   show P.grown n (P.grow s) = s
   rw [h]
   exact grown_fix h n
  ·
   rw [decide_eq_false h]
   exact grownF_eq P n _
def bookF (P : Program) (t : TypeId) : List TypeId := grownF P P.types.size [t]
theorem book_eq (P : Program) (t : TypeId) : P.book t = bookF P t := grownF_eq P _ _
def readF (P : Program) (t : TypeId) : Bool := (bookF P t).all fun u => P.fineRow u && (P.partsOf u).all ((bookF P t).contains ·)
theorem read_eq (P : Program) (t : TypeId) : P.readableRec t = readF P t := by unfold Program.readableRec readF; simp only [book_eq]
def loopsF (P : Program) (t : TypeId) : Bool := (bookF P t).any fun u => (P.partsOf u).any fun v => (bookF P v).contains u
theorem loops_eq (P : Program) (t : TypeId) : P.loopsFrom t = loopsF P t := by unfold Program.loopsFrom loopsF; simp only [book_eq]
def mapsF (P : Program) (t : TypeId) : Bool := (bookF P t).any fun u => match P.underlying u with | some (.map _ _) => true | _ => false
theorem maps_eq (P : Program) (t : TypeId) : P.mapsRec t = mapsF P t := by unfold Program.mapsRec mapsF; rw [book_eq]; try rfl
def ifacesF (P : Program) (t : TypeId) : Bool := (bookF P t).any fun u => match P.underlying u with | some (.interface _) => true | _ => false
theorem ifaces_eq (P : Program) (t : TypeId) : P.ifacesRec t = ifacesF P t := by unfold Program.ifacesRec ifacesF; rw [book_eq]; try rfl
def veiledF (P : Program) (t : TypeId) : Bool := (bookF P t).any fun u => match P.underlying u with | some (.func ..) | some (.chan ..) | some .unsafePointer => true | _ => false
theorem veiled_eq (P : Program) (t : TypeId) : P.veiledRec t = veiledF P t := by unfold Program.veiledRec veiledF; rw [book_eq]; try rfl
def wideF (P : Program) (t : TypeId) : Bool :=
 (bookF P t).any fun u => match P.underlying u with
  | some (.map k _) => (match P.underlying k with | some (.array _ _) | some (.struct _) => true | _ => false)
  | _ => false
theorem wide_eq (P : Program) (t : TypeId) : P.wideKeysFrom t = wideF P t := by unfold Program.wideKeysFrom wideF; rw [book_eq]; try rfl
def veiledOwnF (P : Program) (t : TypeId) : Bool := !veiledF P t || (let L := P.libraryStructs; (bookF P t).all fun u => !(P.libraryStructIn L u && veiledF P u))
theorem veiledOwn_eq (P : Program) (t : TypeId) : P.veiledOwn t = veiledOwnF P t := by unfold Program.veiledOwn veiledOwnF; simp only [book_eq, veiled_eq]; try rfl
def varReadF (P : Program) (n : String) : Bool :=
 match P.globalNamed n with
 | some g => ((P.globals[g]?).map (·.type)).any fun t => readF P t && veiledOwnF P t
 | none => false
theorem varRead_eq (P : Program) (n : String) : P.varReadable n = varReadF P n := by unfold Program.varReadable varReadF; simp only [read_eq, veiledOwn_eq]; try rfl
end Go.Rc

namespace Go.Rc
open Go
def blocks {α : Type _} : Nat → List α → List (List α)
 | 0, _ => []
 | n + 1, l => l.take 32 :: blocks n (l.drop 32)
def pick {α : Type _} (b : List (List α)) (t : Nat) : Option α := (b[t / 32]?).bind (·[t % 32]?)
theorem pick_blocks {α : Type _} : ∀ (n : Nat) (l : List α) (t : Nat), l.length ≤ n * 32 → pick (blocks n l) t = l[t]?
 | 0, l, t, h => by
  have : l = [] := List.length_eq_zero_iff.1 (by omega)
  subst this
  simp [pick, blocks]
 | n + 1, l, t, h => by
  by_cases ht : t < 32
  ·
   have h1 : t / 32 = 0 := by omega
   have h2 : t % 32 = t := by omega
   simp [pick, blocks, h1, h2, ht]
  ·
   have h1 : t / 32 = (t - 32) / 32 + 1 := by omega
   have h2 : t % 32 = (t - 32) % 32 := by omega
   have ih := pick_blocks n (l.drop 32) (t - 32) (by simp; omega)
   simp only [pick] at ih
   simp only [pick, blocks, h1, h2, List.getElem?_cons_succ, ih, List.getElem?_drop]
   congr 1
   omega
/-- What lies behind a type's name. -/
def rootOf (b : List (List TypeInfo)) (t : TypeId) : Option TypeDesc :=
 (pick b t).bind fun i => match i.desc with
  | .named _ u => (pick b u).map (·.desc)
  | d => some d
def wide (b : List (List TypeInfo)) (t : TypeId) : Nat := ((pick b t).map (·.size)).getD 0
theorem info_pick {P : Program} {n : Nat} (hn : P.types.size ≤ n * 32) {t : TypeId} {i : TypeInfo} (h : pick (blocks n P.types.toList) t = some i) : P.info? t = some i := by
 rw [pick_blocks n _ t (by simpa using hn), Array.getElem?_toList] at h
 have ht : t < P.types.size := (Array.getElem?_eq_some_iff.1 h).1
 unfold Tables.info?
 rw [if_pos ht, h]
theorem pick_in {P : Program} {n : Nat} (hn : P.types.size ≤ n * 32) {t : TypeId} (h : t < P.types.size) : ∃ i, pick (blocks n P.types.toList) t = some i := by
 rw [pick_blocks n _ t (by simpa using hn), Array.getElem?_toList]
 exact ⟨_, Array.getElem?_eq_getElem h⟩
theorem rootOf_eq {P : Program} {n : Nat} (hn : P.types.size ≤ n * 32) {t : TypeId} {d : TypeDesc} (h : rootOf (blocks n P.types.toList) t = some d) : P.underlying t = some d := by
 unfold rootOf at h
 unfold Program.underlying
 cases hp : pick (blocks n P.types.toList) t with
 | none => rw [hp] at h; cases h
 | some i =>
  rw [hp] at h
  rw [info_pick hn hp]
  obtain ⟨e, _⟩ := i
  cases e with
  | named a u =>
   simp only [Option.bind_some] at h
   cases hu : pick (blocks n P.types.toList) u with
   | none => rw [hu] at h; cases h
   | some k =>
    rw [hu] at h
    simp only [info_pick hn hu]
    exact h
  | _ => exact h
theorem wide_eq' {P : Program} {n : Nat} (hn : P.types.size ≤ n * 32) {t : TypeId} (h : t < P.types.size) : wide (blocks n P.types.toList) t = P.cellsOf t := by
 obtain ⟨i, hi⟩ := pick_in hn h
 unfold wide Program.cellsOf
 rw [hi, info_pick hn hi]
def stands (b : List (List TypeInfo)) (N : Nat) (t : TypeId) : Bool := Nat.ble (t + 1) N && kindOk (rootOf b t)
theorem stands_lt {b : List (List TypeInfo)} {N : Nat} {t : TypeId} (h : stands b N t = true) : t < N := by
 simp only [stands, Bool.and_eq_true] at h
 exact Nat.le_of_ble_eq_true h.1
theorem stands_eq {P : Program} {n : Nat} (hn : P.types.size ≤ n * 32) {t : TypeId} (h : stands (blocks n P.types.toList) P.types.size t = true) : isVar P t = true := by
 have hl := stands_lt h
 simp only [stands, Bool.and_eq_true] at h
 unfold isVar
 cases hr : rootOf (blocks n P.types.toList) t with
 | none => rw [hr] at h; cases h.2
 | some d =>
  rw [hr] at h
  rw [rootOf_eq hn hr, h.2, decide_eq_true hl]
  rfl
/-- The fields lie one behind the other from 'o' on. -/
def laidFrom (b : List (List TypeInfo)) (N : Nat) : Nat → List Field → Bool
 | _, [] => true
 | o, f :: r => stands b N f.type && Nat.beq f.offset o && laidFrom b N (o + wide b f.type) r
def sumOf (b : List (List TypeInfo)) : List Field → Nat
 | [] => 0
 | f :: r => wide b f.type + sumOf b r
def rowB (b : List (List TypeInfo)) (N : Nat) (t : TypeId) : Bool :=
 match rootOf b t with
 | none => false
 | some (.struct fs) => laidFrom b N 0 fs.toList && Nat.beq (wide b t) (sumOf b fs.toList)
 | some (.array k e) => stands b N e && Nat.beq (wide b t) (k * wide b e)
 | some (.pointer e) => stands b N e && Nat.beq (wide b t) 1
 | some (.slice e) => stands b N e && Nat.beq (wide b t) 1
 | some (.tuple _) => true
 | some .invalid => true
 | some (.named _ _) => true
 | _ => Nat.beq (wide b t) 1
def mapB (b : List (List TypeInfo)) (N : Nat) (t : TypeId) : Bool :=
 match rootOf b t with
 | none => false
 | some (.map _ e) => Nat.ble (e + 1) N
 | _ => true
theorem laidFrom_all {P : Program} {n : Nat} (hn : P.types.size ≤ n * 32) : ∀ (fs : List Field) (o : Nat), laidFrom (blocks n P.types.toList) P.types.size o fs = true →
  (∀ f ∈ fs, isVar P f.type = true) ∧ (∀ j f, fs[j]? = some f → f.offset = o + ((fs.take j).map fun f => P.cellsOf f.type).sum) ∧ sumOf (blocks n P.types.toList) fs = (fs.map fun f => P.cellsOf f.type).sum
 | [], _, _ => ⟨by simp, by simp, rfl⟩
 | g :: r, o, h => by
  simp only [laidFrom, Bool.and_eq_true] at h
  obtain ⟨⟨h1, h2⟩, h3⟩ := h
  rw [wide_eq' hn (stands_lt h1)] at h3
  obtain ⟨i1, i2, i3⟩ := laidFrom_all hn r _ h3
  refine ⟨fun f hf => ?_, fun j f hj => ?_, ?_⟩
  ·
   rcases List.mem_cons.1 hf with rfl | hf
   ·
    exact stands_eq hn h1
   ·
    exact i1 f hf
  ·
   cases j with
   | zero =>
    simp only [List.getElem?_cons_zero, Option.some.injEq] at hj
    subst hj
    simpa using Nat.eq_of_beq_eq_true h2
   | succ j =>
    have := i2 j f (by simpa using hj)
    simp only [List.take_succ_cons, List.map_cons, List.sum_cons]
    omega
  ·
   simp only [sumOf, List.map_cons, List.sum_cons, i3, wide_eq' hn (stands_lt h1)]
theorem rowB_fine {P : Program} {n : Nat} (hn : P.types.size ≤ n * 32) {t : TypeId} (ht : t < P.types.size) (h : rowB (blocks n P.types.toList) P.types.size t = true) : rowFine P t = true := by
 unfold rowB at h
 rw [wide_eq' hn ht] at h
 unfold rowFine
 rw [Bool.or_eq_true]
 cases hr : rootOf (blocks n P.types.toList) t with
 | none => rw [hr] at h; cases h
 | some d =>
  have hu := rootOf_eq hn hr
  rw [hr] at h
  cases d with
  | struct fs =>
   right
   simp only [hu]
   simp only [Bool.and_eq_true] at h
   obtain ⟨h1, h2, h3⟩ := laidFrom_all hn fs.toList 0 h.1
   simp only [Bool.and_eq_true, List.all_eq_true, beq_iff_eq]
   refine ⟨⟨h1, (Nat.eq_of_beq_eq_true h.2).trans h3⟩, fun j hj => ?_⟩
   split
   ·
    rename_i f hf
    have := h2 j f hf
    rw [beq_iff_eq]
    omega
   ·
    rfl
  | array k e =>
   right
   simp only [hu]
   simp only [Bool.and_eq_true] at h ⊢
   rw [wide_eq' hn (stands_lt h.1)] at h
   exact ⟨stands_eq hn h.1, by rw [beq_iff_eq]; exact Nat.eq_of_beq_eq_true h.2⟩
  | pointer e =>
   right
   simp only [hu]
   simp only [Bool.and_eq_true] at h ⊢
   exact ⟨stands_eq hn h.1, by rw [beq_iff_eq]; exact Nat.eq_of_beq_eq_true h.2⟩
  | slice e =>
   right
   simp only [hu]
   simp only [Bool.and_eq_true] at h ⊢
   exact ⟨stands_eq hn h.1, by rw [beq_iff_eq]; exact Nat.eq_of_beq_eq_true h.2⟩
  | tuple e => left; simp [isVar, hu, kindOk]
  | invalid => left; simp [isVar, hu, kindOk]
  | named a e => left; simp [isVar, hu, kindOk]
  | _ =>
   right
   simp only [hu]
   rw [beq_iff_eq]
   exact Nat.eq_of_beq_eq_true h
def allTo (f : Nat → Bool) : Nat → Bool
 | 0 => true
 | n + 1 => f n && allTo f n
theorem allTo_range {f g : Nat → Bool} : ∀ (n : Nat), allTo f n = true → (∀ t, t < n → f t = true → g t = true) → (List.range n).all g = true
 | 0, _, _ => by simp
 | n + 1, h, hg => by
  simp only [allTo, Bool.and_eq_true] at h
  rw [List.range_succ, List.all_append, allTo_range n h.2 fun t ht => hg t (by omega)]
  simp [hg n (by omega) h.1]
theorem rows_fine {P : Program} {N n : Nat} (hN : P.types.size = N) (hn : Nat.ble N (n * 32) = true) (h : allTo (rowB (blocks n P.types.toList) N) N = true) : (List.range P.types.size).all (rowFine P) = true := by
 subst hN
 exact allTo_range _ h fun t hl ht => rowB_fine (Nat.le_of_ble_eq_true hn) hl ht
theorem maps_rowed {P : Program} {N n : Nat} (hN : P.types.size = N) (hn : Nat.ble N (n * 32) = true) (h : allTo (mapB (blocks n P.types.toList) N) N = true) : mapsRowed P = true := by
 subst hN
 unfold mapsRowed
 refine allTo_range _ h fun t hl ht => ?_
 unfold mapB at ht
 cases hr : rootOf (blocks n P.types.toList) t with
 | none => rw [hr] at ht; cases ht
 | some d =>
  have hu := rootOf_eq (Nat.le_of_ble_eq_true hn) hr
  rw [hr] at ht
  simp only [hu]
  cases d with
  | map k e => exact decide_eq_true (Nat.le_of_ble_eq_true ht)
  | _ => rfl
theorem globals_in {P : Program} {N : Nat} (hN : P.types.size = N) (h : P.globals.toList.all (fun g => Nat.ble (g.type + 1) N) = true) : P.globals.all (fun g => decide (g.type < P.types.size)) = true := by
 subst hN
 rw [← Array.all_toList]
 simp only [List.all_eq_true] at h ⊢
 exact fun g hg => decide_eq_true (Nat.le_of_ble_eq_true (h g hg))
theorem params_in {P : Program} {N : Nat} (hN : P.types.size = N) (h : P.funcs.toList.all (fun f => f.params.toList.all fun t => Nat.ble (t + 1) N) = true) : P.funcs.all (fun f => f.params.all fun t => decide (t < P.types.size)) = true := by
 subst hN
 rw [← Array.all_toList]
 simp only [List.all_eq_true] at h ⊢
 intro f hf
 rw [← Array.all_toList]
 simp only [List.all_eq_true]
 exact fun t ht => decide_eq_true (Nat.le_of_ble_eq_true (h f hf t ht))
theorem laid_out {P : Program} (h1 : (List.range P.types.size).all (rowFine P) = true) (h2 : P.globals.all (fun g => decide (g.type < P.types.size)) = true) (h3 : P.funcs.all (fun f => f.params.all fun t => decide (t < P.types.size)) = true) : laidOutB P = true := by
 unfold laidOutB
 rw [h1, h2, h3]
 rfl
theorem both {a b : Bool} (ha : a = true) (hb : b = true) : (a && b) = true := by rw [ha, hb]; rfl
end Go.Rc

namespace Go.Rc
open Go
theorem funcs_pick {P : Program} {N n : Nat} (hN : P.funcs.size = N) (hn : Nat.ble N (n * 32) = true) (g : FuncId) : P.funcs[g]? = pick (blocks n P.funcs.toList) g := by
 subst hN
 rw [pick_blocks n _ g (by simpa using Nat.le_of_ble_eq_true hn), Array.getElem?_toList]
def hits (name : String) : Nat → List Func → List Nat
 | _, [] => []
 | k, f :: r => match f.name == name with
  | true => k :: hits name (k + 1) r
  | false => hits name (k + 1) r
theorem hits_eq (name : String) : ∀ (l : List Func) (k : Nat), hits name k l = ((List.range l.length).filter fun i => (l[i]?).any (·.name == name)).map (· + k)
 | [], _ => rfl
 | f :: r, k => by
  have h := hits_eq name r (k + 1)
  rw [List.length_cons, List.range_succ_eq_map, List.filter_cons, List.filter_map, List.getElem?_cons_zero]
  have e : ((fun i => ((f :: r)[i]?).any (·.name == name)) ∘ Nat.succ) = fun i => (r[i]?).any (·.name == name) := by
   funext i
   simp
  rw [e]
  have m : ∀ q : List Nat, (q.map Nat.succ).map (· + k) = q.map (· + (k + 1)) := by
   intro q
   rw [List.map_map]
   congr 1
   funext x
   show x.succ + k = x + (k + 1)
   omega
  unfold hits
  cases hb : f.name == name with
  | true => simp only [Option.any_some, hb, if_true, List.map_cons, Nat.zero_add, m, h]
  | false => simp only [Option.any_some, hb, Bool.false_eq_true, if_false, m, h]
theorem funcNamed_list (P : Program) (name : String) : P.funcNamed name = match hits name 0 P.funcs.toList with | [i] => some i | _ => none := by
 unfold Program.funcNamed
 rw [hits_eq]
 simp only [Nat.add_zero, List.map_id', Array.length_toList, Array.getElem?_toList]
 generalize (List.range P.funcs.size).filter (fun i => (P.funcs[i]?).any (·.name == name)) = q
 rcases q with _ | ⟨a, _ | ⟨b, r⟩⟩ <;> rfl
theorem worded_list (P : Program) (word : String) : P.worded word = P.funcs.toList.any fun fn => fn.body.isNone && fn.name == word := by
 unfold Program.worded
 rw [Array.any_toList]
theorem laysLater_list (P : Program) : P.laysLater = P.funcs.toList.any fun fn => fn.body.isNone && (fn.name == "runtime.SetFinalizer" || fn.name == "runtime.AddCleanup" || fn.origin == "runtime.AddCleanup") := by
 unfold Program.laysLater
 rw [Array.any_toList]
theorem stopsHeard_list (P : Program) : P.stopsHeard = P.funcs.toList.all fun fn => (Stop.rowOf fn).isNone || !fn.norace := by
 unfold Program.stopsHeard
 rw [Array.all_toList]
def sameVars : List (String × DataW Unit) → List (String × DataW Unit) → Bool
 | [], [] => true
 | (n, a) :: r, (m, b) :: s => n == m && DataW.same a b && sameVars r s
 | _, _ => false
theorem sameVars_eq : ∀ (l m : List (String × DataW Unit)), sameVars l m = true → l = m
 | [], [], _ => rfl
 | (n, a) :: r, (k, b) :: s, h => by
  simp only [sameVars, Bool.and_eq_true, beq_iff_eq] at h
  rw [h.1.1, DataW.same_eq a b h.1.2, sameVars_eq r s h.2]
 | [], _ :: _, h => by cases h
 | _ :: _, [], h => by cases h
theorem door_of {P : Program} {n fuel M : Nat} {laid : List (String × DataW Unit)} {os : Os} {tape : Tape} {g : FuncId} (hg : varsId P = g) (he : funcsListed laid = [])
  (h : (match runN P n (Machine.entering P (World.unlaid P os) tape g ⟨#[], #[], []⟩) with
   | .ended (.done _) w => (DataW.laidRun P w.memory fuel ((laid.filter fun x => x.2.handleName?.isNone).map (·.1))).any fun x => nodupBits M x.2 0 && laidRowsB P w.memory x.2 && (laid.filter fun x => x.2.handleName?.isSome && x.2.funcsIn?.isNone).all (handleAtB P w.memory) && sameVars x.1 (laid.filter fun x => x.2.handleName?.isNone)
   | _ => false) = true) : doorLeaves P n fuel M laid os tape = some (laid.filter fun x => x.2.handleName?.isNone, (funcsListed laid).map (·.2.funcsOut)) := by
 unfold doorLeaves
 rw [hg]
 split at h
 ·
  rename_i v w hr
  rw [hr]
  simp only
  cases hx : DataW.laidRun P w.memory fuel ((laid.filter fun x => x.2.handleName?.isNone).map (·.1)) with
  | none => rw [hx] at h; cases h
  | some x =>
   rw [hx] at h
   simp only [Option.any_some, Bool.and_eq_true] at h
   obtain ⟨⟨⟨h1, h2⟩, h3⟩, h4⟩ := h
   have e := sameVars_eq _ _ h4
   rw [he]
   simp only [Option.bind_some, h1, h2, h3, Bool.and_self, if_true, List.map_nil, funcsRun, Option.map_some, ← e]
 ·
  cases h
end Go.Rc

