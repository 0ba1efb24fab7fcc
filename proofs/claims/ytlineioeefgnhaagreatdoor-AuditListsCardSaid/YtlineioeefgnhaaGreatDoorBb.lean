/- Base of the proof: frames, memory, ownership, and the plain meaning of rule systems. Conditions: as each lemma says. -/
import Derived.Test.YtlineioeefgnhaaGreatDoorBa
set_option linter.unusedVariables false
set_option linter.unusedSimpArgs false
set_option linter.unusedSectionVars false
namespace Go.Rc
open Go
/-- Blocks that M does not name are as they were. -/
structure ChgP (M : Nat → Prop) (w w' : World) : Prop where
 os : w'.os = w.os
 tape : w'.tape = w.tape
 output : w'.output = w.output
 size : w.heap.size ≤ w'.heap.size
 block : ∀ k, k < w.heap.size → ¬ M k → w'.heap[k]? = w.heap[k]?
theorem Chg.p {S : List Nat} {w w' : World} (h : Chg S w w') : ChgP (fun x => x ∈ S) w w' := ⟨h.os, h.tape, h.output, h.size, h.block⟩
theorem ChgP.chg {M : Nat → Prop} {w w' : World} (h : ChgP M w w') (hM : ∀ x, M x → w.heap.size ≤ x) : Chg [] w w' :=
 ⟨h.os, h.tape, h.output, h.size, fun k hk _ => h.block k hk fun hm => by have := hM k hm; omega⟩
theorem ChgP.refl (M : Nat → Prop) (w : World) : ChgP M w w := ⟨rfl, rfl, rfl, Nat.le_refl _, fun _ _ _ => rfl⟩
theorem ChgP.mono {M M' : Nat → Prop} {w w' : World} (h : ChgP M w w') (hM : ∀ x, x < w.heap.size → M x → M' x) : ChgP M' w w' := ⟨h.os, h.tape, h.output, h.size, fun k hk hn => h.block k hk fun hm => hn (hM k hk hm)⟩
theorem ChgP.list {S : List Nat} {M : Nat → Prop} {w w' : World} (h : ChgP M w w') (hM : ∀ x, x < w.heap.size → M x → x ∈ S) : Chg S w w' :=
 ⟨h.os, h.tape, h.output, h.size, fun k hk hn => h.block k hk fun hm => hn (hM k hk hm)⟩
/-- What is said of some blocks: of those of its own, and of frozen ones. -/
structure As where
 fp : Nat → Prop
 ok : (Nat → Prop) → World → Prop
 lt : ∀ {Z w}, ok Z w → ∀ x, fp x → x < w.heap.size
 mono : ∀ {Z Z' : Nat → Prop} {w}, (∀ x, Z x → Z' x) → ok Z w → ok Z' w
 st : ∀ {Z : Nat → Prop} {w w' : World}, w.heap.size ≤ w'.heap.size → (∀ x, fp x ∨ Z x → x < w.heap.size → w'.heap[x]? = w.heap[x]?) → ok Z w → ok Z w'
/-- All that is owned, each apart from each, and from what is frozen. -/
structure St (w0 : World) (M Z : Nat → Prop) (w : World) (l : List As) : Prop where
 chg : ChgP M w0 w
 zlt : ∀ x, Z x → x < w.heap.size
 zfp : ∀ A ∈ l, ∀ x, A.fp x → ¬ Z x
 org : ∀ A ∈ l, ∀ x, A.fp x → M x ∨ w0.heap.size ≤ x
 dis : l.Pairwise fun A B => ∀ x, A.fp x → ¬ B.fp x
 ok : ∀ A ∈ l, A.ok Z w
/-- What is frozen has become more, by new blocks. -/
structure Zle (n : Nat) (Z Z' : Nat → Prop) : Prop where
 up : ∀ x, Z x → Z' x
 new : ∀ x, Z' x → Z x ∨ n ≤ x
theorem Zle.refl (n : Nat) (Z : Nat → Prop) : Zle n Z Z := ⟨fun _ h => h, fun _ h => .inl h⟩
theorem Zle.trans {n n' : Nat} {Z Z' Z'' : Nat → Prop} (h : Zle n Z Z') (k : Zle n' Z' Z'') (hn : n ≤ n') : Zle n Z Z'' :=
 ⟨fun x hx => k.up x (h.up x hx), fun x hx => by rcases k.new x hx with h1 | h1; exact h.new x h1; exact .inr (Nat.le_trans hn h1)⟩
theorem Zle.le {n n' : Nat} {Z Z' : Nat → Prop} (h : Zle n Z Z') (hn : n' ≤ n) : Zle n' Z Z' := ⟨h.up, fun x hx => by rcases h.new x hx with h1 | h1; exact .inl h1; exact .inr (Nat.le_trans hn h1)⟩
def fps (l : List As) (x : Nat) : Prop := ∃ A ∈ l, A.fp x
section
variable {w0 w w' : World} {M Z Z' : Nat → Prop} {l l0 l1 rest : List As} {A B : As}
theorem St.size (h : St w0 M Z w l) : w0.heap.size ≤ w.heap.size := h.chg.size
/-- The beginning. -/
theorem St.start (hz : ∀ x, Z x → x < w.heap.size) : St w M Z w [] := ⟨ChgP.refl _ _, hz, by simp, by simp, .nil, by simp⟩
theorem St.perm {l' : List As} (h : St w0 M Z w l) (hp : List.Perm l' l) : St w0 M Z w l' :=
 ⟨h.chg, h.zlt, fun A hA => h.zfp A (hp.mem_iff.1 hA), fun A hA => h.org A (hp.mem_iff.1 hA),
  h.dis.perm hp.symm (fun hab x hb ha => hab x ha hb), fun A hA => h.ok A (hp.mem_iff.1 hA)⟩
theorem St.enter (h : St w0 M Z w (l0 ++ rest)) : St w (fps l0) Z w l0 :=
 ⟨ChgP.refl _ _, h.zlt, fun A hA => h.zfp A (by simp [hA]), fun A hA x hx => .inl ⟨A, hA, hx⟩, (List.pairwise_append.1 h.dis).1, fun A hA => h.ok A (by simp [hA])⟩
theorem St.leave (h : St w0 M Z w (l0 ++ rest)) (h' : St w (fps l0) Z' w' l1) (hz : Zle w.heap.size Z Z') : St w0 M Z' w' (l1 ++ rest) := by
 obtain ⟨hd1, hd2, hd3⟩ := List.pairwise_append.1 h.dis
 have hM : ∀ x, fps l0 x → M x ∨ w0.heap.size ≤ x := fun x ⟨A, hA, hx⟩ => h.org A (by simp [hA]) x hx
 have hlt : ∀ A ∈ rest, ∀ x, A.fp x → x < w.heap.size := fun A hA => A.lt (h.ok A (by simp [hA]))
 have hfz : ∀ x, fps l0 x → ¬ Z x := fun x ⟨A, hA, hx⟩ => h.zfp A (by simp [hA]) x hx
 refine ⟨⟨h'.chg.os.trans h.chg.os, h'.chg.tape.trans h.chg.tape, h'.chg.output.trans h.chg.output, Nat.le_trans h.chg.size h'.chg.size, fun k hk hn => ?_⟩, h'.zlt, ?_, ?_, ?_, ?_⟩
 ·
  rw [h'.chg.block k (Nat.lt_of_lt_of_le hk h.chg.size) fun hf => by rcases hM k hf with h1 | h1; exact hn h1; omega]
  exact h.chg.block k hk hn
 ·
  intro A hA x hx hzx
  rcases List.mem_append.1 hA with hA | hA
  ·
   exact h'.zfp A hA x hx hzx
  ·
   rcases hz.new x hzx with h1 | h1
   ·
    exact h.zfp A (by simp [hA]) x hx h1
   ·
    have := hlt A hA x hx; omega
 ·
  intro A hA x hx
  rcases List.mem_append.1 hA with hA | hA
  ·
   rcases h'.org A hA x hx with h1 | h1
   ·
    exact hM x h1
   ·
    exact .inr (Nat.le_trans h.chg.size h1)
  ·
   exact h.org A (by simp [hA]) x hx
 ·
  refine List.pairwise_append.2 ⟨h'.dis, hd2, fun A hA B hB x hx hb => ?_⟩
  rcases h'.org A hA x hx with ⟨C, hC, h1⟩ | h1
  ·
   exact hd3 C hC B hB x h1 hb
  ·
   have := hlt B hB x hb; omega
 ·
  intro A hA
  rcases List.mem_append.1 hA with hA | hA
  ·
   exact h'.ok A hA
  ·
   refine A.mono (Z := Z) hz.up (A.st h'.chg.size (fun x hx hlx => h'.chg.block x hlx fun ⟨C, hC, hc⟩ => ?_) (h.ok A (by simp [hA])))
   rcases hx with hx | hx
   ·
    exact hd3 C hC A hA x hc hx
   ·
    exact hfz x ⟨C, hC, hc⟩ hx
/-- A step that changes nothing old. -/
theorem St.step (h : St w0 M Z w l) (s : Chg [] w w') : St w0 M Z w' l :=
 St.leave (l0 := []) (l1 := []) h ⟨s.p.mono (by simp), fun x hx => Nat.lt_of_lt_of_le (h.zlt x hx) s.size, by simp, by simp, .nil, by simp⟩ (Zle.refl _ _)
/-- Something new. -/
theorem St.new (h : St w0 M Z w l) (s : Chg [] w w') (hok : B.ok Z w') (hfp : ∀ x, B.fp x → w.heap.size ≤ x) : St w0 M Z w' (B :: l) :=
 St.leave (l0 := []) (l1 := [B]) h ⟨s.p.mono (by simp), fun x hx => Nat.lt_of_lt_of_le (h.zlt x hx) s.size, fun A hA x hx hz => by simp at hA; subst hA; have := hfp x hx; have := h.zlt x hz; omega,
  fun A hA x hx => by simp at hA; subst hA; exact .inr (hfp x hx), by simp, fun A hA => by simp at hA; subst hA; exact hok⟩ (Zle.refl _ _)
/-- A fact on what is frozen. -/
theorem St.fact (h : St w0 M Z w l) (hok : B.ok Z w) (hfp : ∀ x, ¬ B.fp x) : St w0 M Z w (B :: l) := h.new (Chg.refl _ _) hok fun x hx => absurd hx (hfp x)
/-- What is owned first is turned into something else. -/
theorem St.upd (h : St w0 M Z w (A :: l)) (s : ChgP A.fp w w') (hok : B.ok Z w') (hfp : ∀ x, B.fp x → A.fp x ∨ w.heap.size ≤ x) : St w0 M Z w' (B :: l) :=
 St.leave (l0 := [A]) (l1 := [B]) h ⟨s.mono fun x _ hx => ⟨A, by simp, hx⟩, fun x hx => Nat.lt_of_lt_of_le (h.zlt x hx) s.size, fun C hC x hx hz => by
   simp at hC; subst hC
   rcases hfp x hx with h1 | h1
   ·
    exact h.zfp A (by simp) x h1 hz
   ·
    have := h.zlt x hz; omega,
  fun C hC x hx => by
   simp at hC; subst hC
   rcases hfp x hx with h1 | h1
   ·
    exact .inl ⟨A, by simp, h1⟩
   ·
    exact .inr h1, by simp, fun C hC => by simp at hC; subst hC; exact hok⟩ (Zle.refl _ _)
/-- What is owned first is frozen, and what was said of it is said of what is frozen. -/
theorem St.freeze (h : St w0 M Z w (A :: l)) (hok : B.ok (fun x => Z x ∨ A.fp x) w) (hfp : ∀ x, ¬ B.fp x) : St w0 M (fun x => Z x ∨ A.fp x) w (B :: l) := by
 refine ⟨h.chg, fun x hx => ?_, ?_, ?_, ?_, ?_⟩
 ·
  rcases hx with hx | hx
  ·
   exact h.zlt x hx
  ·
   exact A.lt (h.ok A (by simp)) x hx
 ·
  intro C hC x hx hz
  simp only [List.mem_cons] at hC
  rcases hC with rfl | hC
  ·
   exact hfp x hx
  ·
   rcases hz with hz | hz
   ·
    exact h.zfp C (by simp [hC]) x hx hz
   ·
    exact (List.pairwise_cons.1 h.dis).1 C hC x hz hx
 ·
  intro C hC x hx
  simp only [List.mem_cons] at hC
  rcases hC with rfl | hC
  ·
   exact absurd hx (hfp x)
  ·
   exact h.org C (by simp [hC]) x hx
 ·
  exact List.pairwise_cons.2 ⟨fun C _ x hx => absurd hx (hfp x), (List.pairwise_cons.1 h.dis).2⟩
 ·
  intro C hC
  simp only [List.mem_cons] at hC
  rcases hC with rfl | hC
  ·
   exact hok
  ·
   exact C.mono (fun x hx => .inl hx) (h.ok C (by simp [hC]))
theorem St.drop (h : St w0 M Z w (A :: l)) : St w0 M Z w l :=
 ⟨h.chg, h.zlt, fun C hC => h.zfp C (by simp [hC]), fun C hC => h.org C (by simp [hC]), (List.pairwise_cons.1 h.dis).2, fun C hC => h.ok C (by simp [hC])⟩
/-- One reading in the place of another. -/
theorem St.conv (h : St w0 M Z w (A :: l)) (hok : B.ok Z w) (hfp : ∀ x, B.fp x → A.fp x) : St w0 M Z w (B :: l) := h.upd (ChgP.refl _ _) hok fun x hx => .inl (hfp x hx)
/-- Of a shorter list. -/
theorem St.weakM {M' : Nat → Prop} (h : St w0 M Z w l) (hM : ∀ x, x < w0.heap.size → M x → M' x) : St w0 M' Z w l :=
 ⟨h.chg.mono hM, h.zlt, h.zfp, fun A hA x hx => by
  rcases h.org A hA x hx with h1 | h1
  ·
   rcases Nat.lt_or_ge x w0.heap.size with h2 | h2
   ·
    exact .inl (hM x h2 h1)
   ·
    exact .inr h2
  ·
   exact .inr h1, h.dis, h.ok⟩
/-- For a callee that takes what stands first. -/
theorem St.e0 (h : St w0 M Z w l) : St w (fps []) Z w [] := St.enter (l0 := []) h
theorem St.e1 {A0 : As} (h : St w0 M Z w (A0 :: l)) : St w (fps [A0]) Z w [A0] := St.enter (l0 := [A0]) h
theorem St.e2 {A0 A1 : As} (h : St w0 M Z w (A0 :: A1 :: l)) : St w (fps [A0, A1]) Z w [A0, A1] := St.enter (l0 := [A0, A1]) h
theorem St.e3 {A0 A1 A2 : As} (h : St w0 M Z w (A0 :: A1 :: A2 :: l)) : St w (fps [A0, A1, A2]) Z w [A0, A1, A2] := St.enter (l0 := [A0, A1, A2]) h
theorem St.e4 {A0 A1 A2 A3 : As} (h : St w0 M Z w (A0 :: A1 :: A2 :: A3 :: l)) : St w (fps [A0, A1, A2, A3]) Z w [A0, A1, A2, A3] := St.enter (l0 := [A0, A1, A2, A3]) h
theorem St.e6 {A0 A1 A2 A3 A4 A5 : As} (h : St w0 M Z w (A0 :: A1 :: A2 :: A3 :: A4 :: A5 :: l)) : St w (fps [A0, A1, A2, A3, A4, A5]) Z w [A0, A1, A2, A3, A4, A5] := St.enter (l0 := [A0, A1, A2, A3, A4, A5]) h
theorem St.g0 {A0 : As} (h : St w0 M Z w (A0 :: l)) : A0.ok Z w := h.ok _ (by simp)
theorem St.g1 {A0 A1 : As} (h : St w0 M Z w (A0 :: A1 :: l)) : A1.ok Z w := h.ok _ (by simp)
theorem St.g2 {A0 A1 A2 : As} (h : St w0 M Z w (A0 :: A1 :: A2 :: l)) : A2.ok Z w := h.ok _ (by simp)
theorem St.g3 {A0 A1 A2 A3 : As} (h : St w0 M Z w (A0 :: A1 :: A2 :: A3 :: l)) : A3.ok Z w := h.ok _ (by simp)
theorem St.g4 {A0 A1 A2 A3 A4 : As} (h : St w0 M Z w (A0 :: A1 :: A2 :: A3 :: A4 :: l)) : A4.ok Z w := h.ok _ (by simp)
theorem St.g5 {A0 A1 A2 A3 A4 A5 : As} (h : St w0 M Z w (A0 :: A1 :: A2 :: A3 :: A4 :: A5 :: l)) : A5.ok Z w := h.ok _ (by simp)
theorem St.g6 {A0 A1 A2 A3 A4 A5 A6 : As} (h : St w0 M Z w (A0 :: A1 :: A2 :: A3 :: A4 :: A5 :: A6 :: l)) : A6.ok Z w := h.ok _ (by simp)
theorem St.g7 {A0 A1 A2 A3 A4 A5 A6 A7 : As} (h : St w0 M Z w (A0 :: A1 :: A2 :: A3 :: A4 :: A5 :: A6 :: A7 :: l)) : A7.ok Z w := h.ok _ (by simp)
theorem St.g8 {A0 A1 A2 A3 A4 A5 A6 A7 A8 : As} (h : St w0 M Z w (A0 :: A1 :: A2 :: A3 :: A4 :: A5 :: A6 :: A7 :: A8 :: l)) : A8.ok Z w := h.ok _ (by simp)
theorem St.g9 {A0 A1 A2 A3 A4 A5 A6 A7 A8 A9 : As} (h : St w0 M Z w (A0 :: A1 :: A2 :: A3 :: A4 :: A5 :: A6 :: A7 :: A8 :: A9 :: l)) : A9.ok Z w := h.ok _ (by simp)
theorem St.g10 {A0 A1 A2 A3 A4 A5 A6 A7 A8 A9 A10 : As} (h : St w0 M Z w (A0 :: A1 :: A2 :: A3 :: A4 :: A5 :: A6 :: A7 :: A8 :: A9 :: A10 :: l)) : A10.ok Z w := h.ok _ (by simp)
theorem St.g11 {A0 A1 A2 A3 A4 A5 A6 A7 A8 A9 A10 A11 : As} (h : St w0 M Z w (A0 :: A1 :: A2 :: A3 :: A4 :: A5 :: A6 :: A7 :: A8 :: A9 :: A10 :: A11 :: l)) : A11.ok Z w := h.ok _ (by simp)
theorem St.g12 {A0 A1 A2 A3 A4 A5 A6 A7 A8 A9 A10 A11 A12 : As} (h : St w0 M Z w (A0 :: A1 :: A2 :: A3 :: A4 :: A5 :: A6 :: A7 :: A8 :: A9 :: A10 :: A11 :: A12 :: l)) : A12.ok Z w := h.ok _ (by simp)
theorem St.g13 {A0 A1 A2 A3 A4 A5 A6 A7 A8 A9 A10 A11 A12 A13 : As} (h : St w0 M Z w (A0 :: A1 :: A2 :: A3 :: A4 :: A5 :: A6 :: A7 :: A8 :: A9 :: A10 :: A11 :: A12 :: A13 :: l)) : A13.ok Z w := h.ok _ (by simp)
theorem St.g14 {A0 A1 A2 A3 A4 A5 A6 A7 A8 A9 A10 A11 A12 A13 A14 : As} (h : St w0 M Z w (A0 :: A1 :: A2 :: A3 :: A4 :: A5 :: A6 :: A7 :: A8 :: A9 :: A10 :: A11 :: A12 :: A13 :: A14 :: l)) : A14.ok Z w := h.ok _ (by simp)
theorem St.g15 {A0 A1 A2 A3 A4 A5 A6 A7 A8 A9 A10 A11 A12 A13 A14 A15 : As} (h : St w0 M Z w (A0 :: A1 :: A2 :: A3 :: A4 :: A5 :: A6 :: A7 :: A8 :: A9 :: A10 :: A11 :: A12 :: A13 :: A14 :: A15 :: l)) : A15.ok Z w := h.ok _ (by simp)
theorem St.p1 {A0 A1 : As} (h : St w0 M Z w (A0 :: A1 :: l)) : St w0 M Z w (A1 :: A0 :: l) := h.perm (List.perm_middle (l₁ := [A0])).symm
theorem St.p2 {A0 A1 A2 : As} (h : St w0 M Z w (A0 :: A1 :: A2 :: l)) : St w0 M Z w (A2 :: A0 :: A1 :: l) := h.perm (List.perm_middle (l₁ := [A0, A1])).symm
theorem St.p3 {A0 A1 A2 A3 : As} (h : St w0 M Z w (A0 :: A1 :: A2 :: A3 :: l)) : St w0 M Z w (A3 :: A0 :: A1 :: A2 :: l) := h.perm (List.perm_middle (l₁ := [A0, A1, A2])).symm
theorem St.p4 {A0 A1 A2 A3 A4 : As} (h : St w0 M Z w (A0 :: A1 :: A2 :: A3 :: A4 :: l)) : St w0 M Z w (A4 :: A0 :: A1 :: A2 :: A3 :: l) := h.perm (List.perm_middle (l₁ := [A0, A1, A2, A3])).symm
theorem St.p5 {A0 A1 A2 A3 A4 A5 : As} (h : St w0 M Z w (A0 :: A1 :: A2 :: A3 :: A4 :: A5 :: l)) : St w0 M Z w (A5 :: A0 :: A1 :: A2 :: A3 :: A4 :: l) := h.perm (List.perm_middle (l₁ := [A0, A1, A2, A3, A4])).symm
theorem St.p6 {A0 A1 A2 A3 A4 A5 A6 : As} (h : St w0 M Z w (A0 :: A1 :: A2 :: A3 :: A4 :: A5 :: A6 :: l)) : St w0 M Z w (A6 :: A0 :: A1 :: A2 :: A3 :: A4 :: A5 :: l) := h.perm (List.perm_middle (l₁ := [A0, A1, A2, A3, A4, A5])).symm
theorem St.p7 {A0 A1 A2 A3 A4 A5 A6 A7 : As} (h : St w0 M Z w (A0 :: A1 :: A2 :: A3 :: A4 :: A5 :: A6 :: A7 :: l)) : St w0 M Z w (A7 :: A0 :: A1 :: A2 :: A3 :: A4 :: A5 :: A6 :: l) := h.perm (List.perm_middle (l₁ := [A0, A1, A2, A3, A4, A5, A6])).symm
theorem St.p8 {A0 A1 A2 A3 A4 A5 A6 A7 A8 : As} (h : St w0 M Z w (A0 :: A1 :: A2 :: A3 :: A4 :: A5 :: A6 :: A7 :: A8 :: l)) : St w0 M Z w (A8 :: A0 :: A1 :: A2 :: A3 :: A4 :: A5 :: A6 :: A7 :: l) := h.perm (List.perm_middle (l₁ := [A0, A1, A2, A3, A4, A5, A6, A7])).symm
theorem St.p9 {A0 A1 A2 A3 A4 A5 A6 A7 A8 A9 : As} (h : St w0 M Z w (A0 :: A1 :: A2 :: A3 :: A4 :: A5 :: A6 :: A7 :: A8 :: A9 :: l)) : St w0 M Z w (A9 :: A0 :: A1 :: A2 :: A3 :: A4 :: A5 :: A6 :: A7 :: A8 :: l) := h.perm (List.perm_middle (l₁ := [A0, A1, A2, A3, A4, A5, A6, A7, A8])).symm
theorem St.p10 {A0 A1 A2 A3 A4 A5 A6 A7 A8 A9 A10 : As} (h : St w0 M Z w (A0 :: A1 :: A2 :: A3 :: A4 :: A5 :: A6 :: A7 :: A8 :: A9 :: A10 :: l)) : St w0 M Z w (A10 :: A0 :: A1 :: A2 :: A3 :: A4 :: A5 :: A6 :: A7 :: A8 :: A9 :: l) := h.perm (List.perm_middle (l₁ := [A0, A1, A2, A3, A4, A5, A6, A7, A8, A9])).symm
theorem St.p11 {A0 A1 A2 A3 A4 A5 A6 A7 A8 A9 A10 A11 : As} (h : St w0 M Z w (A0 :: A1 :: A2 :: A3 :: A4 :: A5 :: A6 :: A7 :: A8 :: A9 :: A10 :: A11 :: l)) : St w0 M Z w (A11 :: A0 :: A1 :: A2 :: A3 :: A4 :: A5 :: A6 :: A7 :: A8 :: A9 :: A10 :: l) := h.perm (List.perm_middle (l₁ := [A0, A1, A2, A3, A4, A5, A6, A7, A8, A9, A10])).symm
end
/-! what may be said -/
def As.blk (b T : Nat) (cs : List Value) : As where
 fp x := x = b
 ok _ w := Blk w b T cs
 lt h x hx := by subst hx; exact h.lt
 mono _ h := h
 st hs hc h := by
  have h' : _ = _ := h
  show _ = _
  rw [hc b (.inl rfl) h.lt]; exact h'
def As.map {κ : Type} (enc : κ → Value) (b : Nat) (l : List (κ × Value)) : As where
 fp x := x = b
 ok _ w := KM enc w b l
 lt h x hx := by subst hx; exact h.lt
 mono _ h := h
 st hs hc h := by
  have hl := h.lt
  obtain ⟨es, c, h1, h2⟩ := h
  exact ⟨es, c, by rw [hc b (.inl rfl) hl]; exact h1, h2⟩
/-- How a thing reads in its row; inner slices lie in what is frozen. -/
structure RR (α : Type) where
 r : (Nat → Prop) → World → α → List Value → Prop
 mono : ∀ {Z Z' : Nat → Prop} {w x row}, (∀ x, Z x → Z' x) → r Z w x row → r Z' w x row
 st : ∀ {Z : Nat → Prop} {w w' : World} {x row}, w.heap.size ≤ w'.heap.size → (∀ x, Z x → x < w.heap.size → w'.heap[x]? = w.heap[x]?) → r Z w x row → r Z w' x row
 cut : ∀ {Z : Nat → Prop} {w : World} {x row}, r Z w x row → r (fun b => Z b ∧ b < w.heap.size) w x row
theorem SL.st {Z : Nat → Prop} {w w' : World} {k n c : Nat} {a : Option Addr} {cs : List Value} (hs : w.heap.size ≤ w'.heap.size) (hc : ∀ x, Z x → x < w.heap.size → w'.heap[x]? = w.heap[x]?) (h : SL Z w k a n c cs) : SL Z w' k a n c cs := by
 refine ⟨h.len, h.le, h.one, ?_⟩
 rcases h.at_ with h1 | ⟨b, o, h1, h2, h3, h4, h5, h6⟩
 ·
  exact .inl h1
 ·
  exact .inr ⟨b, o, h1, h2, h3, h4, Nat.lt_of_lt_of_le h5 hs, fun j v hv => by rw [← h6 j v hv]; exact World.cell?_of_block (a := ⟨b, o + j, none⟩) (hc b h4 h5)⟩
theorem SR.st {α : Type} {R R' : α → List Value → Prop} {Z : Nat → Prop} {w w' : World} {k n c : Nat} {a : Option Addr} {xs : List α} (hs : w.heap.size ≤ w'.heap.size) (hc : ∀ x, Z x → x < w.heap.size → w'.heap[x]? = w.heap[x]?) (hR : ∀ x r, R x r → R' x r)
  (h : SR Z w k R a n c xs) : SR Z w' k R' a n c xs := by
 obtain ⟨hn, rows, hl, hk, h1, hx⟩ := h
 exact ⟨hn, rows, hl, hk, SL.st hs hc h1, fun i x r h1 h2 => hR x r (hx i x r h1 h2)⟩
def RR.flat {α : Type} (f : α → List Value) : RR α := ⟨fun _ _ x row => row = f x, fun _ h => h, fun _ _ h => h, fun h => h⟩
/-- A slice in what is frozen. -/
def Rd {α : Type} (R : RR α) (k : Nat) (Z : Nat → Prop) (w : World) (a : Option Addr) (n c : Nat) (xs : List α) : Prop := SR Z w k (R.r Z w) a n c xs
theorem Rd.mono {α : Type} {R : RR α} {k : Nat} {Z Z' : Nat → Prop} {w : World} {a : Option Addr} {n c : Nat} {xs : List α} (hZ : ∀ x, Z x → Z' x) (h : Rd R k Z w a n c xs) : Rd R k Z' w a n c xs :=
 SR.mono h (fun b hb _ => hZ b hb) fun _ _ => R.mono hZ
theorem Rd.st {α : Type} {R : RR α} {k : Nat} {Z : Nat → Prop} {w w' : World} {a : Option Addr} {n c : Nat} {xs : List α} (hs : w.heap.size ≤ w'.heap.size) (hc : ∀ x, Z x → x < w.heap.size → w'.heap[x]? = w.heap[x]?) (h : Rd R k Z w a n c xs) : Rd R k Z w' a n c xs :=
 SR.st hs hc (fun _ _ => R.st hs hc) h
theorem Rd.len {α : Type} {R : RR α} {k : Nat} {Z : Nat → Prop} {w : World} {a : Option Addr} {n c : Nat} {xs : List α} (h : Rd R k Z w a n c xs) : n = xs.length := SR.len h
theorem Rd.le {α : Type} {R : RR α} {k : Nat} {Z : Nat → Prop} {w : World} {a : Option Addr} {n c : Nat} {xs : List α} (h : Rd R k Z w a n c xs) : n ≤ 140737488355328 := SR.le h
theorem Rd.at {α : Type} {R : RR α} {k : Nat} {Z : Nat → Prop} {w : World} {a : Option Addr} {n c : Nat} {xs : List α} (h : Rd R k Z w a n c xs) {i : Nat} (hi : i < xs.length) :
  ∃ b o r, a = some ⟨b, o, none⟩ ∧ r.length = k ∧ R.r Z w xs[i] r ∧ w.rangeAt b (o + i * k) r ∧ Z b := SR.at h (List.getElem?_eq_getElem hi)
theorem Rd.ext {α : Type} {R : RR α} {k : Nat} {Z : Nat → Prop} {w w' : World} {a : Option Addr} {n c : Nat} {xs : List α} (h : Rd R k Z w a n c xs) (s : Chg [] w w') : Rd R k Z w' a n c xs :=
 h.st s.size fun x _ hx => s.block x hx (by simp)
theorem Rd.cut {α : Type} {R : RR α} {k : Nat} {Z : Nat → Prop} {w : World} {a : Option Addr} {n c : Nat} {xs : List α} (h : Rd R k Z w a n c xs) : Rd R k (fun b => Z b ∧ b < w.heap.size) w a n c xs :=
 SR.mono h (fun _ hb hlt => ⟨hb, hlt⟩) fun _ _ h => R.cut h
theorem Rd.nil {α : Type} (R : RR α) (k : Nat) (Z : Nat → Prop) (w : World) : Rd R k Z w none 0 0 [] := SR.nil _ _ _ _
/-- What holds as long as what is frozen is as it is. -/
def As.ro {α : Type} (R : RR α) (k : Nat) (a : Option Addr) (n c : Nat) (xs : List α) : As where
 fp _ := False
 ok Z w := Rd R k Z w a n c xs
 lt _ _ hx := hx.elim
 mono hZ h := Rd.mono hZ h
 st hs hc h := Rd.st hs (fun x hx => hc x (.inr hx)) h
/-- A slice of one's own. -/
def Ow {α : Type} (R : RR α) (E k : Nat) (Z : Nat → Prop) (w : World) (a : Option Addr) (n c : Nat) (xs : List α) : Prop := OR 0 w E k (R.r Z w) a n c xs
theorem OL.st {base : Nat} {w w' : World} {E k n c : Nat} {a : Option Addr} {cs : List Value} (hc : ∀ x, x ∈ oblk a → x < w.heap.size → w'.heap[x]? = w.heap[x]?) (h : OL base w E k a n c cs) : OL base w' E k a n c cs := by
 refine ⟨h.1, h.2.1, ?_⟩
 have hlt := h.lt
 rcases h.2.2 with hn | ⟨g, cap, cur, h1, h2, h3, rest⟩
 ·
  exact .inl hn
 ·
  simp at h1
  obtain ⟨rfl, rfl⟩ := h1
  exact .inr ⟨g, c, cur, rfl, h2, by rw [hc g (by simp [oblk]) (hlt g (by simp [oblk]))]; exact h3, rest⟩
def As.os {α : Type} (R : RR α) (E k : Nat) (a : Option Addr) (n c : Nat) (xs : List α) : As where
 fp x := x ∈ oblk a
 ok Z w := Ow R E k Z w a n c xs
 lt h := OR.lt h
 mono hZ h := by
  obtain ⟨hn, rows, hl, hk, h1, hx⟩ := h
  exact ⟨hn, rows, hl, hk, h1, fun i x r h1 h2 => R.mono hZ (hx i x r h1 h2)⟩
 st hs hc h := by
  obtain ⟨hn, rows, hl, hk, h1, hx⟩ := h
  exact ⟨hn, rows, hl, hk, OL.st (fun x hx => hc x (.inl hx)) h1, fun i x r h1 h2 => R.st hs (fun x hx => hc x (.inr hx)) (hx i x r h1 h2)⟩
/-- Nothing is owned by a nil slice. -/
theorem As.os_nil {α : Type} (R : RR α) (E k : Nat) (Z : Nat → Prop) (w : World) : (As.os R E k none 0 0 []).ok Z w := OR.nil _ _ _ _ _
theorem As.os_nofp {α : Type} (R : RR α) (E k n c : Nat) (xs : List α) : ∀ x, ¬ (As.os R E k none n c xs).fp x := fun x hx => by simp [As.os, oblk] at hx
section
variable {w0 w w' : World} {M Z Z' : Nat → Prop} {l : List As} {α : Type} {R : RR α}
theorem St.newB (h : St w0 M Z w l) {b T : Nat} {cs : List Value} (nw : New w w' b) (hb : Blk w' b T cs) : St w0 M Z w' (As.blk b T cs :: l) :=
 h.new nw.ext hb fun x hx => by have h1 : x = b := hx; subst h1; exact nw.ge' (Chg.refl [] _)
theorem St.newM {κ : Type} {enc : κ → Value} (h : St w0 M Z w l) {b : Nat} {cs : List (κ × Value)} (nw : New w w' b) (hb : KM enc w' b cs) : St w0 M Z w' (As.map enc b cs :: l) :=
 h.new nw.ext hb fun x hx => by have h1 : x = b := hx; subst h1; exact nw.ge' (Chg.refl [] _)
theorem St.updB {b T T' : Nat} {cs cs' : List Value} (h : St w0 M Z w (As.blk b T cs :: l)) (s : Chg [b] w w') (hb : Blk w' b T' cs') : St w0 M Z w' (As.blk b T' cs' :: l) :=
 h.upd (s.p.mono fun x _ hx => by simpa [As.blk] using hx) hb fun x hx => .inl hx
theorem St.updM {κ : Type} {enc : κ → Value} {b : Nat} {cs cs' : List (κ × Value)} (h : St w0 M Z w (As.map enc b cs :: l)) (s : Chg [b] w w') (hb : KM enc w' b cs') : St w0 M Z w' (As.map enc b cs' :: l) :=
 h.upd (s.p.mono fun x _ hx => by simpa [As.map] using hx) hb fun x hx => .inl hx
/-- A nil slice, owned. -/
theorem St.newN (h : St w0 M Z w l) (R : RR α) (E k : Nat) : St w0 M Z w (As.os R E k none 0 0 [] :: l) := h.fact (As.os_nil _ _ _ _ _) (As.os_nofp _ _ _ _ _ _)
/-- What is appended to a slice of one's own. -/
theorem St.updS {E k n c n' c' : Nat} {a a' : Option Addr} {xs ys : List α} (h : St w0 M Z w (As.os R E k a n c xs :: l)) (s : Chg (oblk a) w w') (ho : OR 0 w' E k (R.r Z w) a' n' c' ys) (hf : ∀ x ∈ oblk a', x ∈ oblk a ∨ w.heap.size ≤ x) :
  St w0 M Z w' (As.os R E k a' n' c' ys :: l) := by
 refine h.upd (s.p.mono fun x _ hx => hx) ?_ hf
 obtain ⟨hn, rows, hl, hk, h1, hx⟩ := ho
 refine ⟨hn, rows, hl, hk, h1, fun i x r h1 h2 => R.st s.size (fun x hz hlx => ?_) (hx i x r h1 h2)⟩
 exact s.block x hlx fun hm => h.zfp (As.os R E k a n c xs) (by simp) x hm hz
/-- A new slice, in a new block. -/
theorem St.newS (h : St w0 M Z w l) {E k n c : Nat} {a : Option Addr} {xs : List α} (s : Chg [] w w') (ho : Ow R E k Z w' a n c xs) (hf : ∀ x ∈ oblk a, w.heap.size ≤ x) : St w0 M Z w' (As.os R E k a n c xs :: l) := h.new s ho hf
/-- One's own may be read. -/
theorem Ow.rd {E k n c : Nat} {a : Option Addr} {xs : List α} (h : Ow R E k Z w a n c xs) (hle : xs.length ≤ 140737488355328) : Rd R k (fun x => Z x ∨ x ∈ oblk a) w a n c xs := by
 obtain ⟨hn, rows, hl, hk, h1, hx⟩ := h
 refine ⟨hn, rows, hl, hk, ?_, fun i x r h1 h2 => R.mono (fun _ h => .inl h) (hx i x r h1 h2)⟩
 have h3 := h1.sl (A := fun _ => True) (fun _ _ => trivial) (by omega)
 refine ⟨h3.len, h3.le, h3.one, ?_⟩
 rcases h3.at_ with h4 | ⟨b, o, h4, h5, h6, _, h8, h9⟩
 ·
  exact .inl h4
 ·
  exact .inr ⟨b, o, h4, h5, h6, .inr (by rw [h4]; simp [oblk]), h8, h9⟩
/-- A slice of one's own is frozen. -/
theorem St.frzS {E k n c : Nat} {a : Option Addr} {xs : List α} (h : St w0 M Z w (As.os R E k a n c xs :: l)) (hle : xs.length ≤ 140737488355328) : St w0 M (fun x => Z x ∨ x ∈ oblk a) w (As.ro R k a n c xs :: l) :=
 h.freeze (A := As.os R E k a n c xs) (B := As.ro R k a n c xs) (Ow.rd (h.g0) hle) fun _ hx => hx
theorem Zle.frz {n : Nat} {Z F : Nat → Prop} (h : ∀ x, F x → n ≤ x) : Zle n Z (fun x => Z x ∨ F x) := ⟨fun _ h => .inl h, fun x hx => by rcases hx with h1 | h1; exact .inl h1; exact .inr (h x h1)⟩
theorem Ow.len {E k n c : Nat} {a : Option Addr} {xs : List α} (h : Ow R E k Z w a n c xs) : n = xs.length := OR.len h
theorem As.gb {b T : Nat} {cs : List Value} (h : (As.blk b T cs).ok Z w) : Blk w b T cs := h
theorem As.gm {κ : Type} {enc : κ → Value} {b : Nat} {cs : List (κ × Value)} (h : (As.map enc b cs).ok Z w) : KM enc w b cs := h
theorem As.gs {E k n c : Nat} {a : Option Addr} {xs : List α} (h : (As.os R E k a n c xs).ok Z w) : Ow R E k Z w a n c xs := h
theorem As.gr {k n c : Nat} {a : Option Addr} {xs : List α} (h : (As.ro R k a n c xs).ok Z w) : Rd R k Z w a n c xs := h
theorem St.tab {P : Program} (ht : Tab P Z w0) (h : St w0 M Z w l) (hM : ∀ x, M x → ¬ Z x) : Tab P Z w := by
 obtain ⟨b, h1, h2, h3⟩ := ht
 exact ⟨b, h1, Nat.lt_of_lt_of_le h2 h.chg.size, fun w' hw' => h3 w' (hw'.trans (h.chg.block b h2 fun hm => hM b hm h1))⟩
end
theorem Chg.p0 {M : Nat → Prop} {w w' : World} (h : Chg [] w w') : ChgP M w w' := h.p.mono (by simp)
theorem St.cg {w0 w : World} {Z : Nat → Prop} {l : List As} (h : St w0 (fun _ => False) Z w l) : Chg [] w0 w := h.chg.chg (fun _ h => h.elim)
theorem St.fplt {w0 w : World} {M Z : Nat → Prop} {l : List As} (h : St w0 M Z w l) : ∀ x, fps l x → x < w.heap.size := fun x ⟨A, hA, hx⟩ => A.lt (h.ok A hA) x hx
/-- A row in what is frozen. -/
def As.rg (b o : Nat) (r : List Value) : As where
 fp _ := False
 ok Z w := Z b ∧ b < w.heap.size ∧ w.rangeAt b o r
 lt _ _ hx := hx.elim
 mono hZ h := ⟨hZ _ h.1, h.2⟩
 st hs hc h := ⟨h.1, Nat.lt_of_lt_of_le h.2.1 hs, fun j v hv => by rw [← h.2.2 j v hv]; exact World.cell?_of_block (a := ⟨b, o + j, none⟩) (hc b (.inr h.1) h.2.1)⟩
theorem As.mkro {α : Type} {R : RR α} {k n c : Nat} {a : Option Addr} {xs : List α} {Z : Nat → Prop} {w : World} (h : Rd R k Z w a n c xs) : (As.ro R k a n c xs).ok Z w := h
theorem St.fresh0 {w w' : World} {Z : Nat → Prop} {l : List As} {A : As} (h : St w (fps []) Z w' (A :: l)) : ∀ x, A.fp x → w.heap.size ≤ x := fun x hx => by
 rcases h.org A (by simp) x hx with ⟨B, hB, _⟩ | h1
 ·
  cases hB
 ·
  exact h1
theorem As.grg {w : World} {Z : Nat → Prop} {b o : Nat} {r : List Value} (h : (As.rg b o r).ok Z w) : w.rangeAt b o r := h.2.2
theorem As.mkrg {w : World} {Z : Nat → Prop} {b o : Nat} {r : List Value} (h : Z b) (hlt : b < w.heap.size) (hr : w.rangeAt b o r) : (As.rg b o r).ok Z w := ⟨h, hlt, hr⟩
theorem RR.flat_eq {α : Type} {f : α → List Value} {Z : Nat → Prop} {w : World} {x : α} {r : List Value} (h : (RR.flat f).r Z w x r) : r = f x := h
section
variable {P : Program} {n : Nat} {kv : KV} {w : World} {Q : Exit → Act → World → Prop} {w0 : World} {M Z : Nat → Prop}
/-- A loop: what changes of what is owned stands first. -/
theorem WC.loopS1 {σ : Type} {c : Code} {rest : List As} {kvs : σ → KV} {F : σ → List As} {I : σ → Prop} {μ : σ → Nat} (s₀ : σ) (hst : St w0 M Z w (F s₀ ++ rest)) (hs : Sub kv (kvs s₀)) (h₀ : I s₀)
  (round : ∀ s w', St w0 M Z w' (F s ++ rest) → I s → WC P c (Exit.then (fun a' w'' => ∃ s', Fr n a' (kvs s') ∧ (St w0 M Z w'' (F s' ++ rest) ∧ I s') ∧ μ s' < μ s) Q) n (kvs s) w') : WC P (.loop c) Q n kv w :=
 WC.loop (σ := σ) (kvs := kvs) (I := fun s w' => St w0 M Z w' (F s ++ rest) ∧ I s) (μ := μ) s₀ hs ⟨hst, h₀⟩ fun s w' ⟨h1, h2⟩ => round s w' h1 h2
theorem WC.loopS {σ : Type} {c : Code} {rest : List As} {kvs : σ → KV} {F : σ → List As} {I : σ → Prop} {μ : σ → Nat} {Zf : σ → Nat → Prop} (s₀ : σ) (hst : St w0 M (Zf s₀) w (F s₀ ++ rest)) (hs : Sub kv (kvs s₀)) (h₀ : I s₀)
  (round : ∀ s w', St w0 M (Zf s) w' (F s ++ rest) → I s → WC P c (Exit.then (fun a' w'' => ∃ s', Fr n a' (kvs s') ∧ (St w0 M (Zf s') w'' (F s' ++ rest) ∧ I s') ∧ μ s' < μ s) Q) n (kvs s) w') : WC P (.loop c) Q n kv w :=
 WC.loop (σ := σ) (kvs := kvs) (I := fun s w' => St w0 M (Zf s) w' (F s ++ rest) ∧ I s) (μ := μ) s₀ hs ⟨hst, h₀⟩ fun s w' ⟨h1, h2⟩ => round s w' h1 h2
/-- A cut behind which all is owned as before. -/
theorem WC.cut1S {c : Code} {t : Nat} {v : Value} {l : List As} (_hst : St w0 M Z w l) (h : WC P c (Post1 n t v kv fun wx => St w0 M Z wx l) n kv w) (hJ : ∀ w', St w0 M Z w' l → EX Q .normal n ((t, v) :: kv) w') : WC P c Q n kv w :=
 WC.cut1 (fun wx => St w0 M Z wx l) h hJ
theorem WC.cut1Se {c : Code} {t : Nat} {v : Value} {l : List As} (_hst : St w0 M Z w l) (h : WC P c (Post1 n t v (eraseK t kv) fun wx => St w0 M Z wx l) n kv w) (hJ : ∀ w', St w0 M Z w' l → EX Q .normal n ((t, v) :: eraseK t kv) w') : WC P c Q n kv w :=
 WC.cut1e (fun wx => St w0 M Z wx l) h hJ
theorem WC.drawnT {id m : Nat} {l : List Oper} {ls : List As} (T : Nat → World → World → Prop) {E : Nat → Option (Value → World → Prop)} (hst : St w0 M Z w ls)
  (hS : ∀ i S, E i = some S → ∀ j S', E j = some S' → j ≠ i → j ∉ depsAt l.toArray i → ∀ v w1 w2, (w.heap.size ≤ w1.heap.size ∧ St w0 M Z w1 ls) → (w.heap.size ≤ w2.heap.size ∧ St w0 M Z w2 ls) → T j w1 w2 → S v w1 → S v w2) (hm : P.follows .mixedOrders = true) (hok : regOk l m = true)
  (hdw : DW P l.toArray n (fun wx => w.heap.size ≤ wx.heap.size ∧ St w0 M Z wx ls) T E (fun kv w => WL P l.toArray Q (l.drop m) n kv w) 0 (l.take m) kv []) : WC P (.region id l.toArray true) Q n kv w :=
 WC.drawn (C := fun wx => w.heap.size ≤ wx.heap.size ∧ St w0 M Z wx ls) (T := T) hS hm hok ⟨Nat.le_refl _, hst.step (Chg.drew [] w)⟩ hdw
theorem WC.drawnS {id m : Nat} {l : List Oper} {ls : List As} {E : Nat → Option (Value → World → Prop)} (hst : St w0 M Z w ls)
  (hS : ∀ i S, E i = some S → ∀ j S', E j = some S' → j ≠ i → j ∉ depsAt l.toArray i → ∀ v w1 w2, (w.heap.size ≤ w1.heap.size ∧ St w0 M Z w1 ls) → (w.heap.size ≤ w2.heap.size ∧ St w0 M Z w2 ls) → ChgP (fps ls) w1 w2 → S v w1 → S v w2) (hm : P.follows .mixedOrders = true) (hok : regOk l m = true)
  (hdw : DW P l.toArray n (fun wx => w.heap.size ≤ wx.heap.size ∧ St w0 M Z wx ls) (fun _ => ChgP (fps ls)) E (fun kv w => WL P l.toArray Q (l.drop m) n kv w) 0 (l.take m) kv []) : WC P (.region id l.toArray true) Q n kv w :=
 WC.drawn (C := fun wx => w.heap.size ≤ wx.heap.size ∧ St w0 M Z wx ls) (T := fun _ => ChgP (fps ls)) hS hm hok ⟨Nat.le_refl _, hst.step (Chg.drew [] w)⟩ hdw
end
/-- A new block that an operation of such a region has made. -/
def PB (N T : Nat) (cs : List Value) (v : Value) (w : World) : Prop := ∃ b, v = .pointer (some ⟨b, 0, none⟩) ∧ N ≤ b ∧ Blk w b T cs
theorem PB.st {N T : Nat} {cs : List Value} {F : Nat → Prop} (hN : ∀ x, F x → x < N) {v : Value} {w w' : World} (c : ChgP F w w') (h : PB N T cs v w) : PB N T cs v w' := by
 obtain ⟨b, h1, h2, h3⟩ := h
 exact ⟨b, h1, h2, by have h4 : _ = _ := h3; show _ = _; rw [c.block b h3.lt fun hf => by have := hN b hf; omega]; exact h4⟩
theorem PB.get {N T b : Nat} {cs : List Value} {w : World} (h : PB N T cs (.pointer (some ⟨b, 0, none⟩)) w) : N ≤ b ∧ Blk w b T cs := by
 obtain ⟨b', h1, h2, h3⟩ := h
 simp at h1; subst h1; exact ⟨h2, h3⟩
/-- A slice of one's own that an operation of such a region has made. -/
def PO {α : Type} (R : RR α) (E k N : Nat) (Z : Nat → Prop) (n : Nat) (xs : List α) (v : Value) (w : World) : Prop := ∃ a c, v = .slice a n c ∧ (∀ x ∈ oblk a, N ≤ x) ∧ Ow R E k Z w a n c xs
theorem PO.st {α : Type} {R : RR α} {E k N : Nat} {Z : Nat → Prop} {n : Nat} {xs : List α} {F : Nat → Prop} (hN : ∀ x, F x → x < N) (hz : ∀ x, F x → ¬ Z x) {v : Value} {w w' : World} (c : ChgP F w w') (h : PO R E k N Z n xs v w) : PO R E k N Z n xs v w' := by
 obtain ⟨a, c1, h1, h2, h3⟩ := h
 exact ⟨a, c1, h1, h2, (As.os R E k a n c1 xs).st c.size (fun x hx hl => c.block x hl fun hf => by rcases hx with hx | hx; have := hN x hf; have := h2 x hx; omega; exact hz x hf hx) h3⟩
/-- What such a region has made is owned. -/
theorem St.add {w0 w : World} {M Z : Nat → Prop} {l : List As} {B : As} {N : Nat} (h : St w0 M Z w l) (hok : B.ok Z w) (hfp : ∀ x, B.fp x → N ≤ x) (hl : ∀ x, fps l x → x < N) (hz : ∀ x, Z x → x < N) (h0 : w0.heap.size ≤ N) : St w0 M Z w (B :: l) where
 chg := h.chg
 zlt := h.zlt
 zfp A hA x hx hzx := by
  simp only [List.mem_cons] at hA
  rcases hA with rfl | hA
  ·
   have := hfp x hx; have := hz x hzx; omega
  ·
   exact h.zfp A hA x hx hzx
 org A hA x hx := by
  simp only [List.mem_cons] at hA
  rcases hA with rfl | hA
  ·
   exact .inr (Nat.le_trans h0 (hfp x hx))
  ·
   exact h.org A hA x hx
 dis := List.pairwise_cons.2 ⟨fun A hA x hx hb => by have := hfp x hx; have := hl x ⟨A, hA, hb⟩; omega, h.dis⟩
 ok A hA := by
  simp only [List.mem_cons] at hA
  rcases hA with rfl | hA
  ·
   exact hok
  ·
   exact h.ok A hA
theorem St.addB {w0 w : World} {M Z : Nat → Prop} {l : List As} {N b T : Nat} {cs : List Value} (h : St w0 M Z w l) (hp : PB N T cs (.pointer (some ⟨b, 0, none⟩)) w) (hl : ∀ x, fps l x → x < N) (hz : ∀ x, Z x → x < N) (h0 : w0.heap.size ≤ N) : St w0 M Z w (As.blk b T cs :: l) :=
 h.add (B := As.blk b T cs) hp.get.2 (fun x hx => by have h1 : x = b := hx; subst h1; exact hp.get.1) hl hz h0
theorem St.fz {w0 w : World} {M Z : Nat → Prop} {l : List As} (h : St w0 M Z w l) : ∀ x, fps l x → ¬ Z x := fun x ⟨A, hA, hx⟩ => h.zfp A hA x hx
/-- A new map that an operation of such a region has made. -/
def PM {κ : Type} (enc : κ → Value) (N : Nat) (v : Value) (w : World) : Prop := ∃ b, v = .map (some b) ∧ N ≤ b ∧ KM enc w b []
theorem PM.st {κ : Type} {enc : κ → Value} {N : Nat} {F : Nat → Prop} (hN : ∀ x, F x → x < N) {v : Value} {w w' : World} (c : ChgP F w w') (h : PM enc N v w) : PM enc N v w' := by
 obtain ⟨b, h1, h2, h3⟩ := h
 exact ⟨b, h1, h2, (As.map enc b []).st (Z := fun _ => False) c.size (fun x hx hl => c.block x hl fun hf => by rcases hx with hx | hx; have hx : x = b := hx; subst hx; have := hN x hf; omega; exact hx.elim) h3⟩
theorem PM.get {κ : Type} {enc : κ → Value} {N b : Nat} {w : World} (h : PM enc N (.map (some b)) w) : N ≤ b ∧ KM enc w b [] := by
 obtain ⟨b', h1, h2, h3⟩ := h
 simp at h1; subst h1; exact ⟨h2, h3⟩
theorem St.addM {κ : Type} {enc : κ → Value} {w0 w : World} {M Z : Nat → Prop} {l : List As} {N b : Nat} (h : St w0 M Z w l) (hp : PM enc N (.map (some b)) w) (hl : ∀ x, fps l x → x < N) (hz : ∀ x, Z x → x < N) (h0 : w0.heap.size ≤ N) : St w0 M Z w (As.map enc b [] :: l) :=
 h.add (B := As.map enc b []) hp.get.2 (fun x hx => by have h1 : x = b := hx; subst h1; exact hp.get.1) hl hz h0
/-- What is owned somewhere in the list is changed, and reads as before. -/
theorem St.same {w0 w w' : World} {M Z : Nat → Prop} {l : List As} {A : As} (h : St w0 M Z w l) (hA : A ∈ l) (s : ChgP A.fp w w') (hok : A.ok Z w') : St w0 M Z w' l := by
 obtain ⟨p, q, rfl⟩ := List.append_of_mem hA
 exact ((h.perm List.perm_middle.symm).upd s hok fun x hx => .inl hx).perm List.perm_middle
theorem fps_mem {l : List As} {A : As} (hA : A ∈ l) {x : Nat} (hx : A.fp x) : fps l x := ⟨A, hA, hx⟩
/-- The same things, told otherwise. -/
theorem St.eqS {α : Type} {R : RR α} {w0 w : World} {M Z : Nat → Prop} {l : List As} {E k n c : Nat} {a : Option Addr} {xs ys : List α} (h : St w0 M Z w (As.os R E k a n c xs :: l)) (e : xs = ys) : St w0 M Z w (As.os R E k a n c ys :: l) := by subst e; exact h
theorem Ow.addr {α : Type} {R : RR α} {w : World} {Z : Nat → Prop} {E k n c i : Nat} {a : Option Addr} {xs : List α} {y : α} (h : Ow R E k Z w a n c xs) (hx : xs[i]? = some y) : ∃ b, a = some ⟨b, 0, none⟩ := by
 obtain ⟨hn, rows, hl, hk, h1, _⟩ := h
 have hi := (List.getElem?_eq_some_iff.1 hx).1
 rcases h1.cases with ⟨_, h2, _⟩ | ⟨g, cur, h2, _⟩
 ·
  omega
 ·
  exact ⟨g, h2⟩
theorem Ow.rng {α : Type} {f : α → List Value} {w : World} {Z : Nat → Prop} {E k n c i b o : Nat} {a : Option Addr} {xs : List α} {y : α} (h : Ow (RR.flat f) E k Z w a n c xs) (hle : xs.length ≤ 140737488355328) (ha : a = some ⟨b, o, none⟩) (hx : xs[i]? = some y) : w.rangeAt b (o + i * k) (f y) := by
 obtain ⟨b', o', r, h1, _, h3, h4, _⟩ := SR.at (Ow.rd h hle) hx
 rw [ha] at h1
 simp at h1
 obtain ⟨rfl, rfl⟩ := h1
 have h3 : r = f y := h3
 subst h3; exact h4
section
variable {P : Program} {n : Nat} {kv : KV} {w : World} {Q : Exit → Act → World → Prop}
theorem Fr.eqv {a : Act} {t : Nat} {v v' : Value} (hF : Fr n a kv) (h : look kv t = some v) (e : v = v') : Fr n a ((t, v') :: kv) := ⟨hF.size, hF.nod, fun s u hu => by
 simp only [look] at hu
 cases hb : Nat.beq t s with
 | true => rw [hb] at hu; simp at hu; have : t = s := Nat.eq_of_beq_eq_true hb; subst this; rw [← hu, ← e]; exact hF.val t v h
 | false => rw [hb] at hu; exact hF.val s u hu⟩
theorem WC.eqv {c : Code} {t : Nat} {v v' : Value} (h : look kv t = some v) (e : v = v') (k : WC P c Q n ((t, v') :: kv) w) : WC P c Q n kv w := fun a hF => k a (hF.eqv h e)
theorem EX.eqv {x : Exit} {t : Nat} {v v' : Value} (h : look kv t = some v) (e : v = v') (k : EX Q x n ((t, v') :: kv) w) : EX Q x n kv w := fun a hF => k a (hF.eqv h e)
end
section
variable {κ : Type} [DecidableEq κ] {enc : κ → Value} {P : Program} {kt e ty T : TypeId} {w : World} {b : Nat} {l : List (κ × Value)} {kv : KV}
theorem PV.lookV (hK : KK P kt enc) (hT : P.underlying T = some (.map kt e)) {z : Value} (hz : ∀ w, (zeroValue e).run P w = .ok z w) (hb : KM enc w b l) {x y : Operand} {k : κ} {v : Value} (hv : mget l k = some v) (hx : ev kv x = some (.map (some b))) (hy : ev kv y = some (enc k)) : PV P (.lookup T x y false) ty kv w v := by
 have := PV.look (ty := ty) hK hT hz hb hx hy
 rw [hv] at this; exact this
theorem PV.lookOkV (hK : KK P kt enc) (hT : P.underlying T = some (.map kt e)) {z : Value} (hz : ∀ w, (zeroValue e).run P w = .ok z w) (hb : KM enc w b l) {x y : Operand} {k : κ} {v : Value} (hv : mget l k = some v) (hx : ev kv x = some (.map (some b))) (hy : ev kv y = some (enc k)) : PV P (.lookup T x y true) ty kv w (.tuple #[v, .bool true]) := by
 have := PV.lookOk (ty := ty) hK hT hz hb hx hy
 rw [hv] at this; exact this
end
end Go.Rc

namespace Go.Rc
open Go
instance : Inhabited Inp := ⟨⟨noKey, ⟨#[]⟩, 0⟩⟩
def Bas.row (x : Bas) (a1 : Option Addr) (n1 c1 : Nat) (a2 : Option Addr) (n2 c2 : Nat) : List Value := [.int .i64 x.revision, .slice a1 n1 c1, .slice a2 n2 c2]
def inpBad (rev : Int) (l : List Inp) (i : Nat) : Bool :=
 !validK l[i]!.key || (!isInput l[i]!.key || ((decide (0 < (i : Int)) && decide (0 ≤ cmpK l[i - 1]!.key l[i]!.key)) || (decide (1073741824 < (l[i]!.value.size : Int)) || (decide (l[i]!.changed < 0) || decide (rev < l[i]!.changed)))))
def inpsOk (rev : Int) (l : List Inp) : Prop := ∀ i y, l[i]? = some y → inpBad rev l i = false
open Classical in
noncomputable def recsOkB (l : List Rec) : Bool := decide (recsOk l)
theorem recsOkB_of {l : List Rec} {b : Bool} (h : b = true ↔ recsOk l) : b = recsOkB l := by
 unfold recsOkB
 rw [Bool.eq_iff_iff]
 simpa using h
def basOk (x : Bas) : Prop := inpsOk x.revision x.inputs ∧ (∀ (i : Nat) (r : Rec), x.recs[i]? = some r → r.verified ≤ x.revision) ∧ 0 ≤ x.revision ∧ x.revision ≤ 1073741824 ∧ x.inputs.length ≤ 64 ∧ recsOk x.recs
noncomputable def basTail (x : Bas) : Bool := decide (0 ≤ x.revision) && (decide (x.revision ≤ 1073741824) && (decide ((x.inputs.length : Int) ≤ 64) && recsOkB x.recs))
theorem basTail_iff (x : Bas) : basTail x = true ↔ 0 ≤ x.revision ∧ x.revision ≤ 1073741824 ∧ x.inputs.length ≤ 64 ∧ recsOk x.recs := by
 simp only [basTail, recsOkB, Bool.and_eq_true, decide_eq_true_eq]
 rw [show ((x.inputs.length : Int) ≤ 64) = (x.inputs.length ≤ 64) from propext (by omega)]
/-- A part of a struct's value, looked up in lists. -/
theorem PV.fieldL {P : Program} {kv : KV} {w : World} {T ty : TypeId} {f off : Nat} {fs : List Field} {fd : Field} (hu : P.underlying T = some (.struct fs.toArray)) (hf : fs[f]? = some fd) (ho : fd.offset = off) (h1 : ∀ w, (isAgg fd.type).run P w = .ok false w)
  {x : Operand} {us : List Value} {v : Value} (hx : ev kv x = some (.agg us.toArray)) (hv : nth us off = some v) : PV P (.field T x f) ty kv w v :=
 PV.fieldOf hu (by simpa using hf) ho h1 hx (by rw [← nth_eq]; exact hv)
end Go.Rc
namespace Go.Rc
open Go
/-- Not a query of the language. -/
def notLang (k : Key) : Prop := k.kind < 1 ∨ 22 < k.kind
def turn28 (rules : List Rule) (k : Key) (answers : List ByteArray) : Turn := if k.kind = 31 ∨ k.kind = 32 then turnV rules k answers else ⟨true, ⟨#[]⟩, noKey⟩
def least22 (n : Int) : ByteArray := if n = 14 then ⟨#[48]⟩ else ⟨#[]⟩
def leastK (k : Key) : ByteArray := if k.kind = 32 then ⟨#[48]⟩ else if isCyclic k then least22 k.kind else ⟨#[]⟩
def rightK (rules : List Rule) (k : Key) : Bool := validK k && ((decide (k.kind ≠ 31) && decide (k.kind ≠ 32)) || decide (ofK rules (number k) = k))
def recOf (l : List Rec) (k : Key) : Rec := (findR l k).getD noRec
def openR (l : List Rec) (rev : Int) (k : Key) : Bool := (findR l k).isSome && (isCyclic k && (decide ((recOf l k).verified < rev) && !(recOf l k).dirty))
def keptOk (x : Bas) (k : Key) : Bool := isInput k || ((findR x.recs k).isSome && decide ((recOf x.recs k).verified = x.revision))
def keptV (x : Bas) (k : Key) : ByteArray := if isInput k then (findI x.inputs k).value else if keptOk x k then (recOf x.recs k).value else ⟨#[]⟩
def madeV (x : Bas) (k : Key) (v : ByteArray) (reads : List Key) : Rec :=
 ⟨k, v, reads, if (findR x.recs k).isSome && decide ((recOf x.recs k).value = v) then (recOf x.recs k).changed else x.revision, x.revision, 1 + (reads.length : Int), false⟩
end Go.Rc
namespace Go.Rc
open Go
open Classical in
/-- The first error of a request's arguments. -/
noncomputable def checkE (rules : List Rule) (x : Bas) (goals : List Key) : Int :=
 if ¬ rulesOk rules then 41 else if ¬ basOk x then 42 else if 32 < goals.length then 3 else if goals.all (rightK rules) then 0 else 40
end Go.Rc
namespace Go.Rc
open Go
/-- A slice of keys in a block that was there when the heap had N blocks. -/
def KSN (EK N : Nat) (w : World) (a : Option Addr) (n c : Nat) (l : List Key) : Prop := SR (fun x => TA EK w x ∧ x < N) w 2 KeyR a n c l
theorem KSN.chg {EK N : Nat} {w w' : World} {a : Option Addr} {n c : Nat} {l : List Key} {S : List Nat} (h : KSN EK N w a n c l) (cg : Chg S w w') (hS : ∀ b ∈ S, ¬ TA EK w b ∨ N ≤ b) : KSN EK N w' a n c l :=
 (SR.chg h cg (fun b hb h2 => by rcases hS b hb with h3 | h3; exact h3 h2.1; omega) fun _ _ h => h).mono (fun b hb _ => ⟨hb.1.chg cg (fun hm => by rcases hS b hm with h3 | h3; exact h3 hb.1; omega), hb.2⟩) fun _ _ h => h
theorem KSN.ext {EK N : Nat} {w w' : World} {a : Option Addr} {n c : Nat} {l : List Key} (h : KSN EK N w a n c l) (cg : Chg [] w w') : KSN EK N w' a n c l := h.chg cg (by simp)
structure Chk where
 member : Key
 read : Key
 deriving DecidableEq
def Chk.cells (x : Chk) : List Value := [.int .i64 x.member.kind, .string x.member.text, .int .i64 x.read.kind, .string x.read.text]
def checksOf (group : List Key) (m : Key) (l : List Key) : List Chk := (l.filter fun x => !decide (x ∈ group)).map fun x => ⟨m, x⟩
def checksV (l : List Rec) (group : List Key) : List Chk := group.flatMap fun m => checksOf group m (recOf l m).reads
theorem checksOf_take {group : List Key} {m : Key} {l : List Key} {j : Nat} (h : j < l.length) : checksOf group m (l.take (j + 1)) = if l[j] ∈ group then checksOf group m (l.take j) else checksOf group m (l.take j) ++ [⟨m, l[j]⟩] := by
 rw [List.take_succ_eq_append_getElem h]
 simp only [checksOf, List.filter_append, List.map_append]
 by_cases e : l[j] ∈ group <;> simp [e]
theorem checksOf_len (group : List Key) (m : Key) (l : List Key) : (checksOf group m l).length ≤ l.length := by simp only [checksOf, List.length_map]; exact List.length_filter_le _ _
end Go.Rc
namespace Go.Rc
end Go.Rc

namespace Go.Rc
open Go
variable {E EK ER EI ES EF base : Nat} {w w' : World} {a : Option Addr} {n c : Nat} {S : List Nat}
/-- A slice of strings inside a row. -/
def SSl (ES : Nat) (w : World) (a : Option Addr) (n c : Nat) (l : List ByteArray) : Prop := SR (TA ES w) w 1 (fun s r => r = [.string s]) a n c l
theorem SSl.chg {l : List ByteArray} (h : SSl ES w a n c l) (cg : Chg S w w') (hS : ∀ b ∈ S, ¬ TA ES w b) : SSl ES w' a n c l :=
 (SR.chg h cg hS fun _ _ h => h).mono (fun b hb _ => hb.chg cg fun hm => hS b hm hb) fun _ _ h => h
theorem SSl.ext {l : List ByteArray} (h : SSl ES w a n c l) (cg : Chg [] w w') : SSl ES w' a n c l := h.chg cg (by simp)
structure Frm where
 key : Key
 running : Bool
 at_ : Int
 reads : List Key
 answers : List ByteArray
 deriving DecidableEq
def Frm.row (x : Frm) (a1 : Option Addr) (n1 c1 : Nat) (a2 : Option Addr) (n2 c2 : Nat) : List Value := [.int .i64 x.key.kind, .string x.key.text, .bool x.running, .int .i64 x.at_, .slice a1 n1 c1, .slice a2 n2 c2]
def FrmR (EK ES : Nat) (w : World) (x : Frm) (r : List Value) : Prop :=
 ∃ a1 n1 c1 a2 n2 c2, r = x.row a1 n1 c1 a2 n2 c2 ∧ KSl EK w a1 n1 c1 x.reads ∧ SSl ES w a2 n2 c2 x.answers ∧ x.reads.length ≤ 4000 ∧ x.answers.length ≤ 4000
theorem FrmR.chg {x : Frm} {r : List Value} (h : FrmR EK ES w x r) (cg : Chg S w w') (hS : ∀ b ∈ S, ¬ TA EK w b ∧ ¬ TA ES w b) : FrmR EK ES w' x r := by
 obtain ⟨a1, n1, c1, a2, n2, c2, h1, h2, h3, h4⟩ := h
 exact ⟨a1, n1, c1, a2, n2, c2, h1, h2.chg cg fun b hb => (hS b hb).1, h3.chg cg fun b hb => (hS b hb).2, h4⟩
def Frms (EK ES EF : Nat) (w : World) (a : Option Addr) (n c : Nat) (l : List Frm) : Prop := SR (TA EF w) w 6 (FrmR EK ES w) a n c l
theorem Frms.chg {l : List Frm} (h : Frms EK ES EF w a n c l) (cg : Chg S w w') (hS : ∀ b ∈ S, ¬ TA EK w b ∧ ¬ TA ES w b ∧ ¬ TA EF w b) : Frms EK ES EF w' a n c l :=
 (SR.chg h cg (fun b hb => (hS b hb).2.2) fun _ _ h => h.chg cg fun b hb => ⟨(hS b hb).1, (hS b hb).2.1⟩).mono (fun b hb _ => hb.chg cg fun hm => (hS b hm).2.2 hb) fun _ _ h => h
theorem Frms.ext {l : List Frm} (h : Frms EK ES EF w a n c l) (cg : Chg [] w w') : Frms EK ES EF w' a n c l := h.chg cg (by simp)
/-! the plain meaning -/
def onF (l : List Frm) (k : Key) : Bool := l.any fun f => decide (f.key = k)
def neededV (x : Bas) (l : List Frm) (k : Key) : Bool := !(isInput k || onF l k) && (!(findR x.recs k).isSome || decide ((recOf x.recs k).verified ≠ x.revision))
def lookV (x : Bas) (l others : List Frm) (k : Key) : Int :=
 if !isCyclic k && onF l k then 3 else if !neededV x l k then 0 else if !onF others k then 1 else if isCyclic k then 0 else 2
end Go.Rc
namespace Go.Rc
open Go
variable {EA ERu : Nat} {w w' : World} {a : Option Addr} {n c base : Nat} {S : List Nat}
/-- A rule's row, with its asks told by their type. -/
def RuleT (EA : Nat) (w : World) (x : Rule) (r : List Value) : Prop := RuleR (TA EA w) w x r ∧ x.asks.length ≤ 1000
theorem RuleT.chg {x : Rule} {r : List Value} (h : RuleT EA w x r) (cg : Chg S w w') (hS : ∀ b ∈ S, ¬ TA EA w b) : RuleT EA w' x r := by
 obtain ⟨⟨a, n, c, h1, h2⟩, h3⟩ := h
 exact ⟨⟨a, n, c, h1, (h2.chg cg hS fun _ _ h => h).mono (fun b hb _ => hb.chg cg fun hm => hS b hm hb) fun _ _ h => h⟩, h3⟩
def ORules (EA base : Nat) (w : World) (ERu : Nat) (a : Option Addr) (n c : Nat) (l : List Rule) : Prop := OR base w ERu 4 (RuleT EA w) a n c l
theorem ORules.chg {l : List Rule} (h : ORules EA base w ERu a n c l) (cg : Chg S w w') (hS : ∀ x ∈ oblk a, x ∉ S) (hT : ∀ b ∈ S, ¬ TA EA w b) : ORules EA base w' ERu a n c l :=
 OR.chg' h cg hS fun _ _ h => h.chg cg hT
theorem ORules.ext {l : List Rule} (h : ORules EA base w ERu a n c l) (cg : Chg [] w w') : ORules EA base w' ERu a n c l := h.chg cg (by simp) (by simp)
theorem ORules.app {l : List Rule} (h : OR base w' ERu 4 (RuleT EA w) a n c l) (cg : Chg S w w') (hT : ∀ b ∈ S, ¬ TA EA w b) : ORules EA base w' ERu a n c l := by
 obtain ⟨h1, rows, h2, h3, h4, h5⟩ := h
 exact ⟨h1, rows, h2, h3, h4, fun i x r hx hr => (h5 i x r hx hr).chg cg hT⟩
theorem ORules.lt {l : List Rule} (h : ORules EA base w ERu a n c l) : ∀ x ∈ oblk a, x < w.heap.size := OR.lt h
theorem ORules.ge {l : List Rule} (h : ORules EA base w ERu a n c l) : ∀ x ∈ oblk a, base ≤ x := OR.ge h
theorem ORules.len {l : List Rule} (h : ORules EA base w ERu a n c l) : n = l.length := OR.len h
/-- Rules in blocks of their types. -/
def RulesT (EA ERu : Nat) (w : World) (a : Option Addr) (n c : Nat) (l : List Rule) : Prop := SR (TA ERu w) w 4 (RuleT EA w) a n c l
theorem RulesT.chg {l : List Rule} (h : RulesT EA ERu w a n c l) (cg : Chg S w w') (hS : ∀ b ∈ S, ¬ TA EA w b ∧ ¬ TA ERu w b) : RulesT EA ERu w' a n c l :=
 (SR.chg h cg (fun b hb => (hS b hb).2) fun _ _ h => h.chg cg fun b hb => (hS b hb).1).mono (fun b hb _ => hb.chg cg fun hm => (hS b hm).2 hb) fun _ _ h => h
theorem RulesT.ext {l : List Rule} (h : RulesT EA ERu w a n c l) (cg : Chg [] w w') : RulesT EA ERu w' a n c l := h.chg cg (by simp)
theorem RulesT.rules {l : List Rule} (h : RulesT EA ERu w a n c l) : Rules (fun x => TA EA w x ∨ TA ERu w x) w a n c l :=
 SR.mono h (fun b hb _ => .inr hb) fun x r hx => by obtain ⟨⟨a, n, c, h1, h2⟩, _⟩ := hx; exact ⟨a, n, c, h1, h2.mono (fun b hb _ => .inl hb) fun _ _ h => h⟩
def Rule.row (x : Rule) (a : Option Addr) (n c : Nat) : List Value := [.bool x.ring, .slice a n c, .int .i64 x.final, .int .i64 x.c]
theorem Rule.one (x : Rule) (a : Option Addr) (n c : Nat) : ∀ u ∈ x.row a n c, u.oneCell' = true := by simp [Rule.row, Value.oneCell']
end Go.Rc

namespace Go.Rc
open Go
def RR.key : RR Key := RR.flat Key.cells
def RR.str : RR ByteArray := RR.flat fun s => [.string s]
def RR.ask : RR Ask := RR.flat Ask.cells
def RR.inp : RR Inp := RR.flat Inp.cells
def RR.chk : RR Chk := RR.flat Chk.cells
def RR.int : RR Int := RR.flat fun n => [.int .i64 n]
def RR.rule : RR Rule where
 r Z w x row := RuleR Z w x row
 mono hZ h := by obtain ⟨a, n, c, h1, h2⟩ := h; exact ⟨a, n, c, h1, h2.mono (fun b hb _ => hZ b hb) fun _ _ h => h⟩
 st hs hc h := by obtain ⟨a, n, c, h1, h2⟩ := h; exact ⟨a, n, c, h1, SR.st hs hc (fun _ _ h => h) h2⟩
 cut h := by obtain ⟨a, n, c, h1, h2⟩ := h; exact ⟨a, n, c, h1, h2.mono (fun b hb hlt => ⟨hb, hlt⟩) fun _ _ h => h⟩
def RR.rcd : RR Rec where
 r Z w x row := ∃ a n c, row = x.row a n c ∧ Rd RR.key 2 Z w a n c x.reads ∧ x.reads.length ≤ 4000
 mono hZ h := by obtain ⟨a, n, c, h1, h2, h3⟩ := h; exact ⟨a, n, c, h1, h2.mono hZ, h3⟩
 st hs hc h := by obtain ⟨a, n, c, h1, h2, h3⟩ := h; exact ⟨a, n, c, h1, h2.st hs hc, h3⟩
 cut h := by obtain ⟨a, n, c, h1, h2, h3⟩ := h; exact ⟨a, n, c, h1, h2.cut, h3⟩
end Go.Rc

namespace Go.Rc
open Go
/-! ### numbers and their texts -/
theorem decFrom_digits : ∀ (u : Nat) (n : Nat) (rest : List UInt8), decFrom (Lib.decDigits u ++ rest) (n : Int) = decFrom rest ((n * 10 ^ Lib.nDigits u + u : Nat) : Int) := by
 intro u
 induction u using Nat.strongRecOn with
 | _ u ih =>
  intro n rest
  by_cases h : u < 10
  ·
   rw [Lib.decDigits_one h, Lib.nDigits_small h]
   have e : (UInt8.ofNat (48 + u)).toNat = 48 + u := by rw [UInt8.toNat_ofNat']; omega
   simp only [List.cons_append, List.nil_append, decFrom, e]
   rw [if_neg (by omega)]
   congr 1
   omega
  ·
   rw [Lib.decDigits, dif_neg h, Lib.nDigits_big h, List.append_assoc, ih (u / 10) (by omega)]
   have e : (UInt8.ofNat (48 + u % 10)).toNat = 48 + u % 10 := by rw [UInt8.toNat_ofNat']; omega
   simp only [List.cons_append, List.nil_append, decFrom, e]
   rw [if_neg (by omega), Nat.pow_succ]
   congr 1
   have : n * (10 ^ Lib.nDigits (u / 10) * 10) = 10 * (n * 10 ^ Lib.nDigits (u / 10)) := by rw [← Nat.mul_assoc, Nat.mul_comm]
   rw [this]
   omega
theorem decDigits_head : ∀ u : Nat, ∃ d r, Lib.decDigits u = d :: r ∧ (0 < u → d ≠ 48) := by
 intro u
 induction u using Nat.strongRecOn with
 | _ u ih =>
  by_cases h : u < 10
  ·
   refine ⟨_, [], Lib.decDigits_one h, fun hu e => ?_⟩
   have := congrArg UInt8.toNat e
   rw [UInt8.toNat_ofNat'] at this
   have h2 : (48 : UInt8).toNat = 48 := rfl
   omega
  ·
   obtain ⟨d, r, h1, h2⟩ := ih (u / 10) (by omega)
   exact ⟨d, r ++ [UInt8.ofNat (48 + u % 10)], by rw [Lib.decDigits, dif_neg h, h1]; rfl, fun _ => h2 (by omega)⟩
theorem nDigits_le : ∀ (k u : Nat), u < 10 ^ (k + 1) → Lib.nDigits u ≤ k + 1
 | 0, u, h => by rw [Lib.nDigits_small (by simpa using h)]; omega
 | k + 1, u, h => by
  by_cases h1 : u < 10
  ·
   rw [Lib.nDigits_small h1]; omega
  ·
   rw [Lib.nDigits_big h1]
   have := nDigits_le k (u / 10) (by rw [Nat.pow_succ] at h; omega)
   omega
theorem decimal_itoa {n : Nat} (h : n < 1000000000) : decimal (itoa (n : Int)) = n := by
 have e : Lib.itoa (n : Int) = Lib.decDigits n := by unfold Lib.itoa; rw [if_neg (by omega)]; rfl
 have hl : (Lib.decDigits n).length ≤ 9 := by rw [Lib.decDigits_length]; exact nDigits_le 8 n h
 have hp : 1 ≤ (Lib.decDigits n).length := by rw [Lib.decDigits_length]; exact Lib.nDigits_pos n
 have hs : (itoa (n : Int)).size = (Lib.decDigits n).length := by unfold itoa ByteArray.size; rw [e]; simp
 have hd : (itoa (n : Int)).data.toList = Lib.decDigits n := by unfold itoa; rw [e]
 unfold decimal
 rw [if_neg]
 ·
  rw [hd, ← List.append_nil (Lib.decDigits n)]
  have := decFrom_digits n 0 []
  simp only [Nat.zero_mul, Nat.zero_add] at this
  exact this
 ·
  rw [hs, hd]
  rintro (h1 | h1 | ⟨h1, h2⟩)
  ·
   omega
  ·
   omega
  ·
   obtain ⟨d, r, h3, h4⟩ := decDigits_head n
   rw [h3] at h1
   simp at h1
   by_cases h0 : 0 < n
   ·
    exact h4 h0 h1
   ·
    have h5 : n = 0 := by omega
    subst h5
    exact h2 (by rw [Lib.decDigits_one (by omega)]; rfl)
theorem valS_itoa {n : Nat} (h : n ≤ 65535) : valS (itoa (n : Int)) = n := by
 unfold valS
 rw [decimal_itoa (by omega), if_neg (by omega)]
 rfl
theorem itoa_inj {m n : Nat} (hm : m < 1000000000) (hn : n < 1000000000) (h : itoa (m : Int) = itoa (n : Int)) : m = n := by
 have h1 := decimal_itoa hm
 rw [h, decimal_itoa hn] at h1
 omega
/-! ### keys -/
theorem number_ofK {rules : List Rule} {i : Nat} (hi : i < rules.length) (h99 : i ≤ 99) : number (ofK rules (i : Int)) = i := by
 have hk : ofK rules (i : Int) = ⟨if ringAt rules i then 32 else 31, itoa i⟩ := by unfold ofK; rw [if_neg (by omega)]; rfl
 rw [hk]
 unfold number
 simp only
 rw [decimal_itoa (by omega), if_pos]
 split <;> omega
theorem ofK_kind {rules : List Rule} {i : Nat} (hi : i < rules.length) (h99 : i ≤ 99) : (ofK rules (i : Int)).kind = if ringAt rules i then 32 else 31 := by
 unfold ofK; rw [if_neg (by omega)]; rfl
theorem isInput_ofK {rules : List Rule} {i : Nat} (hi : i < rules.length) (h99 : i ≤ 99) : isInput (ofK rules (i : Int)) = false := by
 unfold isInput; rw [ofK_kind hi h99]; split <;> simp
theorem isInput_cellK {n : Nat} (h : n ≤ 99) : isInput (cellK (n : Int)) = true := by
 unfold isInput cellK; rw [if_neg (by omega)]; simp
theorem isCyclic_ofK {rules : List Rule} {i : Nat} (hi : i < rules.length) (h99 : i ≤ 99) : isCyclic (ofK rules (i : Int)) = ringAt rules i := by
 unfold isCyclic; rw [ofK_kind hi h99]; cases ringAt rules i <;> simp
theorem isCyclic_cellK {n : Nat} (h : n ≤ 99) : isCyclic (cellK (n : Int)) = false := by
 unfold isCyclic cellK; rw [if_neg (by omega)]; simp
/-- A key that rules may ask for: a cell, or a rule. -/
inductive Knd (rules : List Rule) : Key → Prop where
 | cell {n : Nat} (h : n ≤ 99) : Knd rules (cellK (n : Int))
 | rule {i : Nat} (h : i < rules.length) (h99 : i ≤ 99) : Knd rules (ofK rules (i : Int))
/-! ### values -/
def cellOf (inp : List Inp) (k : Key) : ByteArray := (findI inp k).value
def runA (turn : List ByteArray → Turn) (ans : Key → ByteArray) : Nat → List Key × List ByteArray
 | 0 => ([], [])
 | n + 1 => ((runA turn ans n).1 ++ [(turn (runA turn ans n).2).ask], (runA turn ans n).2 ++ [ans (turn (runA turn ans n).2).ask])
def ansP (inp : List Inp) (prev : List ByteArray) (k : Key) : ByteArray := if isInput k then cellOf inp k else prev.getD (number k).toNat ⟨#[]⟩
def asksN (rules : List Rule) (i : Nat) : Nat := (rules[i]?.map (·.asks.length)).getD 0
def askKey (rules : List Rule) (x : Ask) : Key := if x.cell then cellK x.n else ofK rules x.n
/-- Rule i, a ring, asks ring j. -/
def ringAsk (rules : List Rule) (i j : Nat) : Prop := ∃ r x, rules[i]? = some r ∧ r.ring = true ∧ x ∈ r.asks ∧ x.cell = false ∧ x.n = (j : Int) ∧ ringAt rules j = true
inductive RReach (rules : List Rule) (i : Nat) : Nat → Prop where
 | refl : RReach rules i i
 | step {j k : Nat} : RReach rules i j → ringAsk rules j k → RReach rules i k
def outside (rules : List Rule) (x : Ask) : Bool := x.cell || !ringAt rules x.n.toNat
def baseV (rules : List Rule) (ans : Key → ByteArray) (j : Nat) : Nat :=
 match rules[j]? with
 | some r => bitsV r.c.toNat ((r.asks.filter (outside rules)).map fun x => valS (ans (askKey rules x)))
 | none => 0
open Classical in
/-- The number with these bits. -/
noncomputable def ofBits (P : Nat → Prop) : Nat → Nat
 | 0 => 0
 | n + 1 => ofBits P n ||| (if P n then 2 ^ n else 0)
theorem ofBits_lt (P : Nat → Prop) : ∀ n, ofBits P n < 2 ^ n := by
 intro n
 induction n with
 | zero => simp [ofBits]
 | succ n ih =>
  unfold ofBits
  refine Nat.or_lt_two_pow (Nat.lt_of_lt_of_le ih (Nat.pow_le_pow_right (by omega) (by omega))) ?_
  split
  ·
   exact Nat.pow_lt_pow_right (by omega) (by omega)
  ·
   exact Nat.two_pow_pos _
theorem ofBits_bit (P : Nat → Prop) : ∀ n b, (ofBits P n).testBit b = true ↔ b < n ∧ P b := by
 intro n
 induction n with
 | zero => intro b; simp [ofBits]
 | succ n ih =>
  intro b
  unfold ofBits
  rw [Nat.testBit_or, Bool.or_eq_true, ih]
  by_cases h : P n
  ·
   rw [if_pos h, Nat.testBit_two_pow]
   constructor
   ·
    rintro (⟨h1, h2⟩ | h1)
    ·
     exact ⟨by omega, h2⟩
    ·
     simp at h1; subst h1; exact ⟨by omega, h⟩
   ·
    rintro ⟨h1, h2⟩
    by_cases e : n = b
    ·
     right; simp [e]
    ·
     left; exact ⟨by omega, h2⟩
  ·
   rw [if_neg h]
   simp only [Nat.zero_testBit, Bool.false_eq_true, or_false]
   constructor
   ·
    rintro ⟨h1, h2⟩; exact ⟨by omega, h2⟩
   ·
    rintro ⟨h1, h2⟩
    refine ⟨?_, h2⟩
    rcases Nat.lt_or_ge b n with h3 | h3
    ·
     exact h3
    ·
     have : b = n := by omega
     subst this; exact absurd h2 h
noncomputable def ringB (rules : List Rule) (ans : Key → ByteArray) (i : Nat) : Nat := ofBits (fun b => ∃ j, RReach rules i j ∧ (baseV rules ans j).testBit b = true) 16
noncomputable def valueAt (rules : List Rule) (inp : List Inp) (prev : List ByteArray) (i : Nat) : ByteArray :=
 if ringAt rules i then itoa (ringB rules (ansP inp prev) i : Int)
 else (turnV rules (ofK rules (i : Int)) (runA (turnV rules (ofK rules (i : Int))) (ansP inp prev) (asksN rules i)).2).value
noncomputable def vals (rules : List Rule) (inp : List Inp) : Nat → List ByteArray
 | 0 => []
 | n + 1 => vals rules inp n ++ [valueAt rules inp (vals rules inp n) n]
noncomputable def valI (rules : List Rule) (inp : List Inp) (i : Nat) : ByteArray := valueAt rules inp (vals rules inp i) i
noncomputable def valOf (rules : List Rule) (inp : List Inp) (k : Key) : ByteArray := if isInput k then cellOf inp k else valI rules inp (number k).toNat
section
variable {rules : List Rule} {inp : List Inp}
theorem vals_len : ∀ n, (vals rules inp n).length = n := by
 intro n; induction n with
 | zero => rfl
 | succ n ih => simp [vals, ih]
theorem vals_get : ∀ n m, m < n → (vals rules inp n).getD m ⟨#[]⟩ = valI rules inp m := by
 intro n
 induction n with
 | zero => intro m h; omega
 | succ n ih =>
  intro m h
  unfold vals
  rcases Nat.lt_or_ge m n with h1 | h1
  ·
   rw [← ih m h1]
   simp only [List.getD_eq_getElem?_getD]
   rw [List.getElem?_append_left (by rw [vals_len]; exact h1)]
  ·
   have : m = n := by omega
   subst this
   simp only [List.getD_eq_getElem?_getD]
   rw [List.getElem?_append_right (by rw [vals_len]; omega), vals_len]
   simp [valI]
/-- Below rule n the values so far are the values. -/
theorem ansP_vals {n : Nat} {k : Key} (h : isInput k = true ∨ (number k).toNat < n) : ansP inp (vals rules inp n) k = valOf rules inp k := by
 unfold ansP valOf
 by_cases hi : isInput k = true
 ·
  rw [if_pos hi, if_pos hi]
 ·
  rw [if_neg hi, if_neg hi, vals_get]
  rcases h with h | h
  ·
   exact absurd h hi
  ·
   exact h
theorem runA_len (turn : List ByteArray → Turn) (ans : Key → ByteArray) : ∀ n, (runA turn ans n).1.length = n ∧ (runA turn ans n).2.length = n := by
 intro n; induction n with
 | zero => simp [runA]
 | succ n ih => simp [runA, ih.1, ih.2]
theorem runA_congr {turn : List ByteArray → Turn} {ans ans' : Key → ByteArray} : ∀ n, (∀ m, m < n → ans (turn (runA turn ans m).2).ask = ans' (turn (runA turn ans m).2).ask) → runA turn ans n = runA turn ans' n := by
 intro n
 induction n with
 | zero => intro _; rfl
 | succ n ih =>
  intro h
  have e := ih fun m hm => h m (by omega)
  have := h n (by omega)
  simp only [runA]
  rw [e] at this ⊢
  rw [this]
end
/-! ### what valid rules ask for -/
section
variable {rules : List Rule} {inp : List Inp}
theorem blockLo_le (l : List Rule) : ∀ k, blockLo l k ≤ k := by
 intro k; induction k with
 | zero => simp [blockLo]
 | succ k ih => unfold blockLo; split <;> omega
theorem hiFrom_le (l : List Rule) {m : Nat} (h : m ≤ l.length) : hiFrom l m ≤ l.length := by
 unfold hiFrom
 have h1 : ((l.drop m).takeWhile (·.ring)).length ≤ (l.drop m).length := (List.takeWhile_sublist _).length_le
 rw [List.length_drop] at h1
 omega
theorem block_in {i : Nat} (hi : i < rules.length) : block rules (i : Int) = if ringAt rules i then ((blockLo rules i : Int), (hiFrom rules (i + 1) : Int)) else ((i : Int), (i : Int) + 1) := by
 unfold block; rw [if_neg (by omega)]; rfl
/-- All of a block are rings. -/
theorem block_ring {i j : Nat} (hi : ringAt rules i = true) (h1 : blockLo rules i ≤ j) (h2 : j < hiFrom rules (i + 1)) : ringAt rules j = true := by
 have hlo : ∀ k, blockLo rules k ≤ j → j < k → ringAt rules j = true := by
  intro k
  induction k with
  | zero => intro _ h; omega
  | succ k ih =>
   intro h3 h4
   unfold blockLo at h3
   by_cases hk : ringAt rules k = true
   ·
    rw [if_pos hk] at h3
    by_cases e : j = k
    ·
     rw [e]; exact hk
    ·
     exact ih h3 (by omega)
   ·
    rw [if_neg hk] at h3; omega
 rcases Nat.lt_trichotomy j i with h | h | h
 ·
  exact hlo i h1 h
 ·
  rw [h]; exact hi
 ·
  have key : ∀ (l : List Rule) (m j : Nat), m ≤ j → j < m + ((l.drop m).takeWhile (·.ring)).length → ringAt l j = true := by
   intro l m j hm hj
   have hlt : j - m < ((l.drop m).takeWhile (·.ring)).length := by omega
   have hmem := List.getElem_mem hlt
   have hr := List.all_eq_true.1 (List.all_takeWhile (p := fun x : Rule => x.ring) (l := l.drop m)) _ hmem
   have hpre : ((l.drop m).takeWhile (·.ring)) <+: l.drop m := List.takeWhile_prefix _
   have hget := hpre.getElem hlt
   rw [hget] at hr
   have hjl : j < l.length := by
    have := hpre.length_le
    rw [List.length_drop] at this
    omega
   rw [ringAt_get hjl]
   rw [List.getElem_drop] at hr
   simpa [show m + (j - m) = j by omega] using hr
  exact key rules (i + 1) j (by omega) h2
/-- What rule i may ask for. -/
theorem mayOk_key {i : Nat} (hi : i < rules.length) (hlen : rules.length ≤ 24) {c : Bool} {n : Int} (h : mayOk rules i c n = true) :
  ∃ m : Nat, n = m ∧ if c then m ≤ 15 else m < rules.length ∧ (ringAt rules m = true ∧ ringAt rules i = true ∨ m < i) ∧ (ringAt rules i = false → m < i) ∧ (ringAt rules m = false → m < i) := by
 unfold mayOk at h
 cases c
 ·
  simp only [Bool.false_eq_true, if_false, Bool.and_eq_true, decide_eq_true_eq] at h ⊢
  obtain ⟨m, rfl⟩ : ∃ m : Nat, n = m := ⟨n.toNat, by omega⟩
  refine ⟨m, rfl, ?_⟩
  have h2 := h.2
  unfold mayTop at h2
  rw [block_in hi] at h2
  by_cases hr : ringAt rules i = true
  ·
   rw [if_pos hr] at h2
   simp only [hr, if_true] at h2
   have hml : m < hiFrom rules (i + 1) := by omega
   have hhi := hiFrom_le rules (show i + 1 ≤ rules.length by omega)
   refine ⟨by omega, ?_, (fun h => by rw [hr] at h; cases h), ?_⟩
   ·
    by_cases hmi : m < i
    ·
     exact .inr hmi
    ·
     exact .inl ⟨block_ring hr (by have := blockLo_le rules i; omega) hml, hr⟩
   ·
    intro hm
    rcases Nat.lt_or_ge m i with h3 | h3
    ·
     exact h3
    ·
     rw [block_ring hr (by have := blockLo_le rules i; omega) hml] at hm; cases hm
  ·
   rw [if_neg hr] at h2
   simp only [hr, if_false, Bool.false_eq_true] at h2
   have : m < i := by omega
   exact ⟨by omega, .inr this, fun _ => this, fun _ => this⟩
 ·
  simp only [if_true, Bool.and_eq_true, decide_eq_true_eq] at h ⊢
  exact ⟨n.toNat, by omega, by omega⟩
end
end Go.Rc

namespace Go.Rc
open Go
section
variable {rules : List Rule} {inp : List Inp}
theorem rulesOk.len (h : rulesOk rules) : rules.length ≤ 24 := h.1
theorem rulesOk.at (h : rulesOk rules) {i : Nat} (hi : i < rules.length) : ruleOk rules i rules[i] := h.2 i _ (getElem_some hi)
theorem asksN_eq {i : Nat} (hi : i < rules.length) : asksN rules i = rules[i].asks.length := by unfold asksN; rw [getElem_some hi]; rfl
theorem blockLo_in {m lo : Nat} (h1 : lo ≤ m) (h : ∀ j, lo ≤ j → j < m → ringAt rules j = true) : blockLo rules m ≤ lo := by
 induction m with
 | zero => simp [blockLo]
 | succ m ih =>
  by_cases e : lo = m + 1
  ·
   rw [e]; exact blockLo_le _ _
  ·
   unfold blockLo
   rw [if_pos (h m (by omega) (by omega))]
   exact ih (by omega) fun j h2 h3 => h j h2 (by omega)
theorem ring_may (_hR : rulesOk rules) {i : Nat} (hi : i < rules.length) (hr : ringAt rules i = true) {m : Nat} (h : mayOk rules i false (m : Int) = true) :
  m < rules.length ∧ (ringAt rules m = true → blockLo rules m ≤ blockLo rules i) ∧ (ringAt rules m = false → m < blockLo rules i) := by
 unfold mayOk at h
 simp only [Bool.false_eq_true, if_false, Bool.and_eq_true, decide_eq_true_eq] at h
 have h2 := h.2
 unfold mayTop at h2
 rw [block_in hi, if_pos hr] at h2
 simp only [hr, if_true] at h2
 have hhi := hiFrom_le rules (show i + 1 ≤ rules.length by omega)
 refine ⟨by omega, fun _ => ?_, fun hm => ?_⟩
 ·
  rcases Nat.lt_or_ge m (blockLo rules i) with h3 | h3
  ·
   have := blockLo_le rules m; omega
  ·
   exact blockLo_in h3 fun j h4 h5 => block_ring hr h4 (by omega)
 ·
  rcases Nat.lt_or_ge m (blockLo rules i) with h3 | h3
  ·
   exact h3
  ·
   rw [block_ring hr h3 (by omega)] at hm; cases hm
/-- What a rule may ask for. -/
def MayAsk (rules : List Rule) (i : Nat) (k : Key) : Prop :=
 (∃ n : Nat, n ≤ 15 ∧ k = cellK (n : Int)) ∨
 (∃ m : Nat, m < rules.length ∧ k = ofK rules (m : Int) ∧ (ringAt rules m = true ∧ ringAt rules i = true ∨ m < i) ∧ (ringAt rules i = false → m < i) ∧ (ringAt rules m = false → m < i) ∧ (ringAt rules m = false → ringAt rules i = true → m < blockLo rules i))
theorem may_key (hR : rulesOk rules) {i : Nat} (hi : i < rules.length) {c : Bool} {n : Int} (h : mayOk rules i c n = true) : MayAsk rules i (if c then cellK n else ofK rules n) := by
 obtain ⟨m, rfl, h2⟩ := mayOk_key hi hR.len h
 cases c
 ·
  exact .inr ⟨m, h2.1, rfl, h2.2.1, h2.2.2.1, h2.2.2.2, fun h3 h4 => (ring_may hR hi h4 h).2.2 h3⟩
 ·
  exact .inl ⟨m, h2, rfl⟩
theorem MayAsk.knd (hR : rulesOk rules) {i : Nat} {k : Key} (h : MayAsk rules i k) : Knd rules k := by
 have := hR.len
 rcases h with ⟨n, h1, rfl⟩ | ⟨m, h1, rfl, _⟩
 ·
  exact .cell (by omega)
 ·
  exact .rule h1 (by omega)
theorem ask_in (hR : rulesOk rules) {i n : Nat} (hi : i < rules.length) (hn : n < rules[i].asks.length) (answers : List ByteArray) (hl : answers.length = n) :
  MayAsk rules i (if rules[i].asks[n].cell then cellK (toOf rules[i].asks[n] answers) else ofK rules (toOf rules[i].asks[n] answers)) := by
 obtain ⟨_, h2, _⟩ := hR.at hi
 have h3 := h2 n _ (getElem_some hn)
 unfold askOk at h3
 rw [Bool.and_eq_true] at h3
 unfold toOf
 by_cases hp : pickNow rules[i].asks[n] answers = true
 ·
  rw [if_pos hp]
  have hpk : rules[i].asks[n].pick = true := by unfold pickNow at hp; simp at hp; exact hp.1
  rw [hpk] at h3
  simp only [if_true, Bool.and_eq_true] at h3
  exact may_key hR hi h3.2.2
 ·
  rw [if_neg hp]; exact may_key hR hi h3.1
/-- The turns of rule i. -/
theorem turn_ask (hR : rulesOk rules) {i : Nat} (hi : i < rules.length) {answers : List ByteArray} (hn : answers.length < asksN rules i) :
  ∃ a, turnV rules (ofK rules (i : Int)) answers = ⟨false, ⟨#[]⟩, a⟩ ∧ MayAsk rules i a ∧ (ringAt rules i = true → ∃ x, rules[i].asks[answers.length]? = some x ∧ a = askKey rules x) := by
 have h24 := hR.len
 rw [asksN_eq hi] at hn
 have hk := number_ofK hi (by omega : i ≤ 99)
 refine ⟨_, turnV_ask hk hi (by rw [hk]) hn, ask_in hR hi hn answers rfl, fun hr => ⟨_, getElem_some hn, ?_⟩⟩
 obtain ⟨_, h2, _⟩ := hR.at hi
 have h3 := h2 _ _ (getElem_some hn)
 unfold askOk at h3
 rw [Bool.and_eq_true] at h3
 have hring : rules[i].ring = true := by rw [← ringAt_get hi]; exact hr
 have hp : rules[i].asks[answers.length].pick = false := by
  cases h : rules[i].asks[answers.length].pick
  ·
   rfl
  ·
   rw [h, hring] at h3; simp at h3
 unfold askKey toOf pickNow
 rw [hp]; rfl
theorem turn_end (hR : rulesOk rules) {i : Nat} (hi : i < rules.length) {answers : List ByteArray} (hn : answers.length = asksN rules i) :
  turnV rules (ofK rules (i : Int)) answers = ⟨true, itoa (finalV rules[i].final rules[i].c.toNat (answers.map valS)), noKey⟩ := by
 have h24 := hR.len
 rw [asksN_eq hi] at hn
 have hk := number_ofK hi (by omega : i ≤ 99)
 rw [turnV_end hk hi (by rw [hk]) (by omega), List.take_of_length_le (by omega)]
theorem asksN_le (hR : rulesOk rules) {i : Nat} (hi : i < rules.length) : asksN rules i ≤ 6 := by rw [asksN_eq hi]; exact (hR.at hi).1
theorem lower_number (hR : rulesOk rules) {i : Nat} {k : Key} (h : MayAsk rules i k) (hr : ringAt rules i = false ∨ isCyclic k = false) : isInput k = true ∨ (number k).toNat < i := by
 have h24 := hR.len
 rcases h with ⟨n, h1, rfl⟩ | ⟨m, h1, rfl, h2, h3, h4, _⟩
 ·
  exact .inl (isInput_cellK (by omega))
 ·
  right
  rw [number_ofK h1 (by omega)]
  rcases hr with hr | hr
  ·
   exact h3 hr
  ·
   rw [isCyclic_ofK h1 (by omega)] at hr; exact h4 hr
/-- A rule that is no ring has what it makes of the values of its asks. -/
theorem valI_rule (hR : rulesOk rules) {i : Nat} (hi : i < rules.length) (hr : ringAt rules i = false) :
  turnV rules (ofK rules (i : Int)) (runA (turnV rules (ofK rules (i : Int))) (valOf rules inp) (asksN rules i)).2 = ⟨true, valI rules inp i, noKey⟩ := by
 have h : valI rules inp i = (turnV rules (ofK rules (i : Int)) (runA (turnV rules (ofK rules (i : Int))) (valOf rules inp) (asksN rules i)).2).value := by
  unfold valI valueAt
  rw [if_neg (by simp [hr])]
  rw [runA_congr (ans := ansP inp (vals rules inp i)) (ans' := valOf rules inp) (asksN rules i)]
  intro m hm
  obtain ⟨a, h1, h2, _⟩ := turn_ask hR hi (answers := (runA (turnV rules (ofK rules (i : Int))) (ansP inp (vals rules inp i)) m).2) (by rw [(runA_len _ _ m).2]; exact hm)
  rw [h1]
  exact ansP_vals (lower_number hR h2 (.inl hr))
 rw [h]
 rw [turn_end hR hi ((runA_len _ _ _).2)]
/-! rings -/
theorem ring_asks (hR : rulesOk rules) {i : Nat} (hi : i < rules.length) (_hr : ringAt rules i = true) {x : Ask} (hx : x ∈ rules[i].asks) : mayOk rules i x.cell x.n = true := by
 obtain ⟨k, hk, rfl⟩ := List.mem_iff_getElem.1 hx
 have := (hR.at hi).2.1 k _ (getElem_some hk)
 unfold askOk at this
 rw [Bool.and_eq_true] at this
 exact this.1
theorem ringAsk.lt {i j : Nat} (h : ringAsk rules i j) : i < rules.length ∧ j < rules.length ∧ ringAt rules i = true ∧ ringAt rules j = true := by
 obtain ⟨r, x, h1, h2, _, _, _, h6⟩ := h
 have hi := (List.getElem?_eq_some_iff.1 h1).1
 refine ⟨hi, ?_, ?_, h6⟩
 ·
  rcases Nat.lt_or_ge j rules.length with h | h
  ·
   exact h
  ·
   rw [ringAt_out h] at h6; cases h6
 ·
  rw [ringAt_get hi]
  rw [getElem_some hi] at h1
  simp at h1; rw [h1]; exact h2
theorem reach_ring {i j : Nat} (hi : i < rules.length) (hr : ringAt rules i = true) (h : RReach rules i j) : j < rules.length ∧ ringAt rules j = true := by
 induction h with
 | refl => exact ⟨hi, hr⟩
 | step _ h2 _ => exact ⟨h2.lt.2.1, h2.lt.2.2.2⟩
theorem reach_lo (hR : rulesOk rules) {i j : Nat} (h : RReach rules i j) : blockLo rules j ≤ blockLo rules i := by
 induction h with
 | refl => exact Nat.le_refl _
 | step h1 h2 ih =>
  have hl := h2.lt
  obtain ⟨r, x, h3, h4, h5, h6, h7, h8⟩ := h2
  rw [getElem_some hl.1] at h3
  simp at h3
  subst h3
  have hm := ring_asks hR hl.1 hl.2.2.1 h5
  rw [h6, h7] at hm
  have := (ring_may hR hl.1 hl.2.2.1 hm).2.1 h8
  omega
theorem RReach.head {i j k : Nat} (h : ringAsk rules i j) (h2 : RReach rules j k) : RReach rules i k := by
 induction h2 with
 | refl => exact .step .refl h
 | step _ h4 ih => exact .step ih h4
theorem RReach.cases {i k : Nat} (h : RReach rules i k) : k = i ∨ ∃ j, ringAsk rules i j ∧ RReach rules j k := by
 induction h with
 | refl => exact .inl rfl
 | step h1 h2 ih =>
  right
  rcases ih with rfl | ⟨j, h3, h4⟩
  ·
   exact ⟨_, h2, .refl⟩
  ·
   exact ⟨j, h3, .step h4 h2⟩
theorem bitsV_bit : ∀ (l : List Nat) (c b : Nat), (bitsV c l).testBit b = true ↔ c.testBit b = true ∨ ∃ x ∈ l, x.testBit b = true := by
 intro l
 induction l with
 | nil => intro c b; simp [bitsV]
 | cons x r ih =>
  intro c b
  have := ih (c ||| x) b
  simp only [bitsV, List.foldl_cons] at this ⊢
  rw [this, Nat.testBit_or, Bool.or_eq_true]
  simp only [List.mem_cons]
  constructor
  ·
   rintro ((h | h) | ⟨y, h1, h2⟩)
   ·
    exact .inl h
   ·
    exact .inr ⟨x, .inl rfl, h⟩
   ·
    exact .inr ⟨y, .inr h1, h2⟩
  ·
   rintro (h | ⟨y, rfl | h1, h2⟩)
   ·
    exact .inl (.inl h)
   ·
    exact .inl (.inr h2)
   ·
    exact .inr ⟨y, h1, h2⟩
theorem ring_c (hR : rulesOk rules) {i : Nat} (hi : i < rules.length) (hr : ringAt rules i = true) : rules[i].final = 5 ∧ rules[i].c.toNat ≤ 65535 := by
 have h := (hR.at hi).2.2
 unfold endOk at h
 rw [ringAt_get hi] at hr
 rw [hr] at h
 simp at h
 exact ⟨h.1.1, by omega⟩
theorem lt_of_bit {n b : Nat} (h : n ≤ 65535) (hb : n.testBit b = true) : b < 16 := by
 rcases Nat.lt_or_ge b 16 with h1 | h1
 ·
  exact h1
 ·
  have := Nat.ge_two_pow_of_testBit hb
  have h2 : 2 ^ 16 ≤ 2 ^ b := Nat.pow_le_pow_right (by omega) h1
  omega
theorem baseV_bit {ans : Key → ByteArray} {i : Nat} (hi : i < rules.length) (b : Nat) :
  (baseV rules ans i).testBit b = true ↔ rules[i].c.toNat.testBit b = true ∨ ∃ x ∈ rules[i].asks, outside rules x = true ∧ (valS (ans (askKey rules x))).testBit b = true := by
 unfold baseV
 rw [getElem_some hi]
 simp only [bitsV_bit, List.mem_map, List.mem_filter]
 constructor
 ·
  rintro (h | ⟨_, ⟨x, ⟨h1, h2⟩, rfl⟩, h3⟩)
  ·
   exact .inl h
  ·
   exact .inr ⟨x, h1, h2, h3⟩
 ·
  rintro (h | ⟨x, h1, h2, h3⟩)
  ·
   exact .inl h
  ·
   exact .inr ⟨_, ⟨x, ⟨h1, h2⟩, rfl⟩, h3⟩
theorem baseV_lt (hR : rulesOk rules) {ans : Key → ByteArray} {i : Nat} (hi : i < rules.length) (hr : ringAt rules i = true) {b : Nat} (h : (baseV rules ans i).testBit b = true) : b < 16 := by
 rcases (baseV_bit hi b).1 h with h1 | ⟨x, _, _, h1⟩
 ·
  exact lt_of_bit (ring_c hR hi hr).2 h1
 ·
  exact lt_of_bit (valS_le _) h1
theorem ringB_bit (hR : rulesOk rules) {ans : Key → ByteArray} {i : Nat} (hi : i < rules.length) (hr : ringAt rules i = true) (b : Nat) :
  (ringB rules ans i).testBit b = true ↔ ∃ j, RReach rules i j ∧ (baseV rules ans j).testBit b = true := by
 unfold ringB
 rw [ofBits_bit]
 constructor
 ·
  exact fun h => h.2
 ·
  rintro ⟨j, h1, h2⟩
  have hj := reach_ring hi hr h1
  exact ⟨baseV_lt hR hj.1 hj.2 h2, j, h1, h2⟩
theorem ringB_le {ans : Key → ByteArray} (i : Nat) : ringB rules ans i ≤ 65535 := by
 have := ofBits_lt (fun b => ∃ j, RReach rules i j ∧ (baseV rules ans j).testBit b = true) 16
 unfold ringB; omega
/-- The value of a ring. -/
noncomputable def rv (rules : List Rule) (inp : List Inp) (i : Nat) : Nat := ringB rules (valOf rules inp) i
theorem askKey_lower (hR : rulesOk rules) {i : Nat} (hi : i < rules.length) (hr : ringAt rules i = true) {x : Ask} (hx : x ∈ rules[i].asks) (ho : outside rules x = true) : isInput (askKey rules x) = true ∨ (number (askKey rules x)).toNat < blockLo rules i := by
 have h24 := hR.len
 have hm := ring_asks hR hi hr hx
 obtain ⟨m, h1, h2⟩ := mayOk_key hi hR.len hm
 unfold askKey
 unfold outside at ho
 cases hc : x.cell
 ·
  rw [hc] at hm ho h2
  right
  simp only [Bool.false_eq_true, if_false] at h2 ⊢
  rw [h1] at hm ho ⊢
  rw [number_ofK h2.1 (by omega)]
  refine (ring_may hR hi hr hm).2.2 ?_
  simpa using ho
 ·
  left
  rw [hc] at h2
  simp only [if_true] at h2 ⊢
  rw [h1]
  exact isInput_cellK (by omega)
theorem valI_ring (hR : rulesOk rules) {i : Nat} (hi : i < rules.length) (hr : ringAt rules i = true) : valI rules inp i = itoa (rv rules inp i : Int) := by
 unfold valI valueAt rv
 rw [if_pos hr]
 congr 2
 refine Nat.eq_of_testBit_eq fun b => ?_
 rw [Bool.eq_iff_iff, ringB_bit hR hi hr, ringB_bit hR hi hr]
 have key : ∀ j, RReach rules i j → ((baseV rules (ansP inp (vals rules inp i)) j).testBit b = true ↔ (baseV rules (valOf rules inp) j).testBit b = true) := by
  intro j h
  have hj := reach_ring hi hr h
  have hlo := reach_lo hR h
  have hle := blockLo_le rules i
  rw [baseV_bit hj.1, baseV_bit hj.1]
  refine or_congr_right (exists_congr fun x => and_congr_right fun hx => and_congr_right fun ho => ?_)
  rw [ansP_vals]
  rcases askKey_lower hR hj.1 hj.2 hx ho with h1 | h1
  ·
   exact .inl h1
  ·
   exact .inr (by omega)
 exact exists_congr fun j => and_congr_right fun h => key j h
theorem valOf_ofK (hR : rulesOk rules) {i : Nat} (hi : i < rules.length) : valOf rules inp (ofK rules (i : Int)) = valI rules inp i := by
 have h24 := hR.len
 unfold valOf
 rw [if_neg (by rw [isInput_ofK hi (by omega)]; simp), number_ofK hi (by omega)]
 rfl
/-- The answers that a ring gets. -/
def ringAns (rules : List Rule) (ans : Key → ByteArray) (i : Nat) : List Nat := ((rules[i]?.map (·.asks)).getD []).map fun x => valS (ans (askKey rules x))
theorem ring_runA (hR : rulesOk rules) {i : Nat} (hi : i < rules.length) (hr : ringAt rules i = true) (ans : Key → ByteArray) : ∀ n, n ≤ rules[i].asks.length →
  runA (turnV rules (ofK rules (i : Int))) ans n = ((rules[i].asks.take n).map (askKey rules), (rules[i].asks.take n).map fun x => ans (askKey rules x)) := by
 intro n
 induction n with
 | zero => intro _; simp [runA]
 | succ n ih =>
  intro hn
  have e := ih (by omega)
  simp only [runA]
  have hlen : ((rules[i].asks.take n).map fun x => ans (askKey rules x)).length = n := by simp; omega
  obtain ⟨a, h1, _, h3⟩ := turn_ask hR hi (answers := (rules[i].asks.take n).map fun x => ans (askKey rules x)) (by rw [hlen, asksN_eq hi]; omega)
  obtain ⟨x, h4, h5⟩ := h3 hr
  rw [hlen, getElem_some (by omega : n < rules[i].asks.length)] at h4
  simp at h4
  rw [e, h1]
  simp only [List.take_succ_eq_append_getElem (by omega : n < rules[i].asks.length), List.map_append, List.map_cons, List.map_nil]
  rw [h5, ← h4]
theorem ring_turn (hR : rulesOk rules) {i : Nat} (hi : i < rules.length) (hr : ringAt rules i = true) (ans : Key → ByteArray) :
  turnV rules (ofK rules (i : Int)) (runA (turnV rules (ofK rules (i : Int))) ans (asksN rules i)).2 = ⟨true, itoa (bitsV rules[i].c.toNat (ringAns rules ans i) : Int), noKey⟩ := by
 rw [turn_end hR hi ((runA_len _ _ _).2), ring_runA hR hi hr ans _ (by rw [asksN_eq hi]; exact Nat.le_refl _), (ring_c hR hi hr).1, asksN_eq hi]
 unfold ringAns
 rw [getElem_some hi]
 simp only [List.take_length, List.map_map, Option.map_some, Option.getD_some]
 rfl
theorem ringAns_bit {ans : Key → ByteArray} {i : Nat} (hi : i < rules.length) (b : Nat) :
  (bitsV rules[i].c.toNat (ringAns rules ans i)).testBit b = true ↔ (baseV rules ans i).testBit b = true ∨ ∃ x ∈ rules[i].asks, outside rules x = false ∧ (valS (ans (askKey rules x))).testBit b = true := by
 rw [bitsV_bit, baseV_bit hi]
 unfold ringAns
 rw [getElem_some hi]
 simp only [Option.map_some, Option.getD_some, List.mem_map]
 constructor
 ·
  rintro (h | ⟨_, ⟨x, h1, rfl⟩, h2⟩)
  ·
   exact .inl (.inl h)
  ·
   cases ho : outside rules x
   ·
    exact .inr ⟨x, h1, ho, h2⟩
   ·
    exact .inl (.inr ⟨x, h1, ho, h2⟩)
 ·
  rintro ((h | ⟨x, h1, _, h2⟩) | ⟨x, h1, _, h2⟩)
  ·
   exact .inl h
  ·
   exact .inr ⟨_, ⟨x, h1, rfl⟩, h2⟩
  ·
   exact .inr ⟨_, ⟨x, h1, rfl⟩, h2⟩
/-- An ask of a ring for a ring. -/
theorem inside_ask (hR : rulesOk rules) {i : Nat} (hi : i < rules.length) (hr : ringAt rules i = true) {x : Ask} (hx : x ∈ rules[i].asks) (ho : outside rules x = false) : ∃ j : Nat, ringAsk rules i j ∧ askKey rules x = ofK rules (j : Int) ∧ j < rules.length := by
 have hm := ring_asks hR hi hr hx
 unfold outside at ho
 rw [Bool.or_eq_false_iff] at ho
 obtain ⟨m, h1, h2⟩ := mayOk_key hi hR.len hm
 rw [ho.1] at h2
 simp only [Bool.false_eq_true, if_false] at h2
 have hmr : ringAt rules m = true := by have := ho.2; rw [h1] at this; simpa using this
 refine ⟨m, ⟨_, x, getElem_some hi, by rw [← ringAt_get hi]; exact hr, hx, ho.1, h1, hmr⟩, ?_, h2.1⟩
 unfold askKey
 rw [ho.1, h1]; rfl
theorem ask_inside {i j : Nat} (hi : i < rules.length) (h : ringAsk rules i j) : ∃ x ∈ rules[i].asks, outside rules x = false ∧ askKey rules x = ofK rules (j : Int) := by
 obtain ⟨r, x, h1, _, h3, h4, h5, h6⟩ := h
 rw [getElem_some hi] at h1
 simp at h1
 subst h1
 refine ⟨x, h3, ?_, ?_⟩
 ·
  unfold outside; rw [h4, h5]; simp [h6]
 ·
  unfold askKey; rw [h4, h5]; rfl
/-- The values of rings are what their rules make of the values of their asks. -/
theorem rv_fix (hR : rulesOk rules) {i : Nat} (hi : i < rules.length) (hr : ringAt rules i = true) : bitsV rules[i].c.toNat (ringAns rules (valOf rules inp) i) = rv rules inp i := by
 refine Nat.eq_of_testBit_eq fun b => ?_
 rw [Bool.eq_iff_iff, ringAns_bit hi]
 unfold rv
 rw [ringB_bit hR hi hr]
 have hval : ∀ j, j < rules.length → ringAt rules j = true → valS (valOf rules inp (ofK rules (j : Int))) = ringB rules (valOf rules inp) j := fun j hj hrj => by
  rw [valOf_ofK hR hj, valI_ring hR hj hrj]
  exact valS_itoa (ringB_le j)
 constructor
 ·
  rintro (h | ⟨x, h1, h2, h3⟩)
  ·
   exact ⟨i, .refl, h⟩
  ·
   obtain ⟨j, h4, h5, h6⟩ := inside_ask hR hi hr h1 h2
   rw [h5, hval j h6 h4.lt.2.2.2, ringB_bit hR h6 h4.lt.2.2.2] at h3
   obtain ⟨k, h7, h8⟩ := h3
   exact ⟨k, .head h4 h7, h8⟩
 ·
  rintro ⟨k, h1, h2⟩
  rcases h1.cases with rfl | ⟨j, h3, h4⟩
  ·
   exact .inl h2
  ·
   right
   obtain ⟨x, h5, h6, h7⟩ := ask_inside hi h3
   refine ⟨x, h5, h6, ?_⟩
   rw [h7, hval j h3.lt.2.1 h3.lt.2.2.2, ringB_bit hR h3.lt.2.1 h3.lt.2.2.2]
   exact ⟨k, h4, h2⟩
/-- .. and the least such values. -/
theorem rv_least (hR : rulesOk rules) {i : Nat} (hi : i < rules.length) (hr : ringAt rules i = true) (v : Nat → Nat)
  (h1 : ∀ j b, RReach rules i j → (baseV rules (valOf rules inp) j).testBit b = true → (v j).testBit b = true)
  (h2 : ∀ j k b, RReach rules i j → ringAsk rules j k → (v k).testBit b = true → (v j).testBit b = true) (b : Nat) (hb : (rv rules inp i).testBit b = true) : (v i).testBit b = true := by
 unfold rv at hb
 rw [ringB_bit hR hi hr] at hb
 obtain ⟨j, h3, h4⟩ := hb
 have h5 := h1 j b h3 h4
 clear h4
 induction h3 with
 | refl => exact h5
 | step h6 h7 ih => exact ih (h2 _ _ b h6 h7 h5)
/-- Each value is what its rule makes of the values of its asks. -/
theorem valOf_turn (hR : rulesOk rules) {i : Nat} (hi : i < rules.length) :
  turnV rules (ofK rules (i : Int)) (runA (turnV rules (ofK rules (i : Int))) (valOf rules inp) (asksN rules i)).2 = ⟨true, valOf rules inp (ofK rules (i : Int)), noKey⟩ := by
 rw [valOf_ofK hR hi]
 cases hr : ringAt rules i
 ·
  exact valI_rule hR hi hr
 ·
  rw [ring_turn hR hi hr, rv_fix hR hi hr, valI_ring hR hi hr]
end
end Go.Rc

namespace Go.Rc
open Go
/-- What holds as long as what is frozen is as it is. -/
structure FZ where
 p : (Nat → Prop) → World → Prop
 mono : ∀ {Z Z' : Nat → Prop} {w}, (∀ x, Z x → Z' x) → p Z w → p Z' w
 st : ∀ {Z : Nat → Prop} {w w' : World}, w.heap.size ≤ w'.heap.size → (∀ x, Z x → x < w.heap.size → w'.heap[x]? = w.heap[x]?) → p Z w → p Z w'
def FZ.rd {α : Type} (R : RR α) (k : Nat) (a : Option Addr) (n c : Nat) (xs : List α) : FZ := ⟨fun Z w => Rd R k Z w a n c xs, fun h => Rd.mono h, fun h1 h2 => Rd.st h1 h2⟩
def FZ.and (F G : FZ) : FZ := ⟨fun Z w => F.p Z w ∧ G.p Z w, fun h ⟨a, b⟩ => ⟨F.mono h a, G.mono h b⟩, fun h1 h2 ⟨a, b⟩ => ⟨F.st h1 h2 a, G.st h1 h2 b⟩⟩
def FZ.tab (P : Program) : FZ where
 p Z w := Tab P Z w
 mono h := fun ⟨b, h1, h2⟩ => ⟨b, h _ h1, h2⟩
 st h1 h2 := fun ⟨b, h3, h4, h5⟩ => ⟨b, h3, Nat.lt_of_lt_of_le h4 h1, fun w' e => h5 w' (e.trans (h2 b h3 h4))⟩
def As.fz (F : FZ) : As where
 fp _ := False
 ok Z w := F.p Z w
 lt _ _ hx := hx.elim
 mono h := F.mono h
 st h1 h2 := F.st h1 fun x hx => h2 x (.inr hx)
theorem As.gf {F : FZ} {Z : Nat → Prop} {w : World} (h : (As.fz F).ok Z w) : F.p Z w := h
theorem FZ.step {F : FZ} {Z : Nat → Prop} {w w' : World} (h : F.p Z w) (s : Chg [] w w') : F.p Z w' := F.st s.size (fun x _ hx => s.block x hx (by simp)) h
/-- Where a solver's data lie. -/
structure SD where
 (ar a1 a2 : Option Addr) (r cr n1 c1 n2 c2 m q s : Nat)
/-- What a solver reads. -/
def SD.F (D : SD) (P : Program) (rules : List Rule) (x : Bas) : FZ :=
 .and (.rd RR.rule 4 D.ar D.r D.cr rules) (.and (.rd RR.inp 4 D.a1 D.n1 D.c1 x.inputs) (.and (.rd RR.rcd 8 D.a2 D.n2 D.c2 x.recs) (.tab P)))
def SD.cells (D : SD) (x : Bas) : List Value :=
 [.slice D.ar D.r D.cr, .int .i64 x.revision, .slice D.a1 D.n1 D.c1, .slice D.a2 D.n2 D.c2, .map (some D.m), .map (some D.q)]
section
variable {D : SD} {P : Program} {rules : List Rule} {x : Bas} {Z : Nat → Prop} {w : World}
theorem SD.hu (h : (D.F P rules x).p Z w) : Rd RR.rule 4 Z w D.ar D.r D.cr rules := h.1
theorem SD.hi (h : (D.F P rules x).p Z w) : Rd RR.inp 4 Z w D.a1 D.n1 D.c1 x.inputs := h.2.1
theorem SD.hr (h : (D.F P rules x).p Z w) : Rd RR.rcd 8 Z w D.a2 D.n2 D.c2 x.recs := h.2.2.1
theorem SD.ht (h : (D.F P rules x).p Z w) : Tab P Z w := h.2.2.2
end
/-- A memory of values. -/
def MemoOk (rules : List Rule) (inp : List Inp) (ml : List (Key × Value)) : Prop := ∀ k v, mget ml k = some v → v = .string (valOf rules inp k)
section
variable {rules : List Rule} {inp : List Inp}
theorem MemoOk.nil : MemoOk rules inp [] := fun k v h => by simp [mget] at h
theorem MemoOk.put {ml : List (Key × Value)} (h : MemoOk rules inp ml) (k : Key) : MemoOk rules inp (mput ml k (.string (valOf rules inp k))) := fun k' v hv => by
 rw [mget_put] at hv
 split at hv
 ·
  rename_i e; simp at hv; rw [← hv, ← e]
 ·
  exact h k' v hv
def sub16 (m n : Nat) : Prop := ∀ b, m.testBit b = true → n.testBit b = true
theorem sub16.le {m n : Nat} (h : sub16 m n) : m ≤ n := by
 have e : m ||| n = n := Nat.eq_of_testBit_eq fun b => by
  rw [Nat.testBit_or]
  cases hm : m.testBit b
  ·
   simp
  ·
   simp [h b hm]
 rw [← e]; exact Nat.left_le_or
/-- The answers that a ring gets from these values of rings. -/
noncomputable def ansR (rules : List Rule) (inp : List Inp) (v : Nat → Nat) (k : Key) : ByteArray := if isCyclic k then itoa (v (number k).toNat : Int) else valOf rules inp k
/-- What rule j, a ring, makes of these values of rings. -/
noncomputable def FF (rules : List Rule) (inp : List Inp) (v : Nat → Nat) (j : Nat) : Nat := bitsV ((rules[j]?.map (·.c.toNat)).getD 0) (ringAns rules (ansR rules inp v) j)
theorem askKey_out (hR : rulesOk rules) {i : Nat} (hi : i < rules.length) (hr : ringAt rules i = true) {x : Ask} (hx : x ∈ rules[i].asks) (ho : outside rules x = true) : isCyclic (askKey rules x) = false := by
 have h24 := hR.len
 have hm := ring_asks hR hi hr hx
 obtain ⟨m, h1, h2⟩ := mayOk_key hi hR.len hm
 unfold outside at ho
 unfold askKey
 cases hc : x.cell
 ·
  rw [hc] at h2 ho
  simp only [Bool.false_eq_true, if_false] at h2 ⊢
  rw [h1] at ho ⊢
  rw [isCyclic_ofK h2.1 (by omega)]
  simpa using ho
 ·
  rw [hc] at h2
  simp only [if_true] at h2 ⊢
  rw [h1, isCyclic_cellK (by omega)]
theorem FF_bit (hR : rulesOk rules) {v : Nat → Nat} (hv : ∀ j, v j ≤ 65535) {i : Nat} (hi : i < rules.length) (hr : ringAt rules i = true) (b : Nat) :
  (FF rules inp v i).testBit b = true ↔ (baseV rules (valOf rules inp) i).testBit b = true ∨ ∃ j, ringAsk rules i j ∧ (v j).testBit b = true := by
 have h24 := hR.len
 unfold FF
 rw [getElem_some hi]
 simp only [Option.map_some, Option.getD_some]
 rw [ringAns_bit hi]
 refine or_congr ?_ ?_
 ·
  rw [baseV_bit hi, baseV_bit hi]
  refine or_congr_right (exists_congr fun x => and_congr_right fun hx => and_congr_right fun ho => ?_)
  unfold ansR
  rw [if_neg (by rw [askKey_out hR hi hr hx ho]; simp)]
 ·
  constructor
  ·
   rintro ⟨x, h1, h2, h3⟩
   obtain ⟨j, h4, h5, h6⟩ := inside_ask hR hi hr h1 h2
   refine ⟨j, h4, ?_⟩
   unfold ansR at h3
   rw [h5, if_pos (by rw [isCyclic_ofK h6 (by omega)]; exact h4.lt.2.2.2), number_ofK h6 (by omega), Int.toNat_natCast, valS_itoa (hv j)] at h3
   exact h3
  ·
   rintro ⟨j, h4, h5⟩
   obtain ⟨x, h1, h2, h3⟩ := ask_inside hi h4
   refine ⟨x, h1, h2, ?_⟩
   unfold ansR
   rw [h3, if_pos (by rw [isCyclic_ofK h4.lt.2.1 (by have := h4.lt.2.1; omega)]; exact h4.lt.2.2.2), number_ofK h4.lt.2.1 (by have := h4.lt.2.1; omega), Int.toNat_natCast, valS_itoa (hv j)]
   exact h5
theorem rv_le (i : Nat) : rv rules inp i ≤ 65535 := ringB_le i
theorem rv_bit (hR : rulesOk rules) {i : Nat} (hi : i < rules.length) (hr : ringAt rules i = true) (b : Nat) :
  (rv rules inp i).testBit b = true ↔ (baseV rules (valOf rules inp) i).testBit b = true ∨ ∃ j, ringAsk rules i j ∧ (rv rules inp j).testBit b = true := by
 unfold rv
 rw [ringB_bit hR hi hr]
 constructor
 ·
  rintro ⟨k, h1, h2⟩
  rcases h1.cases with rfl | ⟨j, h3, h4⟩
  ·
   exact .inl h2
  ·
   exact .inr ⟨j, h3, (ringB_bit hR h3.lt.2.1 h3.lt.2.2.2 b).2 ⟨k, h4, h2⟩⟩
 ·
  rintro (h | ⟨j, h3, h4⟩)
  ·
   exact ⟨i, .refl, h⟩
  ·
   obtain ⟨k, h5, h6⟩ := (ringB_bit hR h3.lt.2.1 h3.lt.2.2.2 b).1 h4
   exact ⟨k, .head h3 h5, h6⟩
theorem FF_mono (hR : rulesOk rules) {v v' : Nat → Nat} (hv : ∀ j, v j ≤ 65535) (hv' : ∀ j, v' j ≤ 65535) (h : ∀ j, sub16 (v j) (v' j)) {i : Nat} (hi : i < rules.length) (hr : ringAt rules i = true) : sub16 (FF rules inp v i) (FF rules inp v' i) := fun b hb => by
 rw [FF_bit hR hv hi hr] at hb
 rw [FF_bit hR hv' hi hr]
 rcases hb with hb | ⟨j, h1, h2⟩
 ·
  exact .inl hb
 ·
  exact .inr ⟨j, h1, h j b h2⟩
/-- The rounds of a solver: the rings that it has met, and their values so far. -/
structure Rounds (rules : List Rule) (inp : List Inp) (i0 : Nat) (L : List Nat) (u : Nat → Nat) : Prop where
 nodup : L.Nodup
 first : i0 ∈ L
 ring : ∀ j ∈ L, j < rules.length ∧ ringAt rules j = true
 out : ∀ j, j ∉ L → u j = 0
 le : ∀ j, u j ≤ 65535
 low : ∀ j, sub16 (u j) (rv rules inp j)
 reach : ∀ j ∈ L, RReach rules i0 j
/-- What is remembered comes before what is so far. -/
noncomputable def eff (rules : List Rule) (inp : List Inp) (u : Nat → Nat) (ml : List (Key × Value)) (k : Nat) : Nat := if (mget ml (ofK rules (k : Int))).isSome then rv rules inp k else u k
def MLe (ml ml' : List (Key × Value)) : Prop := ∀ k v, mget ml k = some v → mget ml' k = some v
def UpOk (rules : List Rule) (inp : List Inp) (L : List Nat) (u : Nat → Nat) (ml : List (Key × Value)) : Prop := ∀ j ∈ L, sub16 (u j) (FF rules inp (eff rules inp u ml) j)
/-- Rule j is settled. -/
def Settled (rules : List Rule) (inp : List Inp) (L : List Nat) (u : Nat → Nat) (j : Nat) : Prop :=
 sub16 (baseV rules (valOf rules inp) j) (u j) ∧ ∀ k, ringAsk rules j k → (k ∈ L → sub16 (u k) (u j)) ∧ (k ∉ L → sub16 (rv rules inp k) (u j))
def potA (n : Nat) (v : Nat → Nat) : Nat := ((List.range n).map fun j => 65535 - v j).sum
def pot (rules : List Rule) (L : List Nat) (v : Nat → Nat) : Nat := potA rules.length v + (rules.length - L.length)
theorem MLe.refl (ml : List (Key × Value)) : MLe ml ml := fun _ _ h => h
theorem MLe.trans {a b c : List (Key × Value)} (h : MLe a b) (k : MLe b c) : MLe a c := fun x v e => k x v (h x v e)
theorem MLe.put {ml : List (Key × Value)} (hm : MemoOk rules inp ml) (k : Key) : MLe ml (mput ml k (.string (valOf rules inp k))) := fun x v h => by
 rw [mget_put]
 split
 ·
  rename_i e; subst e; rw [hm _ _ h]
 ·
  exact h
theorem eff_le {u : Nat → Nat} {ml : List (Key × Value)} (h : ∀ j, u j ≤ 65535) (k : Nat) : eff rules inp u ml k ≤ 65535 := by unfold eff; split; exact rv_le k; exact h k
theorem eff_low {u : Nat → Nat} {ml : List (Key × Value)} (h : ∀ j, sub16 (u j) (rv rules inp j)) (k : Nat) : sub16 (eff rules inp u ml k) (rv rules inp k) := by unfold eff; split; exact fun _ h => h; exact h k
theorem eff_mono {u u' : Nat → Nat} {ml ml' : List (Key × Value)} (h : ∀ j, sub16 (u j) (rv rules inp j)) (hu : ∀ j, sub16 (u j) (u' j)) (hm : MLe ml ml') (k : Nat) : sub16 (eff rules inp u ml k) (eff rules inp u' ml' k) := by
 unfold eff
 cases h1 : mget ml (ofK rules (k : Int)) with
 | some v => rw [hm _ _ h1]; simp; exact fun _ h => h
 | none =>
  simp only [Option.isSome_none, Bool.false_eq_true, if_false]
  split
  ·
   exact h k
  ·
   exact hu k
theorem UpOk.mono (hR : rulesOk rules) {i0 : Nat} {L : List Nat} {u : Nat → Nat} {ml ml' : List (Key × Value)} (hr : Rounds rules inp i0 L u) (h : UpOk rules inp L u ml) (hm : MLe ml ml') : UpOk rules inp L u ml' := fun j hj b hb =>
 FF_mono hR (eff_le hr.le) (eff_le hr.le) (eff_mono hr.low (fun _ _ h => h) hm) (hr.ring j hj).1 (hr.ring j hj).2 b (h j hj b hb)
theorem Rounds.start {i0 : Nat} (hi : i0 < rules.length) (hr : ringAt rules i0 = true) : Rounds rules inp i0 [i0] fun _ => 0 where
 nodup := by simp
 first := by simp
 ring j hj := by simp at hj; subst hj; exact ⟨hi, hr⟩
 out _ _ := rfl
 le _ := by omega
 low _ b h := by simp at h
 reach j hj := by simp at hj; subst hj; exact .refl
theorem UpOk.start {i0 : Nat} {ml : List (Key × Value)} : UpOk rules inp [i0] (fun _ => 0) ml := fun _ _ b h => by simp at h
theorem nodup_le : ∀ {n : Nat} {L : List Nat}, L.Nodup → (∀ j ∈ L, j < n) → L.length ≤ n := by
 intro n
 induction n with
 | zero => intro L _ hl; cases L with
  | nil => simp
  | cons a r => exact absurd (hl a (by simp)) (by omega)
 | succ n ih =>
  intro L h hl
  have h1 := ih (h.erase n) fun j hj => by
   rw [h.mem_erase_iff] at hj
   have := hl j hj.2
   have := hj.1
   omega
  rw [List.length_erase] at h1
  split at h1 <;> omega
theorem Rounds.len {i0 : Nat} {L : List Nat} {v : Nat → Nat} (h : Rounds rules inp i0 L v) : L.length ≤ rules.length := nodup_le h.nodup fun j hj => (h.ring j hj).1
theorem Rounds.meet {i0 : Nat} {L : List Nat} {v : Nat → Nat} (h : Rounds rules inp i0 L v) {j : Nat} (hj : j < rules.length) (hr : ringAt rules j = true) (hn : j ∉ L) (hre : RReach rules i0 j) : Rounds rules inp i0 (L ++ [j]) v where
 nodup := by rw [List.nodup_append]; exact ⟨h.nodup, by simp, by intro a ha b hb; simp at hb; subst hb; rintro rfl; exact hn ha⟩
 first := by simp [h.first]
 ring k hk := by
  rcases List.mem_append.1 hk with hk | hk
  ·
   exact h.ring k hk
  ·
   simp at hk; subst hk; exact ⟨hj, hr⟩
 out k hk := h.out k fun hm => hk (by simp [hm])
 le := h.le
 low := h.low
 reach k hk := by
  rcases List.mem_append.1 hk with hk | hk
  ·
   exact h.reach k hk
  ·
   simp at hk; subst hk; exact hre
theorem UpOk.meet {L : List Nat} {u : Nat → Nat} {ml : List (Key × Value)} (h : UpOk rules inp L u ml) {j : Nat} (hu : u j = 0) : UpOk rules inp (L ++ [j]) u ml := fun k hk => by
 rcases List.mem_append.1 hk with hk | hk
 ·
  exact h k hk
 ·
  simp at hk; subst hk; rw [hu]; intro b hb; simp at hb
theorem Rounds.meet_lt {i0 : Nat} {L : List Nat} {v : Nat → Nat} (h : Rounds rules inp i0 L v) {j : Nat} (hj : j < rules.length) (hr : ringAt rules j = true) (hn : j ∉ L) (hre : RReach rules i0 j) : L.length < rules.length := by
 have := (h.meet hj hr hn hre).len
 rw [List.length_append] at this; simp at this; omega
theorem pot_meet {L : List Nat} {v : Nat → Nat} {j : Nat} (hl : L.length < rules.length) : pot rules (L ++ [j]) v < pot rules L v := by
 unfold pot; rw [List.length_append]; simp; omega
def setV (v : Nat → Nat) (j u : Nat) : Nat → Nat := fun k => if k = j then u else v k
theorem potA_set : ∀ n (v : Nat → Nat) (j u : Nat), v j ≤ u → potA n (setV v j u) ≤ potA n v ∧ (j < n → v j < u → u ≤ 65535 → potA n (setV v j u) < potA n v) := by
 intro n
 induction n with
 | zero => intro v j u _; simp [potA]
 | succ n ih =>
  intro v j u h
  obtain ⟨h1, h2⟩ := ih v j u h
  unfold potA at h1 h2 ⊢
  simp only [List.range_succ, List.map_append, List.map_cons, List.map_nil, List.sum_append, List.sum_cons, List.sum_nil]
  have h3 : 65535 - setV v j u n ≤ 65535 - v n := by
   unfold setV; split
   ·
    rename_i e; subst e; omega
   ·
    omega
  refine ⟨by omega, fun h4 h5 h6 => ?_⟩
  by_cases e : j = n
  ·
   have : 65535 - setV v j u n < 65535 - v n := by unfold setV; rw [if_pos e.symm]; subst e; omega
   omega
  ·
   have := h2 (by omega) h5 h6
   omega
theorem setV_mono {u : Nat → Nat} {j x : Nat} (h : sub16 (u j) x) : ∀ k, sub16 (u k) (setV u j x k) := fun k b hb => by
 unfold setV; split
 ·
  rename_i e; subst e; exact h b hb
 ·
  exact hb
theorem Rounds.set {i0 : Nat} {L : List Nat} {u : Nat → Nat} (h : Rounds rules inp i0 L u) {j x : Nat} (hj : j ∈ L) (hx : x ≤ 65535) (h2 : sub16 x (rv rules inp j)) : Rounds rules inp i0 L (setV u j x) where
 nodup := h.nodup
 first := h.first
 ring := h.ring
 out k hk := by unfold setV; rw [if_neg (fun e => hk (by rw [e]; exact hj))]; exact h.out k hk
 le k := by unfold setV; split; exact hx; exact h.le k
 low k b hb := by
  unfold setV at hb; split at hb
  ·
   rename_i e; subst e; exact h2 b hb
  ·
   exact h.low k b hb
 reach := h.reach
theorem UpOk.set (hR : rulesOk rules) {i0 : Nat} {L : List Nat} {u : Nat → Nat} {ml : List (Key × Value)} (hr : Rounds rules inp i0 L u) (h : UpOk rules inp L u ml) {j x : Nat} (hj : j ∈ L) (hx : x ≤ 65535) (h2 : sub16 x (rv rules inp j)) (h3 : sub16 (u j) x) (h4 : sub16 x (FF rules inp (eff rules inp u ml) j)) :
  UpOk rules inp L (setV u j x) ml := fun k hk => by
 have hr2 := hr.set hj hx h2
 have hm := FF_mono (inp := inp) hR (eff_le (inp := inp) (rules := rules) (ml := ml) hr.le) (eff_le hr2.le) (eff_mono hr.low (setV_mono h3) (MLe.refl ml)) (hr.ring k hk).1 (hr.ring k hk).2
 intro b hb
 refine hm b ?_
 unfold setV at hb; split at hb
 ·
  rename_i e; subst e; exact h4 b hb
 ·
  exact h k hk b hb
theorem pot_set {i0 : Nat} {L : List Nat} {u : Nat → Nat} (h : Rounds rules inp i0 L u) {j x : Nat} (hj : j ∈ L) (hx : x ≤ 65535) (h3 : sub16 (u j) x) (hne : u j ≠ x) : pot rules L (setV u j x) < pot rules L u := by
 have h1 := h3.le
 have := (potA_set rules.length u j x h1).2 (h.ring j hj).1 (by omega) hx
 unfold pot; omega
/-- When all is settled, these are the values. -/
theorem Rounds.done (hR : rulesOk rules) {i0 : Nat} {L : List Nat} {u : Nat → Nat} (h : Rounds rules inp i0 L u) (hs : ∀ j ∈ L, Settled rules inp L u j) : ∀ j ∈ L, u j = rv rules inp j := by
 intro j hj
 obtain ⟨hjl, hjr⟩ := h.ring j hj
 refine Nat.le_antisymm (h.low j).le (sub16.le fun b hb => ?_)
 have key := rv_least hR hjl hjr (fun k => if k ∈ L then u k else rv rules inp k) (fun k b hk hb => ?_) (fun k m b hk hkm hb => ?_) b hb
 ·
  simpa [hj] using key
 ·
  have hkr := reach_ring hjl hjr hk
  by_cases hm : k ∈ L
  ·
   simp only [if_pos hm]; exact (hs k hm).1 b hb
  ·
   simp only [if_neg hm]; exact (rv_bit hR hkr.1 hkr.2 b).2 (.inl hb)
 ·
  have hkr := reach_ring hjl hjr hk
  by_cases hk2 : k ∈ L
  ·
   simp only [if_pos hk2]
   by_cases hm : m ∈ L
   ·
    simp only [if_pos hm] at hb; exact ((hs k hk2).2 m hkm).1 hm b hb
   ·
    simp only [if_neg hm] at hb; exact ((hs k hk2).2 m hkm).2 hm b hb
  ·
   simp only [if_neg hk2]
   refine (rv_bit hR hkr.1 hkr.2 b).2 (.inr ⟨m, hkm, ?_⟩)
   by_cases hm : m ∈ L
   ·
    simp only [if_pos hm] at hb; exact h.low m b hb
   ·
    simp only [if_neg hm] at hb; exact hb
/-- The answers that rule j, a ring, has got so far. -/
structure Ev (rules : List Rule) (inp : List Inp) (u : Nat → Nat) (L : List Nat) (ml0 ml : List (Key × Value)) (qs : List Ask) (n : Nat) (acc : List ByteArray) : Prop where
 len : acc.length = n
 out : ∀ m (h : m < qs.length), m < n → outside rules qs[m] = true → acc[m]? = some (valOf rules inp (askKey rules qs[m]))
 ins : ∀ m (h : m < qs.length), m < n → outside rules qs[m] = false → ∀ k : Nat, qs[m].n = k →
  (acc[m]? = some (itoa (rv rules inp k : Int)) ∧ (mget ml (ofK rules (k : Int))).isSome = true) ∨ (acc[m]? = some (itoa (u k : Int)) ∧ k ∈ L ∧ mget ml0 (ofK rules (k : Int)) = none)
theorem Ev.start {u : Nat → Nat} {L : List Nat} {ml : List (Key × Value)} {qs : List Ask} : Ev rules inp u L ml ml qs 0 [] := ⟨rfl, fun _ _ h => by omega, fun _ _ h => by omega⟩
theorem Ev.mono {u : Nat → Nat} {L L' : List Nat} {ml0 ml ml' : List (Key × Value)} {qs : List Ask} {n : Nat} {acc : List ByteArray} (h : Ev rules inp u L ml0 ml qs n acc) (hL : ∀ k ∈ L, k ∈ L') (hm : MLe ml ml') : Ev rules inp u L' ml0 ml' qs n acc :=
 ⟨h.len, h.out, fun m h1 h2 h3 k h4 => by
  rcases h.ins m h1 h2 h3 k h4 with ⟨h5, h6⟩ | ⟨h5, h6, h7⟩
  ·
   obtain ⟨v, hv⟩ := Option.isSome_iff_exists.1 h6
   exact .inl ⟨h5, by rw [hm _ _ hv]; rfl⟩
  ·
   exact .inr ⟨h5, hL k h6, h7⟩⟩
theorem Ev.snoc {u : Nat → Nat} {L : List Nat} {ml0 ml : List (Key × Value)} {qs : List Ask} {n : Nat} {acc : List ByteArray} (h : Ev rules inp u L ml0 ml qs n acc) (s : ByteArray)
  (ho : ∀ (h : n < qs.length), outside rules qs[n] = true → s = valOf rules inp (askKey rules qs[n]))
  (hi : ∀ (h : n < qs.length), outside rules qs[n] = false → ∀ k : Nat, qs[n].n = k → (s = itoa (rv rules inp k : Int) ∧ (mget ml (ofK rules (k : Int))).isSome = true) ∨ (s = itoa (u k : Int) ∧ k ∈ L ∧ mget ml0 (ofK rules (k : Int)) = none)) :
  Ev rules inp u L ml0 ml qs (n + 1) (acc ++ [s]) where
 len := by simp [h.len]
 out m h1 h2 h3 := by
  rcases Nat.lt_or_ge m n with h4 | h4
  ·
   rw [List.getElem?_append_left (by rw [h.len]; exact h4)]; exact h.out m h1 h4 h3
  ·
   have : m = n := by omega
   subst this
   rw [List.getElem?_append_right (by rw [h.len]; omega), h.len, ho h1 h3]; simp
 ins m h1 h2 h3 k hk := by
  rcases Nat.lt_or_ge m n with h4 | h4
  ·
   rw [List.getElem?_append_left (by rw [h.len]; exact h4)]; exact h.ins m h1 h4 h3 k hk
  ·
   have : m = n := by omega
   subst this
   rw [List.getElem?_append_right (by rw [h.len]; omega), h.len]
   simpa using hi h1 h3 k hk
/-- What rule j makes of its answers. -/
theorem Ev.val (hR : rulesOk rules) {i0 : Nat} {L : List Nat} {u : Nat → Nat} {ml0 ml : List (Key × Value)} {j : Nat} {acc : List ByteArray} (hr : Rounds rules inp i0 L u) (hj : j < rules.length) (hrj : ringAt rules j = true) (h : Ev rules inp u L ml0 ml rules[j].asks rules[j].asks.length acc) :
  bitsV rules[j].c.toNat (acc.map valS) ≤ 65535 ∧ sub16 (bitsV rules[j].c.toNat (acc.map valS)) (rv rules inp j) ∧ sub16 (FF rules inp (eff rules inp u ml0) j) (bitsV rules[j].c.toNat (acc.map valS)) ∧
  sub16 (bitsV rules[j].c.toNat (acc.map valS)) (FF rules inp (eff rules inp u ml) j) ∧ (bitsV rules[j].c.toNat (acc.map valS) = u j → Settled rules inp L u j) := by
 obtain ⟨hlen, ho, hin⟩ := h
 have h24 := hR.len
 -- an answer, by its place
 have hget : ∀ m (hm : m < rules[j].asks.length), ∃ s, acc[m]? = some s ∧ s ∈ acc := fun m hm => ⟨acc[m], getElem_some (by omega), List.getElem_mem _⟩
 have hbase : sub16 (baseV rules (valOf rules inp) j) (bitsV rules[j].c.toNat (acc.map valS)) := fun b hb => by
  rw [bitsV_bit]
  rcases (baseV_bit hj b).1 hb with h1 | ⟨x, h1, h2, h3⟩
  ·
   exact .inl h1
  ·
   obtain ⟨m, hm, rfl⟩ := List.mem_iff_getElem.1 h1
   exact .inr ⟨_, List.mem_map.2 ⟨_, List.mem_of_getElem? (ho m hm hm h2), rfl⟩, h3⟩
 have hring : ∀ k, ringAsk rules j k → ∃ m, ∃ hm : m < rules[j].asks.length, outside rules rules[j].asks[m] = false ∧ rules[j].asks[m].n = (k : Int) := fun k hk => by
  obtain ⟨r, x, h1, _, h3, h4, h5, h6⟩ := hk
  rw [getElem_some hj] at h1
  simp at h1
  subst h1
  obtain ⟨m, hm, rfl⟩ := List.mem_iff_getElem.1 h3
  exact ⟨m, hm, by unfold outside; rw [h4, h5]; simp [h6], h5⟩
 have hmem : ∀ (m : Nat) (s : ByteArray) (b : Nat), acc[m]? = some s → (valS s).testBit b = true → (bitsV rules[j].c.toNat (acc.map valS)).testBit b = true := fun m s b h1 h2 => by
  rw [bitsV_bit]; exact .inr ⟨_, List.mem_map.2 ⟨_, List.mem_of_getElem? h1, rfl⟩, h2⟩
 have hup : ∀ (v : Nat → Nat), (∀ k, v k ≤ 65535) → (∀ k : Nat, (mget ml (ofK rules (k : Int))).isSome = true → sub16 (rv rules inp k) (v k)) → (∀ k : Nat, sub16 (u k) (v k)) → sub16 (bitsV rules[j].c.toNat (acc.map valS)) (FF rules inp v j) := fun v hv h1 h2 b hb => by
  rw [FF_bit hR hv hj hrj]
  rw [bitsV_bit] at hb
  rcases hb with hb | ⟨_, hs, hb⟩
  ·
   exact .inl ((baseV_bit hj b).2 (.inl hb))
  ·
   obtain ⟨s, hs2, rfl⟩ := List.mem_map.1 hs
   obtain ⟨m, hm, rfl⟩ := List.mem_iff_getElem.1 hs2
   have hm' : m < rules[j].asks.length := by omega
   cases hout : outside rules rules[j].asks[m]
   ·
    obtain ⟨k, h3, h4, h5⟩ := inside_ask hR hj hrj (List.getElem_mem hm') hout
    have hkn : rules[j].asks[m].n = (k : Int) := by
     obtain ⟨q, h6, h7⟩ := mayOk_key hj hR.len (ring_asks hR hj hrj (List.getElem_mem hm'))
     have hc : rules[j].asks[m].cell = false := by unfold outside at hout; rw [Bool.or_eq_false_iff] at hout; exact hout.1
     rw [hc] at h7
     simp only [Bool.false_eq_true, if_false] at h7
     unfold askKey at h4
     rw [hc, h6] at h4
     simp only [Bool.false_eq_true, if_false] at h4
     have h8 := number_ofK h7.1 (by omega : q ≤ 99)
     rw [h4, number_ofK h5 (by omega)] at h8
     rw [h6]; omega
    refine .inr ⟨k, h3, ?_⟩
    rcases hin m hm' hm' hout k hkn with ⟨h6, h7⟩ | ⟨h6, h7, _⟩
    ·
     rw [getElem_some hm] at h6
     simp at h6
     rw [h6, valS_itoa (rv_le k)] at hb
     exact h1 k h7 b hb
    ·
     rw [getElem_some hm] at h6
     simp at h6
     rw [h6, valS_itoa (hr.le k)] at hb
     exact h2 k b hb
   ·
    refine .inl ((baseV_bit hj b).2 (.inr ⟨_, List.getElem_mem hm', hout, ?_⟩))
    have h6 := ho m hm' hm' hout
    rw [getElem_some hm] at h6
    simp at h6
    rw [← h6]; exact hb
 refine ⟨?_, ?_, ?_, ?_, fun he => ⟨?_, fun k hk => ⟨fun hkL => ?_, fun hkL => ?_⟩⟩⟩
 ·
  refine bitsV_le (ring_c hR hj hrj).2 fun y hy => ?_
  obtain ⟨_, _, rfl⟩ := List.mem_map.1 hy
  exact valS_le _
 ·
  intro b hb
  have h1 := hup (rv rules inp) rv_le (fun _ _ _ h => h) hr.low b hb
  rw [FF_bit hR rv_le hj hrj] at h1
  exact (rv_bit hR hj hrj b).2 h1
 ·
  intro b hb
  rw [FF_bit hR (eff_le hr.le) hj hrj] at hb
  rcases hb with hb | ⟨k, h1, h2⟩
  ·
   exact hbase b hb
  ·
   obtain ⟨m, hm, h3, h4⟩ := hring k h1
   rcases hin m hm hm h3 k h4 with ⟨h6, h7⟩ | ⟨h6, h7, h8⟩
   ·
    exact hmem m _ b h6 (by rw [valS_itoa (rv_le k)]; exact eff_low hr.low k b h2)
   ·
    refine hmem m _ b h6 (by rw [valS_itoa (hr.le k)]; unfold eff at h2; rw [h8] at h2; simpa using h2)
 ·
  refine hup _ (eff_le hr.le) (fun k hk b hb => ?_) fun k b hb => ?_
  ·
   unfold eff; rw [if_pos hk]; exact hb
  ·
   unfold eff; split
   ·
    exact hr.low k b hb
   ·
    exact hb
 ·
  rw [← he]; exact hbase
 ·
  intro b hb
  rw [← he]
  obtain ⟨m, hm, h3, h4⟩ := hring k hk
  rcases hin m hm hm h3 k h4 with ⟨h6, h7⟩ | ⟨h6, h7, h8⟩
  ·
   exact hmem m _ b h6 (by rw [valS_itoa (rv_le k)]; exact hr.low k b hb)
  ·
   exact hmem m _ b h6 (by rw [valS_itoa (hr.le k)]; exact hb)
 ·
  intro b hb
  rw [← he]
  obtain ⟨m, hm, h3, h4⟩ := hring k hk
  rcases hin m hm hm h3 k h4 with ⟨h6, h7⟩ | ⟨h6, h7, h8⟩
  ·
   exact hmem m _ b h6 (by rw [valS_itoa (rv_le k)]; exact hb)
  ·
   exact absurd h7 hkL
/-- A map of the values so far. -/
def AtOk (rules : List Rule) (L : List Nat) (v : Nat → Nat) (am : List (Key × Value)) : Prop :=
 (∀ j ∈ L, mget am (ofK rules (j : Int)) = some (.string (itoa (v j : Int)))) ∧ ∀ k, (∀ j ∈ L, k ≠ ofK rules (j : Int)) → mget am k = none
theorem ofK_inj (hR : rulesOk rules) {i j : Nat} (hi : i < rules.length) (hj : j < rules.length) (h : ofK rules (i : Int) = ofK rules (j : Int)) : i = j := by
 have h24 := hR.len
 have h1 := number_ofK hi (by omega)
 rw [h, number_ofK hj (by omega)] at h1
 omega
theorem AtOk.meet (hR : rulesOk rules) {L : List Nat} {v : Nat → Nat} {am : List (Key × Value)} (h : AtOk rules L v am) (hL : ∀ j ∈ L, j < rules.length) {j : Nat} (hj : j < rules.length) (hn : j ∉ L) (hv : v j = 0) : AtOk rules (L ++ [j]) v (mput am (ofK rules (j : Int)) (.string ⟨#[48]⟩)) := by
 have e0 : itoa ((0 : Nat) : Int) = ⟨#[48]⟩ := by decide +kernel
 refine ⟨fun k hk => ?_, fun k hk => ?_⟩
 ·
  rw [mget_put]
  rcases List.mem_append.1 hk with hk | hk
  ·
   rw [if_neg (fun e => hn (by have := ofK_inj hR hj (hL k hk) e; rw [this]; exact hk))]
   exact h.1 k hk
  ·
   simp at hk; subst hk
   rw [if_pos rfl, hv, e0]
 ·
  rw [mget_put, if_neg (fun e => hk j (by simp) e.symm)]
  exact h.2 k fun m hm => hk m (by simp [hm])
theorem AtOk.set (hR : rulesOk rules) {L : List Nat} {v : Nat → Nat} {am : List (Key × Value)} (h : AtOk rules L v am) (hL : ∀ j ∈ L, j < rules.length) {j : Nat} (hj : j ∈ L) (u : Nat) : AtOk rules L (setV v j u) (mput am (ofK rules (j : Int)) (.string (itoa (u : Int)))) := by
 refine ⟨fun k hk => ?_, fun k hk => ?_⟩
 ·
  rw [mget_put]
  unfold setV
  by_cases e : k = j
  ·
   subst e; rw [if_pos rfl, if_pos rfl]
  ·
   rw [if_neg (fun e2 => e (ofK_inj hR (hL k hk) (hL j hj) e2.symm)), if_neg e]
   exact h.1 k hk
 ·
  rw [mget_put, if_neg (fun e => hk j hj e.symm)]
  exact h.2 k hk
end
theorem inside_key {rules : List Rule} (hR : rulesOk rules) {i : Nat} (hi : i < rules.length) (hr : ringAt rules i = true) {x : Ask} (hx : x ∈ rules[i].asks) (ho : outside rules x = false) {k : Nat} (hk : x.n = (k : Int)) : k < rules.length ∧ ringAt rules k = true ∧ askKey rules x = ofK rules (k : Int) := by
 have hm := ring_asks hR hi hr hx
 unfold outside at ho
 rw [Bool.or_eq_false_iff] at ho
 rw [ho.1, hk] at hm
 refine ⟨(ring_may hR hi hr hm).1, ?_, ?_⟩
 ·
  have := ho.2; rw [hk] at this; simpa using this
 ·
  unfold askKey; rw [ho.1, hk]; rfl
theorem rulesOk.hb {rules : List Rule} (h : rulesOk rules) : ∀ x ∈ rules, 0 ≤ x.c ∧ x.c ≤ 65535 ∧ x.asks.length ≤ 1000 := fun x hx => by
 obtain ⟨i, hi, rfl⟩ := List.mem_iff_getElem.1 hx
 obtain ⟨h1, _, h3⟩ := h.at hi
 unfold endOk at h3
 split at h3 <;> simp at h3 <;> omega
theorem turn28_ofK {rules : List Rule} {i : Nat} (hi : i < rules.length) (h99 : i ≤ 99) (l : List ByteArray) : turn28 rules (ofK rules (i : Int)) l = turnV rules (ofK rules (i : Int)) l := by
 unfold turn28; rw [if_pos (by rw [ofK_kind hi h99]; split <;> simp)]
theorem leastK_ring {rules : List Rule} {i : Nat} (hi : i < rules.length) (h99 : i ≤ 99) (hr : ringAt rules i = true) : leastK (ofK rules (i : Int)) = ⟨#[48]⟩ := by
 unfold leastK; rw [ofK_kind hi h99, hr]; rfl
theorem mput_self : ∀ {l : List (Key × Value)} {k : Key} {v : Value}, mget l k = some v → mput l k v = l := by
 intro l
 induction l with
 | nil => intro k v h; simp [mget] at h
 | cons p r ih =>
  obtain ⟨k0, v0⟩ := p
  intro k v h
  simp only [mget] at h
  simp only [mput]
  split
  ·
   rename_i e; rw [if_pos e] at h; simp at h; rw [h, e]
  ·
   rename_i e; rw [if_neg e] at h; rw [ih h]
theorem notLang_ofK {rules : List Rule} {i : Nat} (hi : i < rules.length) (h99 : i ≤ 99) : notLang (ofK rules (i : Int)) := by
 unfold notLang; rw [ofK_kind hi h99]; split <;> omega
end Go.Rc

namespace Go.Rc
open Go
theorem flatten_setcell : ∀ (rows : List (List Value)) (k i f : Nat) (v : Value) (row : List Value), (∀ r ∈ rows, r.length = k) → rows[i]? = some row → f < k → (rows.set i (row.set f v)).flatten = rows.flatten.set (i * k + f) v := by
 intro rows
 induction rows with
 | nil => intro k i f v row _ h; simp at h
 | cons x xs ih =>
  intro k i f v row hk h hf
  have hx : x.length = k := hk x (by simp)
  cases i with
  | zero =>
   simp at h; subst h
   simp only [List.set_cons_zero, List.flatten_cons, Nat.zero_mul, Nat.zero_add]
   rw [List.set_append_left _ _ (by omega)]
  | succ i =>
   simp only [List.set_cons_succ, List.flatten_cons]
   rw [ih k i f v row (fun r hr => hk r (by simp [hr])) (by simpa using h) hf, List.set_append_right _ _ (by rw [hx, Nat.succ_mul]; omega)]
   congr 2
   rw [hx, Nat.succ_mul]; omega
theorem flatten_setrow : ∀ (rows : List (List Value)) (k i : Nat) (us : List Value), (∀ r ∈ rows, r.length = k) → i < rows.length → us.length = k → (rows.set i us).flatten = rows.flatten.take (i * k) ++ us ++ rows.flatten.drop (i * k + k) := by
 intro rows
 induction rows with
 | nil => intro k i us _ h; simp at h
 | cons x xs ih =>
  intro k i us hk h hu
  have hx : x.length = k := hk x (by simp)
  cases i with
  | zero =>
   simp only [List.set_cons_zero, List.flatten_cons, Nat.zero_mul, Nat.zero_add, List.take_zero, List.nil_append]
   rw [List.drop_append_of_le_length (by omega), List.drop_of_length_le (by omega), List.nil_append]
  | succ i =>
   simp only [List.set_cons_succ, List.flatten_cons]
   rw [ih k i us (fun r hr => hk r (by simp [hr])) (by simpa using h) hu]
   have e : (i + 1) * k = x.length + i * k := by rw [hx, Nat.succ_mul]; omega
   rw [e, List.take_length_add_append, Nat.add_assoc, List.drop_length_add_append]
   simp
section
variable {α : Type} {R : RR α} {P : Program} {E k n c i b : Nat} {a : Option Addr} {xs : List α} {u u' : α} {Z : Nat → Prop} {w : World}
theorem Ow.at {R : RR α} (h : Ow R E k Z w a n c xs) (hle : xs.length ≤ 140737488355328) (hx : xs[i]? = some u) : ∃ b r, a = some ⟨b, 0, none⟩ ∧ r.length = k ∧ R.r Z w u r ∧ w.rangeAt b (0 + i * k) r := by
 obtain ⟨hn, rows, hl, hk, h1, hR⟩ := h
 have hi := (List.getElem?_eq_some_iff.1 hx).1
 have hs := h1.sl (A := fun _ => True) (fun _ _ => trivial) (by omega)
 rcases h1.cases with ⟨_, h2, _⟩ | ⟨g, cur, h2, _⟩
 ·
  omega
 ·
  obtain ⟨r, hr⟩ : ∃ r, rows[i]? = some r := ⟨rows[i], by simp [hl, hi]⟩
  rcases hs.at_ with ⟨h3, _⟩ | ⟨b', o, h3, _, _, _, _, h6⟩
  ·
   rw [h2] at h3; cases h3
  ·
   rw [h2] at h3; simp at h3
   obtain ⟨rfl, rfl⟩ := h3
   exact ⟨g, r, h2, hk r (List.mem_of_getElem? hr), hR i u r hx hr, range_part h6 (i * k) r (flatten_row rows k i r hk hr)⟩
/-- What is read of a row of one's own stays so while it is owned as it is. -/
theorem Ow.blk (h : Ow R E k Z w a n c xs) (ha : a = some ⟨b, 0, none⟩) : ∃ l, Blk w b E l ∧ l.length = c * k ∧ n ≤ c := by
 obtain ⟨_, rows, _, _, h1, _⟩ := h
 rcases h1.cases with ⟨h2, _⟩ | ⟨g, cur, h2, _, h4, h5, _, h7, _⟩
 ·
  rw [ha] at h2; cases h2
 ·
  rw [ha] at h2; simp at h2; subst h2
  exact ⟨cur.toList, by simpa [Blk] using h4, by simpa using h7, h5⟩
variable {N : Nat} {kv : KV} {K : KV → World → Prop} {ty : TypeId} {pos : String} {af : Array Edge} {g : Option (Nat × Bool)} {T : TypeId}
/-- A cell of a row is stored. -/
theorem OX.stOf {x y : Operand} {f : Nat} {v : Value} (hT : (P.info? T).map (·.size) = some 1) (h : Ow R E k Z w a n c xs) (ha : a = some ⟨b, 0, none⟩) (hu : xs[i]? = some u) (hf : f < k) (hx : ev kv x = some (.pointer (some ⟨b, 0 + i * k + f, none⟩))) (hy : ev kv y = some v)
  (h1 : v.oneCell' = true) (u' : α) (hR : ∀ r, r.length = k → R.r Z w u r → R.r Z w u' (r.set f v)) (hK : ∀ w', Chg (oblk a) w w' → OR 0 w' E k (R.r Z w) a n c (xs.set i u') → K kv w') : OX P ⟨none, .store T x y, ty, pos, af, g⟩ N kv w K := by
 obtain ⟨hn, rows, hl, hk, ho, hRR⟩ := h
 have hi := (List.getElem?_eq_some_iff.1 hu).1
 obtain ⟨row, hrow⟩ : ∃ r, rows[i]? = some r := ⟨rows[i], by simp [hl, hi]⟩
 have hrl := hk row (List.mem_of_getElem? hrow)
 rcases ho.cases with ⟨h2, _⟩ | ⟨b', cur, h2, h3, h4, h5, h6, h7, h8⟩
 ·
  rw [ha] at h2; cases h2
 ·
  rw [ha] at h2; simp at h2; subst h2
  subst ha
  have hb : Blk w b E cur.toList := by simpa [Blk] using h4
  have hlt : i * k + f < cur.toList.length := by
   have : (i + 1) * k ≤ c * k := Nat.mul_le_mul_right _ (by omega)
   rw [Nat.succ_mul] at this
   simp; omega
  have hst := run_st1 (P := P) hT hb hlt h1
  refine ⟨rfl, rfl, by simp [known, opers, hx, hy], ?_⟩
  have hadr : 0 + i * k + f = i * k + f := by omega
  rw [hadr] at hx
  simp only [execOp, lkO_of hx, lkO_of hy, Sem.run_bind, hst, Result.andThen_ok]
  refine hK _ (chg_setRow _ _ _) ⟨by simp [hn], rows.set i (row.set f v), by simp [hl], ?_, ?_, ?_⟩
  ·
   intro r hr
   rcases List.mem_or_eq_of_mem_set hr with hr | rfl
   ·
    exact hk r hr
   ·
    simp [hrl]
  ·
   rw [flatten_setcell rows k i f v row hk hrow hf]
   refine ⟨fun z hz => ?_, by simpa using ho.2.1, .inr ⟨b, c, _, rfl, h3, setRow_heap w b _ _ E _ hb, h5, h6, by simp [h7], ?_⟩⟩
   ·
    rcases List.mem_or_eq_of_mem_set hz with hz | rfl
    ·
     exact ho.1 z hz
    ·
     exact h1
   ·
    rw [← h8]
    simp [List.take_set]
  ·
   intro j z r hz hr
   by_cases e : i = j
   ·
    subst e
    rw [List.getElem?_set, if_pos rfl, if_pos hi] at hz
    rw [List.getElem?_set, if_pos rfl, if_pos (by omega)] at hr
    simp at hz hr
    subst hz hr
    exact hR row hrl (hRR i u row hu hrow)
   ·
    rw [List.getElem?_set, if_neg e] at hz hr
    exact hRR j z r hz hr
/-- A row is stored. -/
theorem OX.stOr {x y : Operand} {us : List Value} (hT : (P.info? T).map (·.size) = some k) (h : Ow R E k Z w a n c xs) (ha : a = some ⟨b, 0, none⟩) (hi : i < xs.length) (hx : ev kv x = some (.pointer (some ⟨b, 0 + i * k, none⟩))) (hy : ev kv y = some (.agg us.toArray))
  (hlen : us.length = k) (h1 : ∀ v ∈ us, v.oneCell' = true) (u' : α) (hR : R.r Z w u' us) (hK : ∀ w', Chg (oblk a) w w' → OR 0 w' E k (R.r Z w) a n c (xs.set i u') → K kv w') : OX P ⟨none, .store T x y, ty, pos, af, g⟩ N kv w K := by
 obtain ⟨hn, rows, hl, hk, ho, hRR⟩ := h
 rcases ho.cases with ⟨h2, _⟩ | ⟨b', cur, h2, h3, h4, h5, h6, h7, h8⟩
 ·
  rw [ha] at h2; cases h2
 ·
  rw [ha] at h2; simp at h2; subst h2
  subst ha
  have hb : Blk w b E cur.toList := by simpa [Blk] using h4
  have hmul : (i + 1) * k ≤ n * k := Nat.mul_le_mul_right _ (by omega)
  have hmul2 : n * k ≤ c * k := Nat.mul_le_mul_right _ h5
  rw [Nat.succ_mul] at hmul
  have hadr : 0 + i * k = i * k := by omega
  rw [hadr] at hx
  refine OX.stA hT hb hx hy hlen (by simp; omega) h1 rfl fun w' c1 _ hb' => hK w' c1 ⟨by simp [hn], rows.set i us, by simp [hl], ?_, ?_, ?_⟩
  ·
   intro r hr
   rcases List.mem_or_eq_of_mem_set hr with hr | rfl
   ·
    exact hk r hr
   ·
    exact hlen
  ·
   have hfl : rows.flatten.length = n * k := ho.2.1
   rw [flatten_setrow rows k i us hk (by omega) hlen]
   have hcl : cur.toList.length = c * k := by simp [h7]
   refine ⟨fun z hz => ?_, ?_, .inr ⟨b, c, _, rfl, h3, hb', h5, h6, ?_, ?_⟩⟩
   ·
    simp only [List.mem_append] at hz
    rcases hz with (hz | hz) | hz
    ·
     exact ho.1 z (List.mem_of_mem_take hz)
    ·
     exact h1 z hz
    ·
     exact ho.1 z (List.mem_of_mem_drop hz)
   ·
    rw [List.length_append, List.length_append, List.length_take, List.length_drop, hfl, hlen]; omega
   ·
    simp only [List.size_toArray, List.length_append, List.length_take, List.length_drop, hcl]; omega
   ·
    rw [← h8]
    apply List.ext_getElem?
    intro j
    simp only [List.getElem?_take, List.getElem?_append, List.getElem?_drop, List.length_append, List.length_take, hcl, hlen]
    have e1 : min (i * k) (c * k) = i * k := by omega
    have e2 : min (i * k) (min (n * k) (c * k)) = i * k := by omega
    simp only [e1, e2]
    by_cases hj : j < n * k
    ·
     rw [if_pos hj]
     by_cases h9 : j < i * k + k
     ·
      rw [if_pos h9, if_pos h9]
      by_cases h10 : j < i * k
      ·
       rw [if_pos h10, if_pos h10, if_pos h10, if_pos h10, if_pos hj]
      ·
       rw [if_neg h10, if_neg h10]
     ·
      rw [if_neg h9, if_neg h9, if_pos (by omega)]
    ·
     rw [if_neg hj, if_neg (by omega), if_neg (by omega)]
  ·
   intro j z r hz hr
   by_cases e : i = j
   ·
    subst e
    rw [List.getElem?_set, if_pos rfl, if_pos (by omega)] at hz hr
    simp at hz hr
    subst hz hr
    exact hR
   ·
    rw [List.getElem?_set, if_neg e] at hz hr
    exact hRR j z r hz hr
end
end Go.Rc

namespace Go.Rc
open Go
/-- Blocks that were there are as they were, but for new ones whose first q cells are. -/
structure Pfx (N E q s : Nat) (w w' : World) : Prop where
 os : w'.os = w.os
 tape : w'.tape = w.tape
 output : w'.output = w.output
 size : w.heap.size ≤ w'.heap.size
 block : ∀ b, b < w.heap.size → w'.heap[b]? = w.heap[b]? ∨ (N ≤ b ∧ ∃ cur cur' : Array Value, w.heap[b]? = some (.cells cur E (0, 0)) ∧ w'.heap[b]? = some (.cells cur' E (0, 0)) ∧ cur'.size = cur.size ∧ s < cur.size ∧ cur'.toList.take q = cur.toList.take q)
theorem Chg.pfx {N E q s : Nat} {w w' : World} (h : Chg [] w w') : Pfx N E q s w w' := ⟨h.os, h.tape, h.output, h.size, fun b hb => .inl (h.block b hb (by simp))⟩
/-- What is old is as it was. -/
theorem Pfx.old {N E q s : Nat} {w w' : World} (h : Pfx N E q s w w') {b : Nat} (hb : b < w.heap.size) (hN : b < N) : w'.heap[b]? = w.heap[b]? := by
 rcases h.block b hb with h1 | ⟨h1, _⟩
 ·
  exact h1
 ·
  omega
variable {α : Type} {R : RR α} {E k n c N : Nat} {a : Option Addr} {xs : List α} {Z : Nat → Prop} {w w' : World}
/-- A slice of one's own, made by such a region, in which other ones may append. -/
theorem Pfx.ow {s : Nat} (h : Pfx N E (n * k) s w w') (hz : ∀ x, Z x → x < N) (ho : Ow R E k Z w a n c xs) : Ow R E k Z w' a n c xs := by
 obtain ⟨hn, rows, hl, hk, h1, hR⟩ := ho
 have hst : ∀ x, Z x → x < w.heap.size → w'.heap[x]? = w.heap[x]? := fun x hx hlx => h.old hlx (hz x hx)
 refine ⟨hn, rows, hl, hk, ⟨h1.1, h1.2.1, ?_⟩, fun i x r h2 h3 => R.st h.size hst (hR i x r h2 h3)⟩
 rcases h1.cases with ⟨h2, h3, h4, h5⟩ | ⟨g, cur, h2, h3, h4, h5, h6, h7, h8⟩
 ·
  exact .inl ⟨by rw [h2, h3, h4], h3⟩
 ·
  have hg : g < w.heap.size := (Array.getElem?_eq_some_iff.1 h4).1
  rcases h.block g hg with h9 | ⟨_, cu, cu', h9, h10, h11, _, h13⟩
  ·
   exact .inr ⟨g, c, cur, by rw [h2], h3, by rw [h9]; exact h4, h5, h6, h7, h8⟩
  ·
   rw [h4] at h9
   simp at h9
   subst h9
   exact .inr ⟨g, c, cu', by rw [h2], h3, h10, h5, h6, by rw [h11]; exact h7, by rw [h13]; exact h8⟩
/-- A block that is too small to be appended to. -/
theorem Pfx.blk {q b : Nat} {l : List Value} (h : Pfx N E q l.length w w') (hb : Blk w b E l) : Blk w' b E l := by
 have hb' : w.heap[b]? = some (.cells l.toArray E (0, 0)) := hb
 rcases h.block b hb.lt with h1 | ⟨_, cu, cu', h1, _, _, h2, _⟩
 ·
  show _ = _; rw [h1]; exact hb'
 ·
  rw [hb'] at h1; simp at h1; subst h1; simp at h2
/-- An append to such a slice. -/
theorem run_appP {P : Program} {T bytes : Nat} (hT : AP P T E k bytes) {ty : TypeId} (hown : Ow R E k Z w a n c xs) (hge : ∀ x ∈ oblk a, N ≤ x) {a2 : Option Addr} {m c2 : Nat} {A : Nat → Prop} {ys : List α} (hx : SR A w k (R.r Z w) a2 m c2 ys)
  (hbytes : (n + m) * bytes ≤ 140737488355328) (hnm : n + m ≤ 140737488355328) (hN : N ≤ w.heap.size) (hz : ∀ x, Z x → x < N) {s : Nat} (hs : ∀ c, a ≠ none → n + m ≤ c → s < c * k) :
  ∃ a' c' w', (Builtin.append_ #[T, T] ty #[.slice a n c, .slice a2 m c2]).run P w = .ok (.slice a' (n + m) c') w' ∧ Ow R E k Z w' a' (n + m) c' (xs ++ ys) ∧ Pfx N E (n * k) s w w' ∧ (∀ x ∈ oblk a', N ≤ x) ∧ (m = 0 → a' = a) ∧ Chg (oblk a) w w' := by
 obtain ⟨hn, rows, hl, hk, h1, hR⟩ := hown
 obtain ⟨hn2, rows2, hl2, hk2, h2, hR2⟩ := hx
 obtain ⟨a', c', w', hr, ho, hc, hf, _, h0, hin⟩ := run_app hT (ty := ty) h1 h2 hbytes hnm (Nat.zero_le _)
 have hpfx : Pfx N E (n * k) s w w' := by
  rcases hin with hin | ⟨hroom, g, cur, cur', h3, h4, h5, h6, h7, h8⟩
  ·
   exact hin.pfx
  ·
   refine ⟨hc.os, hc.tape, hc.output, hc.size, fun b hb => ?_⟩
   by_cases hm2 : b ∈ oblk a
   ·
    have hgm : g ∈ oblk a := by rw [h3]; simp [oblk]
    have e : b = g := by rw [h3] at hm2; simpa [oblk] using hm2
    subst e
    exact .inr ⟨hge b hgm, cur, cur', h4, h5, h6, by rw [h7]; exact hs c (by rw [h3]; simp) hroom, h8⟩
   ·
    exact .inl (hc.block b hb hm2)
 have hst : ∀ x, Z x → x < w.heap.size → w'.heap[x]? = w.heap[x]? := fun x hx hlx => hpfx.old hlx (hz x hx)
 refine ⟨a', c', w', hr, ⟨by rw [List.length_append]; omega, rows ++ rows2, by simp [hl, hl2], ?_, by simpa using ho, ?_⟩, hpfx, fun x hx => by rcases hf x hx with h | h; exact hge x h; omega, h0, hc⟩
 ·
  intro r hr
  rcases List.mem_append.1 hr with h | h
  ·
   exact hk r h
  ·
   exact hk2 r h
 ·
  intro i x r hi hr
  rcases Nat.lt_or_ge i xs.length with hlt | hge2
  ·
   rw [List.getElem?_append_left hlt] at hi
   rw [List.getElem?_append_left (by omega)] at hr
   exact R.st hc.size hst (hR i x r hi hr)
  ·
   rw [List.getElem?_append_right hge2] at hi
   rw [List.getElem?_append_right (by omega)] at hr
   exact R.st hc.size hst (hR2 (i - xs.length) x r hi (by rw [← hl]; exact hr))
section
variable {P : Program} {kv : KV} {K : KV → World → Prop} {d : Tmp} {ty : TypeId} {pos : String} {af : Array Edge} {g : Option (Nat × Bool)} {T bytes mm : Nat}
theorem OX.appP (hT : AP P T E k bytes) {s x : Operand} {a2 : Option Addr} {m c2 : Nat} {A : Nat → Prop} {ys : List α} (hd : Nat.blt d mm = true) (hs : ev kv s = some (.slice a n c)) (hx : ev kv x = some (.slice a2 m c2))
  (hown : Ow R E k Z w a n c xs) (hge : ∀ x ∈ oblk a, N ≤ x) (hsrc : SR A w k (R.r Z w) a2 m c2 ys) (hbytes : (n + m) * bytes ≤ 140737488355328) (hnm : n + m ≤ 140737488355328) (hN : N ≤ w.heap.size) (hz : ∀ x, Z x → x < N) (q : Nat) (hq : ∀ c, a ≠ none → n + m ≤ c → q < c * k)
  (h : ∀ a' c' w', Ow R E k Z w' a' (n + m) c' (xs ++ ys) → Pfx N E (n * k) q w w' → (∀ x ∈ oblk a', N ≤ x) → (m = 0 → a' = a) → Chg (oblk a) w w' → K ((d, .slice a' (n + m) c') :: kv) w') :
  OX P ⟨some d, .call { callee := .builtin .append, args := #[s, x], argTypes := #[T, T] }, ty, pos, af, g⟩ mm kv w K := by
 refine ⟨rfl, hd, by simp [known, opers, hs, hx], ?_⟩
 obtain ⟨a', c', w', hr, h1, h2, h3, h4, h5⟩ := run_appP hT (ty := ty) hown hge hsrc hbytes hnm hN hz hq
 have hr' : (execOp (lkO kv) ⟨some d, .call { callee := .builtin .append, args := #[s, x], argTypes := #[T, T] }, ty, pos, af, g⟩).run P w = .ok (.value (.slice a' (n + m) c')) w' := by
  simp only [execOp, resolve, invoke, builtin, Sem.run_bind, Sem.run_pure, Result.andThen_ok, List.map_toArray, List.map_cons, List.map_nil, lkO_of hs, lkO_of hx, hr]
 rw [hr']
 exact h _ _ _ h1 h2 h3 h4 h5
/-- What is owned stays so, if it was there before. -/
theorem Pfx.st {w0 : World} {M : Nat → Prop} {l : List As} {q s : Nat} (h : Pfx N E q s w w') (hst : St w0 M Z w l) (hl : ∀ x, fps l x → x < N) (hz : ∀ x, Z x → x < N) (h0 : w0.heap.size ≤ N) : St w0 M Z w' l where
 chg := ⟨h.os.trans hst.chg.os, h.tape.trans hst.chg.tape, h.output.trans hst.chg.output, Nat.le_trans hst.chg.size h.size, fun k hk hn => by
  rw [h.old (Nat.lt_of_lt_of_le hk hst.chg.size) (by omega)]; exact hst.chg.block k hk hn⟩
 zlt x hx := Nat.lt_of_lt_of_le (hst.zlt x hx) h.size
 zfp := hst.zfp
 org := hst.org
 dis := hst.dis
 ok A hA := A.st h.size (fun x hx hlx => h.old hlx (by rcases hx with hx | hx; exact hl x ⟨A, hA, hx⟩; exact hz x hx)) (hst.ok A hA)
end
theorem Ow.ext {α : Type} {R : RR α} {E k n c : Nat} {a : Option Addr} {xs : List α} {Z : Nat → Prop} {w w' : World} (h : Ow R E k Z w a n c xs) (s : Chg [] w w') : Ow R E k Z w' a n c xs :=
 (As.os R E k a n c xs).st s.size (fun x _ hx => s.block x hx (by simp)) h
section
variable {P : Program} {n : Nat} {kv : KV} {w : World} {K : KV → World → Prop} {d : Tmp} {ty : TypeId} {pos : String} {af : Array Edge} {g : Option (Nat × Bool)} {op : Op} {v : Value}
end
section
variable {κ : Type} [DecidableEq κ] {enc : κ → Value} {P : Program} {kt e ty T : TypeId} {w : World} {b : Nat} {l : List (κ × Value)} {kv : KV}
theorem PV.lookD (hK : KK P kt enc) (hT : P.underlying T = some (.map kt e)) {z : Value} (hz : ∀ w, (zeroValue e).run P w = .ok z w) (hb : KM enc w b l) {x y : Operand} {k : κ} {v : Value} (hv : (mget l k).getD z = v) (hx : ev kv x = some (.map (some b))) (hy : ev kv y = some (enc k)) : PV P (.lookup T x y false) ty kv w v := by
 have := PV.look (ty := ty) hK hT hz hb hx hy
 rw [hv] at this; exact this
end
/-- A map that an operation of a region has made and filled. -/
def PMap (N : Nat) (P : List (Key × Value) → Prop) (v : Value) (w : World) : Prop := ∃ b m, v = .map (some b) ∧ N ≤ b ∧ KM Key.val w b m ∧ P m
theorem PMap.st {N : Nat} {P : List (Key × Value) → Prop} {F : Nat → Prop} (hN : ∀ x, F x → x < N) {v : Value} {w w' : World} (c : ChgP F w w') (h : PMap N P v w) : PMap N P v w' := by
 obtain ⟨b, m, h1, h2, h3, h4⟩ := h
 exact ⟨b, m, h1, h2, (As.map Key.val b m).st (Z := fun _ => False) c.size (fun x hx hl => c.block x hl fun hf => by rcases hx with hx | hx; have hx : x = b := hx; subst hx; have := hN x hf; omega; exact hx.elim) h3, h4⟩
theorem St.cg0 {w w' : World} {Z : Nat → Prop} {l : List As} (h : St w (fps []) Z w' l) : Chg [] w w' := h.chg.chg fun _ ⟨_, hA, _⟩ => by cases hA
theorem Zle.drop {w0 w : World} {M Z : Nat → Prop} {l : List As} (h : St w0 M Z w l) : ∀ x, Z x → x < w.heap.size := h.zlt
theorem St.rb {w : World} {M Z : Nat → Prop} (h : St w M Z w []) : St w (fun _ => False) Z w [] := St.start h.zlt
theorem St.wk {w0 w : World} {M Z : Nat → Prop} {l : List As} (h : St w0 (fun _ => False) Z w l) : St w0 M Z w l := h.weakM fun _ _ h => h.elim
theorem St.fresh {w0 w : World} {Z : Nat → Prop} {l : List As} {A : As} (h : St w0 (fun _ => False) Z w (A :: l)) : ∀ x, A.fp x → w0.heap.size ≤ x := fun x hx => by
 rcases h.org A (by simp) x hx with h1 | h1
 ·
  exact h1.elim
 ·
  exact h1
end Go.Rc

namespace Go.Rc
open Go
/-- Without panics. -/
def NP (Q : Exit → Act → World → Prop) (e : Exit) (a : Act) (w : World) : Prop := (∀ c, e ≠ .panic c) ∧ Q e a w
theorem EX.np {Q : Exit → Act → World → Prop} {n : Nat} {kv : KV} {w : World} (h : EX Q .normal n kv w) : EX (NP Q) .normal n kv w := fun a hF => ⟨fun c => by simp, h a hF⟩
def isMv : Op → Bool
 | .move _ | .assign _ | .pick .. | .extract .. => true
 | _ => false
theorem mv_any {P : Program} {o : Oper} {lk : Operand → Value} {v : Value} {w : World} (h : isMv o.op = true) (hr : (execOp lk o).run P w = .ok (.value v) w) (w' : World) : (execOp lk o).run P w' = .ok (.value v) w' := by
 cases ho : o.op with
 | move x => simp only [execOp, ho] at hr ⊢; cases hr; rfl
 | assign x => simp only [execOp, ho] at hr ⊢; cases hr; rfl
 | pick c x y =>
  simp only [execOp, ho] at hr ⊢
  generalize lk c = u at hr ⊢
  cases u <;> first | (cases hr; rfl) | (cases hr; done)
 | extract t i =>
  simp only [execOp, ho, Instr.extract] at hr ⊢
  generalize lk t = u at hr ⊢
  cases u <;> first | (cases hr; done) | skip
  rename_i vs
  simp only at hr ⊢
  generalize vs[i]? = u at hr ⊢
  cases u <;> first | (cases hr; rfl) | (cases hr; done)
 | _ => rw [ho] at h; simp [isMv] at h
structure RegX (ops : Array Oper) (m : Nat) (X : List Nat) : Prop extends RegB ops m where
 nosels : ∀ (i : Nat) o, ops[i]? = some o → isSelect o.op = false
 xlt : ∀ x ∈ X, x < m
 xmv : ∀ x ∈ X, ∀ o, ops[x]? = some o → isMv o.op = true
 xap : ∀ x ∈ X, ∀ o, ops[x]? = some o → ∀ (j : Nat) p, ops[j]? = some p → j ≠ x → x ∈ deps p ∨ j ∈ deps o ∨ o.apart ops p = true
 tail : ∀ k, m ≤ k → k < ops.size → ∀ (D : Nat → Prop), (∀ (j : Nat) o, D j → ops[j]? = some o → ∀ d ∈ deps o, D d) → (∀ (x : Nat) o, x ∈ X → ops[x]? = some o → (∀ d ∈ deps o, D d) → D x) → (∀ o, ops[k]? = some o → ∀ d ∈ deps o, D d) → ∀ j, j < k → D j
def dmask : List Nat → Nat
 | [] => 0
 | d :: r => (2 ^ d) ||| dmask r
theorem dmask_bit : ∀ {ds : List Nat} {d : Nat}, d ∈ ds → (dmask ds).testBit d = true
 | a :: r, d, h => by
  simp only [dmask, Nat.testBit_or, Bool.or_eq_true]
  rcases List.mem_cons.1 h with rfl | h
  ·
   left; simp [Nat.testBit_two_pow]
  ·
   right; exact dmask_bit h
def satX (ops : List Oper) : List Nat → Nat → Nat
 | [], s => s
 | x :: r, s => satX ops r (match ops[x]? with | some o => (match Nat.beq (Nat.land (dmask (deps o)) s) (dmask (deps o)) with | true => s ||| 2 ^ x | false => s) | none => s)
theorem satX_spec {ops : List Oper} {D : Nat → Prop} : ∀ {X : List Nat} {s : Nat}, (∀ (x : Nat) o, x ∈ X → ops[x]? = some o → (∀ d ∈ deps o, D d) → D x) → (∀ j, s.testBit j = true → D j) → ∀ j, (satX ops X s).testBit j = true → D j
 | [], _, _, h => h
 | x :: r, s, hX, h => by
  simp only [satX]
  refine satX_spec (fun y o hy => hX y o (by simp [hy])) ?_
  cases ho : ops[x]? with
  | none => exact h
  | some o =>
   simp only
   cases hb : Nat.beq (Nat.land (dmask (deps o)) s) (dmask (deps o)) with
   | false => exact h
   | true =>
    have he : (dmask (deps o)) &&& s = dmask (deps o) := Nat.eq_of_beq_eq_true hb
    intro j hj
    simp only [Nat.testBit_or, Bool.or_eq_true, Nat.testBit_two_pow, decide_eq_true_eq] at hj
    rcases hj with hj | rfl
    ·
     exact h j hj
    ·
     refine hX x o (by simp) ho fun d hd => h d ?_
     have h1 := dmask_bit hd
     rw [← he, Nat.testBit_and] at h1
     simp only [Bool.and_eq_true] at h1
     exact h1.2
def regX (ops : List Oper) (m : Nat) (X : List Nat) : Bool :=
 regB ops m && ops.all (fun o => !isSelect o.op) && X.all (fun x => Nat.blt x m && (match ops[x]? with
  | some o => isMv o.op && ops.zipIdx.all (fun (p, j) => Nat.beq j x || elemN x (deps p) || elemN j (deps o) || o.apart ops.toArray p)
  | none => true)) &&
 (let ms := masks ops []; (List.range ops.length).all fun k => Nat.blt k m || (satX ops X (ms.getD k 0)) % 2 ^ k == 2 ^ k - 1)
theorem regX_spec {l : List Oper} {m : Nat} {X : List Nat} (h : regX l m X = true) : RegX l.toArray m X := by
 simp only [regX, Bool.and_eq_true] at h
 obtain ⟨⟨⟨h1, h2⟩, h3⟩, h5⟩ := h
 have hB := regB_spec h1
 have hback : ∀ (i : Nat) o, l[i]? = some o → ∀ k ∈ deps o, k < i := fun i o ho => hB.back i o (by simpa using ho)
 have hx : ∀ x ∈ X, x < m ∧ ∀ o, l[x]? = some o → isMv o.op = true ∧ ∀ (j : Nat) p, l[j]? = some p → j ≠ x → x ∈ deps p ∨ j ∈ deps o ∨ o.apart l.toArray p = true := by
  intro x hx
  have h4 := List.all_eq_true.1 h3 x hx
  simp only [Bool.and_eq_true] at h4
  refine ⟨by have := h4.1; simp only [Nat.blt] at this; have := Nat.le_of_ble_eq_true this; omega, fun o ho => ?_⟩
  have h6 := h4.2
  rw [ho] at h6
  simp only [Bool.and_eq_true] at h6
  refine ⟨h6.1, fun j p hp hne => ?_⟩
  have h7 := List.all_eq_true.1 h6.2 (p, j) (by rw [List.mem_zipIdx_iff_getElem?]; exact hp)
  simp only [Bool.or_eq_true] at h7
  rcases h7 with ((h7 | h7) | h7) | h7
  ·
   exact absurd (Nat.eq_of_beq_eq_true h7) hne
  ·
   exact .inl (elemN_iff.1 h7)
  ·
   exact .inr (.inl (elemN_iff.1 h7))
  ·
   exact .inr (.inr h7)
 refine { hB with nosels := fun i o ho => ?_, xlt := fun x h => (hx x h).1, xmv := fun x h o ho => ((hx x h).2 o (by simpa using ho)).1, xap := fun x h o ho j p hp => ((hx x h).2 o (by simpa using ho)).2 j p (by simpa using hp), tail := ?_ }
 ·
  have := List.all_eq_true.1 h2 o (List.mem_of_getElem? (by simpa using ho : l[i]? = some o))
  simpa using this
 intro k hmk hkn D hD hDX hk j hj
 have := List.all_eq_true.1 h5 k (by simpa using hkn)
 simp only [Bool.or_eq_true, beq_iff_eq] at this
 rcases this with h | h
 ·
  simp only [Nat.blt] at h; have := Nat.le_of_ble_eq_true h; omega
 ·
  have hkn' : k < l.length := by simpa using hkn
  refine satX_spec (ops := l) (X := X) (s := (masks l []).getD k 0) (fun x o hx ho hd => hDX x o hx (by simpa using ho) hd) (fun j hj => masks_spec D l [] [] rfl (fun j o hj ho => hD j o hj (by simpa using ho)) (fun k o ho => by simp at ho) (fun k o ho => hback k o (by simpa using ho)) k l[k] (by simp [hkn']) (hk l[k] (by simp [hkn'])) j hj) j ?_
  have hb : (satX l X ((masks l []).getD k 0) % 2 ^ k).testBit j = true := by rw [h, Nat.testBit_two_pow_sub_one]; simpa using hj
  rw [Nat.testBit_mod_two_pow] at hb
  simp only [Bool.and_eq_true] at hb
  exact hb.2
section
variable {P : Program} {ops : Array Oper} {Q : Exit → Act → World → Prop} {n m : Nat} {X : List Nat} {C : World → Prop} {T : Nat → World → World → Prop} {E : Nat → Option (Value → World → Prop)}
variable (hS : ∀ i S, E i = some S → ∀ j S', E j = some S' → j ≠ i → j ∉ depsAt ops i → ∀ v w w', C w → C w' → T j w w' → S v w → S v w')
include hS
omit hS in
/-- The end of the region, in order. -/
theorem phase2X (hok : RegX ops m X) : ∀ (fuel k : Nat) (listed : Array Bool) (a : Act) (w : World), m ≤ k → k ≤ ops.size → (∀ j, j < ops.size → listed[j]? = some (decide (j < k))) → listed.size = ops.size →
  ops.size - k ≤ fuel → wpList P ops Q (ops.toList.drop k) a w → wpAny P .any ops Q fuel listed a w := by
 intro fuel
 induction fuel with
 | zero =>
  intro k listed a w hmk hk hlist hsz hf h
  have hk' : k = ops.size := by omega
  subst hk'
  rw [List.drop_eq_nil_of_le (by simp)] at h
  refine ⟨?_, h⟩
  refine List.eq_nil_iff_forall_not_mem.2 fun i hi => ?_
  obtain ⟨h0, o, ho, _⟩ := mem_ready.1 hi
  have hlt : i < ops.size := (Array.getElem?_eq_some_iff.1 ho).1
  have := hlist i hlt
  simp [this, hlt] at h0
 | succ fuel ih =>
  intro k listed a w hmk hk hlist hsz hf h
  have hready : ∀ i, i ∈ Region.ready .any ops listed → i = k ∧ k < ops.size := by
   intro i hi
   obtain ⟨h0, o, ho, hdo⟩ := mem_ready.1 hi
   have hlt : i < ops.size := (Array.getElem?_eq_some_iff.1 ho).1
   have hl := hlist i hlt
   have hge : ¬ i < k := by
    intro hik
    simp [hl, hik] at h0
   refine ⟨?_, by omega⟩
   rcases Nat.lt_or_ge k i with hki | hki
   ·
    exfalso
    have hD := hok.tail i (by omega) hlt (fun j => j < k) (fun j p hj hp d hd => by have := hok.back j p hp d hd; omega) (fun x p hx _ _ => by have := hok.xlt x hx; omega) (fun p hp d hd => by
     rw [ho] at hp; simp at hp; subst hp
     unfold deps at hd
     obtain ⟨e, he, rfl⟩ := List.mem_map.1 hd
     obtain ⟨he1, he2⟩ := List.mem_filter.1 he
     have hb := hdo e (by simpa using he1) he2
     have hes : e.on < ops.size := by have := hok.back i o ho e.on (List.mem_map.2 ⟨e, he, rfl⟩); omega
     simp [hlist e.on hes] at hb
     exact hb) k hki
    omega
   ·
    omega
  refine ⟨fun hnil => ?_, fun i hi => ?_⟩
  ·
   rcases Nat.lt_or_ge k ops.size with hlt | hge
   ·
    exfalso
    have : k ∈ Region.ready .any ops listed := by
     refine mem_ready.2 ⟨by simp [hlist k hlt], ops[k], by simp [hlt], fun e he hb => ?_⟩
     have hek : e.on < k := hok.back k ops[k] (by simp [hlt]) e.on (List.mem_map.2 ⟨e, List.mem_filter.2 ⟨by simpa using he, hb⟩, rfl⟩)
     simp [hlist e.on (by omega), hek]
    rw [hnil] at this
    cases this
   ·
    rw [List.drop_eq_nil_of_le (by simpa using hge)] at h
    exact h
  ·
   obtain ⟨rfl, hlt⟩ := hready i hi
   have hcons : ops.toList.drop i = ops[i] :: ops.toList.drop (i + 1) := by
    rw [List.drop_eq_getElem_cons (by simpa using hlt)]; simp
   rw [hcons] at h
   have hset : ∀ j, j < ops.size → (listed.setIfInBounds i true)[j]? = some (decide (j < i + 1)) := fun j hj => by
    by_cases e : i = j
    ·
     subst e; simp [hsz, hlt]
    ·
     rw [Array.getElem?_setIfInBounds_ne e, hlist j hj]
     congr 1
     simp only [decide_eq_decide]
     omega
   have next := fun a w => ih (i + 1) (listed.setIfInBounds i true) a w (by omega) (by omega) hset (by simpa using hsz) (by omega)
   unfold wpOp
   rw [show ops[i]? = some ops[i] by simp [hlt]]
   simp only
   unfold wpList at h
   by_cases hw : Region.wanted ops[i] (yielded ops a.tmps) = true
   ·
    rw [if_pos hw] at h
    rw [if_pos hw]
    exact h.imp (Oper.wp_mono next) id
   ·
    rw [if_neg hw] at h
    rw [if_neg hw]
    exact next _ _ h
theorem phase1X (hE : ∀ x ∈ X, E x = none) {a0 : Act} {kv0 : KV} (hok : RegX ops m X) (h0 : Fr n a0 kv0)
  (hdw : DW P ops n C T E (fun kv w => WL P ops (NP Q) (ops.toList.drop m) n kv w) 0 (ops.toList.take m) kv0 []) :
  ∀ (fuel : Nat) (listed : Array Bool) (vals : Nat → Value) (a : Act) (w : World), listed.size = ops.size → left (fun j => listed.getD j false) ops.size ≤ fuel → (∀ j, m ≤ j → listed.getD j false = false) →
  Inv P ops n m C E a0 (fun j => listed.getD j false) vals a w → wpAny P .any ops (NP Q) fuel listed a w := by
 -- when all of the first part has come up
 have fin : ∀ (listed : Array Bool) (vals : Nat → Value) (a : Act) (w : World), (∀ j, j < m → listed.getD j false = true) → Inv P ops n m C E a0 (fun j => listed.getD j false) vals a w → wpList P ops (NP Q) (ops.toList.drop m) a w := by
  intro listed vals a w hall hI
  obtain ⟨vals', F, wh, hv, hnode, hC, _, hF, hFw⟩ := path hS hok.toRegB h0 hI hdw m (Nat.le_refl _)
  have hnil : (ops.toList.take m).drop m = [] := List.drop_eq_nil_of_le (by simp; omega)
  rw [hnil] at hnode
  refine hnode w hI.c (allF_iff.2 fun p hp => (hFw p hp).2.2 (hall p.1 (hFw p hp).1)) a ⟨hI.size, hI.nod, fun t v hl => ?_⟩
  rcases look_kvOf m hl with ⟨j, hj, hjt, rfl⟩ | ⟨hno, hl0⟩
  ·
   rw [hv j (hall j hj)]
   exact hI.here j hj (hall j hj) t hjt
  ·
   rw [hI.old t fun j hj _ => hno j hj]
   exact h0.val t v hl0
 intro fuel
 induction fuel with
 | zero =>
  intro listed vals a w hsz hleft htail hI
  have hall := left_zero (Nat.le_zero.1 hleft)
  have hm : m = ops.size := by
   rcases Nat.lt_or_ge m ops.size with h | h
   ·
    have h1 := hall m h
    have h2 := htail m (Nat.le_refl _)
    rw [h2] at h1; cases h1
   ·
    have := hok.le; omega
  have h := fin listed vals a w (fun j hj => hall j (by omega)) hI
  rw [List.drop_eq_nil_of_le (by simp; omega)] at h
  refine ⟨List.eq_nil_iff_forall_not_mem.2 fun i hi => ?_, h⟩
  obtain ⟨h0, o, ho, _⟩ := mem_ready.1 hi
  have hlt : i < ops.size := (Array.getElem?_eq_some_iff.1 ho).1
  have h1 := hall i hlt
  simp only [Array.getD_eq_getD_getElem?] at h0 h1
  cases hx : listed[i]? with
  | none => rw [hx] at h0; simp at h0
  | some b => rw [hx] at h0 h1; simp at h0 h1; rw [h0] at h1; cases h1
 | succ fuel ih =>
  intro listed vals a w hsz hleft htail hI
  have hlistB : ∀ j, j < ops.size → ∀ b, listed.getD j b = listed.getD j false := fun j hj b => by
   simp [Array.getD, show j < listed.size by omega]
  -- the least operation that has not come up may come up
  have least : Region.ready .any ops listed = [] → ∀ j, j < ops.size → listed.getD j false = true := by
   intro hnil j
   induction j using Nat.strongRecOn with
   | _ j ihj =>
    intro hj
    cases hb : listed.getD j false with
    | true => rfl
    | false =>
     exfalso
     have : j ∈ Region.ready .any ops listed := by
      refine mem_ready.2 ⟨by rw [hlistB j hj true, hb], ops[j], by simp [hj], fun e he hbd => ?_⟩
      have hek : e.on < j := hok.back j ops[j] (by simp [hj]) e.on (List.mem_map.2 ⟨e, List.mem_filter.2 ⟨by simpa using he, hbd⟩, rfl⟩)
      exact ihj e.on hek (by omega)
     rw [hnil] at this
     cases this
  by_cases hx : ∃ i, i ∈ X ∧ i ∈ Region.ready .any ops listed
  ·
   obtain ⟨i, hiX, hi⟩ := hx
   obtain ⟨hli, o, ho, hdo⟩ := mem_ready.1 hi
   have hlt : i < ops.size := (Array.getElem?_eq_some_iff.1 ho).1
   have hLi : listed.getD i false = false := by rw [← hlistB i hlt true]; exact hli
   have hd : ∀ k ∈ deps o, listed.getD k false = true := fun k hk => by
    unfold deps at hk
    obtain ⟨e, he, rfl⟩ := List.mem_map.1 hk
    obtain ⟨he1, he2⟩ := List.mem_filter.1 he
    exact hdo e (by simpa using he1) he2
   have him := hok.xlt i hiX
   obtain ⟨vals', F, wh, hv, hnode, hC, _, hF, hFw⟩ := path hS hok.toRegB h0 hI hdw i (by omega)
   have hlen : i < (ops.toList.take m).length := by simp; omega
   have hcons : (ops.toList.take m).drop i = o :: (ops.toList.take m).drop (i + 1) := by
    rw [List.drop_eq_getElem_cons hlen]
    congr 1
    have : (ops.toList.take m)[i]? = some o := by rw [List.getElem?_take, if_pos him]; simpa using ho
    rw [List.getElem?_eq_getElem hlen] at this
    simpa using this
   rw [hcons] at hnode
   obtain ⟨hsel, hdok, hcase⟩ := hnode
   have hag := agree_of (vals' := vals') hok.toRegB h0 hI hv him ho hd
   have hL' : ∀ j, (listed.setIfInBounds i true).getD j false = if j = i then true else listed.getD j false := fun j => by
    by_cases e : j = i
    ·
     subst e; simp [hsz, hlt]
    ·
     rw [if_neg e]
     simp [Array.getElem?_setIfInBounds_ne (fun h => e h.symm)]
   have next : ∀ v w', Inv P ops n m C E a0 (fun j => if j = i then true else listed.getD j false) (fun j => if j = i then v else vals j) (a.put o.dst v) w' → wpAny P .any ops (NP Q) fuel (listed.setIfInBounds i true) (a.put o.dst v) w' := fun v w' hI' => by
    refine ih _ _ _ _ (by simpa using hsz) ?_ (fun j hj => by rw [hL', if_neg (by omega)]; exact htail j hj) (by have e : (fun j => (listed.setIfInBounds i true).getD j false) = (fun j => if j = i then true else listed.getD j false) := funext hL'; rw [e]; exact hI')
    have := (left_set (L := fun j => listed.getD j false) (L' := fun j => (listed.setIfInBounds i true).getD j false) hLi hL' (k := ops.size)).2 hlt
    omega
   have first : ∀ v, Yields P ops o v a → Inv P ops n m C E a0 (fun j => if j = i then true else listed.getD j false) (fun j => if j = i then v else vals j) (a.put o.dst v) w → wpAny P .any ops (NP Q) (fuel + 1) listed a w := fun v hy hI' =>
    wpAny_first ho (fun j p cs b hp e => by have := hok.nosels j p hp; rw [e] at this; simp [isSelect] at this) (fun c _ _ h => absurd rfl (h.1 c)) fuel listed a w
     (fun j p hp hne hun hno => by
      rcases hok.xap i hiX o ho j p hp hne with h | h | h
      ·
       obtain ⟨e, he, hei⟩ := List.mem_map.1 h
       obtain ⟨he1, he2⟩ := List.mem_filter.1 he
       exact absurd hei (hno e (by simpa using he1) he2)
      ·
       have h1 := hd j h
       have h2 : j < ops.size := (Array.getElem?_eq_some_iff.1 hp).1
       rw [hlistB j h2 true, h1] at hun; cases hun
      ·
       exact h) hi hy (next v w hI')
   rcases hcase with ⟨hg, _⟩ | ⟨hg, hk, hE', e, hrun, _⟩ | ⟨hg, hk, S, hE', heff, _⟩
   ·
    have hw := hag.wanted hg
    exact first undef (.inr ⟨hw, rfl⟩) (hI.put hok.toRegB him ho hLi hd hdok hI.c (fun _ _ _ _ _ _ h => h) (fun _ => rfl) (fun h => by rw [hw] at h; cases h) (fun S h => by rw [hw] at h; cases h))
   ·
    have hw := hag.wanted hg
    have hr := hrun w hI.c
    rw [← hag.exec hsel hk] at hr
    exact first e (.inl ⟨hw, fun w' => mv_any (hok.xmv i hiX o ho) hr w'⟩) (hI.put hok.toRegB him ho hLi hd hdok hI.c (fun _ _ _ _ _ _ h => h) (fun h => by rw [hw] at h; cases h) (fun _ _ => ⟨w, hI.c, hr⟩) (fun S _ h => by rw [hE'] at h; cases h))
   ·
    rw [hE i hiX] at hE'; cases hE'
  refine ⟨fun hnil => ?_, fun i hi => ?_⟩
  ·
   have hall := least hnil
   have hm : m = ops.size := by
    rcases Nat.lt_or_ge m ops.size with h | h
    ·
     have h1 := hall m h
     have h2 := htail m (Nat.le_refl _)
     rw [h2] at h1; cases h1
    ·
     have := hok.le; omega
   have h := fin listed vals a w (fun j hj => hall j (by omega)) hI
   rw [List.drop_eq_nil_of_le (by simp; omega)] at h
   exact h
  ·
   obtain ⟨hli, o, ho, hdo⟩ := mem_ready.1 hi
   have hlt : i < ops.size := (Array.getElem?_eq_some_iff.1 ho).1
   have hLi : listed.getD i false = false := by rw [← hlistB i hlt true]; exact hli
   have hd : ∀ k ∈ deps o, listed.getD k false = true := fun k hk => by
    unfold deps at hk
    obtain ⟨e, he, rfl⟩ := List.mem_map.1 hk
    obtain ⟨he1, he2⟩ := List.mem_filter.1 he
    exact hdo e (by simpa using he1) he2
   rcases Nat.lt_or_ge i m with him | him
   ·
    -- one of the first part
    obtain ⟨vals', F, wh, hv, hnode, hC, _, hF, hFw⟩ := path hS hok.toRegB h0 hI hdw i (by omega)
    have hlen : i < (ops.toList.take m).length := by simp; omega
    have hcons : (ops.toList.take m).drop i = o :: (ops.toList.take m).drop (i + 1) := by
     rw [List.drop_eq_getElem_cons hlen]
     congr 1
     have : (ops.toList.take m)[i]? = some o := by rw [List.getElem?_take, if_pos him]; simpa using ho
     rw [List.getElem?_eq_getElem hlen] at this
     simpa using this
    rw [hcons] at hnode
    obtain ⟨hsel, hdok, hcase⟩ := hnode
    have hag := agree_of (vals' := vals') hok.toRegB h0 hI hv him ho hd
    have hL' : ∀ j, (listed.setIfInBounds i true).getD j false = if j = i then true else listed.getD j false := fun j => by
     by_cases e : j = i
     ·
      subst e; simp [hsz, hlt]
     ·
      rw [if_neg e]
      simp [Array.getElem?_setIfInBounds_ne (fun h => e h.symm)]
    have next : ∀ v w', Inv P ops n m C E a0 (fun j => if j = i then true else listed.getD j false) (fun j => if j = i then v else vals j) (a.put o.dst v) w' → wpAny P .any ops (NP Q) fuel (listed.setIfInBounds i true) (a.put o.dst v) w' := fun v w' hI' => by
     refine ih _ _ _ _ (by simpa using hsz) ?_ (fun j hj => by rw [hL', if_neg (by omega)]; exact htail j hj) (by have e : (fun j => (listed.setIfInBounds i true).getD j false) = (fun j => if j = i then true else listed.getD j false) := funext hL'; rw [e]; exact hI')
     have := (left_set (L := fun j => listed.getD j false) (L' := fun j => (listed.setIfInBounds i true).getD j false) hLi hL' (k := ops.size)).2 hlt
     omega
    unfold wpOp
    rw [ho]
    simp only
    rcases hcase with ⟨hg, _⟩ | ⟨hg, hk, hE, e, hrun, _⟩ | ⟨hg, hk, S, hE, heff, _⟩
    ·
     have hw := hag.wanted hg
     rw [if_neg (by rw [hw]; simp)]
     exact next undef w (hI.put hok.toRegB him ho hLi hd hdok hI.c (fun _ _ _ _ _ _ h => h) (fun _ => rfl) (fun h => by rw [hw] at h; cases h) (fun S h => by rw [hw] at h; cases h))
    ·
     have hw := hag.wanted hg
     rw [if_pos hw]
     refine .inl ?_
     have hr := hrun w hI.c
     rw [← hag.exec hsel hk] at hr
     unfold Oper.wp
     rw [hr]
     exact next e w (hI.put hok.toRegB him ho hLi hd hdok hI.c (fun _ _ _ _ _ _ h => h) (fun h => by rw [hw] at h; cases h) (fun _ _ => ⟨w, hI.c, hr⟩) (fun S _ h => by rw [hE] at h; cases h))
    ·
     have hw := hag.wanted hg
     rw [if_pos hw]
     refine .inl ?_
     unfold Oper.wp
     rw [hag.exec hsel hk]
     refine outc_upon (heff w hI.c (depF_of fun p hp hm => (hFw p hp).2.2 (hd p.1 hm))) fun v w' ⟨hC', hT, hSv⟩ => ?_
     exact next v w' (hI.put hok.toRegB him ho hLi hd hdok hC' (fun j S' u hjm hLj hE' h => hS j S' hE' i S hE (fun e => by subst e; rw [hLi] at hLj; cases hLj) (fun hm => by
      obtain ⟨p, hp⟩ : ∃ p, ops[j]? = some p := ⟨ops[j]'(by have := hok.le; omega), by simp⟩
      simp only [depsAt, hp] at hm
      have h3 := hI.closed j p hjm hLj hp i hm
      simp only [hLi] at h3
      cases h3) u w w' hI.c hC' hT h) (fun h => by rw [hw] at h; cases h) (fun _ h => by rw [hE] at h; cases h) (fun S' _ h => by rw [hE] at h; simp at h; subst h; exact hSv))
   ·
    -- the first of the rest: all before it has come up
    have hD := hok.tail i him hlt (fun j => listed.getD j false = true) (fun j p hj hp d hdm => by
     have hjm : j < m := by
      rcases Nat.lt_or_ge j m with h | h
      ·
       exact h
      ·
       have := htail j h; rw [this] at hj; cases hj
     exact hI.closed j p hjm hj hp d hdm) (fun x p hxX hp hdx => by
     have hxlt : x < ops.size := (Array.getElem?_eq_some_iff.1 hp).1
     cases hb : listed.getD x false with
     | true => rfl
     | false => exact absurd ⟨x, hxX, mem_ready.2 ⟨by rw [hlistB x hxlt true, hb], p, hp, fun e he hbd => hdx e.on (List.mem_map.2 ⟨e, List.mem_filter.2 ⟨by simpa using he, hbd⟩, rfl⟩)⟩⟩ hx) (fun p hp d hdm => by rw [ho] at hp; simp at hp; subst hp; exact hd d hdm)
    have him' : i = m := by
     rcases Nat.lt_or_ge m i with h | h
     ·
      have h1 := hD m h
      have h2 := htail m (Nat.le_refl _)
      rw [h2] at h1; cases h1
     ·
      omega
    subst him'
    have hall : ∀ j, j < i → listed.getD j false = true := hD
    have h := fin listed vals a w hall hI
    have hlist : ∀ j, j < ops.size → listed[j]? = some (decide (j < i)) := fun j hj => by
     have hjs : j < listed.size := by omega
     rcases Nat.lt_or_ge j i with hji | hji
     ·
      have := hall j hji
      simp [Array.getD, hjs] at this
      simp [hjs, this, hji]
     ·
      have := htail j hji
      simp [Array.getD, hjs] at this
      simp [hjs, this, show ¬ j < i by omega]
    have h2 := phase2X (P := P) (Q := NP Q) hok (fuel + 1) i listed a w (Nat.le_refl _) (by omega) hlist hsz (by
     have hl : ∀ k, k ≤ ops.size → left (fun j => listed.getD j false) k ≥ k - i := by
      intro k
      induction k with
      | zero => intro _; simp
      | succ k ihk =>
       intro hk
       have := ihk (by omega)
       simp only [left]
       rcases Nat.lt_or_ge k i with h | h
       ·
        omega
       ·
        have h9 := htail k h
        simp only [h9, Bool.not_false, Bool.toNat_true]
        omega
     have := hl ops.size (Nat.le_refl _)
     omega) h
    exact h2.2 i hi
omit hS in
/-- **A region that draws its order, by one walk in the order of the text.** -/
theorem WC.drawnX0 (hEX : (X.all fun x => (E x).isNone) = true) {kv : KV} {w : World} {id : Nat} {l : List Oper}
  (hS : ∀ i S, E i = some S → ∀ j S', E j = some S' → j ≠ i → j ∉ depsAt l.toArray i → ∀ v w w', C w → C w' → T j w w' → S v w → S v w') (hm : P.follows .mixedOrders = true) (hok : regX l m X = true) (hC : C { w with drawn := w.drawn + 1 })
  (hdw : DW P l.toArray n C T E (fun kv w => WL P l.toArray (NP Q) (l.drop m) n kv w) 0 (l.take m) kv []) : WC P (.region id l.toArray true) Q n kv w := by
 intro a hF
 refine wp_mono (Q := NP Q) ?_ fun _ _ _ h => h.2
 refine wp_region_any hm ?_
 have hE : ∀ x ∈ X, E x = none := fun x hx => by have := List.all_eq_true.1 hEX x hx; simpa using this
 have hok' := regX_spec hok
 have hfalse : ∀ j, (Array.replicate l.toArray.size false).getD j false = false := fun j => by
  by_cases h : j < l.length <;> simp [Array.getD, h]
 refine phase1X (hE := hE) (m := m) (vals := fun _ => undef) hS hok' hF (by simpa using hdw) l.toArray.size _ a _ (by simp) ?_ (fun j _ => hfalse j) ⟨hC, hF.size, hF.nod, ?_, fun _ _ => rfl, ?_, ?_, ?_, ?_⟩
 ·
  have : ∀ k (L : Nat → Bool), left L k ≤ k := by
   intro k L
   induction k with
   | zero => simp [left]
   | succ k ih => simp only [left]; cases L k <;> simp <;> omega
  exact this _ _
 all_goals (intro j; intros; rename_i h _ ; first | (have := hfalse j; simp_all; done) | skip)
end
section
variable {P : Program} {Q : Exit → Act → World → Prop} {n : Nat} {kv : KV} {w0 w : World} {M Z : Nat → Prop}
theorem OX.stA' {x y : Operand} {k b o N : Nat} {T : TypeId} {ty : TypeId} {pos : String} {af : Array Edge} {g : Option (Nat × Bool)} {K : KV → World → Prop} {e : TypeId} {l us l' : List Value} (hT : (P.info? T).map (·.size) = some k) (hb : Blk w b e l) (hx : ev kv x = some (.pointer (some ⟨b, 0 + o, none⟩))) (hy : ev kv y = some (.agg us.toArray))
  (hk : us.length = k) (h1 : (Nat.ble (o + us.length) l.length && us.all (·.oneCell')) = true) (hl : l.take o ++ us ++ l.drop (o + us.length) = l')
  (h : ∀ w', Chg [b] w w' → Blk w' b e l' → K kv w') :
  OX P ⟨none, .store T x y, ty, pos, af, g⟩ N kv w K := by
 simp only [Bool.and_eq_true] at h1
 exact OX.stA hT hb (by rw [hx, Nat.zero_add]) hy hk (Nat.le_of_ble_eq_true h1.1) (fun v hv => List.all_eq_true.1 h1.2 v hv) hl fun w' a _ c => h w' a c
theorem St.eqA {A B : As} {l : List As} (h : St w0 M Z w (A :: l)) (e : A = B) : St w0 M Z w (B :: l) := by subst e; exact h
/-- A new block with a slice all over it, that an operation of such a region has made. -/
def PS (N T len : Nat) (cs : List Value) (v : Value) (w : World) : Prop := ∃ b, v = .slice (some ⟨b, 0, none⟩) len len ∧ N ≤ b ∧ Blk w b T cs
theorem PS.st {N T len : Nat} {cs : List Value} {F : Nat → Prop} (hN : ∀ x, F x → x < N) {v : Value} {w w' : World} (c : ChgP F w w') (h : PS N T len cs v w) : PS N T len cs v w' := by
 obtain ⟨b, h1, h2, h3⟩ := h
 exact ⟨b, h1, h2, by have h4 : _ = _ := h3; show _ = _; rw [c.block b h3.lt fun hf => by have := hN b hf; omega]; exact h4⟩
theorem PS.pb {N T len b : Nat} {cs : List Value} {w : World} (h : PS N T len cs (.slice (some ⟨b, 0, none⟩) len len) w) : PB N T cs (.pointer (some ⟨b, 0, none⟩)) w := by
 obtain ⟨b', h1, h2, h3⟩ := h
 simp at h1; subst h1; exact ⟨_, rfl, h2, h3⟩
/-- What is owned first is turned into something else, with what such a region has made. -/
theorem St.swap {A B : As} {l : List As} {N : Nat} (h : St w0 M Z w (A :: l)) (hB : B.ok Z w) (hfp : ∀ x, B.fp x → A.fp x ∨ N ≤ x) (hl : ∀ x, fps (A :: l) x → x < N) (hz : ∀ x, Z x → x < N) (h0 : w0.heap.size ≤ N) : St w0 M Z w (B :: l) where
 chg := h.chg
 zlt := h.zlt
 zfp D hD x hx hzx := by
  rcases List.mem_cons.1 hD with rfl | hD
  ·
   rcases hfp x hx with h1 | h1
   ·
    exact h.zfp A (by simp) x h1 hzx
   ·
    have := hz x hzx; omega
  ·
   exact h.zfp D (by simp [hD]) x hx hzx
 org D hD x hx := by
  rcases List.mem_cons.1 hD with rfl | hD
  ·
   rcases hfp x hx with h1 | h1
   ·
    exact h.org A (by simp) x h1
   ·
    exact .inr (Nat.le_trans h0 h1)
  ·
   exact h.org D (by simp [hD]) x hx
 dis := List.pairwise_cons.2 ⟨fun D hD x hx hd => by
  rcases hfp x hx with h1 | h1
  ·
   exact (List.pairwise_cons.1 h.dis).1 D hD x h1 hd
  ·
   have := hl x ⟨D, by simp [hD], hd⟩; omega, (List.pairwise_cons.1 h.dis).2⟩
 ok D hD := by
  rcases List.mem_cons.1 hD with rfl | hD
  ·
   exact hB
  ·
   exact h.ok D (by simp [hD])
/-- An append that leaves what is there. -/
theorem run_appK {α : Type} {R : RR α} {E k n c : Nat} {a : Option Addr} {xs : List α} {T bytes : Nat} (hT : AP P T E k bytes) {ty : TypeId} (hown : Ow R E k Z w a n c xs) (hzd : ∀ x ∈ oblk a, ¬ Z x) {a2 : Option Addr} {m c2 : Nat} {A : Nat → Prop} {ys : List α} (hx : SR A w k (R.r Z w) a2 m c2 ys)
  (hbytes : (n + m) * bytes ≤ 140737488355328) (hnm : n + m ≤ 140737488355328) :
  ∃ a' c' w', (Builtin.append_ #[T, T] ty #[.slice a n c, .slice a2 m c2]).run P w = .ok (.slice a' (n + m) c') w' ∧ Ow R E k Z w' a' (n + m) c' (xs ++ ys) ∧ Ow R E k Z w' a n c xs ∧ Chg (oblk a) w w' ∧ (∀ x ∈ oblk a', x ∈ oblk a ∨ w.heap.size ≤ x) := by
 obtain ⟨hn, rows, hl, hk, h1, hR⟩ := hown
 obtain ⟨hn2, rows2, hl2, hk2, h2, hR2⟩ := hx
 obtain ⟨a', c', w', hr, ho, hc, hf, _, h0, hin⟩ := run_app hT (ty := ty) h1 h2 hbytes hnm (Nat.zero_le _)
 have hst : ∀ x, Z x → x < w.heap.size → w'.heap[x]? = w.heap[x]? := fun x hx hlx => hc.block x hlx fun hm => hzd x hm hx
 refine ⟨a', c', w', hr, ⟨by rw [List.length_append]; omega, rows ++ rows2, by simp [hl, hl2], ?_, by simpa using ho, ?_⟩, ⟨hn, rows, hl, hk, ⟨h1.1, h1.2.1, ?_⟩, fun i x r h2 h3 => R.st hc.size hst (hR i x r h2 h3)⟩, hc, hf⟩
 ·
  intro r hr
  rcases List.mem_append.1 hr with h | h
  ·
   exact hk r h
  ·
   exact hk2 r h
 ·
  intro i x r hi hr
  rcases Nat.lt_or_ge i xs.length with hlt | hge2
  ·
   rw [List.getElem?_append_left hlt] at hi
   rw [List.getElem?_append_left (by omega)] at hr
   exact R.st hc.size hst (hR i x r hi hr)
  ·
   rw [List.getElem?_append_right hge2] at hi
   rw [List.getElem?_append_right (by omega)] at hr
   exact R.st hc.size hst (hR2 (i - xs.length) x r hi (by rw [← hl]; exact hr))
 ·
  rcases h1.cases with ⟨h2, h3, h4, h5⟩ | ⟨g, cur, h2, h3, h4, h5, h6, h7, h8⟩
  ·
   exact .inl ⟨by rw [h2, h3, h4], h3⟩
  ·
   have hg : g < w.heap.size := (Array.getElem?_eq_some_iff.1 h4).1
   rcases hin with hin | ⟨hroom, g', cu, cu', h9, h10, h11, h12, _, h13⟩
   ·
    exact .inr ⟨g, c, cur, by rw [h2], h3, by rw [hin.block g hg (by simp)]; exact h4, h5, h6, h7, h8⟩
   ·
    rw [h2] at h9
    simp at h9
    subst h9
    rw [h4] at h10
    simp at h10
    subst h10
    exact .inr ⟨g, c, cu', by rw [h2], h3, h11, h5, h6, by rw [h12]; exact h7, by rw [h13]; exact h8⟩
theorem OX.appK {α : Type} {R : RR α} {E k c j : Nat} {a : Option Addr} {xs : List α} {T bytes mm : Nat} {K : KV → World → Prop} {d : Tmp} {ty : TypeId} {pos : String} {af : Array Edge} {g : Option (Nat × Bool)} (hT : AP P T E k bytes) {s x : Operand} {a2 : Option Addr} {m c2 : Nat} {A : Nat → Prop} {ys : List α} (hd : Nat.blt d mm = true) (hs : ev kv s = some (.slice a j c)) (hx : ev kv x = some (.slice a2 m c2))
  (hown : Ow R E k Z w a j c xs) (hzd : ∀ x ∈ oblk a, ¬ Z x) (hsrc : SR A w k (R.r Z w) a2 m c2 ys) (hbytes : (j + m) * bytes ≤ 140737488355328) (hnm : j + m ≤ 140737488355328)
  (h : ∀ a' c' w', Ow R E k Z w' a' (j + m) c' (xs ++ ys) → Ow R E k Z w' a j c xs → Chg (oblk a) w w' → (∀ x ∈ oblk a', x ∈ oblk a ∨ w.heap.size ≤ x) → K ((d, .slice a' (j + m) c') :: kv) w') :
  OX P ⟨some d, .call { callee := .builtin .append, args := #[s, x], argTypes := #[T, T] }, ty, pos, af, g⟩ mm kv w K := by
 refine ⟨rfl, hd, by simp [known, opers, hs, hx], ?_⟩
 obtain ⟨a', c', w', hr, h1, h2, h3, h4⟩ := run_appK hT (ty := ty) hown hzd hsrc hbytes hnm
 have hr' : (execOp (lkO kv) ⟨some d, .call { callee := .builtin .append, args := #[s, x], argTypes := #[T, T] }, ty, pos, af, g⟩).run P w = .ok (.value (.slice a' (j + m) c')) w' := by
  simp only [execOp, resolve, invoke, builtin, Sem.run_bind, Sem.run_pure, Result.andThen_ok, List.map_toArray, List.map_cons, List.map_nil, lkO_of hs, lkO_of hx, hr]
 rw [hr']
 exact h _ _ _ h1 h2 h3 h4
theorem WC.drawnXT {id m : Nat} {l : List Oper} {ls : List As} (X : List Nat) (T : Nat → World → World → Prop) {E : Nat → Option (Value → World → Prop)} (hst : St w0 M Z w ls)
  (hS : ∀ i S, E i = some S → ∀ j S', E j = some S' → j ≠ i → j ∉ depsAt l.toArray i → ∀ v w1 w2, (w.heap.size ≤ w1.heap.size ∧ St w0 M Z w1 ls) → (w.heap.size ≤ w2.heap.size ∧ St w0 M Z w2 ls) → T j w1 w2 → S v w1 → S v w2) (hm : P.follows .mixedOrders = true) (hok : regX l m X = true) (hEX : (X.all fun x => (E x).isNone) = true)
  (hdw : DW P l.toArray n (fun wx => w.heap.size ≤ wx.heap.size ∧ St w0 M Z wx ls) T E (fun kv w => WL P l.toArray (NP Q) (l.drop m) n kv w) 0 (l.take m) kv []) : WC P (.region id l.toArray true) Q n kv w :=
 WC.drawnX0 (C := fun wx => w.heap.size ≤ wx.heap.size ∧ St w0 M Z wx ls) (T := T) hEX hS hm hok ⟨Nat.le_refl _, hst.step (Chg.drew [] w)⟩ hdw
theorem WC.drawnX {id m : Nat} {l : List Oper} {ls : List As} (X : List Nat) {E : Nat → Option (Value → World → Prop)} (hst : St w0 M Z w ls)
  (hS : ∀ i S, E i = some S → ∀ j S', E j = some S' → j ≠ i → j ∉ depsAt l.toArray i → ∀ v w1 w2, (w.heap.size ≤ w1.heap.size ∧ St w0 M Z w1 ls) → (w.heap.size ≤ w2.heap.size ∧ St w0 M Z w2 ls) → ChgP (fps ls) w1 w2 → S v w1 → S v w2) (hm : P.follows .mixedOrders = true) (hok : regX l m X = true) (hEX : (X.all fun x => (E x).isNone) = true)
  (hdw : DW P l.toArray n (fun wx => w.heap.size ≤ wx.heap.size ∧ St w0 M Z wx ls) (fun _ => ChgP (fps ls)) E (fun kv w => WL P l.toArray (NP Q) (l.drop m) n kv w) 0 (l.take m) kv []) : WC P (.region id l.toArray true) Q n kv w :=
 WC.drawnX0 (C := fun wx => w.heap.size ≤ wx.heap.size ∧ St w0 M Z wx ls) (T := fun _ => ChgP (fps ls)) hEX hS hm hok ⟨Nat.le_refl _, hst.step (Chg.drew [] w)⟩ hdw
end
end Go.Rc

namespace Go.Rc
open Go
/-! ### keys in order -/
def insK (k : Key) : List Key → List Key
 | [] => [k]
 | x :: r => if cmpK x k < 0 then x :: insK k r else if x = k then x :: r else k :: x :: r
def sortK (l : List Key) : List Key := l.foldl (fun out k => insK k out) []
theorem insK_at : ∀ (l : List Key) (k : Key) (p : Nat), p ≤ l.length → (∀ q x, q < p → l[q]? = some x → cmpK x k < 0) → (∀ x, l[p]? = some x → 0 ≤ cmpK x k) → insK k l = if l[p]? = some k then l else l.take p ++ [k] ++ l.drop p := by
 intro l
 induction l with
 | nil => intro k p hp _ _; simp at hp; subst hp; rfl
 | cons x r ih =>
  intro k p hp h1 h2
  cases p with
  | zero =>
   have := h2 x rfl
   simp only [insK]
   rw [if_neg (by omega)]
   by_cases e : x = k
   ·
    subst e; simp
   ·
    rw [if_neg e]; simp [e]
  | succ p =>
   have := h1 0 x (by omega) rfl
   simp only [insK]
   rw [if_pos this, ih k p (by simpa using hp) (fun q y hq hy => h1 (q + 1) y (by omega) (by simpa using hy)) (fun y hy => h2 y (by simpa using hy))]
   simp only [List.getElem?_cons_succ]
   split <;> simp
theorem insK_len (k : Key) : ∀ l, (insK k l).length ≤ l.length + 1 := by
 intro l
 induction l with
 | nil => simp [insK]
 | cons x r ih =>
  simp only [insK]
  split
  ·
   simp
   exact ih
  ·
   split <;> simp
theorem sortK_snoc (l : List Key) (k : Key) : sortK (l ++ [k]) = insK k (sortK l) := by simp [sortK]
theorem sortK_len (l : List Key) : (sortK l).length ≤ l.length := by
 have key : ∀ (l acc : List Key), (l.foldl (fun out k => insK k out) acc).length ≤ acc.length + l.length := by
  intro l
  induction l with
  | nil => intro acc; simp
  | cons x r ih => intro acc; have h1 := ih (insK x acc); have h2 := insK_len x acc; simp only [List.foldl_cons, List.length_cons]; omega
 simpa [sortK] using key l []
def ltAt (out : List Key) (p : Nat) (x : Key) : Bool := match out[p]? with | some y => decide (cmpK y x < 0) | none => false
/-! ### groups -/
/-- An open key leads to an open key that it has read. -/
def Ld (l : List Rec) (rev : Int) (a x : Key) : Prop := x ∈ (recOf l a).reads ∧ openR l rev x = true
inductive LeadsTo (l : List Rec) (rev : Int) (k : Key) : Key → Prop where
 | one {x : Key} : Ld l rev k x → LeadsTo l rev k x
 | step {x y : Key} : LeadsTo l rev k x → Ld l rev x y → LeadsTo l rev k y
/-- A map of what is true. -/
def TrueOf (m : List (Key × Value)) (P : Key → Prop) : Prop := ∀ k, (mget m k = some (.bool true) ↔ P k) ∧ (mget m k = none ∨ mget m k = some (.bool true))
open Classical in
noncomputable def leadsB (l : List Rec) (rev : Int) (k x : Key) : Bool := decide (LeadsTo l rev k x)
theorem leadsB_iff {l : List Rec} {rev : Int} {k x : Key} : leadsB l rev k x = true ↔ LeadsTo l rev k x := by unfold leadsB; simp
noncomputable def grpB (l : List Rec) (rev : Int) (k : Key) (r : Rec) : Bool := decide (r.key ≠ k) && (leadsB l rev k r.key && leadsB l rev r.key k)
noncomputable def groupL (l : List Rec) (rev : Int) (k : Key) (rs : List Rec) : List Key := (rs.filter (grpB l rev k)).map (·.key)
theorem groupL_take {l : List Rec} {rev : Int} {k : Key} {i : Nat} (h : i < l.length) : groupL l rev k (l.take (i + 1)) = if grpB l rev k l[i] = true then groupL l rev k (l.take i) ++ [l[i].key] else groupL l rev k (l.take i) := by
 rw [List.take_succ_eq_append_getElem h]
 simp only [groupL, List.filter_append, List.map_append]
 by_cases e : grpB l rev k l[i] = true <;> simp [e]
theorem groupL_len (l : List Rec) (rev : Int) (k : Key) (rs : List Rec) : (groupL l rev k rs).length ≤ rs.length := by simp only [groupL, List.length_map]; exact List.length_filter_le _ _
theorem TrueOf.get {m : List (Key × Value)} {P : Key → Prop} (h : TrueOf m P) (k : Key) {b : Bool} (hb : b = true ↔ P k) : (mget m k).getD (.bool false) = .bool b := by
 obtain ⟨h1, h2⟩ := h k
 rcases h2 with h2 | h2
 ·
  rw [h2]
  cases b
  ·
   rfl
  ·
   have := h1.2 (hb.1 rfl); rw [h2] at this; cases this
 ·
  rw [h2]
  have := hb.2 (h1.1 h2)
  rw [this]; rfl
theorem TrueOf.put {m : List (Key × Value)} {ys : List Key} (h : TrueOf m (· ∈ ys)) (x : Key) : TrueOf (mput m x (.bool true)) (· ∈ ys ++ [x]) := fun k => by
 rw [mget_put]
 by_cases e : x = k
 ·
  rw [if_pos e]; simp [e]
 ·
  rw [if_neg e]
  obtain ⟨h1, h2⟩ := h k
  refine ⟨?_, h2⟩
  rw [h1]; simp [Ne.symm e]
theorem TrueOf.congr {m : List (Key × Value)} {P Q : Key → Prop} (h : TrueOf m P) (hpq : ∀ k, P k ↔ Q k) : TrueOf m Q := fun k => ⟨(h k).1.trans (hpq k), (h k).2⟩
theorem TrueOf.nil : TrueOf [] (· ∈ ([] : List Key)) := fun k => by simp [mget]
theorem nodup_keys_le {L S : List Key} (h : L.Nodup) (hs : ∀ x ∈ L, x ∈ S) : L.length ≤ S.length := by
 induction L generalizing S with
 | nil => simp
 | cons a r ih =>
  have ha := hs a (by simp)
  rw [List.nodup_cons] at h
  have := ih (S := S.erase a) h.2 fun x hx => by
   have hne : x ≠ a := fun e => h.1 (e ▸ hx)
   exact (List.mem_erase_of_ne hne).2 (hs x (by simp [hx]))
  rw [List.length_erase, if_pos ha] at this
  have hp : 0 < S.length := List.length_pos_of_mem ha
  simp; omega
theorem open_key {l : List Rec} {rev : Int} {x : Key} (h : openR l rev x = true) : x ∈ l.map (·.key) := by
 unfold openR at h
 rw [Bool.and_eq_true] at h
 obtain ⟨r, hr⟩ := Option.isSome_iff_exists.1 h.1
 unfold findR at hr
 have h1 := List.mem_of_find?_eq_some hr
 have h2 := List.find?_some hr
 simp at h2
 exact List.mem_map.2 ⟨r, h1, h2⟩
theorem LeadsTo.opn {l : List Rec} {rev : Int} {k x : Key} (h : LeadsTo l rev k x) : openR l rev x = true := by
 cases h with
 | one h => exact h.2
 | step _ h => exact h.2
theorem leads_closed {l : List Rec} {rev : Int} {k : Key} {ys : List Key} (hs : ∀ x ∈ ys, LeadsTo l rev k x) (hc : ∀ y ∈ k :: ys, ∀ x, Ld l rev y x → x ∈ ys) (x : Key) : x ∈ ys ↔ LeadsTo l rev k x := by
 refine ⟨hs x, fun h => ?_⟩
 induction h with
 | one h => exact hc k (by simp) _ h
 | step _ h2 ih => exact hc _ (by simp [ih]) _ h2
noncomputable def groupV (l : List Rec) (rev : Int) (k : Key) : List Key := if openR l rev k then sortK (k :: groupL l rev k l) else [k]
def markR (rev : Int) (group : List Key) (dirty : Bool) (r : Rec) : Rec := if r.key ∈ group then (if dirty then { r with dirty := true } else { r with verified := rev }) else r
def markV (x : Bas) (group : List Key) (dirty : Bool) : Bas := { x with recs := x.recs.map (markR x.revision group dirty) }
def upNow (x : Bas) (k : Key) : Bool := (findR x.recs k).isSome && decide ((recOf x.recs k).verified = x.revision)
def changedV (val : Key → ByteArray) (x : Bas) (k : Key) : Int :=
 if isInput k then (findI x.inputs k).changed
 else if (findR x.recs k).isSome && (decide ((recOf x.recs k).verified = x.revision) || decide (val k = (recOf x.recs k).value)) then (recOf x.recs k).changed else x.revision
def answerV (val : Key → ByteArray) (x : Bas) (k : Key) : ByteArray := if isCyclic k then val k else keptV x k
/-! ### a request -/
structure ES where
 b : Bas
 busy : List (Key × Value)
 ran : List Key
 e : Int
def ES.on (s : ES) (k : Key) : Bool := (mget s.busy k).isSome
def thereV (s : ES) (k : Key) : Bool := isInput k || ((s.on k && isCyclic k) || upNow s.b k)
mutual
noncomputable def upV (rules : List Rule) (val : Key → ByteArray) : Nat → ES → Key → Option ES
 | 0, _, _ => none
 | f + 1, s, k =>
  if s.e ≠ 0 ∨ isInput k = true then some s
  else if upNow s.b k then some s
  else if s.on k then (if isCyclic k then some s else some { s with e := 43 })
  else (checkV rules val f { s with busy := mput s.busy k (.bool true) } k 0).bind fun p =>
   (if p.2 then runV rules val f p.1 k [] [] else some p.1).bind fun s3 => some { s3 with busy := mdel s3.busy k }
noncomputable def checkV (rules : List Rule) (val : Key → ByteArray) : Nat → ES → Key → Nat → Option (ES × Bool)
 | 0, _, _, _ => none
 | f + 1, s, k, at_ =>
  if s.e ≠ 0 then some (s, false)
  else if !(findR s.b.recs k).isSome || (recOf s.b.recs k).dirty then some (s, true)
  else if (recOf s.b.recs k).verified = s.b.revision then some (s, false)
  else
   match (checksV s.b.recs (groupV s.b.recs s.b.revision k))[at_]? with
   | none => some ({ s with b := markV s.b (groupV s.b.recs s.b.revision k) false }, false)
   | some c =>
    if thereV s c.read = false then (upV rules val f s c.read).bind fun s' => checkV rules val f s' k at_
    else if (recOf s.b.recs c.member).verified < changedV val s.b c.read then
     some ((if isCyclic k then { s with b := markV s.b (groupV s.b.recs s.b.revision k) true } else s), true)
    else checkV rules val f s k (at_ + 1)
noncomputable def runV (rules : List Rule) (val : Key → ByteArray) : Nat → ES → Key → List Key → List ByteArray → Option ES
 | 0, _, _, _, _ => none
 | f + 1, s, k, reads, answers =>
  if s.e ≠ 0 then some s
  else if (turn28 rules k answers).done then
   (if !(findR s.b.recs k).isSome && decide (4000 ≤ s.b.recs.length) then some { s with e := 45 }
   else some { s with b := { s.b with recs := putR s.b.recs (madeV s.b k (turn28 rules k answers).value reads) }, ran := s.ran ++ [k] })
  else (upV rules val f s (turn28 rules k answers).ask).bind fun s' =>
   if s'.e = 0 then runV rules val f s' k (reads ++ [(turn28 rules k answers).ask]) (answers ++ [answerV val s'.b (turn28 rules k answers).ask]) else runV rules val f s' k reads answers
end
/-! ### a solver, as one thing -/
/-- A solver with a memory of values. -/
def As.solv (P : Program) (ST : Nat) (rules : List Rule) (x : Bas) (D : SD) : As where
 fp y := y = D.s ∨ y = D.m
 ok Z w := D.s ≠ D.m ∧ Blk w D.s ST (D.cells x) ∧ (∃ ml, MemoOk rules x.inputs ml ∧ KM Key.val w D.m ml) ∧ (D.F P rules x).p Z w
 lt := fun ⟨_, h1, ⟨_, _, h2⟩, _⟩ y hy => by rcases hy with rfl | rfl; exact h1.lt; exact h2.lt
 mono hZ := fun ⟨h0, h1, h2, h3⟩ => ⟨h0, h1, h2, (D.F P rules x).mono hZ h3⟩
 st := fun hs hc ⟨h0, h1, ⟨ml, h2, h3⟩, h4⟩ => ⟨h0, (As.blk D.s ST (D.cells x)).st (Z := fun _ => False) hs (fun y hy hl => hc y (.inl (.inl (by rcases hy with hy | hy; exact hy; exact hy.elim))) hl) h1,
  ⟨ml, h2, (As.map Key.val D.m ml).st (Z := fun _ => False) hs (fun y hy hl => hc y (.inl (.inr (by rcases hy with hy | hy; exact hy; exact hy.elim))) hl) h3⟩, (D.F P rules x).st hs (fun y hy hl => hc y (.inr hy) hl) h4⟩
section
variable {w0 w w' : World} {M Z : Nat → Prop} {l : List As} {A B C : As}
/-- What is owned is taken apart. -/
theorem St.split (h : St w0 M Z w (C :: l)) (hA : A.ok Z w) (hB : B.ok Z w) (hfA : ∀ x, A.fp x → C.fp x) (hfB : ∀ x, B.fp x → C.fp x) (hd : ∀ x, A.fp x → ¬ B.fp x) : St w0 M Z w (A :: B :: l) := by
 obtain ⟨hd1, hd2⟩ := List.pairwise_cons.1 h.dis
 refine ⟨h.chg, h.zlt, ?_, ?_, ?_, ?_⟩
 ·
  intro D hD x hx hz
  simp only [List.mem_cons] at hD
  rcases hD with rfl | rfl | hD
  ·
   exact h.zfp C (by simp) x (hfA x hx) hz
  ·
   exact h.zfp C (by simp) x (hfB x hx) hz
  ·
   exact h.zfp D (by simp [hD]) x hx hz
 ·
  intro D hD x hx
  simp only [List.mem_cons] at hD
  rcases hD with rfl | rfl | hD
  ·
   exact h.org C (by simp) x (hfA x hx)
  ·
   exact h.org C (by simp) x (hfB x hx)
  ·
   exact h.org D (by simp [hD]) x hx
 ·
  refine List.pairwise_cons.2 ⟨fun D hD x hx hd' => ?_, List.pairwise_cons.2 ⟨fun D hD x hx hd' => hd1 D hD x (hfB x hx) hd', hd2⟩⟩
  simp only [List.mem_cons] at hD
  rcases hD with rfl | hD
  ·
   exact hd x hx hd'
  ·
   exact hd1 D hD x (hfA x hx) hd'
 ·
  intro D hD
  simp only [List.mem_cons] at hD
  rcases hD with rfl | rfl | hD
  ·
   exact hA
  ·
   exact hB
  ·
   exact h.ok D (by simp [hD])
theorem St.join (h : St w0 M Z w (A :: B :: l)) (hC : C.ok Z w) (hf : ∀ x, C.fp x → A.fp x ∨ B.fp x) : St w0 M Z w (C :: l) := by
 obtain ⟨hd1, hd2⟩ := List.pairwise_cons.1 h.dis
 obtain ⟨hd3, hd4⟩ := List.pairwise_cons.1 hd2
 refine ⟨h.chg, h.zlt, ?_, ?_, ?_, ?_⟩
 ·
  intro D hD x hx hz
  simp only [List.mem_cons] at hD
  rcases hD with rfl | hD
  ·
   rcases hf x hx with h1 | h1
   ·
    exact h.zfp A (by simp) x h1 hz
   ·
    exact h.zfp B (by simp) x h1 hz
  ·
   exact h.zfp D (by simp [hD]) x hx hz
 ·
  intro D hD x hx
  simp only [List.mem_cons] at hD
  rcases hD with rfl | hD
  ·
   rcases hf x hx with h1 | h1
   ·
    exact h.org A (by simp) x h1
   ·
    exact h.org B (by simp) x h1
  ·
   exact h.org D (by simp [hD]) x hx
 ·
  refine List.pairwise_cons.2 ⟨fun D hD x hx hd' => ?_, hd4⟩
  rcases hf x hx with h1 | h1
  ·
   exact hd1 D (by simp [hD]) x h1 hd'
  ·
   exact hd3 D hD x h1 hd'
 ·
  intro D hD
  simp only [List.mem_cons] at hD
  rcases hD with rfl | hD
  ·
   exact hC
  ·
   exact h.ok D (by simp [hD])
/-- One of those that are owned, by itself; and back, if it reads as before. -/
theorem St.one (h : St w0 M Z w l) (hA : A ∈ l) : St w (fps [A]) Z w [A] where
 chg := ChgP.refl _ _
 zlt := h.zlt
 zfp D hD := by simp at hD; subst hD; exact h.zfp _ hA
 org D hD x hx := .inl ⟨D, hD, hx⟩
 dis := by simp
 ok D hD := by simp at hD; subst hD; exact h.ok _ hA
theorem St.sameC (h : St w0 M Z w l) (hA : A ∈ l) (h' : St w (fps [A]) Z w' [A]) : St w0 M Z w' l :=
 h.same hA (h'.chg.mono fun x _ ⟨D, hD, hx⟩ => by simp at hD; subst hD; exact hx) (h'.ok A (by simp))
theorem fps_sub (hA : A ∈ l) {x : Nat} (hx : fps [A] x) : fps l x := by obtain ⟨D, hD, hx⟩ := hx; simp at hD; subst hD; exact ⟨D, hA, hx⟩
end
theorem As.gv {P : Program} {ST : Nat} {rules : List Rule} {x : Bas} {D : SD} {Z : Nat → Prop} {w : World} (h : (As.solv P ST rules x D).ok Z w) : (D.F P rules x).p Z w := h.2.2.2
theorem As.gvb {P : Program} {ST : Nat} {rules : List Rule} {x : Bas} {D : SD} {Z : Nat → Prop} {w : World} (h : (As.solv P ST rules x D).ok Z w) : Blk w D.s ST (D.cells x) := h.2.1
/-- Where an engine's data lie. -/
structure EA where
 (a1 a2 a3 : Option Addr) (n1 c1 n2 c2 n3 c3 : Nat)
def EA.cells (E : EA) (sb bb : Nat) (s : ES) : List Value :=
 [.pointer (some ⟨sb, 0, none⟩), .int .i64 s.b.revision, .slice E.a1 E.n1 E.c1, .slice E.a2 E.n2 E.c2, .map (some bb), .slice E.a3 E.n3 E.c3, .int .i64 s.e]
theorem markV_take {x : Bas} {group : List Key} {dirty : Bool} {i : Nat} (h : i < x.recs.length) (hi : i ≤ x.recs.length) : (((x.recs.take i).map (markR x.revision group dirty)) ++ x.recs.drop i).set i (markR x.revision group dirty x.recs[i]) = ((x.recs.take (i + 1)).map (markR x.revision group dirty)) ++ x.recs.drop (i + 1) := by
 rw [List.set_append_right _ _ (by simp; omega)]
 simp only [List.length_map, List.length_take, Nat.min_eq_left hi, Nat.sub_self]
 rw [List.drop_eq_getElem_cons h, List.set_cons_zero, List.take_succ_eq_append_getElem h, List.map_append, List.append_assoc]
 rfl
end Go.Rc

namespace Go.Rc
open Go
structure Good (rules : List Rule) (inp : List Inp) (s : ES) : Prop where
 inp : s.b.inputs = inp
 len : s.b.recs.length ≤ 4000
 key : ∀ r ∈ s.b.recs, Knd rules r.key
 rds : ∀ r ∈ s.b.recs, r.reads.length ≤ 4000 ∧ ∀ a ∈ r.reads, Knd rules a
 nod : (s.busy.map (·.1)).Nodup
 busy : ∀ k, mget s.busy k = none ∨ mget s.busy k = some (.bool true)
/-- What grows, and what stays. -/
structure ELe (s s' : ES) : Prop where
 ran : s.ran.length ≤ s'.ran.length
 rev : s'.b.revision = s.b.revision
theorem ELe.refl (s : ES) : ELe s s := ⟨Nat.le_refl _, rfl⟩
theorem ELe.trans {s t u : ES} (h : ELe s t) (h' : ELe t u) : ELe s u := ⟨Nat.le_trans h.ran h'.ran, h'.rev.trans h.rev⟩
section
variable {rules : List Rule} {inp : List Inp} {s : ES} {k : Key}
theorem Good.on (h : Good rules inp s) (k : Key) : Good rules inp { s with busy := mput s.busy k (.bool true) } :=
 { h with nod := mput_nodup h.nod _ _, busy := fun k' => by show mget (mput s.busy k (.bool true)) k' = none ∨ _; rw [mget_put]; split; exact .inr rfl; exact h.busy k' }
theorem Good.off (h : Good rules inp s) (k : Key) : Good rules inp { s with busy := mdel s.busy k } :=
 { h with nod := by exact (((mdel_sub s.busy k).map (·.1)).nodup h.nod), busy := fun k' => by show mget (mdel s.busy k) k' = none ∨ _; rw [mget_del h.nod]; split; exact .inl rfl; exact h.busy k' }
theorem Good.err (h : Good rules inp s) (e : Int) : Good rules inp { s with e := e } := { h with }
theorem markR_key (rev : Int) (g : List Key) (d : Bool) (r : Rec) : (markR rev g d r).key = r.key ∧ (markR rev g d r).reads = r.reads := by unfold markR; by_cases h1 : r.key ∈ g <;> cases d <;> simp [h1]
theorem Good.mark (h : Good rules inp s) (g : List Key) (d : Bool) : Good rules inp { s with b := markV s.b g d } :=
 { h with
  len := by show ((s.b.recs.map _).length ≤ 4000); rw [List.length_map]; exact h.len
  key := fun r hr => by obtain ⟨q, hq, rfl⟩ := List.mem_map.1 hr; rw [(markR_key _ _ _ q).1]; exact h.key q hq
  rds := fun r hr => by obtain ⟨q, hq, rfl⟩ := List.mem_map.1 hr; rw [(markR_key _ _ _ q).2]; exact h.rds q hq }
theorem ELe.mark (g : List Key) (d : Bool) : ELe s { s with b := markV s.b g d } := ⟨Nat.le_refl _, rfl⟩
theorem putGo_mem (r : Rec) : ∀ (l : List Rec) (b : Bool) (x : Rec), x ∈ putGo r l b → x = r ∨ x ∈ l := by
 intro l
 induction l with
 | nil => intro b x h; unfold putGo at h; split at h; cases h; simp at h; exact .inl h
 | cons y ys ih =>
  intro b x h
  unfold putGo at h
  rcases List.mem_append.1 h with h | h
  ·
   rcases List.mem_append.1 h with h | h
   ·
    split at h
    ·
     simp at h; exact .inl h
    ·
     cases h
   ·
    split at h
    ·
     cases h
    ·
     simp at h; exact .inr (by simp [h])
  ·
   rcases ih _ x h with h | h
   ·
    exact .inl h
   ·
    exact .inr (by simp [h])
theorem putGo_count (r : Rec) : ∀ (l : List Rec) (b : Bool), (putGo r l b).length + (l.filter fun x => decide (cmpK x.key r.key = 0)).length = l.length + (if b then 0 else 1) := by
 intro l
 induction l with
 | nil => intro b; cases b <;> simp [putGo]
 | cons y ys ih =>
  intro b
  have h1 := ih (b || decide (0 ≤ cmpK y.key r.key))
  simp only [putGo, List.length_append, List.length_cons]
  by_cases h0 : cmpK y.key r.key = 0
  ·
   have h2 : 0 ≤ cmpK y.key r.key := by omega
   simp only [h0, if_true, List.filter_cons, decide_true, List.length_cons, List.length_nil]
   simp only [h2, decide_true, Bool.or_true, if_true] at h1
   cases b <;> simp <;> omega
  ·
   simp only [h0, if_false, List.filter_cons, decide_false, Bool.false_eq_true, List.length_cons, List.length_nil]
   by_cases h2 : 0 ≤ cmpK y.key r.key
   ·
    simp only [h2, decide_true, Bool.or_true, if_true] at h1
    cases b <;> simp [h2] <;> omega
   ·
    simp only [h2, decide_false, Bool.or_false] at h1
    cases b <;> simp [h2] at h1 ⊢ <;> omega
theorem putR_len {l : List Rec} {r : Rec} (h : (findR l r.key).isSome = true) (hc : cmpK r.key r.key = 0) : (putR l r).length ≤ l.length := by
 have h1 := putGo_count r l false
 obtain ⟨x, hx⟩ := Option.isSome_iff_exists.1 h
 have h2 := List.mem_of_find?_eq_some hx
 have h3 := List.find?_some hx
 simp at h3
 have h4 : 0 < (l.filter fun x => decide (cmpK x.key r.key = 0)).length := List.length_pos_of_mem (List.mem_filter.2 ⟨h2, by rw [h3]; simp [hc]⟩)
 unfold putR
 simp at h1
 omega
theorem cmpB_self : ∀ l : List UInt8, Lib.compareBytes l l = 0
 | [] => by simp [Lib.compareBytes]
 | a :: r => by simp [Lib.compareBytes, cmpB_self r]
theorem cmpK_self (k : Key) : cmpK k k = 0 := by unfold cmpK; simp [cmpB_self]
theorem Good.put (h : Good rules inp s) {r : Rec} {ran : List Key} (hk : Knd rules r.key) (hr : r.reads.length ≤ 4000 ∧ ∀ a ∈ r.reads, Knd rules a) (h4 : (!(findR s.b.recs r.key).isSome && decide (4000 ≤ s.b.recs.length)) = false) :
  Good rules inp { s with b := { s.b with recs := putR s.b.recs r }, ran := ran } :=
 { h with
  len := by
   show (putR s.b.recs r).length ≤ 4000
   have h1 := h.len
   cases hf : (findR s.b.recs r.key).isSome with
   | true => have := putR_len hf (cmpK_self r.key); omega
   | false =>
    rw [hf] at h4
    have h2 : (putR s.b.recs r).length ≤ s.b.recs.length + 1 := putGo_len r s.b.recs false
    simp at h4; omega
  key := fun x hx => by rcases putGo_mem r _ _ x hx with rfl | hx; exact hk; exact h.key x hx
  rds := fun x hx => by rcases putGo_mem r _ _ x hx with rfl | hx; exact hr; exact h.rds x hx }
/-- A key's turns: how many answers there may be. -/
def ansOk (rules : List Rule) (k : Key) (n : Nat) : Prop := ∃ i, i < rules.length ∧ k = ofK rules (i : Int) ∧ n ≤ asksN rules i
theorem Knd.ans (h : Knd rules k) (hi : isInput k = false) : ansOk rules k 0 := by
 cases h with
 | cell h => rw [isInput_cellK h] at hi; cases hi
 | rule h h99 => exact ⟨_, h, rfl, Nat.zero_le _⟩
theorem ansOk.next (hR : rulesOk rules) {answers : List ByteArray} (h : ansOk rules k answers.length) (hd : (turn28 rules k answers).done = false) : ansOk rules k (answers.length + 1) ∧ Knd rules (turn28 rules k answers).ask := by
 obtain ⟨i, hi, rfl, hn⟩ := h
 have h99 : i ≤ 99 := by have := hR.len; omega
 rw [turn28_ofK hi h99] at hd ⊢
 rcases Nat.lt_or_ge answers.length (asksN rules i) with hlt | hge
 ·
  obtain ⟨a, h1, h2, _⟩ := turn_ask hR hi hlt
  rw [h1]
  exact ⟨⟨i, hi, rfl, hlt⟩, h2.knd hR⟩
 ·
  rw [turn_end hR hi (by omega)] at hd; cases hd
theorem ansOk.le (hR : rulesOk rules) {n : Nat} (h : ansOk rules k n) : n ≤ 6 := by obtain ⟨i, hi, _, hn⟩ := h; have := asksN_le hR hi; omega
theorem ansOk.not (hR : rulesOk rules) {n : Nat} (h : ansOk rules k n) : notLang k ∧ isInput k = false := by
 obtain ⟨i, hi, rfl, hn⟩ := h; have := hR.len; exact ⟨notLang_ofK hi (by omega), isInput_ofK hi (by omega)⟩
theorem ansOk.knd (hR : rulesOk rules) {n : Nat} (h : ansOk rules k n) : Knd rules k := by obtain ⟨i, hi, rfl, _⟩ := h; have := hR.len; exact .rule hi (by omega)
end
section
variable {rules : List Rule} {val : Key → ByteArray} {inp : List Inp}
def UpG (rules : List Rule) (val : Key → ByteArray) (inp : List Inp) (f : Nat) : Prop := ∀ s k s', upV rules val f s k = some s' → Good rules inp s → Knd rules k → Good rules inp s' ∧ ELe s s'
def ChG (rules : List Rule) (val : Key → ByteArray) (inp : List Inp) (f : Nat) : Prop := ∀ s k n s' b, checkV rules val f s k n = some (s', b) → Good rules inp s → Good rules inp s' ∧ ELe s s'
def RuG (rules : List Rule) (val : Key → ByteArray) (inp : List Inp) (f : Nat) : Prop := ∀ s k reads answers s', runV rules val f s k reads answers = some s' → Good rules inp s → ansOk rules k answers.length → reads.length = answers.length → (∀ a ∈ reads, Knd rules a) → Good rules inp s' ∧ ELe s s'
theorem chk_read {rules : List Rule} {inp : List Inp} {s : ES} (h : Good rules inp s) {group : List Key} {n : Nat} {c : Chk} (hc : (checksV s.b.recs group)[n]? = some c) : Knd rules c.read := by
 have h1 := List.mem_of_getElem? hc
 obtain ⟨m, hm, h2⟩ := List.mem_flatMap.1 h1
 obtain ⟨a, ha, rfl⟩ := List.mem_map.1 h2
 have h3 := (List.mem_filter.1 ha).1
 show Knd rules a
 unfold recOf at h3
 cases hf : findR s.b.recs m with
 | none => rw [hf] at h3; simp [noRec] at h3
 | some r => rw [hf] at h3; exact (h.rds r (List.mem_of_find?_eq_some hf)).2 a h3
theorem groupV_len (l : List Rec) (rev : Int) (k : Key) : (groupV l rev k).length ≤ l.length + 1 := by
 unfold groupV
 split
 ·
  have h1 := sortK_len (k :: groupL l rev k l)
  have h2 := groupL_len l rev k l
  simp only [List.length_cons] at h1
  omega
 ·
  simp
theorem chk_len {rules : List Rule} {inp : List Inp} {s : ES} (h : Good rules inp s) {group : List Key} (hg : group.length ≤ 4001) : ∀ i, ((group.take i).flatMap fun m => checksOf group m (recOf s.b.recs m).reads).length ≤ 100000000 := by
 intro i
 have h1 : ∀ l : List Key, (l.flatMap fun m => checksOf group m (recOf s.b.recs m).reads).length ≤ l.length * 4000 := by
  intro l
  induction l with
  | nil => simp
  | cons m r ih =>
   simp only [List.flatMap_cons, List.length_append, List.length_cons]
   have h2 := checksOf_len group m (recOf s.b.recs m).reads
   have h3 : (recOf s.b.recs m).reads.length ≤ 4000 := by
    unfold recOf
    cases hf : findR s.b.recs m with
    | none => simp [noRec]
    | some r => exact (h.rds r (List.mem_of_find?_eq_some hf)).1
   rw [Nat.add_mul]
   omega
 have h2 := h1 (group.take i)
 have h3 : (group.take i).length ≤ 4001 := by rw [List.length_take]; omega
 omega
theorem chk_all {rules : List Rule} {inp : List Inp} {s : ES} (h : Good rules inp s) {group : List Key} (hg : group.length ≤ 4001) : (checksV s.b.recs group).length ≤ 100000000 := by
 have h1 := chk_len h hg group.length
 rw [List.take_of_length_le (Nat.le_refl _)] at h1
 exact h1
theorem engine_good (hR : rulesOk rules) : ∀ f, UpG rules val inp f ∧ ChG rules val inp f ∧ RuG rules val inp f := by
 intro f
 induction f with
 | zero => exact ⟨fun s k s' h => by simp [upV] at h, fun s k n s' b h => by simp [checkV] at h, fun s k r a s' h => by simp [runV] at h⟩
 | succ f ih =>
  obtain ⟨ihu, ihc, ihr⟩ := ih
  refine ⟨?_, ?_, ?_⟩
  ·
   intro s k s' h hg hk
   unfold upV at h
   split at h
   ·
    cases h; exact ⟨hg, .refl _⟩
   rename_i he
   split at h
   ·
    cases h; exact ⟨hg, .refl _⟩
   split at h
   ·
    split at h <;> cases h
    ·
     exact ⟨hg, .refl _⟩
    ·
     exact ⟨hg.err _, ⟨Nat.le_refl _, rfl⟩⟩
   obtain ⟨p, hp, h⟩ := Option.bind_eq_some_iff.1 h
   obtain ⟨t, ht, h⟩ := Option.bind_eq_some_iff.1 h
   cases h
   obtain ⟨h1, h2⟩ := ihc _ _ _ p.1 p.2 (by rw [hp]) (hg.on k)
   have h2' : ELe s p.1 := ⟨h2.ran, h2.rev⟩
   have h3 : Good rules inp t ∧ ELe s t := by
    split at ht
    ·
     obtain ⟨h4, h5⟩ := ihr _ _ _ _ _ ht h1 (hk.ans (by simp at he; exact he.2)) rfl (fun a ha => by cases ha)
     exact ⟨h4, h2'.trans h5⟩
    ·
     cases ht; exact ⟨h1, h2'⟩
   exact ⟨h3.1.off k, ⟨h3.2.ran, h3.2.rev⟩⟩
  ·
   intro s k n s' b h hg
   unfold checkV at h
   split at h
   ·
    cases h; exact ⟨hg, .refl _⟩
   split at h
   ·
    cases h; exact ⟨hg, .refl _⟩
   split at h
   ·
    cases h; exact ⟨hg, .refl _⟩
   split at h
   ·
    cases h; exact ⟨hg.mark _ _, .mark _ _⟩
   rename_i c hc
   split at h
   ·
    obtain ⟨t, ht, h⟩ := Option.bind_eq_some_iff.1 h
    obtain ⟨h1, h2⟩ := ihu _ _ _ ht hg (chk_read hg hc)
    obtain ⟨h3, h4⟩ := ihc _ _ _ _ _ h h1
    exact ⟨h3, h2.trans h4⟩
   split at h
   ·
    split at h <;> cases h
    ·
     exact ⟨hg.mark _ _, .mark _ _⟩
    ·
     exact ⟨hg, .refl _⟩
   ·
    exact ihc _ _ _ _ _ h hg
  ·
   intro s k reads answers s' h hg ha hl hr
   unfold runV at h
   split at h
   ·
    cases h; exact ⟨hg, .refl _⟩
   split at h
   ·
    split at h
    ·
     cases h; exact ⟨hg.err _, ⟨Nat.le_refl _, rfl⟩⟩
    ·
     rename_i h4
     cases h
     have h6 := ha.le hR
     exact ⟨hg.put (r := madeV s.b k (turn28 rules k answers).value reads) (ha.knd hR) ⟨by show reads.length ≤ 4000; omega, hr⟩ (by show (!(findR s.b.recs k).isSome && _) = false; simpa using h4), ⟨by simp, rfl⟩⟩
   ·
    rename_i hd
    obtain ⟨t, ht, h⟩ := Option.bind_eq_some_iff.1 h
    have hn := ha.next hR (by simpa using hd)
    obtain ⟨h1, h2⟩ := ihu _ _ _ ht hg hn.2
    split at h
    ·
     obtain ⟨h3, h4⟩ := ihr _ _ _ _ _ h h1 (by simpa using hn.1) (by simp [hl]) (fun a ha => by rcases List.mem_append.1 ha with ha | ha; exact hr a ha; simp at ha; subst ha; exact hn.2)
     exact ⟨h3, h2.trans h4⟩
    ·
     obtain ⟨h3, h4⟩ := ihr _ _ _ _ _ h h1 ha hl hr
     exact ⟨h3, h2.trans h4⟩
end
end Go.Rc

namespace Go.Rc
open Go
/-! ### counting -/
def cnt (p : Nat → Bool) : Nat → Nat
 | 0 => 0
 | n + 1 => cnt p n + (p n).toNat
theorem cnt_le {p q : Nat → Bool} : ∀ {n : Nat}, (∀ i, i < n → p i = true → q i = true) → cnt p n ≤ cnt q n
 | 0, _ => Nat.le_refl _
 | n + 1, h => by
  have h1 := cnt_le (n := n) fun i hi => h i (by omega)
  have h2 := h n (by omega)
  simp only [cnt]
  cases hp : p n with
  | false => simp; omega
  | true => rw [h2 hp]; omega
/-! ### what is found in what was put -/
theorem findR_map (f : Rec → Rec) (hf : ∀ r, (f r).key = r.key) (k : Key) (l : List Rec) : findR (l.map f) k = (findR l k).map f := by
 unfold findR
 rw [List.find?_map, show ((fun x : Rec => x.key == k) ∘ f) = (fun x : Rec => x.key == k) from funext fun x => by simp [hf]]
/-! ### what goes on being so -/
theorem upNow_iff {x : Bas} {k : Key} : upNow x k = true ↔ ∃ r, findR x.recs k = some r ∧ r.verified = x.revision := by
 unfold upNow recOf
 cases hf : findR x.recs k with
 | none => simp
 | some r => simp
theorem upNow_mark {x : Bas} {g : List Key} {d : Bool} {k : Key} (h : upNow x k = true) : upNow (markV x g d) k = true := by
 obtain ⟨r, h1, h2⟩ := upNow_iff.1 h
 refine upNow_iff.2 ⟨markR x.revision g d r, ?_, ?_⟩
 ·
  show findR (x.recs.map (markR x.revision g d)) k = _
  rw [findR_map _ (fun r => (markR_key _ _ _ r).1), h1]; rfl
 ·
  show _ = x.revision
  unfold markR
  by_cases h1 : r.key ∈ g <;> cases d <;> simp [h1, h2]
structure Keep (s s' : ES) : Prop where
 on : ∀ k, s'.on k = s.on k
 up : ∀ k, upNow s.b k = true → upNow s'.b k = true
theorem Keep.refl (s : ES) : Keep s s := ⟨fun _ => rfl, fun _ h => h⟩
theorem Keep.trans {s t u : ES} (h : Keep s t) (h' : Keep t u) : Keep s u := ⟨fun k => (h'.on k).trans (h.on k), fun k hk => h'.up k (h.up k hk)⟩
theorem Keep.there {s s' : ES} (h : Keep s s') {k : Key} (ht : thereV s k = true) : thereV s' k = true := by
 unfold thereV at ht ⊢
 rw [h.on k]
 simp only [Bool.or_eq_true] at ht ⊢
 rcases ht with h1 | h1 | h1
 ·
  exact .inl h1
 ·
  exact .inr (.inl h1)
 ·
  exact .inr (.inr (h.up k h1))
/-- The rules that are open: not up to date, and not under way. -/
def opn (rules : List Rule) (s : ES) : Nat := cnt (fun i => !upNow s.b (ofK rules (i : Int)) && !s.on (ofK rules (i : Int))) rules.length
/-- The rules that are not under way. -/
def off (rules : List Rule) (s : ES) : Nat := cnt (fun i => !s.on (ofK rules (i : Int))) rules.length
theorem Keep.opn {rules : List Rule} {s s' : ES} (h : Keep s s') : opn rules s' ≤ opn rules s := cnt_le fun i _ hp => by
 simp only [Bool.and_eq_true, Bool.not_eq_true'] at hp ⊢
 rw [h.on] at hp
 refine ⟨?_, hp.2⟩
 cases hu : upNow s.b (ofK rules (i : Int)) with
 | false => rfl
 | true => rw [h.up _ hu] at hp; exact absurd hp.1 (by simp)
theorem Keep.off {rules : List Rule} {s s' : ES} (h : Keep s s') : Go.Rc.off rules s' = Go.Rc.off rules s := by
 unfold Go.Rc.off
 congr 1
 funext i
 rw [h.on]
section
variable {rules : List Rule} {val : Key → ByteArray} {inp : List Inp}
theorem Keep.err (s : ES) (e : Int) : Keep s { s with e := e } := ⟨fun _ => rfl, fun _ h => h⟩
theorem Keep.mark (s : ES) (g : List Key) (d : Bool) : Keep s { s with b := markV s.b g d } := ⟨fun _ => rfl, fun _ h => upNow_mark h⟩
/-! ### more fuel does no harm -/
/-! ### there is fuel enough -/
end
end Go.Rc

namespace Go.Rc
open Go
noncomputable def upAllV (rules : List Rule) (val : Key → ByteArray) (f : Nat) : ES → List Key → Option ES
 | s, [] => some s
 | s, k :: r => (upV rules val f s k).bind fun t => upAllV rules val f t r
def ES.base (s : ES) (x : Bas) : Bas := if s.e = 0 then s.b else x
noncomputable def ES.list (s : ES) : List Key := if s.e = 0 then sortK s.ran else []
theorem upAll_good {rules : List Rule} {inp : List Inp} {val : Key → ByteArray} (hR : rulesOk rules) {f : Nat} : ∀ {l : List Key} {s s' : ES}, upAllV rules val f s l = some s' → Good rules inp s → (∀ k ∈ l, Knd rules k) → Good rules inp s' ∧ ELe s s'
 | [], s, s', h, hg, _ => by simp only [upAllV, Option.some.injEq] at h; subst h; exact ⟨hg, .refl _⟩
 | k :: r, s, s', h, hg, hk => by
  simp only [upAllV] at h
  obtain ⟨t, h1, h2⟩ := Option.bind_eq_some_iff.1 h
  have h3 := (engine_good (val := val) hR f).1 _ _ _ h1 hg (hk k (by simp))
  have h4 := upAll_good hR h2 h3.1 fun k hk' => hk k (by simp [hk'])
  exact ⟨h4.1, h3.2.trans h4.2⟩
theorem St.neBM {κ : Type} {enc : κ → Value} {w0 w : World} {M Z : Nat → Prop} {l : List As} {s m T : Nat} {cs : List Value} {q : List (κ × Value)} (h : St w0 M Z w (As.blk s T cs :: As.map enc m q :: l)) : s ≠ m := fun e => by
 have h1 := (List.pairwise_cons.1 h.dis).1 (As.map enc m q) (by simp) s rfl
 exact h1 e
end Go.Rc

namespace Go.Rc
open Go
def SimR (r : Rule) : Prop := r.ring = false ∧ r.asks = [] ∧ r.final = 1 ∧ 0 ≤ r.c ∧ r.c ≤ 99
theorem SimR.key {rules : List Rule} {i : Nat} (hi : i < rules.length) (h99 : i ≤ 99) (h : SimR rules[i]) : ofK rules (i : Int) = ⟨31, itoa i⟩ := by
 unfold ofK
 rw [if_neg (by omega)]
 simp [ringAt_get hi, h.1]
end Go.Rc
namespace Go.Rc
open Go
/-- A record of a rule without asks. -/
def rec1 (i : Nat) (v : ByteArray) : Rec := ⟨⟨31, itoa i⟩, v, [], 0, 0, 1, false⟩
def SimB (i : Nat) (x : Bas) : Prop := x.revision = 0 ∧ x.inputs = [] ∧ x.recs.length ≤ 1 ∧ ∀ y ∈ x.recs, ∃ v : ByteArray, y = rec1 i v ∧ v.size ≤ 1000
def IdxOf {α : Type} (l : List α) (p : α → Bool) (j : Int) : Prop := (∃ i : Nat, ∃ x, l[i]? = some x ∧ p x = true ∧ (∀ j x, j < i → l[j]? = some x → p x = false) ∧ j = i) ∨ ((∀ x ∈ l, p x = false) ∧ j = -1)
end Go.Rc
namespace Go.Rc
open Go
/-- Where the program's work lies. -/
structure WD where
 (ar a1 a2 : Option Addr) (r cr n1 c1 n2 c2 m v : Nat)
def WD.cells (D : WD) (x : Bas) : List Value :=
 [.slice D.ar D.r D.cr, .int .i64 x.revision, .slice D.a1 D.n1 D.c1, .slice D.a2 D.n2 D.c2, .map (some D.m), .pointer (some ⟨D.v, 0, none⟩), .slice none 0 0]
end Go.Rc

