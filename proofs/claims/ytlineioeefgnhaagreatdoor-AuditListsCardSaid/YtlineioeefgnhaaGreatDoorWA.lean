/- Walks over the program, part WA. Conditions: as each theorem says. -/
import Derived.Test.YtlineioeefgnhaaGreatDoorFacts
import Derived.Test.YtlineioeefgnhaaGreatDoorBa
set_option linter.unusedVariables false
set_option linter.unusedSimpArgs false
set_option linter.unusedSectionVars false
namespace Go.Rc
open Go Go.Proofs
set_option maxHeartbeats 400000
theorem block_calls {rules : List Rule} {A : Nat → Prop} {a : Option Addr} {r c : Nat} {n : Int} {w : World} (hr : Rules A w a r c rules) : Calls Tryz.prog 115 #[.slice a r c, .int .i64 n] w fun e w' => e = .returned (.tuple #[.int .i64 (block rules n).1, .int .i64 (block rules n).2]) ∧ Chg [] w w'  := by
 have hle := hr.le
 have hlen := hr.len
 refine enter (args := [.slice a r c, .int .i64 n]) Tryz.func115 rfl Tryz.ntmps115 rfl ?_
 have c0 : Chg [] w w := Chg.refl _ _
 refine WC.seq ?_
 refine WC.region ?_
 refine WL.p rfl rfl (PV.as rfl) <| WL.p rfl rfl (PV.as rfl) <| WL.nil ?_
 refine EX.seqN ?_
 refine WC.seq ?_
 refine WC.seq ?_
 refine WC.cut1 (t := 15) (v := .bool (decide (n < 0) || decide ((r : Int) ≤ n))) (fun wx => w = wx) ?_ ?_
 ·
  skip
  refine WC.region ?_
  refine WL.p rfl rfl (PV.mv rfl) <| WL.p rfl rfl (PV.lss rfl rfl) <| WL.p rfl rfl (PV.mv rfl) <| ?_
  refine WL.gsplit (t := 10) rfl (fun g10 => ?_) (fun g10 => ?_)
  ·
   skip
   refine WL.no rfl rfl <| WL.no rfl rfl <| WL.no rfl rfl <| WL.no rfl rfl <| WL.p rfl rfl (PV.pickT rfl rfl rfl) <| WL.nil ?_
   exact EX.meet1 9 rfl rfl rfl (by simp only [g10]; first | done | rfl | simp) rfl
  ·
   skip
   refine WL.p rfl rfl (PV.mv rfl) <| WL.p rfl rfl (PV.mv rfl) <| WL.p rfl rfl (PV.len' sl36 rfl) <| WL.p rfl rfl (PV.geq rfl rfl) <| WL.p rfl rfl (PV.pickF rfl rfl rfl) <| WL.nil ?_
   exact EX.meet1 9 rfl rfl rfl (by simp only [g10]; first | done | rfl | simp) rfl
 rintro _ rfl
 refine EX.seqN ?_
 refine WC.cond rfl (fun g15 => ?_) (fun g15 => ?_)
 ·
  skip
  have hb := block_out rules n (by simp at g15; omega)
  refine WC.seq ?_
  refine WC.region ?_
  refine WL.p rfl rfl (PV.as rfl) <| WL.p rfl rfl (PV.as rfl) <| WL.nil ?_
  refine EX.seqN ?_
  refine WC.ret ?_
  refine EX.thenR ?_
  refine EX.ret2 rfl rfl rfl ?_
  exact ⟨by rw [hb], c0⟩
 ·
  skip
  obtain ⟨nn, rfl⟩ : ∃ i : Nat, n = i := ⟨n.toNat, by simp at g15; omega⟩
  have hnl : nn < rules.length := by simp at g15; omega
  have hbl : block rules nn = if ringAt rules nn then ((blockLo rules nn : Int), (hiFrom rules (nn + 1) : Int)) else ((nn : Int), (nn : Int) + 1) := by
   unfold block; rw [if_neg (by omega)]; rfl
  refine WC.skip ?_
  refine EX.seqN ?_
  refine WC.seq ?_
  refine WC.region ?_
  refine WL.p rfl rfl (PV.mv rfl) <| WL.p rfl rfl (PV.mv rfl) <| WL.p rfl rfl (PV.add rfl rfl (by omega) (by omega)) <| WL.p rfl rfl (PV.as rfl) <| WL.p rfl rfl (PV.as rfl) <| WL.nil ?_
  refine EX.seqN ?_
  refine WC.seq ?_
  refine WC.block ?_
  refine WC.loop (σ := Nat) (kvs := fun k => [(0, .slice a r c), (1, .int .i64 (nn : Int)), (6, .int .i64 (k : Int)), (7, .int .i64 ((nn : Int) + 1))]) (I := fun k w' => Chg [] w w' ∧ k ≤ nn ∧ blockLo rules k = blockLo rules nn ∧ (ringAt rules nn = false → k = nn)) (μ := fun k => k) nn (Sub.cons rfl <| Sub.cons rfl <| Sub.cons rfl <| Sub.cons rfl <| Sub.nil) ⟨c0, Nat.le_refl _, rfl, fun _ => rfl⟩ ?_
  rintro k w1 ⟨c1, hk, hlo, hnr⟩
  refine WC.seq ?_
  refine WC.seq ?_
  obtain ⟨b1, o1, r1, ha1, _, ⟨q1, q2, q3, rfl, _⟩, hr1, _⟩ := (hr.ext c1).at (getElem_some hnl)
  refine WC.cut1 (t := 35) (v := .bool (rules[nn].ring && (decide ((0:Int) < k) && ringAt rules (k - 1)))) (fun wx => w1 = wx) ?_ ?_
  ·
   skip
   refine WC.region ?_
   refine WL.p rfl rfl (PV.mv rfl) <| WL.p rfl rfl (PV.mv rfl) <| WL.p rfl rfl (PV.ixS sl36 ha1 rfl rfl (by omega)) <| WL.p rfl rfl (PV.fa fa35_0 rfl) <| WL.p rfl rfl (PV.ld1 one4 hr1 rfl rfl) <| WL.p rfl rfl (PV.mv rfl) <| ?_
   refine WL.gsplit (t := 24) rfl (fun g24 => ?_) (fun g24 => ?_)
   ·
    skip
    refine WL.p rfl rfl (PV.mv rfl) <| WL.p rfl rfl (PV.gtr rfl rfl) <| WL.p rfl rfl (PV.pickT rfl rfl rfl) <| WL.p rfl rfl (PV.mv rfl) <| ?_
    refine WL.gsplit (t := 28) rfl (fun g28 => ?_) (fun g28 => ?_)
    ·
     skip
     obtain ⟨b2, o2, r2, ha2, _, ⟨q4, q5, q6, rfl, _⟩, hr2, _⟩ := (hr.ext c1).at (getElem_some (show k - 1 < rules.length by omega))
     simp at g28
     have hk1 : rules[k-1].ring = ringAt rules (k-1) := (ringAt_get (by omega)).symm
     refine WL.p rfl rfl (PV.mv rfl) <| WL.p rfl rfl (PV.mv rfl) <| WL.p rfl rfl (PV.sub rfl rfl (by omega) (by omega)) <| WL.p rfl rfl (PV.ixZ sl36 (k - 1) ha2 rfl rfl (by omega) (by omega)) <| WL.p rfl rfl (PV.fa fa35_0 rfl) <| WL.p rfl rfl (PV.ld1 one4 hr2 rfl rfl) <| WL.p rfl rfl (PV.pickT rfl rfl rfl) <| WL.nil ?_
     exact EX.meet1 19 rfl rfl rfl (by simp [*]) rfl
    ·
     skip
     simp at g28
     have hk0 : ¬ (0 < k) := by omega
     refine WL.no rfl rfl <| WL.no rfl rfl <| WL.no rfl rfl <| WL.no rfl rfl <| WL.no rfl rfl <| WL.no rfl rfl <| WL.p rfl rfl (PV.pickF rfl rfl rfl) <| WL.nil ?_
     exact EX.meet1 19 rfl rfl rfl (by simp [*]) rfl
   ·
    skip
    refine WL.no rfl rfl <| WL.no rfl rfl <| WL.p rfl rfl (PV.pickF rfl rfl rfl) <| WL.p rfl rfl (PV.mv rfl) <| WL.no rfl rfl <| WL.no rfl rfl <| WL.no rfl rfl <| WL.no rfl rfl <| WL.no rfl rfl <| WL.no rfl rfl <| WL.p rfl rfl (PV.pickF rfl rfl rfl) <| WL.nil ?_
    exact EX.meet1 18 rfl rfl rfl (by simp [*]) rfl
  rintro _ rfl
  refine EX.seqN ?_
  refine WC.cond rfl (fun g35 => ?_) (fun g35 => ?_)
  ·
   skip
   simp at g35
   obtain ⟨g1, g2, g3⟩ := g35
   obtain ⟨j, rfl⟩ : ∃ j, k = j + 1 := ⟨k - 1, by omega⟩
   refine WC.skip ?_
   refine EX.seqN ?_
   refine WC.block ?_
   refine WC.region ?_
   refine WL.p rfl rfl (PV.mv rfl) <| WL.p rfl rfl (PV.sub rfl rfl (by omega) (by omega)) <| WL.p rfl rfl (PV.as rfl) <| WL.nil ?_
   refine EX.blkN ?_
   refine EX.again j (Sub.cons rfl <| Sub.cons rfl <| Sub.consI rfl (by omega) <| Sub.cons rfl <| Sub.nil) ⟨c1, by omega, by rw [← hlo, blockLo_step (by simpa using g3)], fun h => absurd (ringAt_get hnl) (by simp [h, g1])⟩ (by omega)
  ·
   skip
   simp at g35
   have hfst : (block rules nn).1 = k := by
    rw [hbl]
    by_cases hr1 : ringAt rules nn = true
    ·
     rw [if_pos hr1]
     show (blockLo rules nn : Int) = k
     rw [← hlo, blockLo_end]
     by_cases h0 : k = 0
     ·
      exact .inl h0
     ·
      exact .inr (g35 (by rw [← ringAt_get hnl]; exact hr1) (by omega))
    ·
     rw [if_neg hr1, hnr (by simpa using hr1)]
   refine WC.exit ?_
   refine EX.thenX ?_
   refine EX.thenX ?_
   refine EX.blkX ?_
   refine EX.seqN ?_
   refine WC.seq ?_
   refine WC.block ?_
   refine WC.loop (σ := Nat) (kvs := fun m => [(0, .slice a r c), (1, .int .i64 (nn : Int)), (6, .int .i64 (k : Int)), (7, .int .i64 (m : Int))]) (I := fun m w' => Chg [] w w' ∧ nn + 1 ≤ m ∧ m ≤ r ∧ hiFrom rules m = hiFrom rules (nn + 1) ∧ (ringAt rules nn = false → m = nn + 1)) (μ := fun m => r - m) (nn + 1) (Sub.cons rfl <| Sub.cons rfl <| Sub.cons rfl <| Sub.cons rfl <| Sub.nil) ⟨c1, Nat.le_refl _, by omega, rfl, fun _ => rfl⟩ ?_
   rintro m w2 ⟨c2, hm1, hm2, hhi, hnr2⟩
   refine WC.seq ?_
   refine WC.seq ?_
   obtain ⟨b1, o1, r1, ha1, _, ⟨q1, q2, q3, rfl, _⟩, hr1, _⟩ := (hr.ext c2).at (getElem_some hnl)
   refine WC.cut1 (t := 55) (v := .bool (rules[nn].ring && (decide ((m:Int) < r) && ringAt rules m))) (fun wx => w2 = wx) ?_ ?_
   ·
    skip
    refine WC.region ?_
    refine WL.p rfl rfl (PV.mv rfl) <| WL.p rfl rfl (PV.mv rfl) <| WL.p rfl rfl (PV.ixS sl36 ha1 rfl rfl (by omega)) <| WL.p rfl rfl (PV.fa fa35_0 rfl) <| WL.p rfl rfl (PV.ld1 one4 hr1 rfl rfl) <| WL.p rfl rfl (PV.mv rfl) <| ?_
    refine WL.gsplit (t := 43) rfl (fun g43 => ?_) (fun g43 => ?_)
    ·
     skip
     refine WL.p rfl rfl (PV.mv rfl) <| WL.p rfl rfl (PV.mv rfl) <| WL.p rfl rfl (PV.len' sl36 rfl) <| WL.p rfl rfl (PV.lss rfl rfl) <| WL.p rfl rfl (PV.pickT rfl rfl rfl) <| WL.p rfl rfl (PV.mv rfl) <| ?_
     refine WL.gsplit (t := 49) rfl (fun g49 => ?_) (fun g49 => ?_)
     ·
      skip
      simp at g49
      obtain ⟨b2, o2, r2, ha2, _, ⟨q4, q5, q6, rfl, _⟩, hr2, _⟩ := (hr.ext c2).at (getElem_some (show m < rules.length by omega))
      have hk1 : rules[m].ring = ringAt rules m := (ringAt_get (by omega)).symm
      have hdec : decide ((m:Int) < r) = true := by simp; omega
      refine WL.p rfl rfl (PV.mv rfl) <| WL.p rfl rfl (PV.mv rfl) <| WL.p rfl rfl (PV.ixS sl36 ha2 rfl rfl (by omega)) <| WL.p rfl rfl (PV.fa fa35_0 rfl) <| WL.p rfl rfl (PV.ld1 one4 hr2 rfl rfl) <| WL.p rfl rfl (PV.pickT rfl rfl rfl) <| WL.nil ?_
      exact EX.meet1 20 rfl rfl rfl (by first | (rw [hk1, g43, hdec]; rfl) | simp [*]) rfl
     ·
      skip
      simp at g49
      have hk0 : ¬ (m < rules.length) := by omega
      refine WL.no rfl rfl <| WL.no rfl rfl <| WL.no rfl rfl <| WL.no rfl rfl <| WL.no rfl rfl <| WL.p rfl rfl (PV.pickF rfl rfl rfl) <| WL.nil ?_
      exact EX.meet1 20 rfl rfl rfl (by first | (rw [hk1, g43, hdec]; rfl) | simp [*]) rfl
    ·
     skip
     refine WL.no rfl rfl <| WL.no rfl rfl <| WL.no rfl rfl <| WL.no rfl rfl <| WL.p rfl rfl (PV.pickF rfl rfl rfl) <| WL.p rfl rfl (PV.mv rfl) <| WL.no rfl rfl <| WL.no rfl rfl <| WL.no rfl rfl <| WL.no rfl rfl <| WL.no rfl rfl <| WL.p rfl rfl (PV.pickF rfl rfl rfl) <| WL.nil ?_
     exact EX.meet1 19 rfl rfl rfl (by first | (rw [hk1, g43, hdec]; rfl) | simp [*]) rfl
   rintro _ rfl
   refine EX.seqN ?_
   refine WC.cond rfl (fun g55 => ?_) (fun g55 => ?_)
   ·
    skip
    simp at g55
    obtain ⟨g1, g2, g3⟩ := g55
    refine WC.skip ?_
    refine EX.seqN ?_
    refine WC.block ?_
    refine WC.region ?_
    refine WL.p rfl rfl (PV.mv rfl) <| WL.p rfl rfl (PV.add rfl rfl (by omega) (by omega)) <| WL.p rfl rfl (PV.as rfl) <| WL.nil ?_
    refine EX.blkN ?_
    refine EX.again (m + 1) (Sub.cons rfl <| Sub.cons rfl <| Sub.cons rfl <| Sub.consI rfl (by omega) <| Sub.nil) ⟨c2, by omega, by omega, by rw [← hhi, ← hiFrom_step g3], fun h => absurd (ringAt_get hnl) (by simp [h, g1])⟩ (by omega)
   ·
    skip
    simp at g55
    have hsnd : (block rules nn).2 = m := by
     rw [hbl]
     by_cases hr1 : ringAt rules nn = true
     ·
      rw [if_pos hr1]
      show (hiFrom rules (nn + 1) : Int) = m
      rw [← hhi, hiFrom_end]
      rcases Nat.lt_or_ge m r with h0 | h0
      ·
       exact g55 (by rw [← ringAt_get hnl]; exact hr1) (by omega)
      ·
       exact ringAt_out (by omega)
     ·
      rw [if_neg hr1, hnr2 (by simpa using hr1)]; rfl
    refine WC.exit ?_
    refine EX.thenX ?_
    refine EX.thenX ?_
    refine EX.blkX ?_
    refine EX.seqN ?_
    refine WC.seq ?_
    refine WC.region ?_
    refine WL.p rfl rfl (PV.mv rfl) <| WL.p rfl rfl (PV.mv rfl) <| WL.p rfl rfl (PV.as rfl) <| WL.p rfl rfl (PV.as rfl) <| WL.nil ?_
    refine EX.seqN ?_
    refine WC.ret ?_
    refine EX.ret2 rfl rfl rfl ?_
    exact ⟨by rw [hfst, hsnd], c2⟩
end Go.Rc

