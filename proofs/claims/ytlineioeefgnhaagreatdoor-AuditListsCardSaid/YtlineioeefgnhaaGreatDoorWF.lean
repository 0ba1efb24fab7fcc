/- Walks over the program, part WF. Conditions: as each theorem says. -/
import Derived.Test.YtlineioeefgnhaaGreatDoorFacts
import Derived.Test.YtlineioeefgnhaaGreatDoorWB
import Derived.Test.YtlineioeefgnhaaGreatDoorWE
import Derived.Test.YtlineioeefgnhaaGreatDoorBb
set_option linter.unusedVariables false
set_option linter.unusedSimpArgs false
set_option linter.unusedSectionVars false
namespace Go.Rc
open Go Go.Proofs
set_option maxHeartbeats 400000
theorem validList_calls' {l : List Rec} {a : Option Addr} {n c : Nat} {w : World} {Z : Nat → Prop} (hl : Rd RR.rcd 8 Z w a n c l) : Calls Tryz.prog 72 #[.slice a n c] w fun e w' => e = .returned (.bool (recsOkB l)) ∧ Chg [] w w' :=
 (validList_calls hl).mono fun _ _ ⟨b, h1, h2, h3⟩ => ⟨by rw [h1, recsOkB_of h2], h3⟩
theorem copyB_calls {x : Bas} {a1 a2 : Option Addr} {n1 e1 n2 e2 : Nat} {w : World} {M Z : Nat → Prop} (hst : St w M Z w []) (hi : Rd RR.inp 4 Z w a1 n1 e1 x.inputs) (hr : Rd RR.rcd 8 Z w a2 n2 e2 x.recs) (h6 : x.recs.length ≤ 1000000) (h7 : x.inputs.length ≤ 1000000) : Calls Tryz.prog 9 #[.agg (x.row a1 n1 e1 a2 n2 e2).toArray] w fun e w' => ∃ a1' n1' e1' a2' n2' e2' Z', e = .returned (.agg (x.row a1' n1' e1' a2' n2' e2').toArray) ∧ Zle w.heap.size Z Z' ∧ St w M Z' w' [As.os RR.inp 117 4 a1' n1' e1' x.inputs, As.os RR.rcd 47 8 a2' n2' e2' x.recs] := by
 have hil := hi.len
 have hrl := hr.len
 refine enter (args := [.agg (x.row a1 n1 e1 a2 n2 e2).toArray]) Tryz.func9 rfl Tryz.ntmps9 rfl ?_
 have st0 := hst
 have st1 := st0.fact (As.mkro hi) (fun _ hx => hx)
 have st2 := st1.fact (As.mkro hr) (fun _ hx => hx)
 have st3 := st2.newN RR.inp 117 4
 refine WC.seq ?_
 refine WC.region ?_
 refine WL.go rfl (OX.box rfl rfl rfl fun b1 w1 nw1 hb1 => ?_)
 have st4 := st3.newB nw1 hb1
 refine WL.go rfl (OX.alloc zv40 rfl fun b2 w2 nw2 hb2 => ?_)
 have st5 := st4.newB nw2 hb2
 refine WL.nil ?_
 refine EX.seqN ?_
 refine WC.seq ?_
 refine WC.region ?_
 refine WL.p rfl rfl (PV.fa fa40_1 rfl) <| WL.p rfl rfl (PV.ld1 one37 (Blk.range (As.gb st5.g1)) rfl rfl) <| ?_
 refine WL.go rfl (OX.appR ap37 rfl rfl rfl (As.gs st5.g2) ((As.gr st5.g4)) (by omega) (by omega) (Nat.zero_le _) fun a5 c'5 w3 h'5 s5 hf5 hn5 => ?_)
 have st6 := st5.p2.updS s5 h'5 hf5
 refine WL.p rfl rfl (PV.fa fa40_1 rfl) <| ?_
 refine WL.go rfl (OX.st sz37 (As.gb st6.g2) rfl rfl (by first | (simp [nth]; done) | exact nns rfl) rfl rfl fun w4 ss0 _ hs0 => ?_)
 have st7 := st6.p2.updB ss0 hs0
 refine WL.nil ?_
 refine EX.seqN ?_
 refine WC.seq ?_
 refine WC.region ?_
 refine WL.p rfl rfl (PV.fa fa40_2 rfl) <| WL.p rfl rfl (PV.ld1 one38 (Blk.range (As.gb st7.g0)) rfl rfl) <| ?_
 have st8 := st7
 refine WL.go rfl (OX.call cf18 rfl rfl ((copyR_calls st8.e0 (As.gr st8.g3) h6).mono ?_))
 rintro _ w5 ⟨f1, f2, f3, Z1, rfl, hZ1, hst5⟩
 refine ⟨_, rfl, ?_⟩
 have st9 := St.leave (l0 := []) st8 hst5 hZ1
 simp only [List.cons_append, List.nil_append] at st9
 have hZ2 := hZ1.le st8.size
 refine WL.p rfl rfl (PV.fa fa40_2 rfl) <| ?_
 refine WL.go rfl (OX.st sz38 (As.gb st9.g1) rfl rfl (by first | (simp [nth]; done) | exact nns rfl) rfl rfl fun w6 ss1 _ hs1 => ?_)
 have st10 := st9.p1.updB ss1 hs1
 refine WL.nil ?_
 refine EX.seqN ?_
 refine WC.seq ?_
 refine WC.region ?_
 refine WL.p rfl rfl (PV.ldA agg40 (Blk.range (As.gb st10.g0)) rfl rfl) <| ?_
 refine WL.go rfl (OX.stW sz40 (As.gb st10.g3) rfl rfl rfl rfl rfl fun w7 ss2 _ hs2 => ?_)
 have st11 := st10.p3.updB ss2 hs2
 refine WL.nil ?_
 refine EX.seqN ?_
 refine WC.ret ?_
 refine EX.retC agg40 rfl rfl (Blk.range (As.gb st11.g0)) rfl ?_
 exact ⟨_, _, _, _, _, _, _, rfl, hZ2, st11.drop.drop.p2.drop.p2.drop.p1⟩
theorem findI_calls {x : Bas} {a1 a2 : Option Addr} {n1 e1 n2 e2 : Nat} {w : World} {Z : Nat → Prop} (hi : Rd RR.inp 4 Z w a1 n1 e1 x.inputs) (hr : Rd RR.rcd 8 Z w a2 n2 e2 x.recs) {k : Key} : Calls Tryz.prog 146 #[.agg (x.row a1 n1 e1 a2 n2 e2).toArray, k.val] w fun e w' => e = .returned (.agg (findI x.inputs k).cells.toArray) ∧ Chg [] w w'  := by
 have hlen := SR.len hi
 have hle := SR.le hi
 refine enter (args := [.agg (x.row a1 n1 e1 a2 n2 e2).toArray, k.val]) Tryz.func146 rfl Tryz.ntmps146 rfl ?_
 have c0 : Chg [] w w := Chg.refl _ _
 refine WC.seq ?_
 refine WC.region ?_
 refine WL.go rfl (OX.box rfl rfl rfl fun b2 w1 nw2 hb2 => ?_)
 have s1 := nw2.ext
 have ge_hb2 := nw2.ge' c0
 have c1 := c0.trans s1
 refine WL.go rfl (OX.box rfl rfl rfl fun b3 w2 nw3 hb3 => ?_)
 have s2 := nw3.ext
 have ge_hb3 := nw3.ge' c1
 have ne_hb2_hb3 : b2 ≠ b3 := nw3.ne hb2.lt
 have ne_hb3_hb2 : b3 ≠ b2 := Ne.symm ne_hb2_hb3
 have c2 := c1.trans s2
 have hb2 := hb2.ext s2
 refine WL.go rfl (OX.alloc zv117 rfl fun b4 w3 nw4 hb4 => ?_)
 have s3 := nw4.ext
 have ge_hb4 := nw4.ge' c2
 have ne_hb2_hb4 : b2 ≠ b4 := nw4.ne hb2.lt
 have ne_hb4_hb2 : b4 ≠ b2 := Ne.symm ne_hb2_hb4
 have ne_hb3_hb4 : b3 ≠ b4 := nw4.ne hb3.lt
 have ne_hb4_hb3 : b4 ≠ b3 := Ne.symm ne_hb3_hb4
 have c3 := c2.trans s3
 have hb2 := hb2.ext s3
 have hb3 := hb3.ext s3
 refine WL.nil ?_
 refine EX.seqN ?_
 refine WC.seq ?_
 refine WC.seq ?_
 refine WC.region ?_
 refine WL.p rfl rfl (PV.fa fa40_1 rfl) <| WL.p rfl rfl (PV.ld1 one37 hb2.range rfl rfl) <| WL.p rfl rfl (PV.len' sl37 rfl) <| WL.p rfl rfl (PV.mv rfl) <| WL.nil ?_
 refine EX.seqN ?_
 refine WC.block ?_
 refine WC.loop (σ := Nat) (kvs := fun i => [(3, .pointer (some ⟨b3, 0, none⟩)), (4, .pointer (some ⟨b4, 0, none⟩)), (8, .slice a1 n1 e1), (9, .int .i64 (n1 : Int)), (10, .int .i64 (i : Int))]) (I := fun i w' => Chg [] w w' ∧ Blk w' b3 27 [.int .i64 k.kind, .string k.text] ∧ Blk w' b4 117 [.int .i64 0, .string ⟨#[]⟩, .string ⟨#[]⟩, .int .i64 0] ∧ i ≤ n1 ∧ (∀ j y, j < i → x.inputs[j]? = some y → (y.key == k) = false)) (μ := fun i => n1 - i) 0 (Sub.cons rfl <| Sub.cons rfl <| Sub.cons rfl <| Sub.cons rfl <| Sub.cons rfl <| Sub.nil) ⟨c3, hb3, hb4, by omega, fun j x h => by omega⟩ ?_
 rintro i w4 ⟨c4, hb3, hb4, hi1, hno⟩
 refine WC.seq ?_
 refine WC.region ?_
 refine WL.p rfl rfl (PV.lss rfl rfl) <| WL.nil ?_
 refine EX.seqN ?_
 refine WC.seq ?_
 refine WC.cond rfl (fun g11 => ?_) (fun g11 => ?_)
 ·
  skip
  simp at g11
  have hi2 : i < x.inputs.length := by omega
  refine WC.skip ?_
  refine EX.seqN ?_
  refine WC.seq ?_
  refine WC.block ?_
  refine WC.seq ?_
  obtain ⟨bx1, ox1, rx1, ha1, _, hrx, hr1, _⟩ := SR.at hi (getElem_some hi2)
  have hrx := RR.flat_eq hrx
  subst hrx
  have hr1 := range_chg hr1 c4 (by simp)
  refine WC.region ?_
  refine WL.p rfl rfl (PV.ixS sl37 ha1 rfl rfl (by omega)) <| WL.p rfl rfl (PV.ldA agg117 hr1 rfl rfl) <| ?_
  refine WL.go rfl (OX.alloc zv117 rfl fun b6 w5 nw6 hb6 => ?_)
  have s5 := nw6.ext
  have ge_hb6 := nw6.ge' c4
  have ne_hb3_hb6 : b3 ≠ b6 := nw6.ne hb3.lt
  have ne_hb6_hb3 : b6 ≠ b3 := Ne.symm ne_hb3_hb6
  have ne_hb4_hb6 : b4 ≠ b6 := nw6.ne hb4.lt
  have ne_hb6_hb4 : b6 ≠ b4 := Ne.symm ne_hb4_hb6
  have c5 := c4.trans s5
  have hb3 := hb3.ext s5
  have hb4 := hb4.ext s5
  refine WL.go rfl (OX.stW sz117 hb6 rfl rfl rfl rfl rfl fun w6 s6 _ hb6 => ?_)
  have c6 := c5.own s6 ge_hb6
  have hb3 := hb3.chg s6 (by simp [ne_hb3_hb6])
  have hb4 := hb4.chg s6 (by simp [ne_hb4_hb6])
  refine WL.nil ?_
  refine EX.seqN ?_
  refine WC.seq ?_
  refine WC.region ?_
  refine WL.p rfl rfl (PV.fa fa117_0 rfl) <| WL.p rfl rfl (PV.ldM agg27 hb6.range rfl rfl) <| WL.p rfl rfl (PV.ldA agg27 hb3.range rfl rfl) <| WL.p rfl rfl (PV.eqK keyt27 (p := x.inputs[i].key) (q := k) rfl rfl) <| WL.nil ?_
  refine EX.seqN ?_
  refine WC.cond rfl (fun g17 => ?_) (fun g17 => ?_)
  ·
   skip
   simp at g17
   have hf : findI x.inputs k = x.inputs[i] := by unfold findI; rw [find_before hi2 hno (by simpa using g17)]; rfl
   refine WC.seq ?_
   refine WC.region ?_
   refine WL.p rfl rfl (PV.ldA agg117 hb6.range rfl rfl) <| ?_
   refine WL.go rfl (OX.stW sz117 hb4 rfl rfl rfl rfl rfl fun w7 s7 _ hb4 => ?_)
   have c7 := c6.own s7 ge_hb4
   have hb3 := hb3.chg s7 (by simp [ne_hb3_hb4])
   have hb6 := hb6.chg s7 (by simp [ne_hb6_hb4])
   refine WL.nil ?_
   refine EX.seqN ?_
   refine WC.ret ?_
   refine EX.blkR ?_
   refine EX.thenR ?_
   refine EX.thenR ?_
   refine EX.blkR ?_
   refine EX.thenR ?_
   refine EX.retC agg117 rfl rfl hb4.range rfl ?_
   exact ⟨by rw [hf], c7⟩
  ·
   skip
   simp at g17
   refine WC.skip ?_
   refine EX.blkN ?_
   refine EX.seqN ?_
   refine WC.region ?_
   refine WL.p rfl rfl (PV.add rfl rfl (by omega) (by omega)) <| WL.p rfl rfl (PV.mv rfl) <| WL.nil ?_
   refine EX.again (i + 1) (Sub.cons rfl <| Sub.cons rfl <| Sub.cons rfl <| Sub.cons rfl <| Sub.consI rfl (by simp) <| Sub.nil) ⟨c6, hb3, hb4, by omega, below_succ hi2 hno (by simpa using g17)⟩ (by omega)
 ·
  skip
  simp at g11
  have hf : findI x.inputs k = ⟨k, ⟨#[]⟩, 0⟩ := by unfold findI; rw [find_all (i := i) (by omega) hno]; rfl
  refine WC.exit ?_
  refine EX.thenX ?_
  refine EX.thenX ?_
  refine EX.blkX ?_
  refine EX.seqN ?_
  refine WC.seq ?_
  refine WC.region ?_
  refine WL.p rfl rfl (PV.ldA agg27 hb3.range rfl rfl) <| WL.p rfl rfl (PV.build' (us := (Inp.mk k ⟨#[]⟩ 0).cells) bt117 rfl rfl rfl) <| ?_
  refine WL.go rfl (OX.stW sz117 hb4 rfl rfl rfl rfl rfl fun w5 s5 _ hb4 => ?_)
  have c5 := c4.own s5 ge_hb4
  have hb3 := hb3.chg s5 (by simp [ne_hb3_hb4])
  refine WL.nil ?_
  refine EX.seqN ?_
  refine WC.ret ?_
  refine EX.retC agg117 rfl rfl hb4.range rfl ?_
  exact ⟨by rw [hf], c5⟩
theorem get_calls {x : Bas} {a1 a2 : Option Addr} {n1 e1 n2 e2 : Nat} {w : World} {Z : Nat → Prop} (hi : Rd RR.inp 4 Z w a1 n1 e1 x.inputs) (hr : Rd RR.rcd 8 Z w a2 n2 e2 x.recs) {k : Key} : Calls Tryz.prog 147 #[.agg (x.row a1 n1 e1 a2 n2 e2).toArray, k.val] w fun e w' => e = .returned (.string (findI x.inputs k).value) ∧ Chg [] w w'  := by
 refine enter (args := [.agg (x.row a1 n1 e1 a2 n2 e2).toArray, k.val]) Tryz.func147 rfl Tryz.ntmps147 rfl ?_
 have c0 : Chg [] w w := Chg.refl _ _
 refine WC.seq ?_
 refine WC.region ?_
 refine WL.go rfl (OX.box rfl rfl rfl fun b2 w1 nw2 hb2 => ?_)
 have s1 := nw2.ext
 have ge_hb2 := nw2.ge' c0
 have c1 := c0.trans s1
 refine WL.go rfl (OX.box rfl rfl rfl fun b3 w2 nw3 hb3 => ?_)
 have s2 := nw3.ext
 have ge_hb3 := nw3.ge' c1
 have ne_hb2_hb3 : b2 ≠ b3 := nw3.ne hb2.lt
 have ne_hb3_hb2 : b3 ≠ b2 := Ne.symm ne_hb2_hb3
 have c2 := c1.trans s2
 have hb2 := hb2.ext s2
 refine WL.p rfl rfl (PV.as rfl) <| WL.nil ?_
 refine EX.seqN ?_
 refine WC.seq ?_
 refine WC.region ?_
 refine WL.p rfl rfl (PV.ldA agg40 hb2.range rfl rfl) <| WL.p rfl rfl (PV.ldA agg27 hb3.range rfl rfl) <| ?_
 refine WL.go rfl (OX.call cf146 rfl rfl ((findI_calls (k := k) (hi.ext c2) (hr.ext c2)).mono ?_))
 rintro _ w3 ⟨rfl, s3⟩
 refine ⟨_, rfl, ?_⟩
 have c3 := c2.trans s3
 have hb2 := hb2.ext s3
 have hb3 := hb3.ext s3
 refine WL.p rfl rfl (PV.fieldL (fs := [_, _, _]) (f := 1) (off := 2) (T := 117) Tryz.underlying117 rfl rfl (show ∀ w, (isAgg 9).run _ w = .ok false w from Tryz.isAgg9) rfl rfl) <| WL.p rfl rfl (PV.as rfl) <| WL.nil ?_
 refine EX.seqN ?_
 refine WC.ret ?_
 refine EX.ret1 rfl rfl ?_
 exact ⟨rfl, c3⟩
theorem since_calls {x : Bas} {a1 a2 : Option Addr} {n1 e1 n2 e2 : Nat} {w : World} {Z : Nat → Prop} (hi : Rd RR.inp 4 Z w a1 n1 e1 x.inputs) (hr : Rd RR.rcd 8 Z w a2 n2 e2 x.recs) {k : Key} : Calls Tryz.prog 121 #[.agg (x.row a1 n1 e1 a2 n2 e2).toArray, k.val] w fun e w' => e = .returned (.int .i64 (findI x.inputs k).changed) ∧ Chg [] w w'  := by
 refine enter (args := [.agg (x.row a1 n1 e1 a2 n2 e2).toArray, k.val]) Tryz.func121 rfl Tryz.ntmps121 rfl ?_
 have c0 : Chg [] w w := Chg.refl _ _
 refine WC.seq ?_
 refine WC.region ?_
 refine WL.go rfl (OX.box rfl rfl rfl fun b2 w1 nw2 hb2 => ?_)
 have s1 := nw2.ext
 have ge_hb2 := nw2.ge' c0
 have c1 := c0.trans s1
 refine WL.go rfl (OX.box rfl rfl rfl fun b3 w2 nw3 hb3 => ?_)
 have s2 := nw3.ext
 have ge_hb3 := nw3.ge' c1
 have ne_hb2_hb3 : b2 ≠ b3 := nw3.ne hb2.lt
 have ne_hb3_hb2 : b3 ≠ b2 := Ne.symm ne_hb2_hb3
 have c2 := c1.trans s2
 have hb2 := hb2.ext s2
 refine WL.p rfl rfl (PV.as rfl) <| WL.nil ?_
 refine EX.seqN ?_
 refine WC.seq ?_
 refine WC.region ?_
 refine WL.p rfl rfl (PV.ldA agg40 hb2.range rfl rfl) <| WL.p rfl rfl (PV.ldA agg27 hb3.range rfl rfl) <| ?_
 refine WL.go rfl (OX.call cf146 rfl rfl ((findI_calls (k := k) (hi.ext c2) (hr.ext c2)).mono ?_))
 rintro _ w3 ⟨rfl, s3⟩
 refine ⟨_, rfl, ?_⟩
 have c3 := c2.trans s3
 have hb2 := hb2.ext s3
 have hb3 := hb3.ext s3
 refine WL.p rfl rfl (PV.fieldL (fs := [_, _, _]) (f := 2) (off := 3) (T := 117) Tryz.underlying117 rfl rfl (show ∀ w, (isAgg 3).run _ w = .ok false w from Tryz.isAgg3) rfl rfl) <| WL.p rfl rfl (PV.as rfl) <| WL.nil ?_
 refine EX.seqN ?_
 refine WC.ret ?_
 refine EX.ret1 rfl rfl ?_
 exact ⟨rfl, c3⟩
theorem validB_calls {x : Bas} {a1 a2 : Option Addr} {n1 e1 n2 e2 : Nat} {w : World} {Z : Nat → Prop} (hi : Rd RR.inp 4 Z w a1 n1 e1 x.inputs) (hr : Rd RR.rcd 8 Z w a2 n2 e2 x.recs) : Calls Tryz.prog 35 #[.agg (x.row a1 n1 e1 a2 n2 e2).toArray] w fun e w' => ∃ b : Bool, e = .returned (.bool b) ∧ (b = true ↔ basOk x) ∧ Chg [] w w'  := by
 have hlen := SR.len hi
 have hle := SR.le hi
 have hlen2 := SR.len hr
 have hle2 := SR.le hr
 refine enter (args := [.agg (x.row a1 n1 e1 a2 n2 e2).toArray]) Tryz.func35 rfl Tryz.ntmps35 rfl ?_
 have c0 : Chg [] w w := Chg.refl _ _
 refine WC.seq ?_
 refine WC.region ?_
 refine WL.go rfl (OX.box rfl rfl rfl fun b1 w1 nw1 hb1 => ?_)
 have s1 := nw1.ext
 have ge_hb1 := nw1.ge' c0
 have c1 := c0.trans s1
 refine WL.p rfl rfl (PV.as rfl) <| WL.nil ?_
 refine EX.seqN ?_
 refine WC.seq ?_
 refine WC.seq ?_
 refine WC.region ?_
 refine WL.p rfl rfl (PV.fa fa40_1 rfl) <| WL.p rfl rfl (PV.ld1 one37 hb1.range rfl rfl) <| WL.p rfl rfl (PV.len' sl37 rfl) <| WL.p rfl rfl (PV.mv rfl) <| WL.nil ?_
 refine EX.seqN ?_
 refine WC.block ?_
 refine WC.loop (σ := Nat) (kvs := fun i => [(1, .pointer (some ⟨b1, 0, none⟩)), (8, .slice a1 n1 e1), (9, .int .i64 (n1 : Int)), (10, .int .i64 (i : Int))]) (I := fun i w' => Chg [] w w' ∧ Blk w' b1 40 (x.row a1 n1 e1 a2 n2 e2) ∧ i ≤ n1 ∧ ∀ j y, j < i → x.inputs[j]? = some y → inpBad x.revision x.inputs j = false) (μ := fun i => n1 - i) 0 (Sub.cons rfl <| Sub.cons rfl <| Sub.cons rfl <| Sub.cons rfl <| Sub.nil) ⟨c1, hb1, by omega, fun j y h => by omega⟩ ?_
 rintro i w2 ⟨c2, hb1, hin, hall⟩
 refine WC.seq ?_
 refine WC.region ?_
 refine WL.p rfl rfl (PV.lss rfl rfl) <| WL.nil ?_
 refine EX.seqN ?_
 refine WC.seq ?_
 refine WC.cond rfl (fun g11 => ?_) (fun g11 => ?_)
 ·
  skip
  simp at g11
  have hi2 : i < x.inputs.length := by omega
  have hl1 := getElem!_pos x.inputs i hi2
  obtain ⟨bx1, ox1, rx1, ha1, _, hrx, hr1, _⟩ := SR.at hi (getElem_some hi2)
  have hrx := RR.flat_eq hrx
  subst hrx
  refine WC.skip ?_
  refine EX.seqN ?_
  refine WC.seq ?_
  refine WC.block ?_
  refine WC.seq ?_
  have hr1 := range_chg hr1 c2 (by simp)
  refine WC.region ?_
  refine WL.p rfl rfl (PV.mv rfl) <| WL.p rfl rfl (PV.ixS sl37 ha1 rfl rfl (by omega)) <| WL.p rfl rfl (PV.ldA agg117 hr1 rfl rfl) <| ?_
  refine WL.go rfl (OX.alloc zv117 rfl fun b4 w3 nw4 hb4 => ?_)
  have s3 := nw4.ext
  have ge_hb4 := nw4.ge' c2
  have ne_hb1_hb4 : b1 ≠ b4 := nw4.ne hb1.lt
  have ne_hb4_hb1 : b4 ≠ b1 := Ne.symm ne_hb1_hb4
  have c3 := c2.trans s3
  have hb1 := hb1.ext s3
  refine WL.p rfl rfl (PV.as rfl) <| ?_
  refine WL.go rfl (OX.stW sz117 hb4 rfl rfl rfl rfl rfl fun w4 s4 _ hb4 => ?_)
  have c4 := c3.own s4 ge_hb4
  have hb1 := hb1.chg s4 (by simp [ne_hb1_hb4])
  refine WL.nil ?_
  refine EX.seqN ?_
  refine WC.seq ?_
  refine WC.cut1 (t := 59) (v := .bool (inpBad x.revision x.inputs i)) (Chg [] w4) ?_ ?_
  ·
   skip
   refine WC.drawn (m := 43) (C := Chg [] w4) (T := fun _ => Chg []) (E := lookE [(2, fun v _ => v = .bool (validK x.inputs[i].key)), (7, fun v _ => v = .bool (isInput x.inputs[i].key)), (23, fun v _ => v = .int .i64 (cmpK x.inputs[i - 1].key x.inputs[i].key))]) (lookE_st (⟨fun _ _ _ _ _ _ _ h => h, ⟨fun _ _ _ _ _ _ _ h => h, ⟨fun _ _ _ _ _ _ _ h => h, trivial⟩⟩⟩)) mixed (by kernel_rfl) (Chg.drew _ _) ?_
   refine DW.p rfl rfl rfl rfl rfl (fun _ hC => PV.fa fa117_0 rfl) <| DW.p rfl rfl rfl rfl rfl (fun _ hC => PV.ldM agg27 (hb4.ext hC).range rfl rfl) <| ?_
   refine DW.e rfl rfl rfl rfl rfl (fun wx hC hF => OX.call cf71 rfl rfl ((validK_calls (k := x.inputs[i].key)).mono ?_)) ?_
   ·
    skip
    rintro _ wy ⟨rfl, hy⟩
    exact ⟨_, rfl, hC.trans hy, hy, _, rfl, rfl⟩
   rintro _ wz _ rfl
   refine DW.p rfl rfl rfl rfl rfl (fun _ hC => PV.not rfl) <| DW.p rfl rfl rfl rfl rfl (fun _ hC => PV.mv rfl) <| ?_
   refine DW.gsplit (t := 19) rfl (fun g19 => ?_) (fun g19 => ?_)
   ·
    skip
    refine DW.no rfl rfl rfl <| DW.no rfl rfl rfl <| DW.no rfl rfl rfl <| DW.no rfl rfl rfl <| DW.p rfl rfl rfl rfl rfl (fun _ hC => PV.pickT rfl rfl rfl) <| DW.p rfl rfl rfl rfl rfl (fun _ hC => PV.mv rfl) <| DW.no rfl rfl rfl <| DW.no rfl rfl rfl <| DW.no rfl rfl rfl <| DW.no rfl rfl rfl <| DW.no rfl rfl rfl <| DW.no rfl rfl rfl <| DW.no rfl rfl rfl <| DW.no rfl rfl rfl <| DW.no rfl rfl rfl <| DW.no rfl rfl rfl <| DW.no rfl rfl rfl <| DW.no rfl rfl rfl <| DW.no rfl rfl rfl <| DW.no rfl rfl rfl <| DW.no rfl rfl rfl <| DW.p rfl rfl rfl rfl rfl (fun _ hC => PV.pickT rfl rfl rfl) <| DW.p rfl rfl rfl rfl rfl (fun _ hC => PV.mv rfl) <| DW.no rfl rfl rfl <| DW.no rfl rfl rfl <| DW.no rfl rfl rfl <| DW.no rfl rfl rfl <| DW.p rfl rfl rfl rfl rfl (fun _ hC => PV.pickT rfl rfl rfl) <| DW.p rfl rfl rfl rfl rfl (fun _ hC => PV.mv rfl) <| DW.no rfl rfl rfl <| DW.no rfl rfl rfl <| DW.no rfl rfl rfl <| DW.p rfl rfl rfl rfl rfl (fun _ hC => PV.pickT rfl rfl rfl) <| DW.p rfl rfl rfl rfl rfl (fun _ hC => PV.mv rfl) <| DW.no rfl rfl rfl <| DW.no rfl rfl rfl <| DW.no rfl rfl rfl <| DW.no rfl rfl rfl <| DW.nil ?_
    rintro w5 s5 _
    have c5 := c4.trans s5
    have hb1 := hb1.ext s5
    have hb4 := hb4.ext s5
    refine WL.no rfl rfl <| WL.p rfl rfl (PV.pickT rfl rfl rfl) <| WL.nil ?_
    exact EX.meet1 46 rfl rfl rfl (by unfold inpBad; first | (simp only [hl1, hl2, g19]; done) | (simp only [hl1, hl2, g19]; rfl) | (simp only [hl1, g19]; rfl) | (simp only [hl1, g19]; done)) s5
   ·
    skip
    refine DW.p rfl rfl rfl rfl rfl (fun _ hC => PV.fa fa117_0 rfl) <| DW.p rfl rfl rfl rfl rfl (fun _ hC => PV.ldM agg27 (hb4.ext hC).range rfl rfl) <| ?_
    refine DW.e rfl rfl rfl rfl rfl (fun wx hC hF => OX.call cf37 rfl rfl ((input_calls (k := x.inputs[i].key)).mono ?_)) ?_
    ·
     skip
     rintro _ wy ⟨rfl, hy⟩
     exact ⟨_, rfl, hC.trans hy, hy, _, rfl, rfl⟩
    rintro _ wz _ rfl
    refine DW.p rfl rfl rfl rfl rfl (fun _ hC => PV.not rfl) <| DW.p rfl rfl rfl rfl rfl (fun _ hC => PV.pickF rfl rfl rfl) <| DW.p rfl rfl rfl rfl rfl (fun _ hC => PV.mv rfl) <| ?_
    refine DW.gsplit (t := 25) rfl (fun g25 => ?_) (fun g25 => ?_)
    ·
     skip
     refine DW.no rfl rfl rfl <| DW.no rfl rfl rfl <| DW.no rfl rfl rfl <| DW.no rfl rfl rfl <| DW.no rfl rfl rfl <| DW.no rfl rfl rfl <| DW.no rfl rfl rfl <| DW.no rfl rfl rfl <| DW.no rfl rfl rfl <| DW.no rfl rfl rfl <| DW.no rfl rfl rfl <| DW.no rfl rfl rfl <| DW.no rfl rfl rfl <| DW.no rfl rfl rfl <| DW.no rfl rfl rfl <| DW.p rfl rfl rfl rfl rfl (fun _ hC => PV.pickT rfl rfl rfl) <| DW.p rfl rfl rfl rfl rfl (fun _ hC => PV.mv rfl) <| DW.no rfl rfl rfl <| DW.no rfl rfl rfl <| DW.no rfl rfl rfl <| DW.no rfl rfl rfl <| DW.p rfl rfl rfl rfl rfl (fun _ hC => PV.pickT rfl rfl rfl) <| DW.p rfl rfl rfl rfl rfl (fun _ hC => PV.mv rfl) <| DW.no rfl rfl rfl <| DW.no rfl rfl rfl <| DW.no rfl rfl rfl <| DW.p rfl rfl rfl rfl rfl (fun _ hC => PV.pickT rfl rfl rfl) <| DW.p rfl rfl rfl rfl rfl (fun _ hC => PV.mv rfl) <| DW.no rfl rfl rfl <| DW.no rfl rfl rfl <| DW.no rfl rfl rfl <| DW.no rfl rfl rfl <| DW.nil ?_
     rintro w5 s5 _
     have c5 := c4.trans s5
     have hb1 := hb1.ext s5
     have hb4 := hb4.ext s5
     refine WL.no rfl rfl <| WL.p rfl rfl (PV.pickT rfl rfl rfl) <| WL.nil ?_
     exact EX.meet1 47 rfl rfl rfl (by unfold inpBad; first | (simp only [hl1, hl2, g19, g25]; done) | (simp only [hl1, hl2, g19, g25]; rfl) | (simp only [hl1, g19, g25]; rfl) | (simp only [hl1, g19, g25]; done)) s5
    ·
     skip
     refine DW.p rfl rfl rfl rfl rfl (fun _ hC => PV.mv rfl) <| DW.p rfl rfl rfl rfl rfl (fun _ hC => PV.gtr rfl rfl) <| DW.p rfl rfl rfl rfl rfl (fun _ hC => PV.mv rfl) <| ?_
     refine DW.gsplit (t := 28) rfl (fun g28 => ?_) (fun g28 => ?_)
     ·
      skip
      have hi3 : i - 1 < x.inputs.length := by omega
      have hl2 := getElem!_pos x.inputs (i - 1) hi3
      have hpos := of_decide_eq_true g28
      obtain ⟨bx2, ox2, rx2, ha2, _, hrx2, hr2, _⟩ := SR.at hi (getElem_some hi3)
      have hrx2 := RR.flat_eq hrx2
      subst hrx2
      have hr2 := range_chg hr2 c4 (by simp)
      refine DW.p rfl rfl rfl rfl rfl (fun _ hC => PV.fa fa40_1 rfl) <| DW.p rfl rfl rfl rfl rfl (fun _ hC => PV.ld1 one37 (hb1.ext hC).range rfl rfl) <| DW.p rfl rfl rfl rfl rfl (fun _ hC => PV.mv rfl) <| DW.p rfl rfl rfl rfl rfl (fun _ hC => PV.sub rfl rfl (by omega) (by omega)) <| DW.p rfl rfl rfl rfl rfl (fun _ hC => PV.ixZ sl37 (i - 1) ha2 rfl rfl (by omega) (by omega)) <| DW.p rfl rfl rfl rfl rfl (fun _ hC => PV.fa fa117_0 rfl) <| DW.p rfl rfl rfl rfl rfl (fun _ hC => PV.ldM agg27 (range_chg hr2 hC (by simp)) rfl rfl) <| DW.p rfl rfl rfl rfl rfl (fun _ hC => PV.fa fa117_0 rfl) <| DW.p rfl rfl rfl rfl rfl (fun _ hC => PV.ldM agg27 (hb4.ext hC).range rfl rfl) <| ?_
      refine DW.e rfl rfl rfl rfl rfl (fun wx hC hF => OX.call cf42 rfl rfl ((cmp_calls (k := x.inputs[i - 1].key) (q := x.inputs[i].key)).mono ?_)) ?_
      ·
       skip
       rintro _ wy ⟨rfl, hy⟩
       exact ⟨_, rfl, hC.trans hy, hy, _, rfl, rfl⟩
      rintro _ wz _ rfl
      refine DW.p rfl rfl rfl rfl rfl (fun _ hC => PV.geq rfl rfl) <| DW.p rfl rfl rfl rfl rfl (fun _ hC => PV.pickT rfl rfl rfl) <| DW.p rfl rfl rfl rfl rfl (fun _ hC => PV.pickF rfl rfl rfl) <| DW.p rfl rfl rfl rfl rfl (fun _ hC => PV.mv rfl) <| ?_
      refine DW.gsplit (t := 42) rfl (fun g42 => ?_) (fun g42 => ?_)
      ·
       skip
       refine DW.no rfl rfl rfl <| DW.no rfl rfl rfl <| DW.no rfl rfl rfl <| DW.no rfl rfl rfl <| DW.p rfl rfl rfl rfl rfl (fun _ hC => PV.pickT rfl rfl rfl) <| DW.p rfl rfl rfl rfl rfl (fun _ hC => PV.mv rfl) <| DW.no rfl rfl rfl <| DW.no rfl rfl rfl <| DW.no rfl rfl rfl <| DW.p rfl rfl rfl rfl rfl (fun _ hC => PV.pickT rfl rfl rfl) <| DW.p rfl rfl rfl rfl rfl (fun _ hC => PV.mv rfl) <| DW.no rfl rfl rfl <| DW.no rfl rfl rfl <| DW.no rfl rfl rfl <| DW.no rfl rfl rfl <| DW.nil ?_
       rintro w5 s5 _
       have c5 := c4.trans s5
       have hb1 := hb1.ext s5
       have hb4 := hb4.ext s5
       refine WL.no rfl rfl <| WL.p rfl rfl (PV.pickT rfl rfl rfl) <| WL.nil ?_
       exact EX.meet1 49 rfl rfl rfl (by unfold inpBad; first | (simp only [hl1, hl2, g19, g25, g28, g42]; done) | (simp only [hl1, hl2, g19, g25, g28, g42]; rfl) | (simp only [hl1, g19, g25, g28, g42]; rfl) | (simp only [hl1, g19, g25, g28, g42]; done)) s5
      ·
       skip
       refine DW.p rfl rfl rfl rfl rfl (fun _ hC => PV.fa fa117_1 rfl) <| DW.p rfl rfl rfl rfl rfl (fun _ hC => PV.ld1 one9 (hb4.ext hC).range rfl rfl) <| DW.p rfl rfl rfl rfl rfl (fun _ hC => PV.lenS und9 rfl) <| DW.p rfl rfl rfl rfl rfl (fun _ hC => PV.gtr rfl rfl) <| DW.p rfl rfl rfl rfl rfl (fun _ hC => PV.pickF rfl rfl rfl) <| DW.p rfl rfl rfl rfl rfl (fun _ hC => PV.mv rfl) <| ?_
       refine DW.gsplit (t := 48) rfl (fun g48 => ?_) (fun g48 => ?_)
       ·
        skip
        refine DW.no rfl rfl rfl <| DW.no rfl rfl rfl <| DW.no rfl rfl rfl <| DW.p rfl rfl rfl rfl rfl (fun _ hC => PV.pickT rfl rfl rfl) <| DW.p rfl rfl rfl rfl rfl (fun _ hC => PV.mv rfl) <| DW.no rfl rfl rfl <| DW.no rfl rfl rfl <| DW.no rfl rfl rfl <| DW.no rfl rfl rfl <| DW.nil ?_
        rintro w5 s5 _
        have c5 := c4.trans s5
        have hb1 := hb1.ext s5
        have hb4 := hb4.ext s5
        refine WL.no rfl rfl <| WL.p rfl rfl (PV.pickT rfl rfl rfl) <| WL.nil ?_
        exact EX.meet1 50 rfl rfl rfl (by unfold inpBad; first | (simp only [hl1, hl2, g19, g25, g28, g42, g48]; done) | (simp only [hl1, hl2, g19, g25, g28, g42, g48]; rfl) | (simp only [hl1, g19, g25, g28, g42, g48]; rfl) | (simp only [hl1, g19, g25, g28, g42, g48]; done)) s5
       ·
        skip
        refine DW.p rfl rfl rfl rfl rfl (fun _ hC => PV.fa fa117_2 rfl) <| DW.p rfl rfl rfl rfl rfl (fun _ hC => PV.ld1 one3 (hb4.ext hC).range rfl rfl) <| DW.p rfl rfl rfl rfl rfl (fun _ hC => PV.lss rfl rfl) <| DW.p rfl rfl rfl rfl rfl (fun _ hC => PV.pickF rfl rfl rfl) <| DW.p rfl rfl rfl rfl rfl (fun _ hC => PV.mv rfl) <| ?_
        refine DW.gsplit (t := 53) rfl (fun g53 => ?_) (fun g53 => ?_)
        ·
         skip
         refine DW.no rfl rfl rfl <| DW.no rfl rfl rfl <| DW.no rfl rfl rfl <| DW.no rfl rfl rfl <| DW.nil ?_
         rintro w5 s5 _
         have c5 := c4.trans s5
         have hb1 := hb1.ext s5
         have hb4 := hb4.ext s5
         refine WL.no rfl rfl <| WL.p rfl rfl (PV.pickT rfl rfl rfl) <| WL.nil ?_
         exact EX.meet1 51 rfl rfl rfl (by unfold inpBad; first | (simp only [hl1, hl2, g19, g25, g28, g42, g48, g53]; done) | (simp only [hl1, hl2, g19, g25, g28, g42, g48, g53]; rfl) | (simp only [hl1, g19, g25, g28, g42, g48, g53]; rfl) | (simp only [hl1, g19, g25, g28, g42, g48, g53]; done)) s5
        ·
         skip
         refine DW.p rfl rfl rfl rfl rfl (fun _ hC => PV.fa fa117_2 rfl) <| DW.p rfl rfl rfl rfl rfl (fun _ hC => PV.ld1 one3 (hb4.ext hC).range rfl rfl) <| DW.p rfl rfl rfl rfl rfl (fun _ hC => PV.fa fa40_0 rfl) <| DW.p rfl rfl rfl rfl rfl (fun _ hC => PV.ld1 one3 (hb1.ext hC).range rfl rfl) <| DW.nil ?_
         rintro w5 s5 _
         have c5 := c4.trans s5
         have hb1 := hb1.ext s5
         have hb4 := hb4.ext s5
         refine WL.p rfl rfl (PV.gtr rfl rfl) <| WL.p rfl rfl (PV.pickF rfl rfl rfl) <| WL.nil ?_
         exact EX.meet1 51 rfl rfl rfl (by unfold inpBad; first | (simp only [hl1, hl2, g19, g25, g28, g42, g48, g53]; done) | (simp only [hl1, hl2, g19, g25, g28, g42, g48, g53]; rfl) | (simp only [hl1, g19, g25, g28, g42, g48, g53]; rfl) | (simp only [hl1, g19, g25, g28, g42, g48, g53]; done)) s5
     ·
      skip
      refine DW.no rfl rfl rfl <| DW.no rfl rfl rfl <| DW.no rfl rfl rfl <| DW.no rfl rfl rfl <| DW.no rfl rfl rfl <| DW.no rfl rfl rfl <| DW.no rfl rfl rfl <| DW.no rfl rfl rfl <| DW.no rfl rfl rfl <| DW.no rfl rfl rfl <| DW.no rfl rfl rfl <| DW.p rfl rfl rfl rfl rfl (fun _ hC => PV.pickF rfl rfl rfl) <| DW.p rfl rfl rfl rfl rfl (fun _ hC => PV.pickF rfl rfl rfl) <| DW.p rfl rfl rfl rfl rfl (fun _ hC => PV.mv rfl) <| DW.p rfl rfl rfl rfl rfl (fun _ hC => PV.fa fa117_1 rfl) <| DW.p rfl rfl rfl rfl rfl (fun _ hC => PV.ld1 one9 (hb4.ext hC).range rfl rfl) <| DW.p rfl rfl rfl rfl rfl (fun _ hC => PV.lenS und9 rfl) <| DW.p rfl rfl rfl rfl rfl (fun _ hC => PV.gtr rfl rfl) <| DW.p rfl rfl rfl rfl rfl (fun _ hC => PV.pickF rfl rfl rfl) <| DW.p rfl rfl rfl rfl rfl (fun _ hC => PV.mv rfl) <| ?_
      refine DW.gsplit (t := 48) rfl (fun g48 => ?_) (fun g48 => ?_)
      ·
       skip
       refine DW.no rfl rfl rfl <| DW.no rfl rfl rfl <| DW.no rfl rfl rfl <| DW.p rfl rfl rfl rfl rfl (fun _ hC => PV.pickT rfl rfl rfl) <| DW.p rfl rfl rfl rfl rfl (fun _ hC => PV.mv rfl) <| DW.no rfl rfl rfl <| DW.no rfl rfl rfl <| DW.no rfl rfl rfl <| DW.no rfl rfl rfl <| DW.nil ?_
       rintro w5 s5 _
       have c5 := c4.trans s5
       have hb1 := hb1.ext s5
       have hb4 := hb4.ext s5
       refine WL.no rfl rfl <| WL.p rfl rfl (PV.pickT rfl rfl rfl) <| WL.nil ?_
       exact EX.meet1 49 rfl rfl rfl (by unfold inpBad; first | (simp only [hl1, hl2, g19, g25, g28, g48]; done) | (simp only [hl1, hl2, g19, g25, g28, g48]; rfl) | (simp only [hl1, g19, g25, g28, g48]; rfl) | (simp only [hl1, g19, g25, g28, g48]; done)) s5
      ·
       skip
       refine DW.p rfl rfl rfl rfl rfl (fun _ hC => PV.fa fa117_2 rfl) <| DW.p rfl rfl rfl rfl rfl (fun _ hC => PV.ld1 one3 (hb4.ext hC).range rfl rfl) <| DW.p rfl rfl rfl rfl rfl (fun _ hC => PV.lss rfl rfl) <| DW.p rfl rfl rfl rfl rfl (fun _ hC => PV.pickF rfl rfl rfl) <| DW.p rfl rfl rfl rfl rfl (fun _ hC => PV.mv rfl) <| ?_
       refine DW.gsplit (t := 53) rfl (fun g53 => ?_) (fun g53 => ?_)
       ·
        skip
        refine DW.no rfl rfl rfl <| DW.no rfl rfl rfl <| DW.no rfl rfl rfl <| DW.no rfl rfl rfl <| DW.nil ?_
        rintro w5 s5 _
        have c5 := c4.trans s5
        have hb1 := hb1.ext s5
        have hb4 := hb4.ext s5
        refine WL.no rfl rfl <| WL.p rfl rfl (PV.pickT rfl rfl rfl) <| WL.nil ?_
        exact EX.meet1 50 rfl rfl rfl (by unfold inpBad; first | (simp only [hl1, hl2, g19, g25, g28, g48, g53]; done) | (simp only [hl1, hl2, g19, g25, g28, g48, g53]; rfl) | (simp only [hl1, g19, g25, g28, g48, g53]; rfl) | (simp only [hl1, g19, g25, g28, g48, g53]; done)) s5
       ·
        skip
        refine DW.p rfl rfl rfl rfl rfl (fun _ hC => PV.fa fa117_2 rfl) <| DW.p rfl rfl rfl rfl rfl (fun _ hC => PV.ld1 one3 (hb4.ext hC).range rfl rfl) <| DW.p rfl rfl rfl rfl rfl (fun _ hC => PV.fa fa40_0 rfl) <| DW.p rfl rfl rfl rfl rfl (fun _ hC => PV.ld1 one3 (hb1.ext hC).range rfl rfl) <| DW.nil ?_
        rintro w5 s5 _
        have c5 := c4.trans s5
        have hb1 := hb1.ext s5
        have hb4 := hb4.ext s5
        refine WL.p rfl rfl (PV.gtr rfl rfl) <| WL.p rfl rfl (PV.pickF rfl rfl rfl) <| WL.nil ?_
        exact EX.meet1 50 rfl rfl rfl (by unfold inpBad; first | (simp only [hl1, hl2, g19, g25, g28, g48, g53]; done) | (simp only [hl1, hl2, g19, g25, g28, g48, g53]; rfl) | (simp only [hl1, g19, g25, g28, g48, g53]; rfl) | (simp only [hl1, g19, g25, g28, g48, g53]; done)) s5
  intro w5 s5
  have c5 := c4.trans s5
  have hb1 := hb1.ext s5
  have hb4 := hb4.ext s5
  refine EX.seqN ?_
  refine WC.cond rfl (fun g59 => ?_) (fun g59 => ?_)
  ·
   skip
   skip
   refine WC.seq ?_
   refine WC.region ?_
   refine WL.p rfl rfl (PV.as rfl) <| WL.nil ?_
   refine EX.seqN ?_
   refine WC.ret ?_
   refine EX.blkR ?_
   refine EX.thenR ?_
   refine EX.thenR ?_
   refine EX.blkR ?_
   refine EX.thenR ?_
   refine EX.ret1 rfl rfl ?_
   exact ⟨false, rfl, ⟨fun h => (by cases h), fun h => absurd (h.1 i _ (getElem_some hi2)) (by simp [g59])⟩, c5⟩
  ·
   skip
   refine WC.skip ?_
   refine EX.blkN ?_
   refine EX.seqN ?_
   refine WC.region ?_
   refine WL.p rfl rfl (PV.add rfl rfl (by omega) (by omega)) <| WL.p rfl rfl (PV.mv rfl) <| WL.nil ?_
   refine EX.again (i + 1) (Sub.cons rfl <| Sub.cons rfl <| Sub.cons rfl <| Sub.consI rfl (by simp) <| Sub.nil) ⟨c5, hb1, by omega, below_succ (P := fun j _ => inpBad x.revision x.inputs j = false) hi2 hall g59⟩ (by omega)
 ·
  skip
  simp at g11
  have hall : inpsOk x.revision x.inputs := fun j y hx => hall j y (by have := (List.getElem?_eq_some_iff.1 hx).1; omega) hx
  refine WC.exit ?_
  refine EX.thenX ?_
  refine EX.thenX ?_
  refine EX.blkX ?_
  refine EX.seqN ?_
  refine WC.seq ?_
  refine WC.seq ?_
  refine WC.region ?_
  refine WL.p rfl rfl (PV.fa fa40_2 rfl) <| WL.p rfl rfl (PV.ld1 one38 hb1.range rfl rfl) <| WL.p rfl rfl (PV.len' sl38 rfl) <| WL.p rfl rfl (PV.mv rfl) <| WL.nil ?_
  refine EX.seqN ?_
  refine WC.block ?_
  refine WC.loop (σ := Nat) (kvs := fun i => [(1, .pointer (some ⟨b1, 0, none⟩)), (62, .slice a2 n2 e2), (63, .int .i64 (n2 : Int)), (64, .int .i64 (i : Int))]) (I := fun i w' => Chg [] w w' ∧ Blk w' b1 40 (x.row a1 n1 e1 a2 n2 e2) ∧ i ≤ n2 ∧ ∀ (j : Nat) (y : Rec), j < i → x.recs[j]? = some y → y.verified ≤ x.revision) (μ := fun i => n2 - i) 0 (Sub.cons rfl <| Sub.cons rfl <| Sub.cons rfl <| Sub.cons rfl <| Sub.nil) ⟨c2, hb1, by omega, fun j y h => by omega⟩ ?_
  rintro i2 w3 ⟨c3, hb1, hin2, hall2⟩
  refine WC.seq ?_
  refine WC.region ?_
  refine WL.p rfl rfl (PV.lss rfl rfl) <| WL.nil ?_
  refine EX.seqN ?_
  refine WC.seq ?_
  refine WC.cond rfl (fun g65 => ?_) (fun g65 => ?_)
  ·
   skip
   simp at g65
   have hi2 : i2 < x.recs.length := by omega
   obtain ⟨bx1, ox1, rx1, ha1, _, ⟨q1, q2, q3, rfl, hkq, hk4⟩, hr1, _⟩ := SR.at hr (getElem_some hi2)
   refine WC.skip ?_
   refine EX.seqN ?_
   refine WC.seq ?_
   refine WC.block ?_
   refine WC.seq ?_
   have hr1 := range_chg hr1 c3 (by simp)
   refine WC.region ?_
   refine WL.p rfl rfl (PV.ixS sl38 ha1 rfl rfl (by omega)) <| WL.p rfl rfl (PV.ldA agg47 hr1 rfl rfl) <| ?_
   refine WL.go rfl (OX.alloc zv47 rfl fun b6 w4 nw6 hb6 => ?_)
   have s4 := nw6.ext
   have ge_hb6 := nw6.ge' c3
   have ne_hb1_hb6 : b1 ≠ b6 := nw6.ne hb1.lt
   have ne_hb6_hb1 : b6 ≠ b1 := Ne.symm ne_hb1_hb6
   have c4 := c3.trans s4
   have hb1 := hb1.ext s4
   refine WL.go rfl (OX.stW sz47 hb6 rfl rfl rfl rfl rfl fun w5 s5 _ hb6 => ?_)
   have c5 := c4.own s5 ge_hb6
   have hb1 := hb1.chg s5 (by simp [ne_hb1_hb6])
   refine WL.nil ?_
   refine EX.seqN ?_
   refine WC.seq ?_
   refine WC.region ?_
   refine WL.p rfl rfl (PV.fa fa47_4 rfl) <| WL.p rfl rfl (PV.ld1 one3 hb6.range rfl rfl) <| WL.p rfl rfl (PV.fa fa40_0 rfl) <| WL.p rfl rfl (PV.ld1 one3 hb1.range rfl rfl) <| WL.p rfl rfl (PV.gtr rfl rfl) <| WL.nil ?_
   refine EX.seqN ?_
   refine WC.cond rfl (fun g72 => ?_) (fun g72 => ?_)
   ·
    skip
    simp at g72
    refine WC.seq ?_
    refine WC.region ?_
    refine WL.p rfl rfl (PV.as rfl) <| WL.nil ?_
    refine EX.seqN ?_
    refine WC.ret ?_
    refine EX.blkR ?_
    refine EX.thenR ?_
    refine EX.thenR ?_
    refine EX.blkR ?_
    refine EX.thenR ?_
    refine EX.ret1 rfl rfl ?_
    exact ⟨false, rfl, ⟨fun h => (by cases h), fun h => absurd (h.2.1 i2 _ (getElem_some hi2)) (by omega)⟩, c5⟩
   ·
    skip
    simp at g72
    refine WC.skip ?_
    refine EX.blkN ?_
    refine EX.seqN ?_
    refine WC.region ?_
    refine WL.p rfl rfl (PV.add rfl rfl (by omega) (by omega)) <| WL.p rfl rfl (PV.mv rfl) <| WL.nil ?_
    refine EX.again (i2 + 1) (Sub.cons rfl <| Sub.cons rfl <| Sub.cons rfl <| Sub.consI rfl (by simp) <| Sub.nil) ⟨c5, hb1, by omega, below_succ (P := fun _ (y : Rec) => y.verified ≤ x.revision) hi2 hall2 g72⟩ (by omega)
  ·
   skip
   simp at g65
   have hall2 : ∀ (j : Nat) (y : Rec), x.recs[j]? = some y → y.verified ≤ x.revision := fun j y hx => hall2 j y (by have := (List.getElem?_eq_some_iff.1 hx).1; omega) hx
   refine WC.exit ?_
   refine EX.thenX ?_
   refine EX.thenX ?_
   refine EX.blkX ?_
   refine EX.seqN ?_
   refine WC.seq ?_
   refine WC.cut1e (t := 2) (v := .bool (basTail x)) (Chg [] w3) ?_ ?_
   ·
    skip
    refine WC.region ?_
    refine WL.p rfl rfl (PV.fa fa40_0 rfl) <| WL.p rfl rfl (PV.ld1 one3 hb1.range rfl rfl) <| WL.p rfl rfl (PV.geq rfl rfl) <| WL.p rfl rfl (PV.mv rfl) <| ?_
    refine WL.gsplit (t := 77) rfl (fun g77 => ?_) (fun g77 => ?_)
    ·
     skip
     refine WL.p rfl rfl (PV.fa fa40_0 rfl) <| WL.p rfl rfl (PV.ld1 one3 hb1.range rfl rfl) <| WL.p rfl rfl (PV.leq rfl rfl) <| WL.p rfl rfl (PV.pickT rfl rfl rfl) <| WL.p rfl rfl (PV.mv rfl) <| ?_
     refine WL.gsplit (t := 82) rfl (fun g82 => ?_) (fun g82 => ?_)
     ·
      skip
      refine WL.p rfl rfl (PV.fa fa40_1 rfl) <| WL.p rfl rfl (PV.ld1 one37 hb1.range rfl rfl) <| WL.p rfl rfl (PV.len' sl37 rfl) <| WL.p rfl rfl (PV.leq rfl rfl) <| WL.p rfl rfl (PV.pickT rfl rfl rfl) <| WL.p rfl rfl (PV.mv rfl) <| ?_
      refine WL.gsplit (t := 88) rfl (fun g88 => ?_) (fun g88 => ?_)
      ·
       skip
       refine WL.p rfl rfl (PV.fa fa40_2 rfl) <| WL.p rfl rfl (PV.ld1 one38 hb1.range rfl rfl) <| ?_
       refine WL.go rfl (OX.call cf72 rfl rfl ((validList_calls' (hr.ext c3)).mono ?_))
       rintro _ w4 ⟨rfl, s4⟩
       refine ⟨_, rfl, ?_⟩
       have c4 := c3.trans s4
       have hb1 := hb1.ext s4
       refine WL.p rfl rfl (PV.pickT rfl rfl rfl) <| WL.p rfl rfl (PV.as rfl) <| WL.nil ?_
       exact EX.meet1e 23 rfl rfl rfl (by unfold basTail; simp only [g77, g82, g88, ← hlen]; first | rfl | simp) s4
      ·
       skip
       refine WL.no rfl rfl <| WL.no rfl rfl <| WL.no rfl rfl <| WL.p rfl rfl (PV.pickF rfl rfl rfl) <| WL.p rfl rfl (PV.as rfl) <| WL.nil ?_
       exact EX.meet1e 23 rfl rfl rfl (by unfold basTail; simp only [g77, g82, g88, ← hlen]; first | rfl | simp) (Chg.refl _ _)
     ·
      skip
      refine WL.no rfl rfl <| WL.no rfl rfl <| WL.no rfl rfl <| WL.no rfl rfl <| WL.p rfl rfl (PV.pickF rfl rfl rfl) <| WL.p rfl rfl (PV.mv rfl) <| WL.no rfl rfl <| WL.no rfl rfl <| WL.no rfl rfl <| WL.p rfl rfl (PV.pickF rfl rfl rfl) <| WL.p rfl rfl (PV.as rfl) <| WL.nil ?_
      exact EX.meet1e 22 rfl rfl rfl (by unfold basTail; simp only [g77, g82, ← hlen]; first | rfl | simp) (Chg.refl _ _)
    ·
     skip
     refine WL.no rfl rfl <| WL.no rfl rfl <| WL.no rfl rfl <| WL.p rfl rfl (PV.pickF rfl rfl rfl) <| WL.p rfl rfl (PV.mv rfl) <| WL.no rfl rfl <| WL.no rfl rfl <| WL.no rfl rfl <| WL.no rfl rfl <| WL.p rfl rfl (PV.pickF rfl rfl rfl) <| WL.p rfl rfl (PV.mv rfl) <| WL.no rfl rfl <| WL.no rfl rfl <| WL.no rfl rfl <| WL.p rfl rfl (PV.pickF rfl rfl rfl) <| WL.p rfl rfl (PV.as rfl) <| WL.nil ?_
     exact EX.meet1e 21 rfl rfl rfl (by unfold basTail; simp only [g77, ← hlen]; first | rfl | simp) (Chg.refl _ _)
   intro w4 s4
   have c4 := c3.trans s4
   have hb1 := hb1.ext s4
   refine EX.seqN ?_
   refine WC.ret ?_
   refine EX.ret1 rfl rfl ?_
   exact ⟨_, rfl, ⟨fun h => by have := (basTail_iff x).1 h; exact ⟨hall, hall2, this⟩, fun h => (basTail_iff x).2 h.2.2⟩, c4⟩
end Go.Rc

