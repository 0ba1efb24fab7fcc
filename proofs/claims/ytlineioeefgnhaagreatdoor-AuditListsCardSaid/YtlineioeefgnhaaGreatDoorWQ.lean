/- Walks over the program, part WQ. Conditions: as each theorem says. -/
import Derived.Test.YtlineioeefgnhaaGreatDoorFacts
import Derived.Test.YtlineioeefgnhaaGreatDoorWP
import Derived.Test.YtlineioeefgnhaaGreatDoorBb
set_option linter.unusedVariables false
set_option linter.unusedSimpArgs false
set_option linter.unusedSectionVars false
namespace Go.Rc
open Go Go.Proofs
set_option maxHeartbeats 400000
theorem pecheck_calls {rules : List Rule} {i : Nat} {ar : Option Addr} {r cr : Nat} {x : Bas} {A Z : Nat → Prop} {a1 a2 : Option Addr} {n1 e1 n2 e2 : Nat} {w : World} (h99 : i ≤ 99) (hs : ∀ y ∈ rules, SimR y) (h24 : rules.length ≤ 24) (hu : Rules A w ar r cr rules) (hii : Rd RR.inp 4 Z w a1 n1 e1 x.inputs) (hr : Rd RR.rcd 8 Z w a2 n2 e2 x.recs) (hx : SimB i x) : Calls Tryz.prog 19 #[.slice ar r cr, .agg (x.row a1 n1 e1 a2 n2 e2).toArray, .slice none 0 0] w fun e w' => e = .returned (.int .i64 0) ∧ Chg [] w w'  := by
 refine enter (args := [.slice ar r cr, .agg (x.row a1 n1 e1 a2 n2 e2).toArray, .slice none 0 0]) Tryz.func19 rfl Tryz.ntmps19 rfl ?_
 have st0 : St w (fun _ => False) (fun _ => False) w [] := St.start (by simp)
 refine WC.seq ?_
 refine WC.region ?_
 refine WL.go rfl (OX.box rfl rfl rfl fun b3 w1 nw3 hb3 => ?_)
 have st1 := st0.newB nw3 hb3
 refine WL.go rfl (OX.box rfl rfl rfl fun b4 w2 nw4 hb4 => ?_)
 have st2 := st1.newB nw4 hb4
 refine WL.p rfl rfl (PV.as rfl) <| WL.nil ?_
 refine EX.seqN ?_
 refine WC.seq ?_
 refine WC.block ?_
 refine WC.seq ?_
 refine WC.region ?_
 refine WL.p rfl rfl (PV.ld0 one36 (Blk.range (As.gb st2.g1)) rfl rfl) <| ?_
 refine WL.go rfl (OX.call cf44 rfl rfl ((ptoyValid_calls (hu.ext (St.cg st2)) hs h24).mono ?_))
 rintro _ w3 ⟨rfl, s3⟩
 refine ⟨_, rfl, ?_⟩
 have st3 := st2.step s3
 refine WL.p rfl rfl (PV.not rfl) <| WL.p rfl rfl (PV.as rfl) <| WL.nil ?_
 refine EX.seqN ?_
 refine WC.condF rfl ?_
 refine WC.seq ?_
 refine WC.region ?_
 refine WL.p rfl rfl (PV.ldA agg40 (Blk.range (As.gb st3.g0)) rfl rfl) <| ?_
 refine WL.go rfl (OX.call cf45 rfl rfl ((prevValid_calls h99 (hii.ext (St.cg st3)) (hr.ext (St.cg st3)) hx).mono ?_))
 rintro _ w4 ⟨rfl, s4⟩
 refine ⟨_, rfl, ?_⟩
 have st4 := st3.step s4
 refine WL.p rfl rfl (PV.not rfl) <| WL.p rfl rfl (PV.as rfl) <| WL.nil ?_
 refine EX.seqN ?_
 refine WC.condF rfl ?_
 refine WC.seq ?_
 refine WC.region ?_
 refine WL.p rfl rfl (PV.mv rfl) <| WL.p rfl rfl (PV.len' sl25 rfl) <| WL.p rfl rfl (PV.gtr rfl rfl) <| WL.p rfl rfl (PV.as rfl) <| WL.nil ?_
 refine EX.seqN ?_
 refine WC.cond rfl (fun g15 => ?_) (fun g15 => ?_)
 ·
  skip
  exact absurd g15 (by first | (simp; done) | (simp; omega) | (simp_all; done) | (simp_all; omega))
 ·
  skip
  refine WC.seq ?_
  refine WC.region ?_
  refine WL.p rfl rfl (PV.mv rfl) <| WL.p rfl rfl (PV.func (us := []) (vs := [.pointer (some ⟨b3, 0, none⟩)]) rfl rfl) <| ?_
  refine WL.go rfl (OX.call cf46 rfl rfl ((pcontainsK0_calls).mono ?_))
  rintro _ w5 ⟨rfl, s5⟩
  refine ⟨_, rfl, ?_⟩
  have st5 := st4.step s5
  refine WL.p rfl rfl (PV.as rfl) <| WL.nil ?_
  refine EX.seqN ?_
  refine WC.condF rfl ?_
  refine WC.skip ?_
  refine EX.blkN ?_
  refine EX.seqN ?_
  refine WC.seq ?_
  refine WC.region ?_
  refine WL.p rfl rfl (PV.as rfl) <| WL.nil ?_
  refine EX.seqN ?_
  refine WC.ret ?_
  refine EX.ret1 rfl rfl ?_
  exact ⟨rfl, (St.cg st5)⟩
theorem pekept_calls {i : Nat} {v : ByteArray} {a1 a2 : Option Addr} {n1 e1 n2 e2 : Nat} {w : World} {M Z : Nat → Prop} (hst : St w M Z w []) (hr : Rd RR.rcd 8 Z w a2 n2 e2 [rec1 i v]) : Calls Tryz.prog 27 #[.agg ((⟨0, [], [rec1 i v]⟩ : Bas).row a1 n1 e1 a2 n2 e2).toArray, (⟨31, itoa i⟩ : Key).val] w fun e w' => e = .returned (.tuple #[.string v, .bool true]) ∧ St w M Z w' [] := by
 have hf : findR [rec1 i v] (⟨31, itoa i⟩ : Key) = some (rec1 i v) := by simp [findR, rec1]
 have hrf : recOf [rec1 i v] (⟨31, itoa i⟩ : Key) = rec1 i v := by unfold recOf; rw [hf]; rfl
 refine enter (args := [.agg ((⟨0, [], [rec1 i v]⟩ : Bas).row a1 n1 e1 a2 n2 e2).toArray, (⟨31, itoa i⟩ : Key).val]) Tryz.func27 rfl Tryz.ntmps27 rfl ?_
 have st0 := hst
 have st1 := st0.fact (As.mkro hr) (fun _ hx => hx)
 refine WC.seq ?_
 refine WC.region ?_
 refine WL.go rfl (OX.box rfl rfl rfl fun b2 w1 nw2 hb2 => ?_)
 have st2 := st1.newB nw2 hb2
 refine WL.go rfl (OX.box rfl rfl rfl fun b3 w2 nw3 hb3 => ?_)
 have st3 := st2.newB nw3 hb3
 refine WL.p rfl rfl (PV.as rfl) <| WL.p rfl rfl (PV.as rfl) <| WL.nil ?_
 refine EX.seqN ?_
 refine WC.seq ?_
 refine WC.seq ?_
 refine WC.region ?_
 refine WL.p rfl rfl (PV.ldA agg27 (Blk.range (As.gb st3.g0)) rfl rfl) <| ?_
 refine WL.go rfl (OX.call cf56 rfl rfl ((pinput_calls (k := (⟨31, itoa i⟩ : Key))).mono ?_))
 rintro _ w3 ⟨rfl, s3⟩
 refine ⟨_, rfl, ?_⟩
 rw [show isInput (⟨31, itoa i⟩ : Key) = false from rfl]
 have st4 := st3.step s3
 refine WL.nil ?_
 refine EX.seqN ?_
 refine WC.condF rfl ?_
 refine WC.skip ?_
 refine EX.seqN ?_
 refine WC.seq ?_
 refine WC.region ?_
 refine WL.p rfl rfl (PV.fa fa40_2 rfl) <| WL.p rfl rfl (PV.ld1 one38 (Blk.range (As.gb st4.g1)) rfl rfl) <| WL.p rfl rfl (PV.ldA agg27 (Blk.range (As.gb st4.g0)) rfl rfl) <| ?_
 have st5 := st4
 refine WL.go rfl (OX.call cf55 rfl rfl ((pfindR_calls (k := (⟨31, itoa i⟩ : Key)) st5.e0 (As.gr st5.g2)).mono ?_))
 rintro _ w4 ⟨f1, f2, f3, rfl, _, hst4⟩
 refine ⟨_, rfl, ?_⟩
 have st6 := St.leave (l0 := []) st5 hst4 (Zle.refl _ _)
 simp only [List.cons_append, List.nil_append] at st6
 rw [hrf, hf]
 refine WL.p rfl rfl (PV.mv rfl) <| WL.p rfl rfl (PV.ext rfl rfl) <| WL.p rfl rfl (PV.ext rfl rfl) <| ?_
 refine WL.go rfl (OX.alloc zv47 rfl fun b6 w5 nw6 hb6 => ?_)
 have st7 := st6.newB nw6 hb6
 refine WL.go rfl (OX.stW sz47 (As.gb st7.g0) rfl rfl rfl rfl rfl fun w6 ss0 _ hs0 => ?_)
 have st8 := st7.updB ss0 hs0
 refine WL.p rfl rfl (PV.as rfl) <| WL.nil ?_
 refine EX.seqN ?_
 refine WC.seq ?_
 refine WC.seq ?_
 refine WC.cut1S (t := 28) (v := .bool false) st8 ?_ ?_
 ·
  skip
  refine WC.region ?_
  refine WL.p rfl rfl (PV.mv rfl) <| WL.p rfl rfl (PV.not rfl) <| WL.p rfl rfl (PV.mv rfl) <| ?_
  refine WL.gsplit (t := 22) rfl (fun g22 => ?_) (fun g22 => ?_)
  ·
   skip
   refine WL.no rfl rfl <| WL.no rfl rfl <| WL.no rfl rfl <| WL.no rfl rfl <| WL.no rfl rfl <| WL.p rfl rfl (PV.pickT rfl rfl rfl) <| WL.nil ?_
   exact EX.meet1 10 rfl rfl rfl (by first | rfl | (simp only [g22]; done) | (simp only [g22]; rfl) | (simp [g22]; done) | (simp; done) | (simp at g22 ⊢ <;> omega) | (simp <;> omega) | (simp [g22] <;> omega) | (simp at g22 <;> omega)) (st8)
  ·
   skip
   refine WL.p rfl rfl (PV.fa fa47_4 rfl) <| WL.p rfl rfl (PV.ld1 one3 (Blk.range (As.gb st8.g0)) rfl rfl) <| WL.p rfl rfl (PV.fa fa40_0 rfl) <| WL.p rfl rfl (PV.ld1 one3 (Blk.range (As.gb st8.g3)) rfl rfl) <| WL.p rfl rfl (PV.nei rfl rfl) <| WL.p rfl rfl (PV.pickF rfl rfl rfl) <| WL.nil ?_
   exact EX.meet1 10 rfl rfl rfl (by first | rfl | (simp only [g22]; done) | (simp only [g22]; rfl) | (simp [g22]; done) | (simp; done) | (simp at g22 ⊢ <;> omega) | (simp <;> omega) | (simp [g22] <;> omega) | (simp at g22 <;> omega)) (st8)
 intro w7 st9
 refine EX.seqN ?_
 refine WC.cond rfl (fun g28 => ?_) (fun g28 => ?_)
 ·
  skip
  exact absurd g28 (by first | (simp; done) | (simp; omega) | (simp_all; done) | (simp_all; omega))
 ·
  skip
  refine WC.skip ?_
  refine EX.seqN ?_
  refine WC.seq ?_
  refine WC.region ?_
  refine WL.p rfl rfl (PV.fa fa47_1 rfl) <| WL.p rfl rfl (PV.ld1 one9 (Blk.range (As.gb st9.g0)) rfl rfl) <| WL.p rfl rfl (PV.as rfl) <| WL.p rfl rfl (PV.as rfl) <| WL.nil ?_
  refine EX.seqN ?_
  refine WC.ret ?_
  refine EX.ret2 rfl rfl rfl ?_
  exact ⟨rfl, st9.drop.drop.drop.drop.drop⟩
theorem pothers1_calls {x : Rec} {l : List Key} {a aw : Option Addr} {n c nw cw bw : Nat} {w : World} {Z : Nat → Prop} (hb : Blk w bw 25 [.slice aw nw cw]) (hl : Rd RR.key 2 Z w aw nw cw l) : Calls Tryz.prog 67 #[.agg (x.row a n c).toArray, .pointer (some ⟨bw, 0, none⟩)] w fun e w' => e = .returned (.bool (decide (x.key ∈ l))) ∧ Chg [] w w'  := by
 refine enter (args := [.agg (x.row a n c).toArray, .pointer (some ⟨bw, 0, none⟩)]) Tryz.func67 rfl Tryz.ntmps67 rfl ?_
 have st0 : St w (fun _ => False) (fun _ => False) w [] := St.start (by simp)
 refine WC.seq ?_
 refine WC.region ?_
 refine WL.go rfl (OX.box rfl rfl rfl fun b2 w1 nw2 hb2 => ?_)
 have st1 := st0.newB nw2 hb2
 refine WL.p rfl rfl (PV.as rfl) <| WL.nil ?_
 refine EX.seqN ?_
 refine WC.seq ?_
 refine WC.region ?_
 refine WL.p rfl rfl (PV.ld0 one25 (Blk.range (hb.ext (St.cg st1))) rfl rfl) <| WL.p rfl rfl (PV.fa fa47_0 rfl) <| WL.p rfl rfl (PV.ldM agg27 (Blk.range (As.gb st1.g0)) rfl rfl) <| ?_
 refine WL.go rfl (OX.call cf68 rfl rfl ((pcontainsK_calls (k := x.key) (hl.ext (St.cg st1))).mono ?_))
 rintro _ w2 ⟨rfl, s2⟩
 refine ⟨_, rfl, ?_⟩
 have st2 := st1.step s2
 refine WL.p rfl rfl (PV.as rfl) <| WL.nil ?_
 refine EX.seqN ?_
 refine WC.ret ?_
 refine EX.ret1 rfl rfl ?_
 exact ⟨rfl, (St.cg st2)⟩
theorem pdelR1_calls {x : Rec} {p : Rec → Bool} {f : FuncId} {cap : Value} {a : Option Addr} {c : Nat} {w : World} {M Z : Nat → Prop} (hcf : CF Tryz.prog f) (hst : St w M Z w [As.os RR.rcd 47 8 a 1 c [x]]) (hpx : p x = true) (hp : ∀ w1, Chg [] w w1 → ∀ a n c, Calls Tryz.prog f #[.agg (x.row a n c).toArray, cap] w1 fun e w' => e = .returned (.bool (p x)) ∧ Chg [] w1 w') : Calls Tryz.prog 65 #[.slice a 1 c, .func (.func f) #[] #[cap]] w fun e w' => ∃ a' c', e = .returned (.slice a' 0 c') ∧ St w M Z w' [] := by
 have hs0 := As.gs hst.g0
 obtain ⟨b_s, ha_s⟩ : ∃ b, a = some ⟨b, 0, none⟩ := by obtain ⟨b, _, h, _⟩ := Ow.at hs0 (by simp) (i := 0) rfl; exact ⟨b, h⟩
 have hc1 : 1 ≤ c := by obtain ⟨l, _, _, h⟩ := Ow.blk hs0 ha_s; exact h
 have hdr : dropA a 0 8 c = a := by rw [ha_s]; unfold dropA; simp
 refine enter (args := [.slice a 1 c, .func (.func f) #[] #[cap]]) Tryz.func65 rfl Tryz.ntmps65 rfl ?_
 have st0 := hst
 refine WC.seq ?_
 refine WC.region ?_
 refine WL.p rfl rfl (PV.as rfl) <| WL.nil ?_
 refine EX.seqN ?_
 refine WC.seq ?_
 refine WC.region ?_
 refine WL.p rfl rfl (PV.mv rfl) <| WL.p rfl rfl (PV.mv rfl) <| ?_
 refine WL.go rfl (OX.call cf99 rfl rfl ((pindexR_calls (p := p) hcf (Ow.rd (As.gs st0.g0) (by simp)) (fun w1 h1 y hy a n c _ => by (obtain rfl : y = x := by simpa using hy); exact hp w1 h1 a n c)).mono ?_))
 rintro _ w1 ⟨j, rfl, hj, s1⟩
 refine ⟨_, rfl, ?_⟩
 have st1 := st0.step s1
 obtain rfl : j = 0 := by
  rcases hj with ⟨i, y, h1, _, _, h4⟩ | ⟨h1, _⟩
  ·
   have := (List.getElem?_eq_some_iff.1 h1).1
   simp at this; omega
  ·
   exact absurd hpx (by simp [h1 x (by simp)])
 refine WL.p rfl rfl (PV.as rfl) <| WL.nil ?_
 refine EX.seqN ?_
 refine WC.seq ?_
 refine WC.seq ?_
 refine WC.region ?_
 refine WL.p rfl rfl (PV.mv rfl) <| WL.p rfl rfl (PV.eqi rfl rfl) <| WL.nil ?_
 refine EX.seqN ?_
 refine WC.cond rfl (fun g12 => ?_) (fun g12 => ?_)
 ·
  skip
  exact absurd g12 (by first | (simp; done) | (simp; omega) | (simp_all; done) | (simp_all; omega))
 ·
  skip
  refine WC.skip ?_
  refine EX.seqN ?_
  refine WC.seq ?_
  refine WC.seq ?_
  refine WC.region ?_
  refine WL.p rfl rfl (PV.mv rfl) <| WL.p rfl rfl (PV.add rfl rfl (by omega) (by omega)) <| WL.p rfl rfl (PV.as rfl) <| WL.nil ?_
  refine EX.seqN ?_
  refine WC.block ?_
  refine WC.loopN 1 ?_
  refine LoopN.s ?_
  refine WC.seq ?_
  refine WC.seq ?_
  refine WC.region ?_
  refine WL.p rfl rfl (PV.mv rfl) <| WL.p rfl rfl (PV.mv rfl) <| WL.p rfl rfl (PV.len' sl38 rfl) <| WL.p rfl rfl (PV.lss rfl rfl) <| WL.nil ?_
  refine EX.seqN ?_
  refine WC.cond rfl (fun g19 => ?_) (fun g19 => ?_)
  ·
   skip
   exact absurd g19 (by first | (simp; done) | (simp; omega) | (simp_all; done) | (simp_all; omega))
  ·
   skip
   refine WC.exit ?_
   refine EX.thenX ?_
   refine EX.thenX ?_
   refine EX.blkX ?_
   refine EX.seqN ?_
   refine WC.seq ?_
   refine WC.region ?_
   refine WL.p rfl rfl (PV.mv rfl) <| WL.p rfl rfl (PV.mv rfl) <| WL.p rfl rfl (PV.sliceL sl38 (i := 0) (Ow.rd (As.gs st1.g0) (by simp)) rfl rfl (Nat.zero_le _)) <| ?_
   refine WL.go rfl (OX.clr1 und38 zvv47 rfl rfl (by decide) (by decide) (As.gs st1.g0) ha_s (cap := c) (by show some (Value.slice (dropA a 0 8 c) (1 - 0) (c - 0)) = _; rw [hdr]; rfl) noRec ⟨none, 0, 0, rfl, Rd.nil _ _ _ _, by simp [noRec]⟩ fun w2 sc hc => ?_)
   have st2 := st1.updS sc hc (fun x h => .inl h)
   refine WL.nil ?_
   refine EX.seqN ?_
   refine WC.seq ?_
   refine WC.region ?_
   refine WL.p rfl rfl (PV.mv rfl) <| WL.p rfl rfl (PV.mv rfl) <| WL.p rfl rfl (PV.sliceH sl38 (i := 0) (Ow.rd (As.gs st2.g0) (by simp)) rfl rfl (Nat.zero_le _)) <| WL.p rfl rfl (PV.as rfl) <| WL.nil ?_
   refine EX.seqN ?_
   refine WC.ret ?_
   refine EX.ret1 rfl rfl ?_
   exact ⟨_, _, rfl, st2.drop⟩
theorem pothers1o_calls {x : Rec} {l : List Key} {a aw : Option Addr} {n c nw cw : Nat} {w : World} {M Z : Nat → Prop} (hst : St w M Z w []) (hr : Rd RR.rcd 8 Z w a n c [x]) (hl : Rd RR.key 2 Z w aw nw cw l) (hx : x.key ∈ l) : Calls Tryz.prog 31 #[.slice a n c, .slice aw nw cw] w fun e w' => ∃ a' c', e = .returned (.slice a' 0 c') ∧ St w M Z w' [] := by
 refine enter (args := [.slice a n c, .slice aw nw cw]) Tryz.func31 rfl Tryz.ntmps31 rfl ?_
 have st0 := hst
 have st1 := st0.fact (As.mkro hr) (fun _ hx => hx)
 have st2 := st1.fact (As.mkro hl) (fun _ hx => hx)
 refine WC.seq ?_
 refine WC.region ?_
 refine WL.go rfl (OX.box rfl rfl rfl fun b3 w1 nw3 hb3 => ?_)
 have st3 := st2.newB nw3 hb3
 refine WL.p rfl rfl (PV.as rfl) <| WL.nil ?_
 refine EX.seqN ?_
 refine WC.seq ?_
 refine WC.region ?_
 refine WL.p rfl rfl (PV.mv rfl) <| ?_
 have st4 := st3
 refine WL.go rfl (OX.call cf66 rfl rfl ((pcloneR_calls st4.e0 (As.gr st4.g2) (by simp)).mono ?_))
 rintro _ w2 ⟨f1, f2, f3, rfl, hst2⟩
 refine ⟨_, rfl, ?_⟩
 have st5 := St.leave (l0 := []) st4 hst2 (Zle.refl _ _)
 simp only [List.cons_append, List.nil_append] at st5
 obtain rfl : f2 = 1 := ((As.gs st5.g0)).len
 refine WL.p rfl rfl (PV.func (us := []) (vs := [.pointer (some ⟨b3, 0, none⟩)]) rfl rfl) <| ?_
 have st6 := st5
 refine WL.go rfl (OX.call cf65 rfl rfl ((pdelR1_calls (p := fun x => decide (x.key ∈ l)) cf67 st6.e1 (by simpa using hx) (fun w1 h1 a n c => pothers1_calls ((As.gb st6.g1).ext h1) ((As.gr st6.g2).ext h1))).mono ?_))
 rintro _ w3 ⟨d1, d2, rfl, hst3⟩
 refine ⟨_, rfl, ?_⟩
 have st7 := St.leave (l0 := [_]) st6 hst3 (Zle.refl _ _)
 simp only [List.cons_append, List.nil_append] at st7
 refine WL.p rfl rfl (PV.as rfl) <| WL.nil ?_
 refine EX.seqN ?_
 refine WC.ret ?_
 refine EX.ret1 rfl rfl ?_
 exact ⟨_, _, rfl, st7.drop.drop.drop⟩
theorem pdelR0_calls {f : FuncId} {cap : Value} {a : Option Addr} {c : Nat} {w : World} {Z : Nat → Prop} (hcf : CF Tryz.prog f) (hl : Rd RR.rcd 8 Z w a 0 c []) : Calls Tryz.prog 65 #[.slice a 0 c, .func (.func f) #[] #[cap]] w fun e w' => e = .returned (.slice a 0 c) ∧ Chg [] w w'  := by
 refine enter (args := [.slice a 0 c, .func (.func f) #[] #[cap]]) Tryz.func65 rfl Tryz.ntmps65 rfl ?_
 have st0 : St w (fun _ => False) (fun _ => False) w [] := St.start (by simp)
 refine WC.seq ?_
 refine WC.region ?_
 refine WL.p rfl rfl (PV.as rfl) <| WL.nil ?_
 refine EX.seqN ?_
 refine WC.seq ?_
 refine WC.region ?_
 refine WL.p rfl rfl (PV.mv rfl) <| WL.p rfl rfl (PV.mv rfl) <| ?_
 refine WL.go rfl (OX.call cf99 rfl rfl ((pindexR_calls (p := fun _ => true) hcf (hl.ext (St.cg st0)) (fun w1 h1 y hy => by cases hy)).mono ?_))
 rintro _ w1 ⟨j, rfl, hj, s1⟩
 refine ⟨_, rfl, ?_⟩
 have st1 := st0.step s1
 obtain rfl : j = -1 := by
  rcases hj with ⟨i, y, h1, _⟩ | ⟨_, h⟩
  ·
   simp at h1
  ·
   exact h
 refine WL.p rfl rfl (PV.as rfl) <| WL.nil ?_
 refine EX.seqN ?_
 refine WC.seq ?_
 refine WC.seq ?_
 refine WC.region ?_
 refine WL.p rfl rfl (PV.mv rfl) <| WL.p rfl rfl (PV.eqi rfl rfl) <| WL.nil ?_
 refine EX.seqN ?_
 refine WC.cond rfl (fun g12 => ?_) (fun g12 => ?_)
 ·
  skip
  refine WC.seq ?_
  refine WC.region ?_
  refine WL.p rfl rfl (PV.mv rfl) <| WL.p rfl rfl (PV.as rfl) <| WL.nil ?_
  refine EX.seqN ?_
  refine WC.ret ?_
  refine EX.thenR ?_
  refine EX.ret1 rfl rfl ?_
  exact ⟨rfl, (St.cg st1)⟩
 ·
  skip
  exact absurd g12 (by first | (simp; done) | (simp; omega) | (simp_all; done) | (simp_all; omega))
theorem pothers0_calls {a aw : Option Addr} {n c nw cw : Nat} {w : World} {M Z : Nat → Prop} (hst : St w M Z w []) (hr : Rd RR.rcd 8 Z w a n c []) : Calls Tryz.prog 31 #[.slice a n c, .slice aw nw cw] w fun e w' => ∃ a' c', e = .returned (.slice a' 0 c') ∧ St w M Z w' [] := by
 refine enter (args := [.slice a n c, .slice aw nw cw]) Tryz.func31 rfl Tryz.ntmps31 rfl ?_
 have st0 := hst
 have st1 := st0.fact (As.mkro hr) (fun _ hx => hx)
 refine WC.seq ?_
 refine WC.region ?_
 refine WL.go rfl (OX.box rfl rfl rfl fun b3 w1 nw3 hb3 => ?_)
 have st2 := st1.newB nw3 hb3
 refine WL.p rfl rfl (PV.as rfl) <| WL.nil ?_
 refine EX.seqN ?_
 refine WC.seq ?_
 refine WC.region ?_
 refine WL.p rfl rfl (PV.mv rfl) <| ?_
 have st3 := st2
 refine WL.go rfl (OX.call cf66 rfl rfl ((pcloneR_calls st3.e0 (As.gr st3.g1) (by simp)).mono ?_))
 rintro _ w2 ⟨f1, f2, f3, rfl, hst2⟩
 refine ⟨_, rfl, ?_⟩
 have st4 := St.leave (l0 := []) st3 hst2 (Zle.refl _ _)
 simp only [List.cons_append, List.nil_append] at st4
 obtain rfl : f2 = 0 := ((As.gs st4.g0)).len
 refine WL.p rfl rfl (PV.func (us := []) (vs := [.pointer (some ⟨b3, 0, none⟩)]) rfl rfl) <| ?_
 refine WL.go rfl (OX.call cf65 rfl rfl ((pdelR0_calls cf67 (Ow.rd (As.gs st4.g0) (by simp))).mono ?_))
 rintro _ w3 ⟨rfl, s3⟩
 refine ⟨_, rfl, ?_⟩
 have st5 := st4.step s3
 refine WL.p rfl rfl (PV.as rfl) <| WL.nil ?_
 refine EX.seqN ?_
 refine WC.ret ?_
 refine EX.ret1 rfl rfl ?_
 exact ⟨_, _, rfl, st5.drop.drop.drop⟩
theorem pvup_calls {b1 b2 : Option Addr} {p1 g1 p2 g2 wb : Nat} {S : SD} {i : Nat} {v : ByteArray} {a : Option Addr} {c : Nat} {w : World} : Calls Tryz.prog 50 #[.agg ([Value.int .i64 0, .slice b1 p1 g1, .slice b2 p2 g2, .pointer (some ⟨S.s, 0, none⟩), .pointer (some ⟨wb, 0, none⟩)] : List Value).toArray, .agg ((rec1 i v).row a 0 c).toArray] w fun e w' => e = .returned (.bool true) ∧ Chg [] w w'  := by
 refine enter (args := [.agg ([Value.int .i64 0, .slice b1 p1 g1, .slice b2 p2 g2, .pointer (some ⟨S.s, 0, none⟩), .pointer (some ⟨wb, 0, none⟩)] : List Value).toArray, .agg ((rec1 i v).row a 0 c).toArray]) Tryz.func50 rfl Tryz.ntmps50 rfl ?_
 have st0 : St w (fun _ => False) (fun _ => False) w [] := St.start (by simp)
 refine WC.seq ?_
 refine WC.region ?_
 refine WL.go rfl (OX.box rfl rfl rfl fun b2 w1 nw2 hb2 => ?_)
 have st1 := st0.newB nw2 hb2
 refine WL.go rfl (OX.box rfl rfl rfl fun b3 w2 nw3 hb3 => ?_)
 have st2 := st1.newB nw3 hb3
 refine WL.p rfl rfl (PV.as rfl) <| WL.nil ?_
 refine EX.seqN ?_
 refine WC.seq ?_
 refine WC.region ?_
 refine WL.p rfl rfl (PV.fa fa47_4 rfl) <| WL.p rfl rfl (PV.ld1 one3 (Blk.range (As.gb st2.g0)) rfl rfl) <| WL.p rfl rfl (PV.fa fa68_0 rfl) <| WL.p rfl rfl (PV.fa fa40_0 rfl) <| WL.p rfl rfl (PV.ld1 (j := 0) one3 (Blk.range (As.gb st2.g1)) rfl rfl) <| WL.p rfl rfl (PV.eqi rfl rfl) <| WL.p rfl rfl (PV.as rfl) <| WL.nil ?_
 refine EX.seqN ?_
 refine WC.ret ?_
 refine EX.ret1 rfl rfl ?_
 exact ⟨rfl, (St.cg st2)⟩
theorem pvcost_calls {b1 b2 : Option Addr} {p1 g1 p2 g2 wb : Nat} {S : SD} {i : Nat} {v : ByteArray} {a : Option Addr} {c : Nat} {w : World} : Calls Tryz.prog 26 #[.agg ([Value.int .i64 0, .slice b1 p1 g1, .slice b2 p2 g2, .pointer (some ⟨S.s, 0, none⟩), .pointer (some ⟨wb, 0, none⟩)] : List Value).toArray, .agg ((rec1 i v).row a 0 c).toArray] w fun e w' => e = .returned (.bool true) ∧ Chg [] w w'  := by
 refine enter (args := [.agg ([Value.int .i64 0, .slice b1 p1 g1, .slice b2 p2 g2, .pointer (some ⟨S.s, 0, none⟩), .pointer (some ⟨wb, 0, none⟩)] : List Value).toArray, .agg ((rec1 i v).row a 0 c).toArray]) Tryz.func26 rfl Tryz.ntmps26 rfl ?_
 have st0 : St w (fun _ => False) (fun _ => False) w [] := St.start (by simp)
 refine WC.seq ?_
 refine WC.region ?_
 refine WL.go rfl (OX.box rfl rfl rfl fun b2 w1 nw2 hb2 => ?_)
 have st1 := st0.newB nw2 hb2
 refine WL.go rfl (OX.box rfl rfl rfl fun b3 w2 nw3 hb3 => ?_)
 have st2 := st1.newB nw3 hb3
 refine WL.p rfl rfl (PV.as rfl) <| WL.nil ?_
 refine EX.seqN ?_
 refine WC.seq ?_
 refine WC.region ?_
 refine WL.p rfl rfl (PV.fa fa47_5 rfl) <| WL.p rfl rfl (PV.ld1 one3 (Blk.range (As.gb st2.g0)) rfl rfl) <| WL.p rfl rfl (PV.fa fa47_2 rfl) <| WL.p rfl rfl (PV.ld1 one25 (Blk.range (As.gb st2.g0)) rfl rfl) <| WL.p rfl rfl (PV.len' sl25 rfl) <| WL.p rfl rfl (PV.add rfl rfl (by omega) (by omega)) <| WL.p rfl rfl (PV.eqi rfl rfl) <| WL.p rfl rfl (PV.as rfl) <| WL.nil ?_
 refine EX.seqN ?_
 refine WC.ret ?_
 refine EX.ret1 rfl rfl ?_
 exact ⟨rfl, (St.cg st2)⟩
theorem pvbelow_calls {b1 b2 : Option Addr} {p1 g1 p2 g2 wb : Nat} {S : SD} {i : Nat} {v : ByteArray} {a : Option Addr} {c : Nat} {w : World} : Calls Tryz.prog 24 #[.agg ([Value.int .i64 0, .slice b1 p1 g1, .slice b2 p2 g2, .pointer (some ⟨S.s, 0, none⟩), .pointer (some ⟨wb, 0, none⟩)] : List Value).toArray, .agg ((rec1 i v).row a 0 c).toArray] w fun e w' => e = .returned (.bool true) ∧ Chg [] w w'  := by
 refine enter (args := [.agg ([Value.int .i64 0, .slice b1 p1 g1, .slice b2 p2 g2, .pointer (some ⟨S.s, 0, none⟩), .pointer (some ⟨wb, 0, none⟩)] : List Value).toArray, .agg ((rec1 i v).row a 0 c).toArray]) Tryz.func24 rfl Tryz.ntmps24 rfl ?_
 have st0 : St w (fun _ => False) (fun _ => False) w [] := St.start (by simp)
 refine WC.seq ?_
 refine WC.region ?_
 refine WL.go rfl (OX.box rfl rfl rfl fun b2 w1 nw2 hb2 => ?_)
 have st1 := st0.newB nw2 hb2
 refine WL.go rfl (OX.box rfl rfl rfl fun b3 w2 nw3 hb3 => ?_)
 have st2 := st1.newB nw3 hb3
 refine WL.p rfl rfl (PV.as rfl) <| WL.nil ?_
 refine EX.seqN ?_
 refine WC.seq ?_
 refine WC.region ?_
 refine WL.p rfl rfl (PV.ldA agg68 (Blk.range (As.gb st2.g1)) rfl rfl) <| WL.p rfl rfl (PV.ldA agg47 (Blk.range (As.gb st2.g0)) rfl rfl) <| ?_
 refine WL.go rfl (OX.call cf50 rfl rfl ((pvup_calls).mono ?_))
 rintro _ w3 ⟨rfl, s3⟩
 refine ⟨_, rfl, ?_⟩
 have st3 := st2.step s3
 refine WL.p rfl rfl (PV.not rfl) <| WL.p rfl rfl (PV.mv rfl) <| WL.p rfl rfl (PV.fa fa47_2 rfl) <| WL.p rfl rfl (PV.ld1 one25 (Blk.range (As.gb st3.g0)) rfl rfl) <| WL.p rfl rfl (PV.func (us := []) (vs := [.pointer (some ⟨b2, 0, none⟩)]) rfl rfl) <| ?_
 refine WL.go rfl (OX.call cf46 rfl rfl ((pcontainsK0_calls).mono ?_))
 rintro _ w4 ⟨rfl, s4⟩
 refine ⟨_, rfl, ?_⟩
 have st4 := st3.step s4
 refine WL.p rfl rfl (PV.not rfl) <| WL.p rfl rfl (PV.pickF rfl rfl rfl) <| WL.p rfl rfl (PV.as rfl) <| WL.nil ?_
 refine EX.seqN ?_
 refine WC.ret ?_
 refine EX.ret1 rfl rfl ?_
 exact ⟨rfl, (St.cg st4)⟩
theorem pvright0_calls {rules : List Rule} {b1 b2 : Option Addr} {p1 g1 p2 g2 wb : Nat} {S : SD} {i : Nat} {v : ByteArray} {a : Option Addr} {c : Nat} {w : World} {M Z : Nat → Prop} (hi : i < rules.length) (h99 : i ≤ 99) (hs : SimR rules[i]) (hu : Rd RR.rule 4 Z w S.ar S.r S.cr rules) (hst : St w M Z w [As.blk S.s 95 (S.cells (⟨0, [], [rec1 i v]⟩ : Bas)), As.map Key.val S.m [], As.map Key.val S.q []]) : Calls Tryz.prog 51 #[.agg ([Value.int .i64 0, .slice b1 p1 g1, .slice b2 p2 g2, .pointer (some ⟨S.s, 0, none⟩), .pointer (some ⟨wb, 0, none⟩)] : List Value).toArray, .agg ((rec1 i v).row a 0 c).toArray] w fun e w' => e = .returned (.bool (decide (itoa rules[i].c = v))) ∧ St w M Z w' [As.blk S.s 95 (S.cells (⟨0, [], [rec1 i v]⟩ : Bas)), As.map Key.val S.m [((⟨31, itoa i⟩ : Key), .string (itoa rules[i].c))], As.map Key.val S.q []] := by
 refine enter (args := [.agg ([Value.int .i64 0, .slice b1 p1 g1, .slice b2 p2 g2, .pointer (some ⟨S.s, 0, none⟩), .pointer (some ⟨wb, 0, none⟩)] : List Value).toArray, .agg ((rec1 i v).row a 0 c).toArray]) Tryz.func51 rfl Tryz.ntmps51 rfl ?_
 have st0 := hst
 have st1 := st0.fact (As.mkro hu) (fun _ hx => hx)
 refine WC.seq ?_
 refine WC.region ?_
 refine WL.go rfl (OX.box rfl rfl rfl fun b2 w1 nw2 hb2 => ?_)
 have st2 := st1.newB nw2 hb2
 refine WL.go rfl (OX.box rfl rfl rfl fun b3 w2 nw3 hb3 => ?_)
 have st3 := st2.newB nw3 hb3
 refine WL.p rfl rfl (PV.as rfl) <| WL.nil ?_
 refine EX.seqN ?_
 refine WC.seq ?_
 have hN1 : ∀ x : Nat, w2.heap.size ≤ x → w2.heap.size ≤ x := fun _ h => h
 refine WC.drawnG (m := 7) [] [4] [0, 1, 2, 3, 4, 5, 6] [] st3 (Sub1.cons M0 <| Sub1.cons M1 <| Sub1.cons M2 <| Sub1.nil) mixed (by kernel_rfl) (by kernel_rfl) rfl ?_
 refine DG.p rfl rfl rfl rfl rfl rfl (fun wx Zx Rx hNx hSx hix => PV.fa fa68_1 rfl) <| DG.p rfl rfl rfl rfl rfl rfl (fun wx Zx Rx hNx hSx hix => PV.ld1 one63 (Blk.range (As.gb (hSx.sv hix).g1)) rfl rfl) <| DG.p rfl rfl rfl rfl rfl rfl (fun wx Zx Rx hNx hSx hix => PV.fa fa47_0 rfl) <| DG.p rfl rfl rfl rfl rfl rfl (fun wx Zx Rx hNx hSx hix => PV.ldM agg27 (Blk.range (As.gb (hSx.sv hix).g0)) rfl rfl) <| ?_
 refine DG.ch rfl rfl rfl rfl rfl rfl (fun w3 R4x hN4x st4 hsd4x => ?_)
 simp only [List.cons_append, List.nil_append] at st4
 have st5 := st4.p5.p5.p5
 refine OX.call cf60 rfl rfl ((pfof0_calls hi h99 hs (As.gr st5.g5) st5.e3).mono ?_)
 rintro _ w4 ⟨rfl, hst4⟩
 have st6 := St.leave (l0 := [_, _, _]) st5 hst4 (Zle.refl _ _)
 simp only [List.cons_append, List.nil_append] at st6
 refine ⟨_, rfl, hst4.chg.size, _, rfl, _, _, _, st6, AppE.cons <| AppE.cons <| AppE.cons <| AppE.cons <| AppE.cons <| AppE.cons <| AppE.nil, Sub1.cons M3 <| Sub1.cons M4 <| Sub1.cons M5 <| Sub1.nil, ?_⟩
 refine DG.p rfl rfl rfl rfl rfl rfl (fun wx Zx Rx hNx hSx hix => PV.fa fa47_1 rfl) <| DG.p rfl rfl rfl rfl rfl rfl (fun wx Zx Rx hNx hSx hix => PV.ld1 one9 (Blk.range (As.gb (hSx.sv hix).g0)) rfl rfl) <| DG.nil ?_
 intro w5 hsz1 st7
 simp only [List.map_cons, List.map_nil, List.cons_append, List.nil_append, SdK.it] at st7
 refine WL.p rfl rfl (PV.eqs rfl rfl) <| WL.p rfl rfl (PV.as rfl) <| WL.nil (EX.np ?_)
 refine EX.seqN ?_
 refine WC.ret ?_
 refine EX.ret1 rfl rfl ?_
 exact ⟨rfl, st7.p3.drop.p3.drop.p3.drop⟩
theorem pvvalue0_calls {rules : List Rule} {b1 b2 : Option Addr} {p1 g1 p2 g2 wb : Nat} {S : SD} {i : Nat} {v : ByteArray} {a : Option Addr} {c : Nat} {w : World} {M Z : Nat → Prop} (hi : i < rules.length) (h99 : i ≤ 99) (hs : SimR rules[i]) (hu : Rd RR.rule 4 Z w S.ar S.r S.cr rules) (hst : St w M Z w [As.blk S.s 95 (S.cells (⟨0, [], [rec1 i v]⟩ : Bas)), As.map Key.val S.m [], As.map Key.val S.q []]) : Calls Tryz.prog 22 #[.agg ([Value.int .i64 0, .slice b1 p1 g1, .slice b2 p2 g2, .pointer (some ⟨S.s, 0, none⟩), .pointer (some ⟨wb, 0, none⟩)] : List Value).toArray, .agg ((rec1 i v).row a 0 c).toArray] w fun e w' => e = .returned (.bool (decide (itoa rules[i].c = v))) ∧ St w M Z w' [As.blk S.s 95 (S.cells (⟨0, [], [rec1 i v]⟩ : Bas)), As.map Key.val S.m [((⟨31, itoa i⟩ : Key), .string (itoa rules[i].c))], As.map Key.val S.q []] := by
 refine enter (args := [.agg ([Value.int .i64 0, .slice b1 p1 g1, .slice b2 p2 g2, .pointer (some ⟨S.s, 0, none⟩), .pointer (some ⟨wb, 0, none⟩)] : List Value).toArray, .agg ((rec1 i v).row a 0 c).toArray]) Tryz.func22 rfl Tryz.ntmps22 rfl ?_
 have st0 := hst
 have st1 := st0.fact (As.mkro hu) (fun _ hx => hx)
 refine WC.seq ?_
 refine WC.region ?_
 refine WL.go rfl (OX.box rfl rfl rfl fun b2 w1 nw2 hb2 => ?_)
 have st2 := st1.newB nw2 hb2
 refine WL.go rfl (OX.box rfl rfl rfl fun b3 w2 nw3 hb3 => ?_)
 have st3 := st2.newB nw3 hb3
 refine WL.p rfl rfl (PV.as rfl) <| WL.nil ?_
 refine EX.seqN ?_
 refine WC.seq ?_
 refine WC.region ?_
 refine WL.p rfl rfl (PV.ldA agg68 (Blk.range (As.gb st3.g1)) rfl rfl) <| WL.p rfl rfl (PV.ldA agg47 (Blk.range (As.gb st3.g0)) rfl rfl) <| ?_
 refine WL.go rfl (OX.call cf50 rfl rfl ((pvup_calls).mono ?_))
 rintro _ w3 ⟨rfl, s3⟩
 refine ⟨_, rfl, ?_⟩
 have st4 := st3.step s3
 refine WL.p rfl rfl (PV.not rfl) <| WL.p rfl rfl (PV.mv rfl) <| WL.p rfl rfl (PV.ldA agg68 (Blk.range (As.gb st4.g1)) rfl rfl) <| WL.p rfl rfl (PV.ldA agg47 (Blk.range (As.gb st4.g0)) rfl rfl) <| ?_
 have st5 := st4.p5.p5.p5
 refine WL.go rfl (OX.call cf51 rfl rfl ((pvright0_calls hi h99 hs (As.gr st5.g5) st5.e3).mono ?_))
 rintro _ w4 ⟨rfl, hst4⟩
 refine ⟨_, rfl, ?_⟩
 have st6 := St.leave (l0 := [_, _, _]) st5 hst4 (Zle.refl _ _)
 simp only [List.cons_append, List.nil_append] at st6
 refine WL.p rfl rfl (PV.pickF rfl rfl rfl) <| WL.p rfl rfl (PV.as rfl) <| WL.nil ?_
 refine EX.seqN ?_
 refine WC.ret ?_
 refine EX.ret1 rfl rfl ?_
 exact ⟨rfl, st6.p3.drop.p3.drop.p3.drop⟩
theorem pvright1_calls {rules : List Rule} {b1 b2 : Option Addr} {p1 g1 p2 g2 wb : Nat} {S : SD} {i : Nat} {v : ByteArray} {a : Option Addr} {c : Nat} {w : World} {M Z : Nat → Prop} (hi : i < rules.length) (h99 : i ≤ 99) (hs : SimR rules[i]) (hu : Rd RR.rule 4 Z w S.ar S.r S.cr rules) (hst : St w M Z w [As.blk S.s 95 (S.cells (⟨0, [], [rec1 i v]⟩ : Bas)), As.map Key.val S.m [((⟨31, itoa i⟩ : Key), .string (itoa rules[i].c))], As.map Key.val S.q []]) : Calls Tryz.prog 51 #[.agg ([Value.int .i64 0, .slice b1 p1 g1, .slice b2 p2 g2, .pointer (some ⟨S.s, 0, none⟩), .pointer (some ⟨wb, 0, none⟩)] : List Value).toArray, .agg ((rec1 i v).row a 0 c).toArray] w fun e w' => e = .returned (.bool (decide (itoa rules[i].c = v))) ∧ St w M Z w' [As.blk S.s 95 (S.cells (⟨0, [], [rec1 i v]⟩ : Bas)), As.map Key.val S.m [((⟨31, itoa i⟩ : Key), .string (itoa rules[i].c))], As.map Key.val S.q []] := by
 refine enter (args := [.agg ([Value.int .i64 0, .slice b1 p1 g1, .slice b2 p2 g2, .pointer (some ⟨S.s, 0, none⟩), .pointer (some ⟨wb, 0, none⟩)] : List Value).toArray, .agg ((rec1 i v).row a 0 c).toArray]) Tryz.func51 rfl Tryz.ntmps51 rfl ?_
 have st0 := hst
 have st1 := st0.fact (As.mkro hu) (fun _ hx => hx)
 refine WC.seq ?_
 refine WC.region ?_
 refine WL.go rfl (OX.box rfl rfl rfl fun b2 w1 nw2 hb2 => ?_)
 have st2 := st1.newB nw2 hb2
 refine WL.go rfl (OX.box rfl rfl rfl fun b3 w2 nw3 hb3 => ?_)
 have st3 := st2.newB nw3 hb3
 refine WL.p rfl rfl (PV.as rfl) <| WL.nil ?_
 refine EX.seqN ?_
 refine WC.seq ?_
 have hN1 : ∀ x : Nat, w2.heap.size ≤ x → w2.heap.size ≤ x := fun _ h => h
 refine WC.drawnG (m := 7) [] [4] [0, 1, 2, 3, 4, 5, 6] [] st3 (Sub1.cons M0 <| Sub1.cons M1 <| Sub1.cons M2 <| Sub1.nil) mixed (by kernel_rfl) (by kernel_rfl) rfl ?_
 refine DG.p rfl rfl rfl rfl rfl rfl (fun wx Zx Rx hNx hSx hix => PV.fa fa68_1 rfl) <| DG.p rfl rfl rfl rfl rfl rfl (fun wx Zx Rx hNx hSx hix => PV.ld1 one63 (Blk.range (As.gb (hSx.sv hix).g1)) rfl rfl) <| DG.p rfl rfl rfl rfl rfl rfl (fun wx Zx Rx hNx hSx hix => PV.fa fa47_0 rfl) <| DG.p rfl rfl rfl rfl rfl rfl (fun wx Zx Rx hNx hSx hix => PV.ldM agg27 (Blk.range (As.gb (hSx.sv hix).g0)) rfl rfl) <| ?_
 refine DG.ch rfl rfl rfl rfl rfl rfl (fun w3 R4x hN4x st4 hsd4x => ?_)
 simp only [List.cons_append, List.nil_append] at st4
 have st5 := st4.p5.p5.p5
 refine OX.call cf60 rfl rfl ((pfof1_calls hi h99 hs (As.gr st5.g5) st5.e3).mono ?_)
 rintro _ w4 ⟨rfl, hst4⟩
 have st6 := St.leave (l0 := [_, _, _]) st5 hst4 (Zle.refl _ _)
 simp only [List.cons_append, List.nil_append] at st6
 refine ⟨_, rfl, hst4.chg.size, _, rfl, _, _, _, st6, AppE.cons <| AppE.cons <| AppE.cons <| AppE.cons <| AppE.cons <| AppE.cons <| AppE.nil, Sub1.cons M3 <| Sub1.cons M4 <| Sub1.cons M5 <| Sub1.nil, ?_⟩
 refine DG.p rfl rfl rfl rfl rfl rfl (fun wx Zx Rx hNx hSx hix => PV.fa fa47_1 rfl) <| DG.p rfl rfl rfl rfl rfl rfl (fun wx Zx Rx hNx hSx hix => PV.ld1 one9 (Blk.range (As.gb (hSx.sv hix).g0)) rfl rfl) <| DG.nil ?_
 intro w5 hsz1 st7
 simp only [List.map_cons, List.map_nil, List.cons_append, List.nil_append, SdK.it] at st7
 refine WL.p rfl rfl (PV.eqs rfl rfl) <| WL.p rfl rfl (PV.as rfl) <| WL.nil (EX.np ?_)
 refine EX.seqN ?_
 refine WC.ret ?_
 refine EX.ret1 rfl rfl ?_
 exact ⟨rfl, st7.p3.drop.p3.drop.p3.drop⟩
theorem pvreads_calls {rules : List Rule} {b1 b2 : Option Addr} {p1 g1 p2 g2 wb : Nat} {S : SD} {i : Nat} {v : ByteArray} {a : Option Addr} {c : Nat} {A : Nat → Prop} {w : World} (hi : i < rules.length) (h99 : i ≤ 99) (hs : SimR rules[i]) (hu : Rules A w S.ar S.r S.cr rules) (hv : Blk w S.s 95 (S.cells (⟨0, [], [rec1 i v]⟩ : Bas))) : Calls Tryz.prog 23 #[.agg ([Value.int .i64 0, .slice b1 p1 g1, .slice b2 p2 g2, .pointer (some ⟨S.s, 0, none⟩), .pointer (some ⟨wb, 0, none⟩)] : List Value).toArray, .agg ((rec1 i v).row a 0 c).toArray] w fun e w' => e = .returned (.bool true) ∧ Chg [] w w'  := by
 refine enter (args := [.agg ([Value.int .i64 0, .slice b1 p1 g1, .slice b2 p2 g2, .pointer (some ⟨S.s, 0, none⟩), .pointer (some ⟨wb, 0, none⟩)] : List Value).toArray, .agg ((rec1 i v).row a 0 c).toArray]) Tryz.func23 rfl Tryz.ntmps23 rfl ?_
 have st0 : St w (fun _ => False) (fun _ => False) w [] := St.start (by simp)
 refine WC.seq ?_
 refine WC.region ?_
 refine WL.go rfl (OX.box rfl rfl rfl fun b2 w1 nw2 hb2 => ?_)
 have st1 := st0.newB nw2 hb2
 refine WL.go rfl (OX.box rfl rfl rfl fun b3 w2 nw3 hb3 => ?_)
 have st2 := st1.newB nw3 hb3
 refine WL.p rfl rfl (PV.as rfl) <| WL.nil ?_
 refine EX.seqN ?_
 refine WC.seq ?_
 have hN1 := st2.fplt
 refine WC.drawnS (m := 12) (E := lookE [(2, fun v _ => v = .bool true), (9, fun v _ => v = .slice none 0 0)]) st2 (lookE_st (⟨fun _ _ _ _ _ _ _ h => h, ⟨fun _ _ _ _ _ _ _ h => h, trivial⟩⟩)) mixed (by kernel_rfl) ?_
 refine DW.p rfl rfl rfl rfl rfl (fun _ hC => PV.ldA agg68 (Blk.range (As.gb hC.2.g1)) rfl rfl) <| DW.p rfl rfl rfl rfl rfl (fun _ hC => PV.ldA agg47 (Blk.range (As.gb hC.2.g0)) rfl rfl) <| ?_
 refine DW.e rfl rfl rfl rfl rfl (fun wx hC hF => OX.call cf50 rfl rfl ((pvup_calls).mono ?_)) ?_
 ·
  skip
  rintro _ wy ⟨rfl, hy⟩
  exact ⟨_, rfl, ⟨Nat.le_trans hC.1 hy.size, hC.2.step hy⟩, hy.p0, _, rfl, rfl⟩
 rintro _ wz _ rfl
 refine DW.p rfl rfl rfl rfl rfl (fun _ hC => PV.not rfl) <| DW.p rfl rfl rfl rfl rfl (fun _ hC => PV.mv rfl) <| DW.p rfl rfl rfl rfl rfl (fun _ hC => PV.fa fa68_1 rfl) <| DW.p rfl rfl rfl rfl rfl (fun _ hC => PV.ld1 one63 (Blk.range (As.gb hC.2.g1)) rfl rfl) <| DW.p rfl rfl rfl rfl rfl (fun _ hC => PV.fa fa47_0 rfl) <| DW.p rfl rfl rfl rfl rfl (fun _ hC => PV.ldM agg27 (Blk.range (As.gb hC.2.g0)) rfl rfl) <| ?_
 refine DW.e rfl rfl rfl rfl rfl (fun wx hC hF => OX.call cf53 rfl rfl ((pfreads_calls hi h99 hs (hu.ext (St.cg hC.2)) (hv.ext (St.cg hC.2))).mono ?_)) ?_
 ·
  skip
  rintro _ wy ⟨rfl, hy⟩
  exact ⟨_, rfl, ⟨Nat.le_trans hC.1 hy.size, hC.2.step hy⟩, hy.p0, _, rfl, rfl⟩
 rintro _ wz _ rfl
 refine DW.p rfl rfl rfl rfl rfl (fun _ hC => PV.fa fa47_2 rfl) <| DW.p rfl rfl rfl rfl rfl (fun _ hC => PV.ld1 one25 (Blk.range (As.gb hC.2.g0)) rfl rfl) <| DW.nil ?_
 rintro w3 ⟨hsz1, st3⟩ ⟨_, ⟨_, _⟩⟩
 refine WL.go rfl (OX.call cf52 rfl rfl ((pequalK0_calls).mono ?_))
 rintro _ w4 ⟨rfl, s4⟩
 refine ⟨_, rfl, ?_⟩
 have st4 := st3.step s4
 refine WL.p rfl rfl (PV.pickF rfl rfl rfl) <| WL.p rfl rfl (PV.as rfl) <| WL.nil ?_
 refine EX.seqN ?_
 refine WC.ret ?_
 refine EX.ret1 rfl rfl ?_
 exact ⟨rfl, (St.cg st4)⟩
theorem pvkept_calls {rules : List Rule} {b1 b2 : Option Addr} {p1 g1 p2 g2 wb : Nat} {S : SD} {i : Nat} {v : ByteArray} {a : Option Addr} {c : Nat} {D : WD} {rb nR cR : Nat} {aR : Option Addr} {w : World} {M Z : Nat → Prop} (hi : i < rules.length) (h99 : i ≤ 99) (hs : SimR rules[i]) (hu : Rd RR.rule 4 Z w S.ar S.r S.cr rules) (hst : St w M Z w [As.blk S.s 95 (S.cells (⟨0, [], [rec1 i v]⟩ : Bas)), As.map Key.val S.m [((⟨31, itoa i⟩ : Key), .string (itoa rules[i].c))], As.map Key.val S.q [], As.blk wb 98 (D.cells (⟨0, [], [rec1 i v]⟩ : Bas)), As.map Key.val D.m [((⟨31, itoa i⟩ : Key), .pointer (some ⟨rb, 0, none⟩))], As.blk rb 47 ((rec1 i v).row aR nR cR)]) : Calls Tryz.prog 25 #[.agg ([Value.int .i64 0, .slice b1 p1 g1, .slice b2 p2 g2, .pointer (some ⟨S.s, 0, none⟩), .pointer (some ⟨wb, 0, none⟩)] : List Value).toArray, .agg ((rec1 i v).row a 0 c).toArray] w fun e w' => e = .returned (.bool (decide (itoa rules[i].c = v))) ∧ St w M Z w' [As.blk S.s 95 (S.cells (⟨0, [], [rec1 i v]⟩ : Bas)), As.map Key.val S.m [((⟨31, itoa i⟩ : Key), .string (itoa rules[i].c))], As.map Key.val S.q [], As.blk wb 98 (D.cells (⟨0, [], [rec1 i v]⟩ : Bas)), As.map Key.val D.m [((⟨31, itoa i⟩ : Key), .pointer (some ⟨rb, 0, none⟩))], As.blk rb 47 ((rec1 i v).row aR nR cR)] := by
 refine enter (args := [.agg ([Value.int .i64 0, .slice b1 p1 g1, .slice b2 p2 g2, .pointer (some ⟨S.s, 0, none⟩), .pointer (some ⟨wb, 0, none⟩)] : List Value).toArray, .agg ((rec1 i v).row a 0 c).toArray]) Tryz.func25 rfl Tryz.ntmps25 rfl ?_
 have st0 := hst
 have st1 := st0.fact (As.mkro hu) (fun _ hx => hx)
 refine WC.seq ?_
 refine WC.region ?_
 refine WL.go rfl (OX.box rfl rfl rfl fun b2 w1 nw2 hb2 => ?_)
 have st2 := st1.newB nw2 hb2
 refine WL.go rfl (OX.box rfl rfl rfl fun b3 w2 nw3 hb3 => ?_)
 have st3 := st2.newB nw3 hb3
 refine WL.p rfl rfl (PV.as rfl) <| WL.nil ?_
 refine EX.seqN ?_
 refine WC.seq ?_
 refine WC.region ?_
 refine WL.p rfl rfl (PV.fa fa68_2 rfl) <| WL.p rfl rfl (PV.ld1 one65 (Blk.range (As.gb st3.g1)) rfl rfl) <| WL.p rfl rfl (PV.fa fa47_0 rfl) <| WL.p rfl rfl (PV.ldM agg27 (Blk.range (As.gb st3.g0)) rfl rfl) <| ?_
 refine WL.go rfl (OX.call cf29 rfl rfl ((pwwhy1_calls (As.gb st3.g6) (As.gm st3.g7) (As.gb st3.g8)).mono ?_))
 rintro _ w3 ⟨rfl, s3⟩
 refine ⟨_, rfl, ?_⟩
 have st4 := st3.step s3
 refine WL.p rfl rfl (PV.fieldL (fs := [_, _]) (f := 0) (off := 0) (T := 76) Tryz.underlying76 rfl rfl (show ∀ w, (isAgg 3).run _ w = .ok false w from Tryz.isAgg3) rfl rfl) <| WL.p rfl rfl (PV.nei rfl rfl) <| WL.p rfl rfl (PV.mv rfl) <| ?_
 refine WL.gsplit (t := 12) rfl (fun g12 => ?_) (fun g12 => ?_)
 ·
  skip
  exact absurd g12 (by first | (simp; done) | (simp; omega) | (simp_all; done) | (simp_all; omega))
 ·
  skip
  refine WL.p rfl rfl (PV.ldA agg68 (Blk.range (As.gb st4.g1)) rfl rfl) <| WL.p rfl rfl (PV.ldA agg47 (Blk.range (As.gb st4.g0)) rfl rfl) <| ?_
  have st5 := st4.p5.p5.p5
  refine WL.go rfl (OX.call cf51 rfl rfl ((pvright1_calls hi h99 hs (As.gr st5.g5) st5.e3).mono ?_))
  rintro _ w4 ⟨rfl, hst4⟩
  refine ⟨_, rfl, ?_⟩
  have st6 := St.leave (l0 := [_, _, _]) st5 hst4 (Zle.refl _ _)
  simp only [List.cons_append, List.nil_append] at st6
  refine WL.p rfl rfl (PV.pickF rfl rfl rfl) <| WL.p rfl rfl (PV.as rfl) <| WL.nil ?_
  refine EX.seqN ?_
  refine WC.ret ?_
  refine EX.ret1 rfl rfl ?_
  exact ⟨rfl, st6.p3.drop.p3.drop.p3.drop⟩
set_option maxHeartbeats 1600000 in
theorem pacheck1_calls {rules : List Rule} {i : Nat} {v : ByteArray} {ar a1 a2 : Option Addr} {r cr n1 e1 e2 : Nat} {w : World} {M Z : Nat → Prop} (hst : St w M Z w []) (hi : i < rules.length) (h99 : i ≤ 99) (hs : ∀ y ∈ rules, SimR y) (h24 : rules.length ≤ 24) (hu : Rd RR.rule 4 Z w ar r cr rules) (hii : Rd RR.inp 4 Z w a1 n1 e1 []) (hr : Rd RR.rcd 8 Z w a2 1 e2 [rec1 i v]) (hv5 : v.size ≤ 1000) (hv : itoa rules[i].c = v) : Calls Tryz.prog 10 #[.slice ar r cr, .agg ((⟨0, [], [rec1 i v]⟩ : Bas).row a1 n1 e1 a2 1 e2).toArray] w fun e w' => ∃ (a : Option Addr) (c : Nat) (Z' : Nat → Prop), e = .returned (.tuple #[.slice a 0 c, .int .i64 0]) ∧ Zle w.heap.size Z Z' ∧ St w M Z' w' [] := by
 have hsim0 := hs _ (List.getElem_mem hi)
 have hx1 : SimB i (⟨0, [], [rec1 i v]⟩ : Bas) := ⟨rfl, rfl, Nat.le_refl _, fun y hy => ⟨v, by simpa using hy, hv5⟩⟩
 refine enter (args := [.slice ar r cr, .agg ((⟨0, [], [rec1 i v]⟩ : Bas).row a1 n1 e1 a2 1 e2).toArray]) Tryz.func10 rfl Tryz.ntmps10 rfl ?_
 have st0 := hst
 have st1 := st0.fact (As.mkro hu) (fun _ hx => hx)
 have st2 := st1.fact (As.mkro hii) (fun _ hx => hx)
 have st3 := st2.fact (As.mkro hr) (fun _ hx => hx)
 have st4 := st3.newN RR.int 3 1
 refine WC.seq ?_
 refine WC.region ?_
 refine WL.go rfl (OX.box rfl rfl rfl fun b3 w1 nw3 hb3 => ?_)
 have st5 := st4.newB nw3 hb3
 refine WL.p rfl rfl (PV.as rfl) <| WL.p rfl rfl (PV.as rfl) <| WL.nil ?_
 refine EX.seqN ?_
 refine WC.seq ?_
 refine WC.seq ?_
 refine WC.region ?_
 refine WL.p rfl rfl (PV.mv rfl) <| WL.p rfl rfl (PV.ldA agg40 (Blk.range (As.gb st5.g0)) rfl rfl) <| ?_
 refine WL.go rfl (OX.call cf19 rfl rfl ((pecheck_calls (x := (⟨0, [], [rec1 i v]⟩ : Bas)) h99 hs h24 (As.gr st5.g4) (As.gr st5.g3) (As.gr st5.g2) hx1).mono ?_))
 rintro _ w2 ⟨rfl, s2⟩
 refine ⟨_, rfl, ?_⟩
 have st6 := st5.step s2
 refine WL.p rfl rfl (PV.as rfl) <| WL.nil ?_
 refine EX.seqN ?_
 refine WC.seq ?_
 refine WC.region ?_
 refine WL.p rfl rfl (PV.mv rfl) <| WL.p rfl rfl (PV.nei rfl rfl) <| WL.nil ?_
 refine EX.seqN ?_
 refine WC.cond rfl (fun g17 => ?_) (fun g17 => ?_)
 ·
  skip
  exact absurd g17 (by first | (simp; done) | (simp; omega) | (simp_all; done) | (simp_all; omega))
 ·
  skip
  refine WC.skip ?_
  refine EX.seqN ?_
  refine WC.seq ?_
  have hN4 : ∀ x : Nat, w2.heap.size ≤ x → w2.heap.size ≤ x := fun _ h => h
  refine WC.drawnG (m := 9) [] [3, 6] [1, 2, 3, 4, 5, 6, 0, 7, 8] [(8, .blk 68 [.int .i64 0, .slice none 0 0, .slice none 0 0, .pointer none, .pointer none])] st6 (Sub1.cons M0 <| Sub1.cons M1 <| Sub1.cons M2 <| Sub1.cons M3 <| Sub1.cons M4 <| Sub1.nil) mixed (by kernel_rfl) (by kernel_rfl) rfl ?_
  refine DG.p rfl rfl rfl rfl rfl rfl (fun wx Zx Rx hNx hSx hix => PV.mv rfl) <| DG.p rfl rfl rfl rfl rfl rfl (fun wx Zx Rx hNx hSx hix => PV.ldA agg40 (Blk.range (As.gb (hSx.sv hix).g0)) rfl rfl) <| ?_
  refine DG.ch rfl rfl rfl rfl rfl rfl (fun w3 R3x hN3x st7 hsd3x => ?_)
  simp only [List.cons_append, List.nil_append] at st7
  have st8 := st7
  refine OX.call cf20 rfl rfl ((pfnew_calls (x := (⟨0, [], [rec1 i v]⟩ : Bas)) st8.e0).mono ?_)
  rintro _ w4 ⟨d1, d2, d3, rfl, hst4⟩
  have st9 := St.leave (l0 := []) st8 hst4 (Zle.refl _ _)
  simp only [List.cons_append, List.nil_append] at st9
  refine ⟨_, rfl, hst4.chg.size, _, rfl, _, _, _, st9, AppE.cons <| AppE.cons <| AppE.cons <| AppE.cons <| AppE.cons <| AppE.cons <| AppE.cons <| AppE.cons <| AppE.nil, Sub1.cons M3 <| Sub1.cons M4 <| Sub1.cons M5 <| Sub1.cons M6 <| Sub1.cons M7 <| Sub1.nil, ?_⟩
  refine DG.p rfl rfl rfl rfl rfl rfl (fun wx Zx Rx hNx hSx hix => PV.mv rfl) <| DG.p rfl rfl rfl rfl rfl rfl (fun wx Zx Rx hNx hSx hix => PV.ldA agg40 (Blk.range (As.gb (hSx.sv hix).g0)) rfl rfl) <| ?_
  refine DG.ch rfl rfl rfl rfl rfl rfl (fun w5 R6x hN6x st10 hsd6x => ?_)
  simp only [List.cons_append, List.nil_append] at st10
  have st11 := st10
  refine OX.call cf21 rfl rfl ((pwnew1_calls (v := v) st11.e0 (As.gr st11.g6) (As.gr st11.g5)).mono ?_)
  rintro _ w6 ⟨D, wb, rb, q2, q3, q1, Z1, rfl, hZ1a, hst6⟩
  have st12 := St.leave (l0 := []) st11 hst6 hZ1a
  simp only [List.cons_append, List.nil_append] at st12
  have hZ1 := hZ1a.le st11.size
  refine ⟨_, rfl, hst6.chg.size, _, rfl, _, _, _, st12, AppE.cons <| AppE.cons <| AppE.cons <| AppE.cons <| AppE.cons <| AppE.cons <| AppE.cons <| AppE.cons <| AppE.cons <| AppE.cons <| AppE.cons <| AppE.nil, Sub1.cons M6 <| Sub1.cons M7 <| Sub1.cons M8 <| Sub1.cons M9 <| Sub1.cons M10 <| Sub1.nil, ?_⟩
  refine DG.p rfl rfl rfl rfl rfl rfl (fun wx Zx Rx hNx hSx hix => PV.ldA agg40 (Blk.range (As.gb (hSx.sv hix).g0)) rfl rfl) <| DG.p rfl rfl rfl rfl rfl rfl (fun wx Zx Rx hNx hSx hix => PV.build' (us := [Value.int .i64 0, .slice a1 n1 e1, .slice a2 1 e2, .pointer (some ⟨d1, 0, none⟩), .pointer (some ⟨wb, 0, none⟩)]) bt68 rfl rfl rfl) <| ?_
  refine DG.side (s := .blk 68 [.int .i64 0, .slice none 0 0, .slice none 0 0, .pointer none, .pointer none]) rfl rfl rfl rfl rfl rfl (fun wx Zx Rx hNx hSx => OX.alloc zv68 rfl fun b wy nw hb => ⟨nw.ext.size, _, rfl, ⟨b, rfl⟩, hSx.newB nw hb⟩) ?_
  rintro _ ⟨b7, rfl⟩
  refine DG.nil ?_
  intro w7 hsz4 st13
  simp only [List.map_cons, List.map_nil, List.cons_append, List.nil_append, SdK.it] at st13
  refine WL.go rfl (OX.stW sz68 (As.gb st13.g0) rfl rfl rfl rfl rfl fun w8 ss0 _ hs0 => ?_)
  have st14 := st13.updB ss0 hs0
  refine WL.nil (EX.np ?_)
  refine EX.seqN ?_
  refine WC.seq ?_
  refine WC.region ?_
  refine WL.p rfl rfl (PV.as rfl) <| WL.nil ?_
  refine EX.seqN ?_
  refine WC.seq ?_
  refine WC.seq ?_
  refine WC.region ?_
  refine WL.p rfl rfl (PV.ldA agg68 (Blk.range (As.gb st14.g0)) rfl rfl) <| WL.p rfl rfl (PV.func (us := [.agg ([Value.int .i64 0, .slice a1 n1 e1, .slice a2 1 e2, .pointer (some ⟨d1, 0, none⟩), .pointer (some ⟨wb, 0, none⟩)]).toArray]) (vs := []) rfl rfl) <| WL.p rfl rfl (PV.ldA agg68 (Blk.range (As.gb st14.g0)) rfl rfl) <| WL.p rfl rfl (PV.func (us := [.agg ([Value.int .i64 0, .slice a1 n1 e1, .slice a2 1 e2, .pointer (some ⟨d1, 0, none⟩), .pointer (some ⟨wb, 0, none⟩)]).toArray]) (vs := []) rfl rfl) <| WL.p rfl rfl (PV.ldA agg68 (Blk.range (As.gb st14.g0)) rfl rfl) <| WL.p rfl rfl (PV.func (us := [.agg ([Value.int .i64 0, .slice a1 n1 e1, .slice a2 1 e2, .pointer (some ⟨d1, 0, none⟩), .pointer (some ⟨wb, 0, none⟩)]).toArray]) (vs := []) rfl rfl) <| WL.p rfl rfl (PV.ldA agg68 (Blk.range (As.gb st14.g0)) rfl rfl) <| WL.p rfl rfl (PV.func (us := [.agg ([Value.int .i64 0, .slice a1 n1 e1, .slice a2 1 e2, .pointer (some ⟨d1, 0, none⟩), .pointer (some ⟨wb, 0, none⟩)]).toArray]) (vs := []) rfl rfl) <| WL.p rfl rfl (PV.ldA agg68 (Blk.range (As.gb st14.g0)) rfl rfl) <| WL.p rfl rfl (PV.func (us := [.agg ([Value.int .i64 0, .slice a1 n1 e1, .slice a2 1 e2, .pointer (some ⟨d1, 0, none⟩), .pointer (some ⟨wb, 0, none⟩)]).toArray]) (vs := []) rfl rfl) <| WL.p rfl rfl (PV.buildA (us := [.func (.func 22) #[.agg ([Value.int .i64 0, .slice a1 n1 e1, .slice a2 1 e2, .pointer (some ⟨d1, 0, none⟩), .pointer (some ⟨wb, 0, none⟩)]).toArray] #[], .func (.func 23) #[.agg ([Value.int .i64 0, .slice a1 n1 e1, .slice a2 1 e2, .pointer (some ⟨d1, 0, none⟩), .pointer (some ⟨wb, 0, none⟩)]).toArray] #[], .func (.func 24) #[.agg ([Value.int .i64 0, .slice a1 n1 e1, .slice a2 1 e2, .pointer (some ⟨d1, 0, none⟩), .pointer (some ⟨wb, 0, none⟩)]).toArray] #[], .func (.func 25) #[.agg ([Value.int .i64 0, .slice a1 n1 e1, .slice a2 1 e2, .pointer (some ⟨d1, 0, none⟩), .pointer (some ⟨wb, 0, none⟩)]).toArray] #[], .func (.func 26) #[.agg ([Value.int .i64 0, .slice a1 n1 e1, .slice a2 1 e2, .pointer (some ⟨d1, 0, none⟩), .pointer (some ⟨wb, 0, none⟩)]).toArray] #[]]) (places := [(0, 1), (1, 1), (2, 1), (3, 1), (4, 1)]) zvv70 rfl und70 so69 rfl (by simp) rfl rfl) <| WL.p rfl rfl (PV.mv rfl) <| WL.nil ?_
  refine EX.seqN ?_
  refine WC.block ?_
  refine WC.loopN 6 ?_
  refine LoopN.s ?_
  refine WC.seq ?_
  refine WC.region ?_
  refine WL.p rfl rfl (PV.lss rfl rfl) <| WL.nil ?_
  refine EX.seqN ?_
  refine WC.seq ?_
  refine WC.cond rfl (fun g39 => ?_) (fun g39 => ?_)
  ·
   skip
   refine WC.skip ?_
   refine EX.seqN ?_
   refine WC.seq ?_
   refine WC.block ?_
   refine WC.seq ?_
   refine WC.region ?_
   refine WL.p rfl rfl (PV.mv rfl) <| WL.p rfl rfl (PV.idxA (i := 0) und70 so69 one69 rfl rfl (by decide) rfl) <| WL.p rfl rfl (PV.as rfl) <| WL.p rfl rfl (PV.as rfl) <| WL.nil ?_
   refine EX.seqN ?_
   refine WC.seq ?_
   refine WC.region ?_
   refine WL.p rfl rfl (PV.fa fa40_2 rfl) <| WL.p rfl rfl (PV.ld1 one38 (Blk.range (As.gb st14.g7)) rfl rfl) <| WL.p rfl rfl (PV.len' sl38 rfl) <| WL.p rfl rfl (PV.mv rfl) <| WL.nil ?_
   refine EX.seqN ?_
   refine WC.block ?_
   refine WC.loopN 2 ?_
   refine LoopN.s ?_
   refine WC.seq ?_
   refine WC.region ?_
   refine WL.p rfl rfl (PV.lss rfl rfl) <| WL.nil ?_
   refine EX.seqN ?_
   refine WC.seq ?_
   refine WC.cond rfl (fun g46 => ?_) (fun g46 => ?_)
   ·
    skip
    refine WC.skip ?_
    refine EX.seqN ?_
    refine WC.seq ?_
    refine WC.block ?_
    refine WC.seq ?_
    obtain ⟨b_x1, o_x1, r_x1, ha_x1, hl_x1, hR_x1, hr_x1, hz_x1⟩ := Rd.at (As.gr st14.g9) (Nat.zero_lt_one)
    obtain ⟨q1_, q2_, q3_, rfl, hkq_, hk4_⟩ := hR_x1
    have st15 := st14.fact (As.mkrg hz_x1 (st14.zlt _ hz_x1) hr_x1) (fun _ hx => hx)
    refine WC.region ?_
    refine WL.p rfl rfl (PV.ixS sl38 (i := 0) ha_x1 rfl rfl Nat.zero_lt_one) <| WL.p rfl rfl (PV.ldA agg47 (As.grg st15.g0) rfl rfl) <| ?_
    refine WL.go rfl (OX.alloc zv47 rfl fun b12 w9 nw12 hb12 => ?_)
    have st16 := st15.newB nw12 hb12
    refine WL.go rfl (OX.stW sz47 (As.gb st16.g0) rfl rfl rfl rfl rfl fun w10 ss1 _ hs1 => ?_)
    have st17 := st16.updB ss1 hs1
    refine WL.nil ?_
    refine EX.seqN ?_
    refine WC.seq ?_
    obtain rfl : q2_ = 0 := hkq_.len
    refine WC.region ?_
    refine WL.p rfl rfl (PV.mv rfl) <| WL.p rfl rfl (PV.ldA agg47 (Blk.range (As.gb st17.g0)) rfl rfl) <| ?_
    have st18 := st17.p8.p8.p8
    refine WL.go rfl (OX.callV cf22 rfl rfl rfl ((Calls.recv (pvvalue0_calls (S := (⟨ar, a1, a2, r, cr, n1, e1, 1, e2, d2, d3, d1⟩ : SD)) (rules := rules) hi h99 hsim0 (As.gr st18.g13) st18.e3)).mono ?_))
    rintro _ w11 ⟨rfl, hst11⟩
    refine ⟨_, rfl, ?_⟩
    have st19 := St.leave (l0 := [_, _, _]) st18 hst11 (Zle.refl _ _)
    simp only [List.cons_append, List.nil_append] at st19
    rw [show decide (itoa rules[i].c = v) = true by simp [hv]]
    refine WL.p rfl rfl (PV.not rfl) <| WL.nil ?_
    refine EX.seqN ?_
    refine WC.condF rfl ?_
    refine WC.skip ?_
    refine EX.blkN ?_
    refine EX.seqN ?_
    refine WC.region ?_
    refine WL.p rfl rfl (PV.add rfl rfl (by omega) (by omega)) <| WL.p rfl rfl (PV.mv rfl) <| WL.nil ?_
    refine EX.againN ?_
    refine LoopN.s ?_
    refine WC.seq ?_
    refine WC.region ?_
    refine WL.p rfl rfl (PV.lss rfl rfl) <| WL.nil ?_
    refine EX.seqN ?_
    refine WC.seq ?_
    refine WC.cond rfl (fun g46 => ?_) (fun g46 => ?_)
    ·
     skip
     exact absurd g46 (by first | (simp; done) | (simp; omega) | (simp_all; done) | (simp_all; omega))
    ·
     skip
     refine WC.exit ?_
     refine EX.thenX ?_
     refine EX.thenX ?_
     refine EX.blkX ?_
     refine EX.blkN ?_
     refine EX.seqN ?_
     have st20 := st19.p3.drop
     have st21 := st20.p3.drop
     refine WC.region ?_
     refine WL.p rfl rfl (PV.add rfl rfl (by omega) (by omega)) <| WL.p rfl rfl (PV.mv rfl) <| WL.nil ?_
     refine EX.againN ?_
     refine LoopN.s ?_
     refine WC.seq ?_
     refine WC.region ?_
     refine WL.p rfl rfl (PV.lss rfl rfl) <| WL.nil ?_
     refine EX.seqN ?_
     refine WC.seq ?_
     refine WC.cond rfl (fun g39 => ?_) (fun g39 => ?_)
     ·
      skip
      refine WC.skip ?_
      refine EX.seqN ?_
      refine WC.seq ?_
      refine WC.block ?_
      refine WC.seq ?_
      refine WC.region ?_
      refine WL.p rfl rfl (PV.mv rfl) <| WL.p rfl rfl (PV.idxA (i := 1) und70 so69 one69 rfl rfl (by decide) rfl) <| WL.p rfl rfl (PV.as rfl) <| WL.p rfl rfl (PV.as rfl) <| WL.nil ?_
      refine EX.seqN ?_
      refine WC.seq ?_
      refine WC.region ?_
      refine WL.p rfl rfl (PV.fa fa40_2 rfl) <| WL.p rfl rfl (PV.ld1 one38 (Blk.range (As.gb st21.g7)) rfl rfl) <| WL.p rfl rfl (PV.len' sl38 rfl) <| WL.p rfl rfl (PV.mv rfl) <| WL.nil ?_
      refine EX.seqN ?_
      refine WC.block ?_
      refine WC.loopN 2 ?_
      refine LoopN.s ?_
      refine WC.seq ?_
      refine WC.region ?_
      refine WL.p rfl rfl (PV.lss rfl rfl) <| WL.nil ?_
      refine EX.seqN ?_
      refine WC.seq ?_
      refine WC.cond rfl (fun g46 => ?_) (fun g46 => ?_)
      ·
       skip
       refine WC.skip ?_
       refine EX.seqN ?_
       refine WC.seq ?_
       refine WC.block ?_
       refine WC.seq ?_
       obtain ⟨b_x1, o_x1, r_x1, ha_x1, hl_x1, hR_x1, hr_x1, hz_x1⟩ := Rd.at (As.gr st21.g9) (Nat.zero_lt_one)
       obtain ⟨q1_, q2_, q3_, rfl, hkq_, hk4_⟩ := hR_x1
       have st22 := st21.fact (As.mkrg hz_x1 (st21.zlt _ hz_x1) hr_x1) (fun _ hx => hx)
       refine WC.region ?_
       refine WL.p rfl rfl (PV.ixS sl38 (i := 0) ha_x1 rfl rfl Nat.zero_lt_one) <| WL.p rfl rfl (PV.ldA agg47 (As.grg st22.g0) rfl rfl) <| ?_
       refine WL.go rfl (OX.alloc zv47 rfl fun b12 w12 nw12 hb12 => ?_)
       have st23 := st22.newB nw12 hb12
       refine WL.go rfl (OX.stW sz47 (As.gb st23.g0) rfl rfl rfl rfl rfl fun w13 ss2 _ hs2 => ?_)
       have st24 := st23.updB ss2 hs2
       refine WL.nil ?_
       refine EX.seqN ?_
       refine WC.seq ?_
       obtain rfl : q2_ = 0 := hkq_.len
       refine WC.region ?_
       refine WL.p rfl rfl (PV.mv rfl) <| WL.p rfl rfl (PV.ldA agg47 (Blk.range (As.gb st24.g0)) rfl rfl) <| ?_
       refine WL.go rfl (OX.callV cf23 rfl rfl rfl ((Calls.recv (pvreads_calls (S := (⟨ar, a1, a2, r, cr, n1, e1, 1, e2, d2, d3, d1⟩ : SD)) (rules := rules) hi h99 hsim0 (As.gr st24.g13) (As.gb st24.g2))).mono ?_))
       rintro _ w14 ⟨rfl, s14⟩
       refine ⟨_, rfl, ?_⟩
       have st25 := st24.step s14
       refine WL.p rfl rfl (PV.not rfl) <| WL.nil ?_
       refine EX.seqN ?_
       refine WC.condF rfl ?_
       refine WC.skip ?_
       refine EX.blkN ?_
       refine EX.seqN ?_
       refine WC.region ?_
       refine WL.p rfl rfl (PV.add rfl rfl (by omega) (by omega)) <| WL.p rfl rfl (PV.mv rfl) <| WL.nil ?_
       refine EX.againN ?_
       refine LoopN.s ?_
       refine WC.seq ?_
       refine WC.region ?_
       refine WL.p rfl rfl (PV.lss rfl rfl) <| WL.nil ?_
       refine EX.seqN ?_
       refine WC.seq ?_
       refine WC.cond rfl (fun g46 => ?_) (fun g46 => ?_)
       ·
        skip
        exact absurd g46 (by first | (simp; done) | (simp; omega) | (simp_all; done) | (simp_all; omega))
       ·
        skip
        refine WC.exit ?_
        refine EX.thenX ?_
        refine EX.thenX ?_
        refine EX.blkX ?_
        refine EX.blkN ?_
        refine EX.seqN ?_
        have st26 := st25.drop
        have st27 := st26.drop
        refine WC.region ?_
        refine WL.p rfl rfl (PV.add rfl rfl (by omega) (by omega)) <| WL.p rfl rfl (PV.mv rfl) <| WL.nil ?_
        refine EX.againN ?_
        refine LoopN.s ?_
        refine WC.seq ?_
        refine WC.region ?_
        refine WL.p rfl rfl (PV.lss rfl rfl) <| WL.nil ?_
        refine EX.seqN ?_
        refine WC.seq ?_
        refine WC.cond rfl (fun g39 => ?_) (fun g39 => ?_)
        ·
         skip
         refine WC.skip ?_
         refine EX.seqN ?_
         refine WC.seq ?_
         refine WC.block ?_
         refine WC.seq ?_
         refine WC.region ?_
         refine WL.p rfl rfl (PV.mv rfl) <| WL.p rfl rfl (PV.idxA (i := 2) und70 so69 one69 rfl rfl (by decide) rfl) <| WL.p rfl rfl (PV.as rfl) <| WL.p rfl rfl (PV.as rfl) <| WL.nil ?_
         refine EX.seqN ?_
         refine WC.seq ?_
         refine WC.region ?_
         refine WL.p rfl rfl (PV.fa fa40_2 rfl) <| WL.p rfl rfl (PV.ld1 one38 (Blk.range (As.gb st27.g7)) rfl rfl) <| WL.p rfl rfl (PV.len' sl38 rfl) <| WL.p rfl rfl (PV.mv rfl) <| WL.nil ?_
         refine EX.seqN ?_
         refine WC.block ?_
         refine WC.loopN 2 ?_
         refine LoopN.s ?_
         refine WC.seq ?_
         refine WC.region ?_
         refine WL.p rfl rfl (PV.lss rfl rfl) <| WL.nil ?_
         refine EX.seqN ?_
         refine WC.seq ?_
         refine WC.cond rfl (fun g46 => ?_) (fun g46 => ?_)
         ·
          skip
          refine WC.skip ?_
          refine EX.seqN ?_
          refine WC.seq ?_
          refine WC.block ?_
          refine WC.seq ?_
          obtain ⟨b_x1, o_x1, r_x1, ha_x1, hl_x1, hR_x1, hr_x1, hz_x1⟩ := Rd.at (As.gr st27.g9) (Nat.zero_lt_one)
          obtain ⟨q1_, q2_, q3_, rfl, hkq_, hk4_⟩ := hR_x1
          have st28 := st27.fact (As.mkrg hz_x1 (st27.zlt _ hz_x1) hr_x1) (fun _ hx => hx)
          refine WC.region ?_
          refine WL.p rfl rfl (PV.ixS sl38 (i := 0) ha_x1 rfl rfl Nat.zero_lt_one) <| WL.p rfl rfl (PV.ldA agg47 (As.grg st28.g0) rfl rfl) <| ?_
          refine WL.go rfl (OX.alloc zv47 rfl fun b12 w15 nw12 hb12 => ?_)
          have st29 := st28.newB nw12 hb12
          refine WL.go rfl (OX.stW sz47 (As.gb st29.g0) rfl rfl rfl rfl rfl fun w16 ss3 _ hs3 => ?_)
          have st30 := st29.updB ss3 hs3
          refine WL.nil ?_
          refine EX.seqN ?_
          refine WC.seq ?_
          obtain rfl : q2_ = 0 := hkq_.len
          refine WC.region ?_
          refine WL.p rfl rfl (PV.mv rfl) <| WL.p rfl rfl (PV.ldA agg47 (Blk.range (As.gb st30.g0)) rfl rfl) <| ?_
          refine WL.go rfl (OX.callV cf24 rfl rfl rfl ((Calls.recv (pvbelow_calls (S := (⟨ar, a1, a2, r, cr, n1, e1, 1, e2, d2, d3, d1⟩ : SD)))).mono ?_))
          rintro _ w17 ⟨rfl, s17⟩
          refine ⟨_, rfl, ?_⟩
          have st31 := st30.step s17
          refine WL.p rfl rfl (PV.not rfl) <| WL.nil ?_
          refine EX.seqN ?_
          refine WC.condF rfl ?_
          refine WC.skip ?_
          refine EX.blkN ?_
          refine EX.seqN ?_
          refine WC.region ?_
          refine WL.p rfl rfl (PV.add rfl rfl (by omega) (by omega)) <| WL.p rfl rfl (PV.mv rfl) <| WL.nil ?_
          refine EX.againN ?_
          refine LoopN.s ?_
          refine WC.seq ?_
          refine WC.region ?_
          refine WL.p rfl rfl (PV.lss rfl rfl) <| WL.nil ?_
          refine EX.seqN ?_
          refine WC.seq ?_
          refine WC.cond rfl (fun g46 => ?_) (fun g46 => ?_)
          ·
           skip
           exact absurd g46 (by first | (simp; done) | (simp; omega) | (simp_all; done) | (simp_all; omega))
          ·
           skip
           refine WC.exit ?_
           refine EX.thenX ?_
           refine EX.thenX ?_
           refine EX.blkX ?_
           refine EX.blkN ?_
           refine EX.seqN ?_
           have st32 := st31.drop
           have st33 := st32.drop
           refine WC.region ?_
           refine WL.p rfl rfl (PV.add rfl rfl (by omega) (by omega)) <| WL.p rfl rfl (PV.mv rfl) <| WL.nil ?_
           refine EX.againN ?_
           refine LoopN.s ?_
           refine WC.seq ?_
           refine WC.region ?_
           refine WL.p rfl rfl (PV.lss rfl rfl) <| WL.nil ?_
           refine EX.seqN ?_
           refine WC.seq ?_
           refine WC.cond rfl (fun g39 => ?_) (fun g39 => ?_)
           ·
            skip
            refine WC.skip ?_
            refine EX.seqN ?_
            refine WC.seq ?_
            refine WC.block ?_
            refine WC.seq ?_
            refine WC.region ?_
            refine WL.p rfl rfl (PV.mv rfl) <| WL.p rfl rfl (PV.idxA (i := 3) und70 so69 one69 rfl rfl (by decide) rfl) <| WL.p rfl rfl (PV.as rfl) <| WL.p rfl rfl (PV.as rfl) <| WL.nil ?_
            refine EX.seqN ?_
            refine WC.seq ?_
            refine WC.region ?_
            refine WL.p rfl rfl (PV.fa fa40_2 rfl) <| WL.p rfl rfl (PV.ld1 one38 (Blk.range (As.gb st33.g7)) rfl rfl) <| WL.p rfl rfl (PV.len' sl38 rfl) <| WL.p rfl rfl (PV.mv rfl) <| WL.nil ?_
            refine EX.seqN ?_
            refine WC.block ?_
            refine WC.loopN 2 ?_
            refine LoopN.s ?_
            refine WC.seq ?_
            refine WC.region ?_
            refine WL.p rfl rfl (PV.lss rfl rfl) <| WL.nil ?_
            refine EX.seqN ?_
            refine WC.seq ?_
            refine WC.cond rfl (fun g46 => ?_) (fun g46 => ?_)
            ·
             skip
             refine WC.skip ?_
             refine EX.seqN ?_
             refine WC.seq ?_
             refine WC.block ?_
             refine WC.seq ?_
             obtain ⟨b_x1, o_x1, r_x1, ha_x1, hl_x1, hR_x1, hr_x1, hz_x1⟩ := Rd.at (As.gr st33.g9) (Nat.zero_lt_one)
             obtain ⟨q1_, q2_, q3_, rfl, hkq_, hk4_⟩ := hR_x1
             have st34 := st33.fact (As.mkrg hz_x1 (st33.zlt _ hz_x1) hr_x1) (fun _ hx => hx)
             refine WC.region ?_
             refine WL.p rfl rfl (PV.ixS sl38 (i := 0) ha_x1 rfl rfl Nat.zero_lt_one) <| WL.p rfl rfl (PV.ldA agg47 (As.grg st34.g0) rfl rfl) <| ?_
             refine WL.go rfl (OX.alloc zv47 rfl fun b12 w18 nw12 hb12 => ?_)
             have st35 := st34.newB nw12 hb12
             refine WL.go rfl (OX.stW sz47 (As.gb st35.g0) rfl rfl rfl rfl rfl fun w19 ss4 _ hs4 => ?_)
             have st36 := st35.updB ss4 hs4
             refine WL.nil ?_
             refine EX.seqN ?_
             refine WC.seq ?_
             obtain rfl : q2_ = 0 := hkq_.len
             refine WC.region ?_
             refine WL.p rfl rfl (PV.mv rfl) <| WL.p rfl rfl (PV.ldA agg47 (Blk.range (As.gb st36.g0)) rfl rfl) <| ?_
             have st37 := st36.p8.p8.p8.p7.p7.p7
             refine WL.go rfl (OX.callV cf25 rfl rfl rfl ((Calls.recv (pvkept_calls (S := (⟨ar, a1, a2, r, cr, n1, e1, 1, e2, d2, d3, d1⟩ : SD)) (rules := rules) hi h99 hsim0 (As.gr st37.g13) st37.e6)).mono ?_))
             rintro _ w20 ⟨rfl, hst20⟩
             refine ⟨_, rfl, ?_⟩
             have st38 := St.leave (l0 := [_, _, _, _, _, _]) st37 hst20 (Zle.refl _ _)
             simp only [List.cons_append, List.nil_append] at st38
             rw [show decide (itoa rules[i].c = v) = true by simp [hv]]
             refine WL.p rfl rfl (PV.not rfl) <| WL.nil ?_
             refine EX.seqN ?_
             refine WC.condF rfl ?_
             refine WC.skip ?_
             refine EX.blkN ?_
             refine EX.seqN ?_
             refine WC.region ?_
             refine WL.p rfl rfl (PV.add rfl rfl (by omega) (by omega)) <| WL.p rfl rfl (PV.mv rfl) <| WL.nil ?_
             refine EX.againN ?_
             refine LoopN.s ?_
             refine WC.seq ?_
             refine WC.region ?_
             refine WL.p rfl rfl (PV.lss rfl rfl) <| WL.nil ?_
             refine EX.seqN ?_
             refine WC.seq ?_
             refine WC.cond rfl (fun g46 => ?_) (fun g46 => ?_)
             ·
              skip
              exact absurd g46 (by first | (simp; done) | (simp; omega) | (simp_all; done) | (simp_all; omega))
             ·
              skip
              refine WC.exit ?_
              refine EX.thenX ?_
              refine EX.thenX ?_
              refine EX.blkX ?_
              refine EX.blkN ?_
              refine EX.seqN ?_
              have st39 := st38.p6.drop
              have st40 := st39.p6.drop
              refine WC.region ?_
              refine WL.p rfl rfl (PV.add rfl rfl (by omega) (by omega)) <| WL.p rfl rfl (PV.mv rfl) <| WL.nil ?_
              refine EX.againN ?_
              refine LoopN.s ?_
              refine WC.seq ?_
              refine WC.region ?_
              refine WL.p rfl rfl (PV.lss rfl rfl) <| WL.nil ?_
              refine EX.seqN ?_
              refine WC.seq ?_
              refine WC.cond rfl (fun g39 => ?_) (fun g39 => ?_)
              ·
               skip
               refine WC.skip ?_
               refine EX.seqN ?_
               refine WC.seq ?_
               refine WC.block ?_
               refine WC.seq ?_
               refine WC.region ?_
               refine WL.p rfl rfl (PV.mv rfl) <| WL.p rfl rfl (PV.idxA (i := 4) und70 so69 one69 rfl rfl (by decide) rfl) <| WL.p rfl rfl (PV.as rfl) <| WL.p rfl rfl (PV.as rfl) <| WL.nil ?_
               refine EX.seqN ?_
               refine WC.seq ?_
               refine WC.region ?_
               refine WL.p rfl rfl (PV.fa fa40_2 rfl) <| WL.p rfl rfl (PV.ld1 one38 (Blk.range (As.gb st40.g7)) rfl rfl) <| WL.p rfl rfl (PV.len' sl38 rfl) <| WL.p rfl rfl (PV.mv rfl) <| WL.nil ?_
               refine EX.seqN ?_
               refine WC.block ?_
               refine WC.loopN 2 ?_
               refine LoopN.s ?_
               refine WC.seq ?_
               refine WC.region ?_
               refine WL.p rfl rfl (PV.lss rfl rfl) <| WL.nil ?_
               refine EX.seqN ?_
               refine WC.seq ?_
               refine WC.cond rfl (fun g46 => ?_) (fun g46 => ?_)
               ·
                skip
                refine WC.skip ?_
                refine EX.seqN ?_
                refine WC.seq ?_
                refine WC.block ?_
                refine WC.seq ?_
                obtain ⟨b_x1, o_x1, r_x1, ha_x1, hl_x1, hR_x1, hr_x1, hz_x1⟩ := Rd.at (As.gr st40.g9) (Nat.zero_lt_one)
                obtain ⟨q1_, q2_, q3_, rfl, hkq_, hk4_⟩ := hR_x1
                have st41 := st40.fact (As.mkrg hz_x1 (st40.zlt _ hz_x1) hr_x1) (fun _ hx => hx)
                refine WC.region ?_
                refine WL.p rfl rfl (PV.ixS sl38 (i := 0) ha_x1 rfl rfl Nat.zero_lt_one) <| WL.p rfl rfl (PV.ldA agg47 (As.grg st41.g0) rfl rfl) <| ?_
                refine WL.go rfl (OX.alloc zv47 rfl fun b12 w21 nw12 hb12 => ?_)
                have st42 := st41.newB nw12 hb12
                refine WL.go rfl (OX.stW sz47 (As.gb st42.g0) rfl rfl rfl rfl rfl fun w22 ss5 _ hs5 => ?_)
                have st43 := st42.updB ss5 hs5
                refine WL.nil ?_
                refine EX.seqN ?_
                refine WC.seq ?_
                obtain rfl : q2_ = 0 := hkq_.len
                refine WC.region ?_
                refine WL.p rfl rfl (PV.mv rfl) <| WL.p rfl rfl (PV.ldA agg47 (Blk.range (As.gb st43.g0)) rfl rfl) <| ?_
                refine WL.go rfl (OX.callV cf26 rfl rfl rfl ((Calls.recv (pvcost_calls (S := (⟨ar, a1, a2, r, cr, n1, e1, 1, e2, d2, d3, d1⟩ : SD)))).mono ?_))
                rintro _ w23 ⟨rfl, s23⟩
                refine ⟨_, rfl, ?_⟩
                have st44 := st43.step s23
                refine WL.p rfl rfl (PV.not rfl) <| WL.nil ?_
                refine EX.seqN ?_
                refine WC.condF rfl ?_
                refine WC.skip ?_
                refine EX.blkN ?_
                refine EX.seqN ?_
                refine WC.region ?_
                refine WL.p rfl rfl (PV.add rfl rfl (by omega) (by omega)) <| WL.p rfl rfl (PV.mv rfl) <| WL.nil ?_
                refine EX.againN ?_
                refine LoopN.s ?_
                refine WC.seq ?_
                refine WC.region ?_
                refine WL.p rfl rfl (PV.lss rfl rfl) <| WL.nil ?_
                refine EX.seqN ?_
                refine WC.seq ?_
                refine WC.cond rfl (fun g46 => ?_) (fun g46 => ?_)
                ·
                 skip
                 exact absurd g46 (by first | (simp; done) | (simp; omega) | (simp_all; done) | (simp_all; omega))
                ·
                 skip
                 refine WC.exit ?_
                 refine EX.thenX ?_
                 refine EX.thenX ?_
                 refine EX.blkX ?_
                 refine EX.blkN ?_
                 refine EX.seqN ?_
                 have st45 := st44.drop
                 have st46 := st45.drop
                 refine WC.region ?_
                 refine WL.p rfl rfl (PV.add rfl rfl (by omega) (by omega)) <| WL.p rfl rfl (PV.mv rfl) <| WL.nil ?_
                 refine EX.againN ?_
                 refine LoopN.s ?_
                 refine WC.seq ?_
                 refine WC.region ?_
                 refine WL.p rfl rfl (PV.lss rfl rfl) <| WL.nil ?_
                 refine EX.seqN ?_
                 refine WC.seq ?_
                 refine WC.cond rfl (fun g39 => ?_) (fun g39 => ?_)
                 ·
                  skip
                  exact absurd g39 (by first | (simp; done) | (simp; omega) | (simp_all; done) | (simp_all; omega))
                 ·
                  skip
                  refine WC.exit ?_
                  refine EX.thenX ?_
                  refine EX.thenX ?_
                  refine EX.blkX ?_
                  refine EX.seqN ?_
                  refine WC.seq ?_
                  refine WC.region ?_
                  refine WL.p rfl rfl (PV.mv rfl) <| WL.p rfl rfl (PV.as rfl) <| WL.p rfl rfl (PV.as rfl) <| WL.nil ?_
                  refine EX.seqN ?_
                  refine WC.ret ?_
                  refine EX.ret2 rfl rfl rfl ?_
                  exact ⟨_, _, _, rfl, hZ1, st46.drop.drop.drop.drop.drop.drop.drop.drop.drop.drop.drop.drop⟩
               ·
                skip
                exact absurd g46 (by first | (simp; done) | (simp; omega) | (simp_all; done) | (simp_all; omega))
              ·
               skip
               exact absurd g39 (by first | (simp; done) | (simp; omega) | (simp_all; done) | (simp_all; omega))
            ·
             skip
             exact absurd g46 (by first | (simp; done) | (simp; omega) | (simp_all; done) | (simp_all; omega))
           ·
            skip
            exact absurd g39 (by first | (simp; done) | (simp; omega) | (simp_all; done) | (simp_all; omega))
         ·
          skip
          exact absurd g46 (by first | (simp; done) | (simp; omega) | (simp_all; done) | (simp_all; omega))
        ·
         skip
         exact absurd g39 (by first | (simp; done) | (simp; omega) | (simp_all; done) | (simp_all; omega))
      ·
       skip
       exact absurd g46 (by first | (simp; done) | (simp; omega) | (simp_all; done) | (simp_all; omega))
     ·
      skip
      exact absurd g39 (by first | (simp; done) | (simp; omega) | (simp_all; done) | (simp_all; omega))
   ·
    skip
    exact absurd g46 (by first | (simp; done) | (simp; omega) | (simp_all; done) | (simp_all; omega))
  ·
   skip
   exact absurd g39 (by first | (simp; done) | (simp; omega) | (simp_all; done) | (simp_all; omega))
 -- UNUSED ANNOTATIONS R13.3 R13.4
set_option maxHeartbeats 1600000 in
theorem pacheck0_calls {rules : List Rule} {i : Nat} {v : ByteArray} {ar a1 a2 : Option Addr} {r cr n1 e1 e2 : Nat} {w : World} {M Z : Nat → Prop} (hst : St w M Z w []) (hi : i < rules.length) (h99 : i ≤ 99) (hs : ∀ y ∈ rules, SimR y) (h24 : rules.length ≤ 24) (hu : Rd RR.rule 4 Z w ar r cr rules) (hii : Rd RR.inp 4 Z w a1 n1 e1 []) (hr : Rd RR.rcd 8 Z w a2 1 e2 [rec1 i v]) (hv5 : v.size ≤ 1000) (hv : itoa rules[i].c ≠ v) : Calls Tryz.prog 10 #[.slice ar r cr, .agg ((⟨0, [], [rec1 i v]⟩ : Bas).row a1 n1 e1 a2 1 e2).toArray] w fun e w' => ∃ (a : Option Addr) (c : Nat) (Z' : Nat → Prop), e = .returned (.tuple #[.slice a 2 c, .int .i64 0]) ∧ Zle w.heap.size Z Z' ∧ St w M Z' w' [] := by
 have hsim0 := hs _ (List.getElem_mem hi)
 have hx1 : SimB i (⟨0, [], [rec1 i v]⟩ : Bas) := ⟨rfl, rfl, Nat.le_refl _, fun y hy => ⟨v, by simpa using hy, hv5⟩⟩
 refine enter (args := [.slice ar r cr, .agg ((⟨0, [], [rec1 i v]⟩ : Bas).row a1 n1 e1 a2 1 e2).toArray]) Tryz.func10 rfl Tryz.ntmps10 rfl ?_
 have st0 := hst
 have st1 := st0.fact (As.mkro hu) (fun _ hx => hx)
 have st2 := st1.fact (As.mkro hii) (fun _ hx => hx)
 have st3 := st2.fact (As.mkro hr) (fun _ hx => hx)
 have st4 := st3.newN RR.int 3 1
 refine WC.seq ?_
 refine WC.region ?_
 refine WL.go rfl (OX.box rfl rfl rfl fun b3 w1 nw3 hb3 => ?_)
 have st5 := st4.newB nw3 hb3
 refine WL.p rfl rfl (PV.as rfl) <| WL.p rfl rfl (PV.as rfl) <| WL.nil ?_
 refine EX.seqN ?_
 refine WC.seq ?_
 refine WC.seq ?_
 refine WC.region ?_
 refine WL.p rfl rfl (PV.mv rfl) <| WL.p rfl rfl (PV.ldA agg40 (Blk.range (As.gb st5.g0)) rfl rfl) <| ?_
 refine WL.go rfl (OX.call cf19 rfl rfl ((pecheck_calls (x := (⟨0, [], [rec1 i v]⟩ : Bas)) h99 hs h24 (As.gr st5.g4) (As.gr st5.g3) (As.gr st5.g2) hx1).mono ?_))
 rintro _ w2 ⟨rfl, s2⟩
 refine ⟨_, rfl, ?_⟩
 have st6 := st5.step s2
 refine WL.p rfl rfl (PV.as rfl) <| WL.nil ?_
 refine EX.seqN ?_
 refine WC.seq ?_
 refine WC.region ?_
 refine WL.p rfl rfl (PV.mv rfl) <| WL.p rfl rfl (PV.nei rfl rfl) <| WL.nil ?_
 refine EX.seqN ?_
 refine WC.cond rfl (fun g17 => ?_) (fun g17 => ?_)
 ·
  skip
  exact absurd g17 (by first | (simp; done) | (simp; omega) | (simp_all; done) | (simp_all; omega))
 ·
  skip
  refine WC.skip ?_
  refine EX.seqN ?_
  refine WC.seq ?_
  have hN4 : ∀ x : Nat, w2.heap.size ≤ x → w2.heap.size ≤ x := fun _ h => h
  refine WC.drawnG (m := 9) [] [3, 6] [1, 2, 3, 4, 5, 6, 0, 7, 8] [(8, .blk 68 [.int .i64 0, .slice none 0 0, .slice none 0 0, .pointer none, .pointer none])] st6 (Sub1.cons M0 <| Sub1.cons M1 <| Sub1.cons M2 <| Sub1.cons M3 <| Sub1.cons M4 <| Sub1.nil) mixed (by kernel_rfl) (by kernel_rfl) rfl ?_
  refine DG.p rfl rfl rfl rfl rfl rfl (fun wx Zx Rx hNx hSx hix => PV.mv rfl) <| DG.p rfl rfl rfl rfl rfl rfl (fun wx Zx Rx hNx hSx hix => PV.ldA agg40 (Blk.range (As.gb (hSx.sv hix).g0)) rfl rfl) <| ?_
  refine DG.ch rfl rfl rfl rfl rfl rfl (fun w3 R3x hN3x st7 hsd3x => ?_)
  simp only [List.cons_append, List.nil_append] at st7
  have st8 := st7
  refine OX.call cf20 rfl rfl ((pfnew_calls (x := (⟨0, [], [rec1 i v]⟩ : Bas)) st8.e0).mono ?_)
  rintro _ w4 ⟨d1, d2, d3, rfl, hst4⟩
  have st9 := St.leave (l0 := []) st8 hst4 (Zle.refl _ _)
  simp only [List.cons_append, List.nil_append] at st9
  refine ⟨_, rfl, hst4.chg.size, _, rfl, _, _, _, st9, AppE.cons <| AppE.cons <| AppE.cons <| AppE.cons <| AppE.cons <| AppE.cons <| AppE.cons <| AppE.cons <| AppE.nil, Sub1.cons M3 <| Sub1.cons M4 <| Sub1.cons M5 <| Sub1.cons M6 <| Sub1.cons M7 <| Sub1.nil, ?_⟩
  refine DG.p rfl rfl rfl rfl rfl rfl (fun wx Zx Rx hNx hSx hix => PV.mv rfl) <| DG.p rfl rfl rfl rfl rfl rfl (fun wx Zx Rx hNx hSx hix => PV.ldA agg40 (Blk.range (As.gb (hSx.sv hix).g0)) rfl rfl) <| ?_
  refine DG.ch rfl rfl rfl rfl rfl rfl (fun w5 R6x hN6x st10 hsd6x => ?_)
  simp only [List.cons_append, List.nil_append] at st10
  have st11 := st10
  refine OX.call cf21 rfl rfl ((pwnew1_calls (v := v) st11.e0 (As.gr st11.g6) (As.gr st11.g5)).mono ?_)
  rintro _ w6 ⟨D, wb, rb, q2, q3, q1, Z1, rfl, hZ1a, hst6⟩
  have st12 := St.leave (l0 := []) st11 hst6 hZ1a
  simp only [List.cons_append, List.nil_append] at st12
  have hZ1 := hZ1a.le st11.size
  refine ⟨_, rfl, hst6.chg.size, _, rfl, _, _, _, st12, AppE.cons <| AppE.cons <| AppE.cons <| AppE.cons <| AppE.cons <| AppE.cons <| AppE.cons <| AppE.cons <| AppE.cons <| AppE.cons <| AppE.cons <| AppE.nil, Sub1.cons M6 <| Sub1.cons M7 <| Sub1.cons M8 <| Sub1.cons M9 <| Sub1.cons M10 <| Sub1.nil, ?_⟩
  refine DG.p rfl rfl rfl rfl rfl rfl (fun wx Zx Rx hNx hSx hix => PV.ldA agg40 (Blk.range (As.gb (hSx.sv hix).g0)) rfl rfl) <| DG.p rfl rfl rfl rfl rfl rfl (fun wx Zx Rx hNx hSx hix => PV.build' (us := [Value.int .i64 0, .slice a1 n1 e1, .slice a2 1 e2, .pointer (some ⟨d1, 0, none⟩), .pointer (some ⟨wb, 0, none⟩)]) bt68 rfl rfl rfl) <| ?_
  refine DG.side (s := .blk 68 [.int .i64 0, .slice none 0 0, .slice none 0 0, .pointer none, .pointer none]) rfl rfl rfl rfl rfl rfl (fun wx Zx Rx hNx hSx => OX.alloc zv68 rfl fun b wy nw hb => ⟨nw.ext.size, _, rfl, ⟨b, rfl⟩, hSx.newB nw hb⟩) ?_
  rintro _ ⟨b7, rfl⟩
  refine DG.nil ?_
  intro w7 hsz4 st13
  simp only [List.map_cons, List.map_nil, List.cons_append, List.nil_append, SdK.it] at st13
  refine WL.go rfl (OX.stW sz68 (As.gb st13.g0) rfl rfl rfl rfl rfl fun w8 ss0 _ hs0 => ?_)
  have st14 := st13.updB ss0 hs0
  refine WL.nil (EX.np ?_)
  refine EX.seqN ?_
  refine WC.seq ?_
  refine WC.region ?_
  refine WL.p rfl rfl (PV.as rfl) <| WL.nil ?_
  refine EX.seqN ?_
  refine WC.seq ?_
  refine WC.seq ?_
  refine WC.region ?_
  refine WL.p rfl rfl (PV.ldA agg68 (Blk.range (As.gb st14.g0)) rfl rfl) <| WL.p rfl rfl (PV.func (us := [.agg ([Value.int .i64 0, .slice a1 n1 e1, .slice a2 1 e2, .pointer (some ⟨d1, 0, none⟩), .pointer (some ⟨wb, 0, none⟩)]).toArray]) (vs := []) rfl rfl) <| WL.p rfl rfl (PV.ldA agg68 (Blk.range (As.gb st14.g0)) rfl rfl) <| WL.p rfl rfl (PV.func (us := [.agg ([Value.int .i64 0, .slice a1 n1 e1, .slice a2 1 e2, .pointer (some ⟨d1, 0, none⟩), .pointer (some ⟨wb, 0, none⟩)]).toArray]) (vs := []) rfl rfl) <| WL.p rfl rfl (PV.ldA agg68 (Blk.range (As.gb st14.g0)) rfl rfl) <| WL.p rfl rfl (PV.func (us := [.agg ([Value.int .i64 0, .slice a1 n1 e1, .slice a2 1 e2, .pointer (some ⟨d1, 0, none⟩), .pointer (some ⟨wb, 0, none⟩)]).toArray]) (vs := []) rfl rfl) <| WL.p rfl rfl (PV.ldA agg68 (Blk.range (As.gb st14.g0)) rfl rfl) <| WL.p rfl rfl (PV.func (us := [.agg ([Value.int .i64 0, .slice a1 n1 e1, .slice a2 1 e2, .pointer (some ⟨d1, 0, none⟩), .pointer (some ⟨wb, 0, none⟩)]).toArray]) (vs := []) rfl rfl) <| WL.p rfl rfl (PV.ldA agg68 (Blk.range (As.gb st14.g0)) rfl rfl) <| WL.p rfl rfl (PV.func (us := [.agg ([Value.int .i64 0, .slice a1 n1 e1, .slice a2 1 e2, .pointer (some ⟨d1, 0, none⟩), .pointer (some ⟨wb, 0, none⟩)]).toArray]) (vs := []) rfl rfl) <| WL.p rfl rfl (PV.buildA (us := [.func (.func 22) #[.agg ([Value.int .i64 0, .slice a1 n1 e1, .slice a2 1 e2, .pointer (some ⟨d1, 0, none⟩), .pointer (some ⟨wb, 0, none⟩)]).toArray] #[], .func (.func 23) #[.agg ([Value.int .i64 0, .slice a1 n1 e1, .slice a2 1 e2, .pointer (some ⟨d1, 0, none⟩), .pointer (some ⟨wb, 0, none⟩)]).toArray] #[], .func (.func 24) #[.agg ([Value.int .i64 0, .slice a1 n1 e1, .slice a2 1 e2, .pointer (some ⟨d1, 0, none⟩), .pointer (some ⟨wb, 0, none⟩)]).toArray] #[], .func (.func 25) #[.agg ([Value.int .i64 0, .slice a1 n1 e1, .slice a2 1 e2, .pointer (some ⟨d1, 0, none⟩), .pointer (some ⟨wb, 0, none⟩)]).toArray] #[], .func (.func 26) #[.agg ([Value.int .i64 0, .slice a1 n1 e1, .slice a2 1 e2, .pointer (some ⟨d1, 0, none⟩), .pointer (some ⟨wb, 0, none⟩)]).toArray] #[]]) (places := [(0, 1), (1, 1), (2, 1), (3, 1), (4, 1)]) zvv70 rfl und70 so69 rfl (by simp) rfl rfl) <| WL.p rfl rfl (PV.mv rfl) <| WL.nil ?_
  refine EX.seqN ?_
  refine WC.block ?_
  refine WC.loopN 6 ?_
  refine LoopN.s ?_
  refine WC.seq ?_
  refine WC.region ?_
  refine WL.p rfl rfl (PV.lss rfl rfl) <| WL.nil ?_
  refine EX.seqN ?_
  refine WC.seq ?_
  refine WC.cond rfl (fun g39 => ?_) (fun g39 => ?_)
  ·
   skip
   refine WC.skip ?_
   refine EX.seqN ?_
   refine WC.seq ?_
   refine WC.block ?_
   refine WC.seq ?_
   refine WC.region ?_
   refine WL.p rfl rfl (PV.mv rfl) <| WL.p rfl rfl (PV.idxA (i := 0) und70 so69 one69 rfl rfl (by decide) rfl) <| WL.p rfl rfl (PV.as rfl) <| WL.p rfl rfl (PV.as rfl) <| WL.nil ?_
   refine EX.seqN ?_
   refine WC.seq ?_
   refine WC.region ?_
   refine WL.p rfl rfl (PV.fa fa40_2 rfl) <| WL.p rfl rfl (PV.ld1 one38 (Blk.range (As.gb st14.g7)) rfl rfl) <| WL.p rfl rfl (PV.len' sl38 rfl) <| WL.p rfl rfl (PV.mv rfl) <| WL.nil ?_
   refine EX.seqN ?_
   refine WC.block ?_
   refine WC.loopN 2 ?_
   refine LoopN.s ?_
   refine WC.seq ?_
   refine WC.region ?_
   refine WL.p rfl rfl (PV.lss rfl rfl) <| WL.nil ?_
   refine EX.seqN ?_
   refine WC.seq ?_
   refine WC.cond rfl (fun g46 => ?_) (fun g46 => ?_)
   ·
    skip
    refine WC.skip ?_
    refine EX.seqN ?_
    refine WC.seq ?_
    refine WC.block ?_
    refine WC.seq ?_
    obtain ⟨b_x1, o_x1, r_x1, ha_x1, hl_x1, hR_x1, hr_x1, hz_x1⟩ := Rd.at (As.gr st14.g9) (Nat.zero_lt_one)
    obtain ⟨q1_, q2_, q3_, rfl, hkq_, hk4_⟩ := hR_x1
    have st15 := st14.fact (As.mkrg hz_x1 (st14.zlt _ hz_x1) hr_x1) (fun _ hx => hx)
    refine WC.region ?_
    refine WL.p rfl rfl (PV.ixS sl38 (i := 0) ha_x1 rfl rfl Nat.zero_lt_one) <| WL.p rfl rfl (PV.ldA agg47 (As.grg st15.g0) rfl rfl) <| ?_
    refine WL.go rfl (OX.alloc zv47 rfl fun b12 w9 nw12 hb12 => ?_)
    have st16 := st15.newB nw12 hb12
    refine WL.go rfl (OX.stW sz47 (As.gb st16.g0) rfl rfl rfl rfl rfl fun w10 ss1 _ hs1 => ?_)
    have st17 := st16.updB ss1 hs1
    refine WL.nil ?_
    refine EX.seqN ?_
    refine WC.seq ?_
    obtain rfl : q2_ = 0 := hkq_.len
    refine WC.region ?_
    refine WL.p rfl rfl (PV.mv rfl) <| WL.p rfl rfl (PV.ldA agg47 (Blk.range (As.gb st17.g0)) rfl rfl) <| ?_
    have st18 := st17.p8.p8.p8
    refine WL.go rfl (OX.callV cf22 rfl rfl rfl ((Calls.recv (pvvalue0_calls (S := (⟨ar, a1, a2, r, cr, n1, e1, 1, e2, d2, d3, d1⟩ : SD)) (rules := rules) hi h99 hsim0 (As.gr st18.g13) st18.e3)).mono ?_))
    rintro _ w11 ⟨rfl, hst11⟩
    refine ⟨_, rfl, ?_⟩
    have st19 := St.leave (l0 := [_, _, _]) st18 hst11 (Zle.refl _ _)
    simp only [List.cons_append, List.nil_append] at st19
    rw [show decide (itoa rules[i].c = v) = false by simp [hv]]
    refine WL.p rfl rfl (PV.not rfl) <| WL.nil ?_
    refine EX.seqN ?_
    refine WC.condT rfl ?_
    refine WC.seq ?_
    refine WC.region ?_
    refine WL.p rfl rfl (PV.mv rfl) <| WL.p rfl rfl (PV.mv rfl) <| WL.p rfl rfl (PV.add rfl rfl (by omega) (by omega)) <| ?_
    refine WL.go rfl (OX.bslice' (us := [.int .i64 _]) bs48_1 rfl rfl rfl rfl fun b56 w12 nw56 hb56 => ?_)
    have st20 := st19.newB nw56 hb56
    refine WL.go rfl (OX.appR ap48 rfl rfl rfl (As.gs st20.g11) (SR.blk1 (A := fun _ => True) (x := _) (As.gb st20.g0) trivial rfl (by simp [Value.oneCell']) rfl) (by simp) (by simp) (Nat.zero_le _) fun a57 c'57 w13 h'57 s57 hf57 hn57 => ?_)
    have st21 := st20.p11.updS s57 h'57 hf57
    refine WL.p rfl rfl (PV.as rfl) <| WL.nil ?_
    refine EX.seqN ?_
    refine WC.exit ?_
    refine EX.blkY rfl ?_
    refine EX.thenX ?_
    refine EX.thenX ?_
    refine EX.blkX ?_
    refine EX.blkN ?_
    refine EX.seqN ?_
    have st22 := st21.p5.drop
    have st23 := st22.p5.drop
    refine WC.region ?_
    refine WL.p rfl rfl (PV.add rfl rfl (by omega) (by omega)) <| WL.p rfl rfl (PV.mv rfl) <| WL.nil ?_
    refine EX.againN ?_
    refine LoopN.s ?_
    refine WC.seq ?_
    refine WC.region ?_
    refine WL.p rfl rfl (PV.lss rfl rfl) <| WL.nil ?_
    refine EX.seqN ?_
    refine WC.seq ?_
    refine WC.cond rfl (fun g39 => ?_) (fun g39 => ?_)
    ·
     skip
     refine WC.skip ?_
     refine EX.seqN ?_
     refine WC.seq ?_
     refine WC.block ?_
     refine WC.seq ?_
     refine WC.region ?_
     refine WL.p rfl rfl (PV.mv rfl) <| WL.p rfl rfl (PV.idxA (i := 1) und70 so69 one69 rfl rfl (by decide) rfl) <| WL.p rfl rfl (PV.as rfl) <| WL.p rfl rfl (PV.as rfl) <| WL.nil ?_
     refine EX.seqN ?_
     refine WC.seq ?_
     refine WC.region ?_
     refine WL.p rfl rfl (PV.fa fa40_2 rfl) <| WL.p rfl rfl (PV.ld1 one38 (Blk.range (As.gb st23.g9)) rfl rfl) <| WL.p rfl rfl (PV.len' sl38 rfl) <| WL.p rfl rfl (PV.mv rfl) <| WL.nil ?_
     refine EX.seqN ?_
     refine WC.block ?_
     refine WC.loopN 2 ?_
     refine LoopN.s ?_
     refine WC.seq ?_
     refine WC.region ?_
     refine WL.p rfl rfl (PV.lss rfl rfl) <| WL.nil ?_
     refine EX.seqN ?_
     refine WC.seq ?_
     refine WC.cond rfl (fun g46 => ?_) (fun g46 => ?_)
     ·
      skip
      refine WC.skip ?_
      refine EX.seqN ?_
      refine WC.seq ?_
      refine WC.block ?_
      refine WC.seq ?_
      obtain ⟨b_x1, o_x1, r_x1, ha_x1, hl_x1, hR_x1, hr_x1, hz_x1⟩ := Rd.at (As.gr st23.g10) (Nat.zero_lt_one)
      obtain ⟨q1_, q2_, q3_, rfl, hkq_, hk4_⟩ := hR_x1
      have st24 := st23.fact (As.mkrg hz_x1 (st23.zlt _ hz_x1) hr_x1) (fun _ hx => hx)
      refine WC.region ?_
      refine WL.p rfl rfl (PV.ixS sl38 (i := 0) ha_x1 rfl rfl Nat.zero_lt_one) <| WL.p rfl rfl (PV.ldA agg47 (As.grg st24.g0) rfl rfl) <| ?_
      refine WL.go rfl (OX.alloc zv47 rfl fun b12 w14 nw12 hb12 => ?_)
      have st25 := st24.newB nw12 hb12
      refine WL.go rfl (OX.stW sz47 (As.gb st25.g0) rfl rfl rfl rfl rfl fun w15 ss2 _ hs2 => ?_)
      have st26 := st25.updB ss2 hs2
      refine WL.nil ?_
      refine EX.seqN ?_
      refine WC.seq ?_
      obtain rfl : q2_ = 0 := hkq_.len
      refine WC.region ?_
      refine WL.p rfl rfl (PV.mv rfl) <| WL.p rfl rfl (PV.ldA agg47 (Blk.range (As.gb st26.g0)) rfl rfl) <| ?_
      refine WL.go rfl (OX.callV cf23 rfl rfl rfl ((Calls.recv (pvreads_calls (S := (⟨ar, a1, a2, r, cr, n1, e1, 1, e2, d2, d3, d1⟩ : SD)) (rules := rules) hi h99 hsim0 (As.gr st26.g14) (As.gb st26.g4))).mono ?_))
      rintro _ w16 ⟨rfl, s16⟩
      refine ⟨_, rfl, ?_⟩
      have st27 := st26.step s16
      refine WL.p rfl rfl (PV.not rfl) <| WL.nil ?_
      refine EX.seqN ?_
      refine WC.condF rfl ?_
      refine WC.skip ?_
      refine EX.blkN ?_
      refine EX.seqN ?_
      refine WC.region ?_
      refine WL.p rfl rfl (PV.add rfl rfl (by omega) (by omega)) <| WL.p rfl rfl (PV.mv rfl) <| WL.nil ?_
      refine EX.againN ?_
      refine LoopN.s ?_
      refine WC.seq ?_
      refine WC.region ?_
      refine WL.p rfl rfl (PV.lss rfl rfl) <| WL.nil ?_
      refine EX.seqN ?_
      refine WC.seq ?_
      refine WC.cond rfl (fun g46 => ?_) (fun g46 => ?_)
      ·
       skip
       exact absurd g46 (by first | (simp; done) | (simp; omega) | (simp_all; done) | (simp_all; omega))
      ·
       skip
       refine WC.exit ?_
       refine EX.thenX ?_
       refine EX.thenX ?_
       refine EX.blkX ?_
       refine EX.blkN ?_
       refine EX.seqN ?_
       have st28 := st27.drop
       have st29 := st28.drop
       refine WC.region ?_
       refine WL.p rfl rfl (PV.add rfl rfl (by omega) (by omega)) <| WL.p rfl rfl (PV.mv rfl) <| WL.nil ?_
       refine EX.againN ?_
       refine LoopN.s ?_
       refine WC.seq ?_
       refine WC.region ?_
       refine WL.p rfl rfl (PV.lss rfl rfl) <| WL.nil ?_
       refine EX.seqN ?_
       refine WC.seq ?_
       refine WC.cond rfl (fun g39 => ?_) (fun g39 => ?_)
       ·
        skip
        refine WC.skip ?_
        refine EX.seqN ?_
        refine WC.seq ?_
        refine WC.block ?_
        refine WC.seq ?_
        refine WC.region ?_
        refine WL.p rfl rfl (PV.mv rfl) <| WL.p rfl rfl (PV.idxA (i := 2) und70 so69 one69 rfl rfl (by decide) rfl) <| WL.p rfl rfl (PV.as rfl) <| WL.p rfl rfl (PV.as rfl) <| WL.nil ?_
        refine EX.seqN ?_
        refine WC.seq ?_
        refine WC.region ?_
        refine WL.p rfl rfl (PV.fa fa40_2 rfl) <| WL.p rfl rfl (PV.ld1 one38 (Blk.range (As.gb st29.g9)) rfl rfl) <| WL.p rfl rfl (PV.len' sl38 rfl) <| WL.p rfl rfl (PV.mv rfl) <| WL.nil ?_
        refine EX.seqN ?_
        refine WC.block ?_
        refine WC.loopN 2 ?_
        refine LoopN.s ?_
        refine WC.seq ?_
        refine WC.region ?_
        refine WL.p rfl rfl (PV.lss rfl rfl) <| WL.nil ?_
        refine EX.seqN ?_
        refine WC.seq ?_
        refine WC.cond rfl (fun g46 => ?_) (fun g46 => ?_)
        ·
         skip
         refine WC.skip ?_
         refine EX.seqN ?_
         refine WC.seq ?_
         refine WC.block ?_
         refine WC.seq ?_
         obtain ⟨b_x1, o_x1, r_x1, ha_x1, hl_x1, hR_x1, hr_x1, hz_x1⟩ := Rd.at (As.gr st29.g10) (Nat.zero_lt_one)
         obtain ⟨q1_, q2_, q3_, rfl, hkq_, hk4_⟩ := hR_x1
         have st30 := st29.fact (As.mkrg hz_x1 (st29.zlt _ hz_x1) hr_x1) (fun _ hx => hx)
         refine WC.region ?_
         refine WL.p rfl rfl (PV.ixS sl38 (i := 0) ha_x1 rfl rfl Nat.zero_lt_one) <| WL.p rfl rfl (PV.ldA agg47 (As.grg st30.g0) rfl rfl) <| ?_
         refine WL.go rfl (OX.alloc zv47 rfl fun b12 w17 nw12 hb12 => ?_)
         have st31 := st30.newB nw12 hb12
         refine WL.go rfl (OX.stW sz47 (As.gb st31.g0) rfl rfl rfl rfl rfl fun w18 ss3 _ hs3 => ?_)
         have st32 := st31.updB ss3 hs3
         refine WL.nil ?_
         refine EX.seqN ?_
         refine WC.seq ?_
         obtain rfl : q2_ = 0 := hkq_.len
         refine WC.region ?_
         refine WL.p rfl rfl (PV.mv rfl) <| WL.p rfl rfl (PV.ldA agg47 (Blk.range (As.gb st32.g0)) rfl rfl) <| ?_
         refine WL.go rfl (OX.callV cf24 rfl rfl rfl ((Calls.recv (pvbelow_calls (S := (⟨ar, a1, a2, r, cr, n1, e1, 1, e2, d2, d3, d1⟩ : SD)))).mono ?_))
         rintro _ w19 ⟨rfl, s19⟩
         refine ⟨_, rfl, ?_⟩
         have st33 := st32.step s19
         refine WL.p rfl rfl (PV.not rfl) <| WL.nil ?_
         refine EX.seqN ?_
         refine WC.condF rfl ?_
         refine WC.skip ?_
         refine EX.blkN ?_
         refine EX.seqN ?_
         refine WC.region ?_
         refine WL.p rfl rfl (PV.add rfl rfl (by omega) (by omega)) <| WL.p rfl rfl (PV.mv rfl) <| WL.nil ?_
         refine EX.againN ?_
         refine LoopN.s ?_
         refine WC.seq ?_
         refine WC.region ?_
         refine WL.p rfl rfl (PV.lss rfl rfl) <| WL.nil ?_
         refine EX.seqN ?_
         refine WC.seq ?_
         refine WC.cond rfl (fun g46 => ?_) (fun g46 => ?_)
         ·
          skip
          exact absurd g46 (by first | (simp; done) | (simp; omega) | (simp_all; done) | (simp_all; omega))
         ·
          skip
          refine WC.exit ?_
          refine EX.thenX ?_
          refine EX.thenX ?_
          refine EX.blkX ?_
          refine EX.blkN ?_
          refine EX.seqN ?_
          have st34 := st33.drop
          have st35 := st34.drop
          refine WC.region ?_
          refine WL.p rfl rfl (PV.add rfl rfl (by omega) (by omega)) <| WL.p rfl rfl (PV.mv rfl) <| WL.nil ?_
          refine EX.againN ?_
          refine LoopN.s ?_
          refine WC.seq ?_
          refine WC.region ?_
          refine WL.p rfl rfl (PV.lss rfl rfl) <| WL.nil ?_
          refine EX.seqN ?_
          refine WC.seq ?_
          refine WC.cond rfl (fun g39 => ?_) (fun g39 => ?_)
          ·
           skip
           refine WC.skip ?_
           refine EX.seqN ?_
           refine WC.seq ?_
           refine WC.block ?_
           refine WC.seq ?_
           refine WC.region ?_
           refine WL.p rfl rfl (PV.mv rfl) <| WL.p rfl rfl (PV.idxA (i := 3) und70 so69 one69 rfl rfl (by decide) rfl) <| WL.p rfl rfl (PV.as rfl) <| WL.p rfl rfl (PV.as rfl) <| WL.nil ?_
           refine EX.seqN ?_
           refine WC.seq ?_
           refine WC.region ?_
           refine WL.p rfl rfl (PV.fa fa40_2 rfl) <| WL.p rfl rfl (PV.ld1 one38 (Blk.range (As.gb st35.g9)) rfl rfl) <| WL.p rfl rfl (PV.len' sl38 rfl) <| WL.p rfl rfl (PV.mv rfl) <| WL.nil ?_
           refine EX.seqN ?_
           refine WC.block ?_
           refine WC.loopN 2 ?_
           refine LoopN.s ?_
           refine WC.seq ?_
           refine WC.region ?_
           refine WL.p rfl rfl (PV.lss rfl rfl) <| WL.nil ?_
           refine EX.seqN ?_
           refine WC.seq ?_
           refine WC.cond rfl (fun g46 => ?_) (fun g46 => ?_)
           ·
            skip
            refine WC.skip ?_
            refine EX.seqN ?_
            refine WC.seq ?_
            refine WC.block ?_
            refine WC.seq ?_
            obtain ⟨b_x1, o_x1, r_x1, ha_x1, hl_x1, hR_x1, hr_x1, hz_x1⟩ := Rd.at (As.gr st35.g10) (Nat.zero_lt_one)
            obtain ⟨q1_, q2_, q3_, rfl, hkq_, hk4_⟩ := hR_x1
            have st36 := st35.fact (As.mkrg hz_x1 (st35.zlt _ hz_x1) hr_x1) (fun _ hx => hx)
            refine WC.region ?_
            refine WL.p rfl rfl (PV.ixS sl38 (i := 0) ha_x1 rfl rfl Nat.zero_lt_one) <| WL.p rfl rfl (PV.ldA agg47 (As.grg st36.g0) rfl rfl) <| ?_
            refine WL.go rfl (OX.alloc zv47 rfl fun b12 w20 nw12 hb12 => ?_)
            have st37 := st36.newB nw12 hb12
            refine WL.go rfl (OX.stW sz47 (As.gb st37.g0) rfl rfl rfl rfl rfl fun w21 ss4 _ hs4 => ?_)
            have st38 := st37.updB ss4 hs4
            refine WL.nil ?_
            refine EX.seqN ?_
            refine WC.seq ?_
            obtain rfl : q2_ = 0 := hkq_.len
            refine WC.region ?_
            refine WL.p rfl rfl (PV.mv rfl) <| WL.p rfl rfl (PV.ldA agg47 (Blk.range (As.gb st38.g0)) rfl rfl) <| ?_
            have st39 := st38.p10.p10.p10.p9.p9.p9
            refine WL.go rfl (OX.callV cf25 rfl rfl rfl ((Calls.recv (pvkept_calls (S := (⟨ar, a1, a2, r, cr, n1, e1, 1, e2, d2, d3, d1⟩ : SD)) (rules := rules) hi h99 hsim0 (As.gr st39.g14) st39.e6)).mono ?_))
            rintro _ w22 ⟨rfl, hst22⟩
            refine ⟨_, rfl, ?_⟩
            have st40 := St.leave (l0 := [_, _, _, _, _, _]) st39 hst22 (Zle.refl _ _)
            simp only [List.cons_append, List.nil_append] at st40
            rw [show decide (itoa rules[i].c = v) = false by simp [hv]]
            refine WL.p rfl rfl (PV.not rfl) <| WL.nil ?_
            refine EX.seqN ?_
            refine WC.condT rfl ?_
            refine WC.seq ?_
            refine WC.region ?_
            refine WL.p rfl rfl (PV.mv rfl) <| WL.p rfl rfl (PV.mv rfl) <| WL.p rfl rfl (PV.add rfl rfl (by omega) (by omega)) <| ?_
            refine WL.go rfl (OX.bslice' (us := [.int .i64 _]) bs48_1 rfl rfl rfl rfl fun b56 w23 nw56 hb56 => ?_)
            have st41 := st40.newB nw56 hb56
            refine WL.go rfl (OX.appR ap48 rfl rfl rfl (As.gs st41.g9) (SR.blk1 (A := fun _ => True) (x := _) (As.gb st41.g0) trivial rfl (by simp [Value.oneCell']) rfl) (by simp) (by simp) (Nat.zero_le _) fun a57 c'57 w24 h'57 s57 hf57 hn57 => ?_)
            have st42 := st41.p9.updS s57 h'57 hf57
            refine WL.p rfl rfl (PV.as rfl) <| WL.nil ?_
            refine EX.seqN ?_
            refine WC.exit ?_
            refine EX.blkY rfl ?_
            refine EX.thenX ?_
            refine EX.thenX ?_
            refine EX.blkX ?_
            refine EX.blkN ?_
            refine EX.seqN ?_
            have st43 := st42.p8.drop
            have st44 := st43.p8.drop
            refine WC.region ?_
            refine WL.p rfl rfl (PV.add rfl rfl (by omega) (by omega)) <| WL.p rfl rfl (PV.mv rfl) <| WL.nil ?_
            refine EX.againN ?_
            refine LoopN.s ?_
            refine WC.seq ?_
            refine WC.region ?_
            refine WL.p rfl rfl (PV.lss rfl rfl) <| WL.nil ?_
            refine EX.seqN ?_
            refine WC.seq ?_
            refine WC.cond rfl (fun g39 => ?_) (fun g39 => ?_)
            ·
             skip
             refine WC.skip ?_
             refine EX.seqN ?_
             refine WC.seq ?_
             refine WC.block ?_
             refine WC.seq ?_
             refine WC.region ?_
             refine WL.p rfl rfl (PV.mv rfl) <| WL.p rfl rfl (PV.idxA (i := 4) und70 so69 one69 rfl rfl (by decide) rfl) <| WL.p rfl rfl (PV.as rfl) <| WL.p rfl rfl (PV.as rfl) <| WL.nil ?_
             refine EX.seqN ?_
             refine WC.seq ?_
             refine WC.region ?_
             refine WL.p rfl rfl (PV.fa fa40_2 rfl) <| WL.p rfl rfl (PV.ld1 one38 (Blk.range (As.gb st44.g10)) rfl rfl) <| WL.p rfl rfl (PV.len' sl38 rfl) <| WL.p rfl rfl (PV.mv rfl) <| WL.nil ?_
             refine EX.seqN ?_
             refine WC.block ?_
             refine WC.loopN 2 ?_
             refine LoopN.s ?_
             refine WC.seq ?_
             refine WC.region ?_
             refine WL.p rfl rfl (PV.lss rfl rfl) <| WL.nil ?_
             refine EX.seqN ?_
             refine WC.seq ?_
             refine WC.cond rfl (fun g46 => ?_) (fun g46 => ?_)
             ·
              skip
              refine WC.skip ?_
              refine EX.seqN ?_
              refine WC.seq ?_
              refine WC.block ?_
              refine WC.seq ?_
              obtain ⟨b_x1, o_x1, r_x1, ha_x1, hl_x1, hR_x1, hr_x1, hz_x1⟩ := Rd.at (As.gr st44.g11) (Nat.zero_lt_one)
              obtain ⟨q1_, q2_, q3_, rfl, hkq_, hk4_⟩ := hR_x1
              have st45 := st44.fact (As.mkrg hz_x1 (st44.zlt _ hz_x1) hr_x1) (fun _ hx => hx)
              refine WC.region ?_
              refine WL.p rfl rfl (PV.ixS sl38 (i := 0) ha_x1 rfl rfl Nat.zero_lt_one) <| WL.p rfl rfl (PV.ldA agg47 (As.grg st45.g0) rfl rfl) <| ?_
              refine WL.go rfl (OX.alloc zv47 rfl fun b12 w25 nw12 hb12 => ?_)
              have st46 := st45.newB nw12 hb12
              refine WL.go rfl (OX.stW sz47 (As.gb st46.g0) rfl rfl rfl rfl rfl fun w26 ss5 _ hs5 => ?_)
              have st47 := st46.updB ss5 hs5
              refine WL.nil ?_
              refine EX.seqN ?_
              refine WC.seq ?_
              obtain rfl : q2_ = 0 := hkq_.len
              refine WC.region ?_
              refine WL.p rfl rfl (PV.mv rfl) <| WL.p rfl rfl (PV.ldA agg47 (Blk.range (As.gb st47.g0)) rfl rfl) <| ?_
              refine WL.go rfl (OX.callV cf26 rfl rfl rfl ((Calls.recv (pvcost_calls (S := (⟨ar, a1, a2, r, cr, n1, e1, 1, e2, d2, d3, d1⟩ : SD)))).mono ?_))
              rintro _ w27 ⟨rfl, s27⟩
              refine ⟨_, rfl, ?_⟩
              have st48 := st47.step s27
              refine WL.p rfl rfl (PV.not rfl) <| WL.nil ?_
              refine EX.seqN ?_
              refine WC.condF rfl ?_
              refine WC.skip ?_
              refine EX.blkN ?_
              refine EX.seqN ?_
              refine WC.region ?_
              refine WL.p rfl rfl (PV.add rfl rfl (by omega) (by omega)) <| WL.p rfl rfl (PV.mv rfl) <| WL.nil ?_
              refine EX.againN ?_
              refine LoopN.s ?_
              refine WC.seq ?_
              refine WC.region ?_
              refine WL.p rfl rfl (PV.lss rfl rfl) <| WL.nil ?_
              refine EX.seqN ?_
              refine WC.seq ?_
              refine WC.cond rfl (fun g46 => ?_) (fun g46 => ?_)
              ·
               skip
               exact absurd g46 (by first | (simp; done) | (simp; omega) | (simp_all; done) | (simp_all; omega))
              ·
               skip
               refine WC.exit ?_
               refine EX.thenX ?_
               refine EX.thenX ?_
               refine EX.blkX ?_
               refine EX.blkN ?_
               refine EX.seqN ?_
               have st49 := st48.drop
               have st50 := st49.drop
               refine WC.region ?_
               refine WL.p rfl rfl (PV.add rfl rfl (by omega) (by omega)) <| WL.p rfl rfl (PV.mv rfl) <| WL.nil ?_
               refine EX.againN ?_
               refine LoopN.s ?_
               refine WC.seq ?_
               refine WC.region ?_
               refine WL.p rfl rfl (PV.lss rfl rfl) <| WL.nil ?_
               refine EX.seqN ?_
               refine WC.seq ?_
               refine WC.cond rfl (fun g39 => ?_) (fun g39 => ?_)
               ·
                skip
                exact absurd g39 (by first | (simp; done) | (simp; omega) | (simp_all; done) | (simp_all; omega))
               ·
                skip
                refine WC.exit ?_
                refine EX.thenX ?_
                refine EX.thenX ?_
                refine EX.blkX ?_
                refine EX.seqN ?_
                refine WC.seq ?_
                refine WC.region ?_
                refine WL.p rfl rfl (PV.mv rfl) <| WL.p rfl rfl (PV.as rfl) <| WL.p rfl rfl (PV.as rfl) <| WL.nil ?_
                refine EX.seqN ?_
                refine WC.ret ?_
                refine EX.ret2 rfl rfl rfl ?_
                exact ⟨_, _, _, rfl, hZ1, st50.drop.drop.drop.drop.drop.drop.drop.drop.drop.drop.drop.drop.drop.drop⟩
             ·
              skip
              exact absurd g46 (by first | (simp; done) | (simp; omega) | (simp_all; done) | (simp_all; omega))
            ·
             skip
             exact absurd g39 (by first | (simp; done) | (simp; omega) | (simp_all; done) | (simp_all; omega))
           ·
            skip
            exact absurd g46 (by first | (simp; done) | (simp; omega) | (simp_all; done) | (simp_all; omega))
          ·
           skip
           exact absurd g39 (by first | (simp; done) | (simp; omega) | (simp_all; done) | (simp_all; omega))
        ·
         skip
         exact absurd g46 (by first | (simp; done) | (simp; omega) | (simp_all; done) | (simp_all; omega))
       ·
        skip
        exact absurd g39 (by first | (simp; done) | (simp; omega) | (simp_all; done) | (simp_all; omega))
     ·
      skip
      exact absurd g46 (by first | (simp; done) | (simp; omega) | (simp_all; done) | (simp_all; omega))
    ·
     skip
     exact absurd g39 (by first | (simp; done) | (simp; omega) | (simp_all; done) | (simp_all; omega))
   ·
    skip
    exact absurd g46 (by first | (simp; done) | (simp; omega) | (simp_all; done) | (simp_all; omega))
  ·
   skip
   exact absurd g39 (by first | (simp; done) | (simp; omega) | (simp_all; done) | (simp_all; omega))
theorem paright1_calls {rules : List Rule} {i : Nat} {v : ByteArray} {ar a1 a2 ag : Option Addr} {r cr n1 e1 n2 e2 eg : Nat} {w : World} {M Z : Nat → Prop} (hst : St w M Z w []) (hi : i < rules.length) (h99 : i ≤ 99) (hs : ∀ y ∈ rules, SimR y) (h24 : rules.length ≤ 24) (hu : Rd RR.rule 4 Z w ar r cr rules) (hii : Rd RR.inp 4 Z w a1 n1 e1 []) (hr : Rd RR.rcd 8 Z w a2 n2 e2 [rec1 i v]) (hg : Rd RR.key 2 Z w ag 1 eg [(⟨31, itoa i⟩ : Key)]) (hv5 : v.size ≤ 1000) (hv : itoa rules[i].c = v) : Calls Tryz.prog 11 #[.slice ar r cr, .agg ((⟨0, [], [rec1 i v]⟩ : Bas).row a1 n1 e1 a2 n2 e2).toArray, .slice ag 1 eg] w fun e w' => e = .returned (.bool true) ∧ St w M Z w' [] := by
 have hx1 : SimB i (⟨0, [], [rec1 i v]⟩ : Bas) := ⟨rfl, rfl, Nat.le_refl _, fun y hy => ⟨v, by simpa using hy, hv5⟩⟩
 refine enter (args := [.slice ar r cr, .agg ((⟨0, [], [rec1 i v]⟩ : Bas).row a1 n1 e1 a2 n2 e2).toArray, .slice ag 1 eg]) Tryz.func11 rfl Tryz.ntmps11 rfl ?_
 have st0 := hst
 have st1 := st0.fact (As.mkro hu) (fun _ hx => hx)
 have st2 := st1.fact (As.mkro hii) (fun _ hx => hx)
 have st3 := st2.fact (As.mkro hr) (fun _ hx => hx)
 have st4 := st3.fact (As.mkro hg) (fun _ hx => hx)
 refine WC.seq ?_
 refine WC.region ?_
 refine WL.go rfl (OX.box rfl rfl rfl fun b4 w1 nw4 hb4 => ?_)
 have st5 := st4.newB nw4 hb4
 refine WL.p rfl rfl (PV.as rfl) <| WL.nil ?_
 refine EX.seqN ?_
 refine WC.seq ?_
 refine WC.seq ?_
 refine WC.region ?_
 refine WL.p rfl rfl (PV.mv rfl) <| WL.p rfl rfl (PV.len' sl25 rfl) <| WL.p rfl rfl (PV.mv rfl) <| WL.nil ?_
 refine EX.seqN ?_
 refine WC.block ?_
 refine WC.loopN 2 ?_
 refine LoopN.s ?_
 refine WC.seq ?_
 refine WC.region ?_
 refine WL.p rfl rfl (PV.lss rfl rfl) <| WL.nil ?_
 refine EX.seqN ?_
 refine WC.seq ?_
 refine WC.cond rfl (fun g16 => ?_) (fun g16 => ?_)
 ·
  skip
  refine WC.skip ?_
  refine EX.seqN ?_
  refine WC.seq ?_
  refine WC.block ?_
  refine WC.seq ?_
  obtain ⟨b_x1, o_x1, r_x1, ha_x1, hl_x1, hR_x1, hr_x1, hz_x1⟩ := Rd.at (As.gr st5.g1) (Nat.zero_lt_one)
  have hR_x1 := RR.flat_eq hR_x1
  subst hR_x1
  have st6 := st5.fact (As.mkrg hz_x1 (st5.zlt _ hz_x1) hr_x1) (fun _ hx => hx)
  refine WC.region ?_
  refine WL.p rfl rfl (PV.ixS sl25 (i := 0) ha_x1 rfl rfl Nat.zero_lt_one) <| WL.p rfl rfl (PV.ldA agg27 (As.grg st6.g0) rfl rfl) <| ?_
  refine WL.go rfl (OX.alloc zv27 rfl fun b8 w2 nw8 hb8 => ?_)
  have st7 := st6.newB nw8 hb8
  refine WL.go rfl (OX.stW sz27 (As.gb st7.g0) rfl rfl rfl rfl rfl fun w3 ss0 _ hs0 => ?_)
  have st8 := st7.updB ss0 hs0
  refine WL.nil ?_
  refine EX.seqN ?_
  refine WC.seq ?_
  refine WC.region ?_
  refine WL.p rfl rfl (PV.ldA agg40 (Blk.range (As.gb st8.g2)) rfl rfl) <| WL.p rfl rfl (PV.ldA agg27 (Blk.range (As.gb st8.g0)) rfl rfl) <| ?_
  have st9 := st8
  refine WL.go rfl (OX.call cf27 rfl rfl ((pekept_calls (v := v) st9.e0 (As.gr st9.g4)).mono ?_))
  rintro _ w4 ⟨rfl, hst4⟩
  refine ⟨_, rfl, ?_⟩
  have st10 := St.leave (l0 := []) st9 hst4 (Zle.refl _ _)
  simp only [List.cons_append, List.nil_append] at st10
  refine WL.p rfl rfl (PV.mv rfl) <| WL.p rfl rfl (PV.ext rfl rfl) <| WL.p rfl rfl (PV.ext rfl rfl) <| WL.p rfl rfl (PV.as rfl) <| WL.p rfl rfl (PV.as rfl) <| WL.nil ?_
  refine EX.seqN ?_
  refine WC.seq ?_
  refine WC.region ?_
  refine WL.p rfl rfl (PV.mv rfl) <| WL.p rfl rfl (PV.ldA agg40 (Blk.range (As.gb st10.g2)) rfl rfl) <| WL.p rfl rfl (PV.ldA agg27 (Blk.range (As.gb st10.g0)) rfl rfl) <| ?_
  have st11 := st10
  refine WL.go rfl (OX.call cf28 rfl rfl ((pfvalue_calls (x := (⟨0, [], [rec1 i v]⟩ : Bas)) st11.e0 hi h99 hs h24 (As.gr st11.g6) (As.gr st11.g5) (As.gr st11.g4) hx1).mono ?_))
  rintro _ w5 ⟨rfl, hst5⟩
  refine ⟨_, rfl, ?_⟩
  have st12 := St.leave (l0 := []) st11 hst5 (Zle.refl _ _)
  simp only [List.cons_append, List.nil_append] at st12
  refine WL.p rfl rfl (PV.mv rfl) <| WL.p rfl rfl (PV.ext rfl rfl) <| WL.p rfl rfl (PV.ext rfl rfl) <| WL.p rfl rfl (PV.as rfl) <| WL.p rfl rfl (PV.as rfl) <| WL.nil ?_
  refine EX.seqN ?_
  refine WC.seq ?_
  refine WC.cut1S (t := 42) (v := .bool (decide (v ≠ itoa rules[i].c))) st12 ?_ ?_
  ·
   skip
   refine WC.region ?_
   refine WL.p rfl rfl (PV.mv rfl) <| WL.p rfl rfl (PV.not rfl) <| WL.p rfl rfl (PV.mv rfl) <| ?_
   refine WL.gsplit (t := 34) rfl (fun g34 => ?_) (fun g34 => ?_)
   ·
    skip
    refine WL.no rfl rfl <| WL.no rfl rfl <| WL.p rfl rfl (PV.pickT rfl rfl rfl) <| WL.p rfl rfl (PV.mv rfl) <| WL.no rfl rfl <| WL.no rfl rfl <| WL.no rfl rfl <| WL.p rfl rfl (PV.pickT rfl rfl rfl) <| WL.nil ?_
    exact EX.meet1 12 rfl rfl rfl (by first | rfl | (simp only [g34]; done) | (simp only [g34]; rfl) | (simp [g34]; done) | (simp; done) | (simp at g34 ⊢ <;> omega) | (simp <;> omega) | (simp [g34] <;> omega) | (simp at g34 <;> omega)) (st12)
   ·
    skip
    refine WL.p rfl rfl (PV.mv rfl) <| WL.p rfl rfl (PV.nei rfl rfl) <| WL.p rfl rfl (PV.pickF rfl rfl rfl) <| WL.p rfl rfl (PV.mv rfl) <| ?_
    refine WL.gsplit (t := 38) rfl (fun g38 => ?_) (fun g38 => ?_)
    ·
     skip
     refine WL.no rfl rfl <| WL.no rfl rfl <| WL.no rfl rfl <| WL.p rfl rfl (PV.pickT rfl rfl rfl) <| WL.nil ?_
     exact EX.meet1 13 rfl rfl rfl (by first | rfl | (simp only [g34, g38]; done) | (simp only [g34, g38]; rfl) | (simp [g34, g38]; done) | (simp; done) | (simp at g34 g38 ⊢ <;> omega) | (simp <;> omega) | (simp [g34, g38] <;> omega) | (simp at g34 g38 <;> omega)) (st12)
    ·
     skip
     refine WL.p rfl rfl (PV.mv rfl) <| WL.p rfl rfl (PV.mv rfl) <| WL.p rfl rfl (PV.nes rfl rfl) <| WL.p rfl rfl (PV.pickF rfl rfl rfl) <| WL.nil ?_
     exact EX.meet1 13 rfl rfl rfl (by first | rfl | (simp only [g34, g38]; done) | (simp only [g34, g38]; rfl) | (simp [g34, g38]; done) | (simp; done) | (simp at g34 g38 ⊢ <;> omega) | (simp <;> omega) | (simp [g34, g38] <;> omega) | (simp at g34 g38 <;> omega)) (st12)
  intro w6 st13
  refine EX.seqN ?_
  refine WC.cond rfl (fun g42 => ?_) (fun g42 => ?_)
  ·
   skip
   exact absurd g42 (by first | (simp; done) | (simp; omega) | (simp_all; done) | (simp_all; omega))
  ·
   skip
   refine WC.skip ?_
   refine EX.blkN ?_
   refine EX.seqN ?_
   refine WC.region ?_
   refine WL.p rfl rfl (PV.add rfl rfl (by omega) (by omega)) <| WL.p rfl rfl (PV.mv rfl) <| WL.nil ?_
   refine EX.againN ?_
   refine LoopN.s ?_
   refine WC.seq ?_
   refine WC.region ?_
   refine WL.p rfl rfl (PV.lss rfl rfl) <| WL.nil ?_
   refine EX.seqN ?_
   refine WC.seq ?_
   refine WC.cond rfl (fun g16 => ?_) (fun g16 => ?_)
   ·
    skip
    exact absurd g16 (by first | (simp; done) | (simp; omega) | (simp_all; done) | (simp_all; omega))
   ·
    skip
    refine WC.exit ?_
    refine EX.thenX ?_
    refine EX.thenX ?_
    refine EX.blkX ?_
    refine EX.seqN ?_
    refine WC.seq ?_
    refine WC.region ?_
    refine WL.p rfl rfl (PV.as rfl) <| WL.nil ?_
    refine EX.seqN ?_
    refine WC.ret ?_
    refine EX.ret1 rfl rfl ?_
    exact ⟨rfl, st13.drop.drop.drop.drop.drop.drop.drop⟩
 ·
  skip
  exact absurd g16 (by first | (simp; done) | (simp; omega) | (simp_all; done) | (simp_all; omega))
theorem paright0_calls {rules : List Rule} {i : Nat} {v : ByteArray} {ar a1 a2 ag : Option Addr} {r cr n1 e1 n2 e2 eg : Nat} {w : World} {M Z : Nat → Prop} (hst : St w M Z w []) (hi : i < rules.length) (h99 : i ≤ 99) (hs : ∀ y ∈ rules, SimR y) (h24 : rules.length ≤ 24) (hu : Rd RR.rule 4 Z w ar r cr rules) (hii : Rd RR.inp 4 Z w a1 n1 e1 []) (hr : Rd RR.rcd 8 Z w a2 n2 e2 [rec1 i v]) (hg : Rd RR.key 2 Z w ag 1 eg [(⟨31, itoa i⟩ : Key)]) (hv5 : v.size ≤ 1000) (hv : itoa rules[i].c ≠ v) : Calls Tryz.prog 11 #[.slice ar r cr, .agg ((⟨0, [], [rec1 i v]⟩ : Bas).row a1 n1 e1 a2 n2 e2).toArray, .slice ag 1 eg] w fun e w' => e = .returned (.bool false) ∧ St w M Z w' [] := by
 have hx1 : SimB i (⟨0, [], [rec1 i v]⟩ : Bas) := ⟨rfl, rfl, Nat.le_refl _, fun y hy => ⟨v, by simpa using hy, hv5⟩⟩
 refine enter (args := [.slice ar r cr, .agg ((⟨0, [], [rec1 i v]⟩ : Bas).row a1 n1 e1 a2 n2 e2).toArray, .slice ag 1 eg]) Tryz.func11 rfl Tryz.ntmps11 rfl ?_
 have st0 := hst
 have st1 := st0.fact (As.mkro hu) (fun _ hx => hx)
 have st2 := st1.fact (As.mkro hii) (fun _ hx => hx)
 have st3 := st2.fact (As.mkro hr) (fun _ hx => hx)
 have st4 := st3.fact (As.mkro hg) (fun _ hx => hx)
 refine WC.seq ?_
 refine WC.region ?_
 refine WL.go rfl (OX.box rfl rfl rfl fun b4 w1 nw4 hb4 => ?_)
 have st5 := st4.newB nw4 hb4
 refine WL.p rfl rfl (PV.as rfl) <| WL.nil ?_
 refine EX.seqN ?_
 refine WC.seq ?_
 refine WC.seq ?_
 refine WC.region ?_
 refine WL.p rfl rfl (PV.mv rfl) <| WL.p rfl rfl (PV.len' sl25 rfl) <| WL.p rfl rfl (PV.mv rfl) <| WL.nil ?_
 refine EX.seqN ?_
 refine WC.block ?_
 refine WC.loopN 2 ?_
 refine LoopN.s ?_
 refine WC.seq ?_
 refine WC.region ?_
 refine WL.p rfl rfl (PV.lss rfl rfl) <| WL.nil ?_
 refine EX.seqN ?_
 refine WC.seq ?_
 refine WC.cond rfl (fun g16 => ?_) (fun g16 => ?_)
 ·
  skip
  refine WC.skip ?_
  refine EX.seqN ?_
  refine WC.seq ?_
  refine WC.block ?_
  refine WC.seq ?_
  obtain ⟨b_x1, o_x1, r_x1, ha_x1, hl_x1, hR_x1, hr_x1, hz_x1⟩ := Rd.at (As.gr st5.g1) (Nat.zero_lt_one)
  have hR_x1 := RR.flat_eq hR_x1
  subst hR_x1
  have st6 := st5.fact (As.mkrg hz_x1 (st5.zlt _ hz_x1) hr_x1) (fun _ hx => hx)
  refine WC.region ?_
  refine WL.p rfl rfl (PV.ixS sl25 (i := 0) ha_x1 rfl rfl Nat.zero_lt_one) <| WL.p rfl rfl (PV.ldA agg27 (As.grg st6.g0) rfl rfl) <| ?_
  refine WL.go rfl (OX.alloc zv27 rfl fun b8 w2 nw8 hb8 => ?_)
  have st7 := st6.newB nw8 hb8
  refine WL.go rfl (OX.stW sz27 (As.gb st7.g0) rfl rfl rfl rfl rfl fun w3 ss0 _ hs0 => ?_)
  have st8 := st7.updB ss0 hs0
  refine WL.nil ?_
  refine EX.seqN ?_
  refine WC.seq ?_
  refine WC.region ?_
  refine WL.p rfl rfl (PV.ldA agg40 (Blk.range (As.gb st8.g2)) rfl rfl) <| WL.p rfl rfl (PV.ldA agg27 (Blk.range (As.gb st8.g0)) rfl rfl) <| ?_
  have st9 := st8
  refine WL.go rfl (OX.call cf27 rfl rfl ((pekept_calls (v := v) st9.e0 (As.gr st9.g4)).mono ?_))
  rintro _ w4 ⟨rfl, hst4⟩
  refine ⟨_, rfl, ?_⟩
  have st10 := St.leave (l0 := []) st9 hst4 (Zle.refl _ _)
  simp only [List.cons_append, List.nil_append] at st10
  refine WL.p rfl rfl (PV.mv rfl) <| WL.p rfl rfl (PV.ext rfl rfl) <| WL.p rfl rfl (PV.ext rfl rfl) <| WL.p rfl rfl (PV.as rfl) <| WL.p rfl rfl (PV.as rfl) <| WL.nil ?_
  refine EX.seqN ?_
  refine WC.seq ?_
  refine WC.region ?_
  refine WL.p rfl rfl (PV.mv rfl) <| WL.p rfl rfl (PV.ldA agg40 (Blk.range (As.gb st10.g2)) rfl rfl) <| WL.p rfl rfl (PV.ldA agg27 (Blk.range (As.gb st10.g0)) rfl rfl) <| ?_
  have st11 := st10
  refine WL.go rfl (OX.call cf28 rfl rfl ((pfvalue_calls (x := (⟨0, [], [rec1 i v]⟩ : Bas)) st11.e0 hi h99 hs h24 (As.gr st11.g6) (As.gr st11.g5) (As.gr st11.g4) hx1).mono ?_))
  rintro _ w5 ⟨rfl, hst5⟩
  refine ⟨_, rfl, ?_⟩
  have st12 := St.leave (l0 := []) st11 hst5 (Zle.refl _ _)
  simp only [List.cons_append, List.nil_append] at st12
  refine WL.p rfl rfl (PV.mv rfl) <| WL.p rfl rfl (PV.ext rfl rfl) <| WL.p rfl rfl (PV.ext rfl rfl) <| WL.p rfl rfl (PV.as rfl) <| WL.p rfl rfl (PV.as rfl) <| WL.nil ?_
  refine EX.seqN ?_
  refine WC.seq ?_
  refine WC.cut1S (t := 42) (v := .bool (decide (v ≠ itoa rules[i].c))) st12 ?_ ?_
  ·
   skip
   refine WC.region ?_
   refine WL.p rfl rfl (PV.mv rfl) <| WL.p rfl rfl (PV.not rfl) <| WL.p rfl rfl (PV.mv rfl) <| ?_
   refine WL.gsplit (t := 34) rfl (fun g34 => ?_) (fun g34 => ?_)
   ·
    skip
    refine WL.no rfl rfl <| WL.no rfl rfl <| WL.p rfl rfl (PV.pickT rfl rfl rfl) <| WL.p rfl rfl (PV.mv rfl) <| WL.no rfl rfl <| WL.no rfl rfl <| WL.no rfl rfl <| WL.p rfl rfl (PV.pickT rfl rfl rfl) <| WL.nil ?_
    exact EX.meet1 12 rfl rfl rfl (by first | rfl | (simp only [g34]; done) | (simp only [g34]; rfl) | (simp [g34]; done) | (simp; done) | (simp at g34 ⊢ <;> omega) | (simp <;> omega) | (simp [g34] <;> omega) | (simp at g34 <;> omega)) (st12)
   ·
    skip
    refine WL.p rfl rfl (PV.mv rfl) <| WL.p rfl rfl (PV.nei rfl rfl) <| WL.p rfl rfl (PV.pickF rfl rfl rfl) <| WL.p rfl rfl (PV.mv rfl) <| ?_
    refine WL.gsplit (t := 38) rfl (fun g38 => ?_) (fun g38 => ?_)
    ·
     skip
     refine WL.no rfl rfl <| WL.no rfl rfl <| WL.no rfl rfl <| WL.p rfl rfl (PV.pickT rfl rfl rfl) <| WL.nil ?_
     exact EX.meet1 13 rfl rfl rfl (by first | rfl | (simp only [g34, g38]; done) | (simp only [g34, g38]; rfl) | (simp [g34, g38]; done) | (simp; done) | (simp at g34 g38 ⊢ <;> omega) | (simp <;> omega) | (simp [g34, g38] <;> omega) | (simp at g34 g38 <;> omega)) (st12)
    ·
     skip
     refine WL.p rfl rfl (PV.mv rfl) <| WL.p rfl rfl (PV.mv rfl) <| WL.p rfl rfl (PV.nes rfl rfl) <| WL.p rfl rfl (PV.pickF rfl rfl rfl) <| WL.nil ?_
     exact EX.meet1 13 rfl rfl rfl (by first | rfl | (simp only [g34, g38]; done) | (simp only [g34, g38]; rfl) | (simp [g34, g38]; done) | (simp; done) | (simp at g34 g38 ⊢ <;> omega) | (simp <;> omega) | (simp [g34, g38] <;> omega) | (simp at g34 g38 <;> omega)) (st12)
  intro w6 st13
  refine EX.seqN ?_
  refine WC.cond rfl (fun g42 => ?_) (fun g42 => ?_)
  ·
   skip
   refine WC.seq ?_
   refine WC.region ?_
   refine WL.p rfl rfl (PV.as rfl) <| WL.nil ?_
   refine EX.seqN ?_
   refine WC.ret ?_
   refine EX.blkR ?_
   refine EX.thenR ?_
   refine EX.thenR ?_
   refine EX.blkR ?_
   refine EX.thenR ?_
   refine EX.ret1 rfl rfl ?_
   exact ⟨rfl, st13.drop.drop.drop.drop.drop.drop.drop⟩
  ·
   skip
   exact absurd g42 (by first | (simp; done) | (simp; omega) | (simp_all; done) | (simp_all; omega))
 ·
  skip
  exact absurd g16 (by first | (simp; done) | (simp; omega) | (simp_all; done) | (simp_all; omega))
theorem pasound_calls {rules : List Rule} {i : Nat} {v : ByteArray} {ar a1 a2 c1 c2 ag : Option Addr} {r cr n1 e1 n2 e2 p1 g1 p2 g2 eg : Nat} {w : World} {M Z : Nat → Prop} (hst : St w M Z w []) (h99 : i ≤ 99) (hs : ∀ y ∈ rules, SimR y) (h24 : rules.length ≤ 24) (hu : Rd RR.rule 4 Z w ar r cr rules) (hii : Rd RR.inp 4 Z w a1 n1 e1 []) (hr : Rd RR.rcd 8 Z w a2 n2 e2 []) (hr2 : Rd RR.rcd 8 Z w c2 p2 g2 [rec1 i v]) (hg : Rd RR.key 2 Z w ag 1 eg [(⟨31, itoa i⟩ : Key)]) : Calls Tryz.prog 12 #[.slice ar r cr, .agg ((⟨0, [], []⟩ : Bas).row a1 n1 e1 a2 n2 e2).toArray, .agg ((⟨0, [], [rec1 i v]⟩ : Bas).row c1 p1 g1 c2 p2 g2).toArray, .slice ag 1 eg] w fun e w' => ∃ Z' : Nat → Prop, e = .returned (.bool true) ∧ Zle w.heap.size Z Z' ∧ St w M Z' w' [] := by
 have hx1 : SimB i (⟨0, [], []⟩ : Bas) := ⟨rfl, rfl, Nat.zero_le _, fun y hy => by cases hy⟩
 refine enter (args := [.slice ar r cr, .agg ((⟨0, [], []⟩ : Bas).row a1 n1 e1 a2 n2 e2).toArray, .agg ((⟨0, [], [rec1 i v]⟩ : Bas).row c1 p1 g1 c2 p2 g2).toArray, .slice ag 1 eg]) Tryz.func12 rfl Tryz.ntmps12 rfl ?_
 have st0 := hst
 have st1 := st0.fact (As.mkro hu) (fun _ hx => hx)
 have st2 := st1.fact (As.mkro hii) (fun _ hx => hx)
 have st3 := st2.fact (As.mkro hr) (fun _ hx => hx)
 have st4 := st3.fact (As.mkro hr2) (fun _ hx => hx)
 have st5 := st4.fact (As.mkro hg) (fun _ hx => hx)
 refine WC.seq ?_
 refine WC.region ?_
 refine WL.go rfl (OX.box rfl rfl rfl fun b5 w1 nw5 hb5 => ?_)
 have st6 := st5.newB nw5 hb5
 refine WL.go rfl (OX.box rfl rfl rfl fun b6 w2 nw6 hb6 => ?_)
 have st7 := st6.newB nw6 hb6
 refine WL.p rfl rfl (PV.as rfl) <| WL.nil ?_
 refine EX.seqN ?_
 refine WC.seq ?_
 refine WC.seq ?_
 refine WC.region ?_
 refine WL.p rfl rfl (PV.mv rfl) <| WL.p rfl rfl (PV.ldA agg40 (Blk.range (As.gb st7.g1)) rfl rfl) <| ?_
 refine WL.go rfl (OX.call cf19 rfl rfl ((pecheck_calls (x := (⟨0, [], []⟩ : Bas)) h99 hs h24 (As.gr st7.g6) (As.gr st7.g5) (As.gr st7.g4) hx1).mono ?_))
 rintro _ w3 ⟨rfl, s3⟩
 refine ⟨_, rfl, ?_⟩
 have st8 := st7.step s3
 refine WL.p rfl rfl (PV.nei rfl rfl) <| WL.nil ?_
 refine EX.seqN ?_
 refine WC.cond rfl (fun g15 => ?_) (fun g15 => ?_)
 ·
  skip
  exact absurd g15 (by first | (simp; done) | (simp; omega) | (simp_all; done) | (simp_all; omega))
 ·
  skip
  refine WC.skip ?_
  refine EX.seqN ?_
  refine WC.seq ?_
  refine WC.region ?_
  refine WL.p rfl rfl (PV.mv rfl) <| WL.p rfl rfl (PV.ldA agg40 (Blk.range (As.gb st8.g1)) rfl rfl) <| ?_
  have st9 := st8
  refine WL.go rfl (OX.call cf21 rfl rfl ((pwnew0_calls st9.e0 (As.gr st9.g5) (As.gr st9.g4)).mono ?_))
  rintro _ w4 ⟨D, wb, Z1, rfl, hZ1a, hst4⟩
  refine ⟨_, rfl, ?_⟩
  have st10 := St.leave (l0 := []) st9 hst4 hZ1a
  simp only [List.cons_append, List.nil_append] at st10
  have hZ1 := hZ1a.le st9.size
  refine WL.p rfl rfl (PV.as rfl) <| WL.nil ?_
  refine EX.seqN ?_
  refine WC.seq ?_
  refine WC.seq ?_
  refine WC.region ?_
  refine WL.p rfl rfl (PV.mv rfl) <| WL.p rfl rfl (PV.len' sl25 rfl) <| WL.p rfl rfl (PV.mv rfl) <| WL.nil ?_
  refine EX.seqN ?_
  refine WC.block ?_
  refine WC.loopN 2 ?_
  refine LoopN.s ?_
  refine WC.seq ?_
  refine WC.region ?_
  refine WL.p rfl rfl (PV.lss rfl rfl) <| WL.nil ?_
  refine EX.seqN ?_
  refine WC.seq ?_
  refine WC.cond rfl (fun g22 => ?_) (fun g22 => ?_)
  ·
   skip
   refine WC.skip ?_
   refine EX.seqN ?_
   refine WC.seq ?_
   refine WC.block ?_
   refine WC.seq ?_
   obtain ⟨b_x1, o_x1, r_x1, ha_x1, hl_x1, hR_x1, hr_x1, hz_x1⟩ := Rd.at (As.gr st10.g4) (Nat.zero_lt_one)
   have hR_x1 := RR.flat_eq hR_x1
   subst hR_x1
   have st11 := st10.fact (As.mkrg hz_x1 (st10.zlt _ hz_x1) hr_x1) (fun _ hx => hx)
   refine WC.region ?_
   refine WL.p rfl rfl (PV.ixS sl25 (i := 0) ha_x1 rfl rfl Nat.zero_lt_one) <| WL.p rfl rfl (PV.ldA agg27 (As.grg st11.g0) rfl rfl) <| ?_
   refine WL.go rfl (OX.alloc zv27 rfl fun b11 w5 nw11 hb11 => ?_)
   have st12 := st11.newB nw11 hb11
   refine WL.go rfl (OX.stW sz27 (As.gb st12.g0) rfl rfl rfl rfl rfl fun w6 ss0 _ hs0 => ?_)
   have st13 := st12.updB ss0 hs0
   refine WL.nil ?_
   refine EX.seqN ?_
   refine WC.seq ?_
   refine WC.region ?_
   refine WL.p rfl rfl (PV.mv rfl) <| WL.p rfl rfl (PV.ldA agg27 (Blk.range (As.gb st13.g0)) rfl rfl) <| ?_
   refine WL.go rfl (OX.call cf29 rfl rfl ((pwwhy0_calls (As.gb st13.g2) (As.gm st13.g3)).mono ?_))
   rintro _ w7 ⟨rfl, s7⟩
   refine ⟨_, rfl, ?_⟩
   have st14 := st13.step s7
   refine WL.p rfl rfl (PV.fieldL (fs := [_, _]) (f := 0) (off := 0) (T := 76) Tryz.underlying76 rfl rfl (show ∀ w, (isAgg 3).run _ w = .ok false w from Tryz.isAgg3) rfl rfl) <| WL.p rfl rfl (PV.eqi rfl rfl) <| WL.nil ?_
   refine EX.seqN ?_
   refine WC.cond rfl (fun g29 => ?_) (fun g29 => ?_)
   ·
    skip
    exact absurd g29 (by first | (simp; done) | (simp; omega) | (simp_all; done) | (simp_all; omega))
   ·
    skip
    refine WC.skip ?_
    refine EX.blkN ?_
    refine EX.seqN ?_
    refine WC.region ?_
    refine WL.p rfl rfl (PV.add rfl rfl (by omega) (by omega)) <| WL.p rfl rfl (PV.mv rfl) <| WL.nil ?_
    refine EX.againN ?_
    refine LoopN.s ?_
    refine WC.seq ?_
    refine WC.region ?_
    refine WL.p rfl rfl (PV.lss rfl rfl) <| WL.nil ?_
    refine EX.seqN ?_
    refine WC.seq ?_
    refine WC.cond rfl (fun g22 => ?_) (fun g22 => ?_)
    ·
     skip
     exact absurd g22 (by first | (simp; done) | (simp; omega) | (simp_all; done) | (simp_all; omega))
    ·
     skip
     refine WC.exit ?_
     refine EX.thenX ?_
     refine EX.thenX ?_
     refine EX.blkX ?_
     refine EX.seqN ?_
     refine WC.seq ?_
     have hN10 : ∀ x : Nat, w7.heap.size ≤ x → w7.heap.size ≤ x := fun _ h => h
     refine WC.drawnG (m := 7) [] [3] [0, 1, 2, 3, 4, 5, 6] [] st14 (Sub1.cons M0 <| Sub1.cons M1 <| Sub1.cons M2 <| Sub1.cons M3 <| Sub1.cons M4 <| Sub1.cons M5 <| Sub1.cons M6 <| Sub1.cons M7 <| Sub1.cons M8 <| Sub1.cons M9 <| Sub1.cons M10 <| Sub1.nil) mixed (by kernel_rfl) (by kernel_rfl) rfl ?_
     refine DG.p rfl rfl rfl rfl rfl rfl (fun wx Zx Rx hNx hSx hix => PV.fa fa40_2 rfl) <| DG.p rfl rfl rfl rfl rfl rfl (fun wx Zx Rx hNx hSx hix => PV.ld1 one38 (Blk.range (As.gb (hSx.sv hix).g5)) rfl rfl) <| DG.p rfl rfl rfl rfl rfl rfl (fun wx Zx Rx hNx hSx hix => PV.mv rfl) <| ?_
     refine DG.ch rfl rfl rfl rfl rfl rfl (fun w8 R3x hN3x st15 hsd3x => ?_)
     simp only [List.cons_append, List.nil_append] at st15
     have st16 := st15
     refine OX.call cf31 rfl rfl ((pothers0_calls st16.e0 (As.gr st16.g8)).mono ?_)
     rintro _ w9 ⟨h1, h2, rfl, hst9⟩
     have st17 := St.leave (l0 := []) st16 hst9 (Zle.refl _ _)
     simp only [List.cons_append, List.nil_append] at st17
     refine ⟨_, rfl, hst9.chg.size, _, rfl, _, _, _, st17, AppE.cons <| AppE.cons <| AppE.cons <| AppE.cons <| AppE.cons <| AppE.cons <| AppE.cons <| AppE.cons <| AppE.cons <| AppE.cons <| AppE.cons <| AppE.nil, Sub1.cons M0 <| Sub1.cons M1 <| Sub1.cons M2 <| Sub1.cons M3 <| Sub1.cons M4 <| Sub1.cons M5 <| Sub1.cons M6 <| Sub1.cons M7 <| Sub1.cons M8 <| Sub1.cons M9 <| Sub1.cons M10 <| Sub1.nil, ?_⟩
     refine DG.p rfl rfl rfl rfl rfl rfl (fun wx Zx Rx hNx hSx hix => PV.fa fa40_2 rfl) <| DG.p rfl rfl rfl rfl rfl rfl (fun wx Zx Rx hNx hSx hix => PV.ld1 one38 (Blk.range (As.gb (hSx.sv hix).g4)) rfl rfl) <| DG.p rfl rfl rfl rfl rfl rfl (fun wx Zx Rx hNx hSx hix => PV.mv rfl) <| DG.nil ?_
     intro w10 hsz10 st18
     simp only [List.map_cons, List.map_nil, List.cons_append, List.nil_append, SdK.it] at st18
     have st19 := st18
     refine WL.go rfl (OX.call cf31 rfl rfl ((pothers1o_calls (x := rec1 i v) st19.e0 (As.gr st19.g7) (As.gr st19.g6) (by simp [rec1])).mono ?_))
     rintro _ w11 ⟨h3, h4, rfl, hst11⟩
     refine ⟨_, rfl, ?_⟩
     have st20 := St.leave (l0 := []) st19 hst11 (Zle.refl _ _)
     simp only [List.cons_append, List.nil_append] at st20
     refine WL.go rfl (OX.call cf30 rfl rfl ((pequalR0_calls).mono ?_))
     rintro _ w12 ⟨rfl, s12⟩
     refine ⟨_, rfl, ?_⟩
     have st21 := st20.step s12
     refine WL.p rfl rfl (PV.as rfl) <| WL.nil (EX.np ?_)
     refine EX.seqN ?_
     refine WC.ret ?_
     refine EX.ret1 rfl rfl ?_
     exact ⟨_, rfl, hZ1, st21.drop.drop.drop.drop.drop.drop.drop.drop.drop.drop.drop⟩
  ·
   skip
   exact absurd g22 (by first | (simp; done) | (simp; omega) | (simp_all; done) | (simp_all; omega))
end Go.Rc

