/- Walks over the program, part WR. Conditions: as each theorem says. -/
import Derived.Test.YtlineioeefgnhaaGreatDoorFacts
import Derived.Test.YtlineioeefgnhaaGreatDoorWQ
import Derived.Test.YtlineioeefgnhaaGreatDoorWM
import Derived.Test.YtlineioeefgnhaaGreatDoorBc
set_option linter.unusedVariables false
set_option linter.unusedSimpArgs false
set_option linter.unusedSectionVars false
namespace Go.Rc
open Go Go.Proofs
set_option maxHeartbeats 400000
theorem paonce_calls {l : List (List Key)} {A B : Nat → Prop} {a : Option Addr} {n c : Nat} {w : World} (hl : Ksl A B w a n l) : Calls Tryz.prog 6 #[.slice a n c] w fun e w' => e = .returned (.bool (decide l.flatten.Nodup)) ∧ Chg [] w w'  := by
 have hlen := LR.len hl
 have hle := LR.le hl
 refine enter (args := [.slice a n c]) Tryz.func6 rfl Tryz.ntmps6 rfl ?_
 have st0 : St w (fun _ => False) (fun _ => False) w [] := St.start (by simp)
 refine WC.seq ?_
 refine WC.region ?_
 refine WL.p rfl rfl (PV.as rfl) <| WL.nil ?_
 refine EX.seqN ?_
 refine WC.seq ?_
 refine WC.region ?_
 refine WL.go rfl (OX.makeMap Key.val rfl fun b8 w1 nw8 hm8 => ?_)
 have st1 := st0.newM nw8 hm8
 refine WL.p rfl rfl (PV.as rfl) <| WL.nil ?_
 refine EX.seqN ?_
 refine WC.seq ?_
 refine WC.seq ?_
 refine WC.region ?_
 refine WL.p rfl rfl (PV.mv rfl) <| WL.p rfl rfl (PV.len' sl22 rfl) <| WL.p rfl rfl (PV.mv rfl) <| WL.nil ?_
 refine EX.seqN ?_
 refine WC.block ?_
 refine WC.loopS1 (σ := Nat × (List (Key × Value))) (kvs := fun (i, ml) => [(3, .map (some b8)), (9, .slice a n c), (10, .int .i64 (n : Int)), (11, .int .i64 (i : Int))]) (F := fun (i, ml) => [As.map Key.val b8 ml]) (I := fun (i, ml) => (i ≤ n) ∧ (Cnt ml (l.take i).flatten) ∧ ((l.take i).flatten.Nodup) ∧ True) (μ := fun (i, ml) => n - i) (0, []) (st1) (Sub.cons rfl <| Sub.cons rfl <| Sub.cons rfl <| Sub.consV rfl (by first | rfl | (simp; done) | (congr 1; omega) | (simp only []; congr 1; omega)) <| Sub.nil) (⟨by omega, Cnt.nil, List.nodup_nil, trivial⟩) ?_
 rintro ⟨i, ml⟩ w2 st2 ⟨hi, hc, hnd, _⟩
 simp only [List.cons_append, List.nil_append] at st2 hi hc hnd ⊢
 refine WC.seq ?_
 refine WC.region ?_
 refine WL.p rfl rfl (PV.lss rfl rfl) <| WL.nil ?_
 refine EX.seqN ?_
 refine WC.seq ?_
 refine WC.cond rfl (fun g12 => ?_) (fun g12 => ?_)
 ·
  skip
  simp at g12
  have hi2 : i < l.length := by omega
  obtain ⟨b_x, o_x, r_x, ha_x, _, ⟨q1, q2, q3, rfl, hks⟩, hr_x, _⟩ := LR.at_ hl (getElem_some hi2)
  have hkn := hks.len
  have hkl := hks.le
  refine WC.skip ?_
  refine EX.seqN ?_
  refine WC.seq ?_
  refine WC.block ?_
  refine WC.seq ?_
  refine WC.region ?_
  refine WL.p rfl rfl (PV.ixS sl22 ha_x rfl rfl (by omega)) <| WL.p rfl rfl (PV.ld0 one25 (range_chg hr_x (St.cg st2) (by simp)) rfl rfl) <| WL.p rfl rfl (PV.as rfl) <| WL.nil ?_
  refine EX.seqN ?_
  refine WC.seq ?_
  refine WC.region ?_
  refine WL.p rfl rfl (PV.mv rfl) <| WL.p rfl rfl (PV.len' sl25 rfl) <| WL.p rfl rfl (PV.mv rfl) <| WL.nil ?_
  refine EX.seqN ?_
  refine WC.block ?_
  refine WC.loopS1 (σ := Nat × (List (Key × Value))) (kvs := fun (j, m2) => [(3, .map (some b8)), (9, .slice a n c), (10, .int .i64 (n : Int)), (11, .int .i64 (i : Int)), (15, .slice q1 q2 q3), (16, .int .i64 (q2 : Int)), (17, .int .i64 (j : Int))]) (F := fun (j, m2) => [As.map Key.val b8 m2]) (I := fun (j, m2) => (j ≤ q2) ∧ (Cnt m2 ((l.take i).flatten ++ l[i].take j)) ∧ (((l.take i).flatten ++ l[i].take j).Nodup) ∧ True) (μ := fun (j, m2) => q2 - j) (0, ml) (st2) (Sub.cons rfl <| Sub.cons rfl <| Sub.cons rfl <| Sub.cons rfl <| Sub.cons rfl <| Sub.cons rfl <| Sub.consV rfl (by first | rfl | (simp; done) | (congr 1; omega) | (simp only []; congr 1; omega)) <| Sub.nil) (⟨by omega, by simpa using hc, by simpa using hnd, trivial⟩) ?_
  rintro ⟨j, m2⟩ w3 st3 ⟨hj, hc2, hnd2, _⟩
  simp only [List.cons_append, List.nil_append] at st3 hj hc2 hnd2 ⊢
  refine WC.seq ?_
  refine WC.region ?_
  refine WL.p rfl rfl (PV.lss rfl rfl) <| WL.nil ?_
  refine EX.seqN ?_
  refine WC.seq ?_
  refine WC.cond rfl (fun g18 => ?_) (fun g18 => ?_)
  ·
   skip
   simp at g18
   have hj2 : j < l[i].length := by omega
   obtain ⟨b_y, o_y, r_y, ha_y, _, rfl, hr_y, _⟩ := hks.at_ (getElem_some hj2)
   have hr_y := range_chg hr_y (St.cg st3) (by simp)
   have hml : (mget m2 l[i][j]).getD (.bool false) = .bool (decide (l[i][j] ∈ (l.take i).flatten ++ l[i].take j)) := by rw [hc2.get]; split <;> rename_i h <;> simp [h]
   refine WC.skip ?_
   refine EX.seqN ?_
   refine WC.seq ?_
   refine WC.block ?_
   refine WC.seq ?_
   refine WC.region ?_
   refine WL.p rfl rfl (PV.ixS sl25 ha_y rfl rfl (by omega)) <| WL.p rfl rfl (PV.ldA agg27 hr_y rfl rfl) <| ?_
   refine WL.go rfl (OX.alloc zv27 rfl fun b7 w4 nw7 hb7 => ?_)
   have st4 := st3.newB nw7 hb7
   refine WL.go rfl (OX.stW sz27 (As.gb st4.g0) rfl rfl rfl rfl rfl fun w5 ss0 _ hs0 => ?_)
   have st5 := st4.updB ss0 hs0
   refine WL.nil ?_
   refine EX.seqN ?_
   refine WC.seq ?_
   refine WC.seq ?_
   refine WC.region ?_
   refine WL.p rfl rfl (PV.mv rfl) <| WL.p rfl rfl (PV.ldA agg27 (Blk.range (As.gb st5.g0)) rfl rfl) <| WL.p rfl rfl (PV.lookD kk27 und30 zvv4 (As.gm st5.g1) (hml) rfl rfl) <| WL.nil ?_
   refine EX.seqN ?_
   refine WC.cond rfl (fun g23 => ?_) (fun g23 => ?_)
   ·
    skip
    have hbad := flat_at hi2 hj2 (of_decide_eq_true g23)
    refine WC.seq ?_
    refine WC.region ?_
    refine WL.p rfl rfl (PV.as rfl) <| WL.nil ?_
    refine EX.seqN ?_
    refine WC.ret ?_
    refine EX.thenR ?_
    refine EX.blkR ?_
    refine EX.thenR ?_
    refine EX.thenR ?_
    refine EX.blkR ?_
    refine EX.blkR ?_
    refine EX.thenR ?_
    refine EX.thenR ?_
    refine EX.blkR ?_
    refine EX.thenR ?_
    refine EX.ret1 rfl rfl ?_
    exact ⟨by rw [decide_eq_false hbad], (St.cg st5)⟩
   ·
    skip
    have g23 := of_decide_eq_false g23
    refine WC.skip ?_
    refine EX.seqN ?_
    refine WC.region ?_
    refine WL.p rfl rfl (PV.mv rfl) <| WL.p rfl rfl (PV.ldA agg27 (Blk.range (As.gb st5.g0)) rfl rfl) <| ?_
    refine WL.go rfl (OX.put kk27 und30 (As.gm st5.g1) rfl rfl rfl fun w6 smp1 hmp1 => ?_)
    have st6 := st5.p1.updM smp1 hmp1
    refine WL.nil ?_
    refine EX.blkN ?_
    refine EX.seqN ?_
    refine WC.region ?_
    refine WL.p rfl rfl (PV.add rfl rfl (by omega) (by omega)) <| WL.p rfl rfl (PV.mv rfl) <| WL.nil ?_
    refine EX.again (j + 1, _) (Sub.cons rfl <| Sub.cons rfl <| Sub.cons rfl <| Sub.cons rfl <| Sub.cons rfl <| Sub.cons rfl <| Sub.consV rfl (by first | rfl | (simp; done) | (congr 1; omega) | (simp only []; congr 1; omega)) <| Sub.nil) ⟨st6.p1.drop, ⟨by omega, by rw [step_pre hi2 hj2]; exact hc2.put _, by rw [step_pre hi2 hj2]; exact nodup_snoc.2 ⟨hnd2, g23⟩, trivial⟩⟩ (by first | (simp only []; omega) | omega)
  ·
   skip
   simp at g18
   have hje : l[i].take j = l[i] := List.take_of_length_le (by omega)
   have hce := hc2
   rw [hje] at hce
   have hne := hnd2
   rw [hje] at hne
   refine WC.exit ?_
   refine EX.thenX ?_
   refine EX.thenX ?_
   refine EX.blkX ?_
   refine EX.blkN ?_
   refine EX.seqN ?_
   refine WC.region ?_
   refine WL.p rfl rfl (PV.add rfl rfl (by omega) (by omega)) <| WL.p rfl rfl (PV.mv rfl) <| WL.nil ?_
   refine EX.again (i + 1, m2) (Sub.cons rfl <| Sub.cons rfl <| Sub.cons rfl <| Sub.consV rfl (by first | rfl | (simp; done) | (congr 1; omega) | (simp only []; congr 1; omega)) <| Sub.nil) ⟨st3, ⟨by omega, by rw [flat_take hi2]; exact hce, by rw [flat_take hi2]; exact hne, trivial⟩⟩ (by first | (simp only []; omega) | omega)
 ·
  skip
  simp at g12
  have hie : l.take i = l := List.take_of_length_le (by omega)
  rw [hie] at hnd
  refine WC.exit ?_
  refine EX.thenX ?_
  refine EX.thenX ?_
  refine EX.blkX ?_
  refine EX.seqN ?_
  refine WC.seq ?_
  refine WC.region ?_
  refine WL.p rfl rfl (PV.as rfl) <| WL.nil ?_
  refine EX.seqN ?_
  refine WC.ret ?_
  refine EX.ret1 rfl rfl ?_
  exact ⟨by rw [decide_eq_true hnd], (St.cg st2)⟩
set_option maxHeartbeats 1600000 in
theorem awake_calls {w : World} {M Z : Nat → Prop} (hst : St w M Z w []) (ht : Tab Tryz.prog Z w) : Calls Tryz.prog 4 #[] w fun e w' => ∃ Z' : Nat → Prop, e = .returned (.bool true) ∧ St w M Z' w' [] := by
 refine enter (args := []) Tryz.func4 rfl Tryz.ntmps4 rfl ?_
 have st0 := hst
 have st1 := st0.fact (B := As.fz (FZ.tab Tryz.prog)) ht (fun _ hx => hx)
 refine WC.seq ?_
 refine WC.region ?_
 refine WL.p rfl rfl (PV.as rfl) <| WL.nil ?_
 refine EX.seqN ?_
 refine WC.seq ?_
 refine WC.region ?_
 refine WL.p rfl rfl (PV.build' (us := [.bool false, .slice none 0 0, .int .i64 1, .int .i64 3]) bt35 rfl rfl rfl) <| ?_
 refine WL.go rfl (OX.bslice' (us := [.bool false, .slice none 0 0, .int .i64 1, .int .i64 3]) bs36_1 rfl rfl rfl rfl fun b11 w1 nw11 hb11 => ?_)
 have st2 := St.newS (R := RR.rule) (E := 35) (k := 4) (a := some ⟨b11, 0, none⟩) (n := 1) (c := 1) (xs := [r3]) st1 nw11.ext (OR.blk1 hb11 (Nat.zero_le _) rfl (by simp [Value.oneCell']) ⟨none, 0, 0, rfl, SR.nil _ _ _ _⟩) (fun x hx => by simp [oblk] at hx; subst hx; exact nw11.ge)
 refine WL.p rfl rfl (PV.as rfl) <| WL.nil ?_
 have st3 := st2.frzS (by simp)
 refine EX.seqN ?_
 refine WC.seq ?_
 refine WC.region ?_
 refine WL.p rfl rfl (PV.mv rfl) <| WL.p rfl rfl (PV.build' (us := ((⟨0, [], []⟩ : Bas).row none 0 0 none 0 0)) bt40 rfl rfl rfl) <| WL.p rfl rfl (PV.mv rfl) <| ?_
 refine WL.go rfl (OX.call cf8 rfl rfl ((of_calls (n := 0) (rules := [r3]) (As.gr st3.g0)).mono ?_))
 rintro _ w2 ⟨rfl, s2⟩
 refine ⟨_, rfl, ?_⟩
 rw [show ofK [r3] 0 = K0 from K0_of]
 have st4 := st3.step s2
 refine WL.go rfl (OX.bslice' (us := K0.cells) bs25_1 rfl rfl rfl rfl fun b17 w3 nw17 hb17 => ?_)
 have st5 := St.newS (R := RR.key) (E := 27) (k := 2) (a := some ⟨b17, 0, none⟩) (n := 1) (c := 1) (xs := [K0]) st4 nw17.ext (OR.blk1 hb17 (Nat.zero_le _) rfl (by simp [Key.cells, Value.oneCell']) rfl) (fun x hx => by simp [oblk] at hx; subst hx; exact nw17.ge)
 have st6 := st5.frzS (by simp)
 have st7 := st6
 refine WL.go rfl (OX.call cf7 rfl rfl ((request_calls (x := ⟨0, [], []⟩) (s' := s1) r3_ok st7.e0 (As.gr st7.g1) (Rd.nil _ _ _ _) (Rd.nil _ _ _ _) (As.gr st7.g0) (As.gf st7.g2) check0 good0 (fun k hk => by simp at hk; subst hk; exact K0_knd) (by simp) (run0 _) (by simp)).mono ?_))
 rintro _ w4 ⟨x1, n1, e1, x2, n2, e2, xg, ng, eg, Z1, rfl, hZ1, hi1, hr1, hst4⟩
 refine ⟨_, rfl, ?_⟩
 have st8 := St.leave (l0 := []) st7 hst4 hZ1
 simp only [List.cons_append, List.nil_append] at st8
 rw [s1_base] at hi1 hr1 ⊢
 obtain rfl : n1 = 0 := hi1.len
 obtain rfl : n2 = 1 := hr1.len
 have st9 := st8.eqS (s1_list)
 obtain rfl : ng = 1 := ((As.gs st9.g0)).len
 have st10 := st9.frzS (by simp)
 have st11 := st10.fact (As.mkro (hi1.mono (fun _ h => .inl h))) (fun _ hx => hx)
 have st12 := st11.fact (As.mkro (hr1.mono (fun _ h => .inl h))) (fun _ hx => hx)
 refine WL.p rfl rfl (PV.mv rfl) <| WL.p rfl rfl (PV.ext rfl rfl) <| WL.p rfl rfl (PV.ext rfl rfl) <| WL.p rfl rfl (PV.ext rfl rfl) <| ?_
 refine WL.go rfl (OX.alloc zv40 rfl fun b2 w5 nw2 hb2 => ?_)
 have st13 := st12.newB nw2 hb2
 refine WL.go rfl (OX.stW sz40 (As.gb st13.g0) rfl rfl rfl rfl rfl fun w6 ss0 _ hs0 => ?_)
 have st14 := st13.updB ss0 hs0
 refine WL.p rfl rfl (PV.as rfl) <| WL.p rfl rfl (PV.as rfl) <| WL.nil ?_
 refine EX.seqN ?_
 refine WC.seq ?_
 refine WC.region ?_
 refine WL.p rfl rfl (PV.ldA agg40 (Blk.range (As.gb st14.g0)) rfl rfl) <| ?_
 have st15 := st14
 refine WL.go rfl (OX.call cf9 rfl rfl ((copyB_calls (x := (⟨0, [], [rec1 0 v3]⟩ : Bas)) st15.e0 (As.gr st15.g2) (As.gr st15.g1) (by simp) (by simp)).mono ?_))
 rintro _ w7 ⟨f1, f2, f3, f4, f5, f6, Z2, rfl, hZ2, hst7⟩
 refine ⟨_, rfl, ?_⟩
 have st16 := St.leave (l0 := []) st15 hst7 hZ2
 simp only [List.cons_append, List.nil_append] at st16
 obtain rfl : f2 = 0 := ((As.gs st16.g0)).len
 obtain rfl : f5 = 1 := ((As.gs st16.g1)).len
 have st17 := st16.frzS (by simp)
 refine WL.go rfl (OX.alloc zv40 rfl fun b5 w8 nw5 hb5 => ?_)
 have st18 := st17.newB nw5 hb5
 refine WL.go rfl (OX.stW sz40 (As.gb st18.g0) rfl rfl rfl rfl rfl fun w9 ss1 _ hs1 => ?_)
 have st19 := st18.updB ss1 hs1
 refine WL.nil ?_
 refine EX.seqN ?_
 refine WC.seq ?_
 obtain ⟨b_y1, r_y1, ha_y1, hl_y1, hR_y1, hr_y1⟩ := Ow.at (As.gs st19.g2) (by simp) (show [rec1 0 v3][0]? = some (rec1 0 v3) from rfl)
 refine WC.region ?_
 refine WL.p rfl rfl (PV.fa fa40_2 rfl) <| WL.p rfl rfl (PV.ld1 one38 (Blk.range (As.gb st19.g0)) rfl rfl) <| WL.p rfl rfl (PV.ixS sl38 (i := 0) ha_y1 rfl rfl Nat.zero_lt_one) <| WL.p rfl rfl (PV.fa fa47_1 rfl) <| ?_
 refine WL.go rfl (OX.stOf (i := 0) (f := 2) sz9 (As.gs st19.g2) ha_y1 rfl (by decide) rfl rfl rfl (rec1 0 v4) (fun r hl ⟨a, n, c, h1, h2, h3⟩ => ⟨a, n, c, by rw [h1]; rfl, h2, h3⟩) fun w10 s8 h8 => ?_)
 have st20 := st19.p2.updS s8 h8 (fun x h => .inl h)
 have st21 := st20.eqS ((show [rec1 0 v3].set 0 (rec1 0 v4) = [rec1 0 v4] from rfl))
 have st22 := st21.frzS (by simp)
 refine WL.nil ?_
 refine EX.seqN ?_
 refine WC.seq ?_
 refine WC.region ?_
 refine WL.p rfl rfl (PV.mv rfl) <| WL.p rfl rfl (PV.ldA agg40 (Blk.range (As.gb st22.g3)) rfl rfl) <| ?_
 have st23 := st22
 refine WL.go rfl (OX.call cf10 rfl rfl ((pacheck1_calls (rules := [r3]) (i := 0) (v := v3) st23.e0 (by simp) (by omega) r3_sim (by simp) (As.gr st23.g8) (As.gr st23.g5) (As.gr st23.g4) v3_size rfl).mono ?_))
 rintro _ w11 ⟨k1, k2, Z3, rfl, hZ3, hst11⟩
 refine ⟨_, rfl, ?_⟩
 have st24 := St.leave (l0 := []) st23 hst11 hZ3
 simp only [List.cons_append, List.nil_append] at st24
 refine WL.p rfl rfl (PV.mv rfl) <| WL.p rfl rfl (PV.ext rfl rfl) <| WL.p rfl rfl (PV.ext rfl rfl) <| WL.p rfl rfl (PV.as rfl) <| WL.p rfl rfl (PV.as rfl) <| WL.nil ?_
 refine EX.seqN ?_
 refine WC.seq ?_
 refine WC.region ?_
 refine WL.p rfl rfl (PV.mv rfl) <| WL.p rfl rfl (PV.ldA agg40 (Blk.range (As.gb st24.g1)) rfl rfl) <| ?_
 have st25 := st24
 refine WL.go rfl (OX.call cf10 rfl rfl ((pacheck0_calls (rules := [r3]) (i := 0) (v := v4) st25.e0 (by simp) (by omega) r3_sim (by simp) (As.gr st25.g8) (As.gr st25.g2) (As.gr st25.g0) (by decide) v34).mono ?_))
 rintro _ w12 ⟨k3, k4, Z4, rfl, hZ4, hst12⟩
 refine ⟨_, rfl, ?_⟩
 have st26 := St.leave (l0 := []) st25 hst12 hZ4
 simp only [List.cons_append, List.nil_append] at st26
 refine WL.p rfl rfl (PV.mv rfl) <| WL.p rfl rfl (PV.ext rfl rfl) <| WL.p rfl rfl (PV.ext rfl rfl) <| WL.p rfl rfl (PV.as rfl) <| WL.p rfl rfl (PV.as rfl) <| WL.nil ?_
 refine EX.seqN ?_
 refine WC.seq ?_
 refine WC.region ?_
 refine WL.p rfl rfl (PV.mv rfl) <| WL.p rfl rfl (PV.eqi rfl rfl) <| WL.p rfl rfl (PV.mv rfl) <| ?_
 refine WL.gsplit (t := 42) rfl (fun g42 => ?_) (fun g42 => ?_)
 ·
  skip
  refine WL.p rfl rfl (PV.mv rfl) <| WL.p rfl rfl (PV.eqi rfl rfl) <| WL.p rfl rfl (PV.pickT rfl rfl rfl) <| WL.p rfl rfl (PV.mv rfl) <| ?_
  refine WL.gsplit (t := 46) rfl (fun g46 => ?_) (fun g46 => ?_)
  ·
   skip
   refine WL.p rfl rfl (PV.mv rfl) <| WL.p rfl rfl (PV.len' sl48 rfl) <| WL.p rfl rfl (PV.eqi rfl rfl) <| WL.p rfl rfl (PV.pickT rfl rfl rfl) <| WL.p rfl rfl (PV.mv rfl) <| ?_
   refine WL.gsplit (t := 51) rfl (fun g51 => ?_) (fun g51 => ?_)
   ·
    skip
    refine WL.p rfl rfl (PV.mv rfl) <| WL.p rfl rfl (PV.len' sl48 rfl) <| WL.p rfl rfl (PV.eqi rfl rfl) <| WL.p rfl rfl (PV.pickT rfl rfl rfl) <| WL.p rfl rfl (PV.mv rfl) <| ?_
    refine WL.gsplit (t := 56) rfl (fun g56 => ?_) (fun g56 => ?_)
    ·
     skip
     refine WL.p rfl rfl (PV.mv rfl) <| WL.p rfl rfl (PV.ldA agg40 (Blk.range (As.gb st26.g3)) rfl rfl) <| WL.p rfl rfl (PV.mv rfl) <| ?_
     have st27 := st26
     refine WL.go rfl (OX.call cf11 rfl rfl ((paright1_calls (rules := [r3]) (i := 0) (v := v3) st27.e0 (by simp) (by omega) r3_sim (by simp) (As.gr st27.g8) (As.gr st27.g5) (As.gr st27.g4) (As.gr st27.g6) v3_size rfl).mono ?_))
     rintro _ w13 ⟨rfl, hst13⟩
     refine ⟨_, rfl, ?_⟩
     have st28 := St.leave (l0 := []) st27 hst13 (Zle.refl _ _)
     simp only [List.cons_append, List.nil_append] at st28
     refine WL.p rfl rfl (PV.pickT rfl rfl rfl) <| WL.p rfl rfl (PV.mv rfl) <| WL.p rfl rfl (PV.mv rfl) <| WL.p rfl rfl (PV.ldA agg40 (Blk.range (As.gb st28.g1)) rfl rfl) <| WL.p rfl rfl (PV.mv rfl) <| ?_
     have st29 := st28
     refine WL.go rfl (OX.call cf11 rfl rfl ((paright0_calls (rules := [r3]) (i := 0) (v := v4) st29.e0 (by simp) (by omega) r3_sim (by simp) (As.gr st29.g8) (As.gr st29.g2) (As.gr st29.g0) (As.gr st29.g6) (by decide) v34).mono ?_))
     rintro _ w14 ⟨rfl, hst14⟩
     refine ⟨_, rfl, ?_⟩
     have st30 := St.leave (l0 := []) st29 hst14 (Zle.refl _ _)
     simp only [List.cons_append, List.nil_append] at st30
     refine WL.p rfl rfl (PV.not rfl) <| WL.p rfl rfl (PV.pickT rfl rfl rfl) <| WL.p rfl rfl (PV.mv rfl) <| WL.p rfl rfl (PV.mv rfl) <| ?_
     refine WL.go rfl (OX.bslice' (us := [.slice xg 1 eg]) bs22_1 rfl rfl rfl rfl fun b71 w15 nw71 hb71 => ?_)
     have st31 := st30.newB nw71 hb71
     refine WL.go rfl (OX.call cf6 rfl rfl ((paonce_calls (l := [[K0]]) (SR.lr <| SR.blk1 (A := fun _ => True) (x := [K0]) (As.gb st31.g0) trivial rfl (by simp [Value.oneCell']) ⟨xg, 1, eg, rfl, SR.lr (As.gr st31.g7)⟩)).mono ?_))
     rintro _ w16 ⟨rfl, s16⟩
     refine ⟨_, rfl, ?_⟩
     rw [show decide ([[K0]].flatten.Nodup) = true by simp]
     have st32 := st31.step s16
     refine WL.p rfl rfl (PV.pickT rfl rfl rfl) <| WL.p rfl rfl (PV.mv rfl) <| WL.p rfl rfl (PV.mv rfl) <| WL.p rfl rfl (PV.mv rfl) <| ?_
     refine WL.go rfl (OX.bslice' (us := [.slice xg 1 eg, .slice xg 1 eg]) bs22_2 rfl rfl rfl rfl fun b77 w17 nw77 hb77 => ?_)
     have st33 := st32.newB nw77 hb77
     refine WL.go rfl (OX.call cf6 rfl rfl ((paonce_calls (l := [[K0], [K0]]) (SR.lr <| SR.blkR (rows := [[.slice xg 1 eg], [.slice xg 1 eg]]) (xs := [[K0], [K0]]) (As.gb st33.g0) rfl (by simp) (by simp [Value.oneCell']) (by simp) (fun i x r hx hr => by (have h1 := List.mem_of_getElem? hx; have h2 := List.mem_of_getElem? hr; simp at h1 h2; subst h1; subst h2; exact ⟨xg, 1, eg, rfl, SR.lr (As.gr st33.g8)⟩)))).mono ?_))
     rintro _ w18 ⟨rfl, s18⟩
     refine ⟨_, rfl, ?_⟩
     rw [show decide ([[K0], [K0]].flatten.Nodup) = false by simp]
     have st34 := st33.step s18
     refine WL.p rfl rfl (PV.not rfl) <| WL.p rfl rfl (PV.pickT rfl rfl rfl) <| WL.p rfl rfl (PV.mv rfl) <| WL.p rfl rfl (PV.mv rfl) <| WL.p rfl rfl (PV.build' (us := ((⟨0, [], []⟩ : Bas).row none 0 0 none 0 0)) bt40 rfl rfl rfl) <| WL.p rfl rfl (PV.ldA agg40 (Blk.range (As.gb st34.g5)) rfl rfl) <| WL.p rfl rfl (PV.mv rfl) <| ?_
     have st35 := st34
     refine WL.go rfl (OX.call cf12 rfl rfl ((pasound_calls (rules := [r3]) (i := 0) (v := v3) st35.e0 (by omega) r3_sim (by simp) (As.gr st35.g10) (Rd.nil _ _ _ _) (Rd.nil _ _ _ _) (As.gr st35.g6) (As.gr st35.g8)).mono ?_))
     rintro _ w19 ⟨Z5, rfl, hZ5, hst19⟩
     refine ⟨_, rfl, ?_⟩
     have st36 := St.leave (l0 := []) st35 hst19 hZ5
     simp only [List.cons_append, List.nil_append] at st36
     refine WL.p rfl rfl (PV.pickT rfl rfl rfl) <| WL.p rfl rfl (PV.as rfl) <| WL.nil ?_
     refine EX.seqN ?_
     refine WC.ret ?_
     refine EX.ret1 rfl rfl ?_
     exact ⟨_, rfl, st36.drop.drop.drop.drop.drop.drop.drop.drop.drop.drop.drop.drop⟩
    ·
     skip
     exact absurd g56 (by first | (simp; done) | (simp; omega) | (simp_all; done) | (simp_all; omega))
   ·
    skip
    exact absurd g51 (by first | (simp; done) | (simp; omega) | (simp_all; done) | (simp_all; omega))
  ·
   skip
   exact absurd g46 (by first | (simp; done) | (simp; omega) | (simp_all; done) | (simp_all; omega))
 ·
  skip
  exact absurd g42 (by first | (simp; done) | (simp; omega) | (simp_all; done) | (simp_all; omega))
 -- UNUSED ANNOTATIONS G62 G69 G74 G81
set_option maxHeartbeats 4000000 in
theorem auditLists_calls {lists : List (List Key)} {cells : List Nat} {al ac : Option Addr} {nl cl nc cc : Nat} {w : World} {M Z : Nat → Prop} (hst : St w M Z w []) (ht : Tab Tryz.prog Z w) (hl : (FZ.ksl al nl lists).p Z w) (hc : (FZ.byt ac nc cells).p Z w) : Calls Tryz.prog 3 #[.slice al nl cl, .slice ac nc cc] w fun e w' => e = .returned (.bool true) ∧ Chg [] w w'  := by
 have hln := LR.len hl
 have hll := LR.le hl
 have hcn := LR.len hc
 have hcl := LR.le hc
 refine enter (args := [.slice al nl cl, .slice ac nc cc]) Tryz.func3 rfl Tryz.ntmps3 rfl ?_
 have st0 := St.rb hst
 have st1 := st0.fact (B := As.fz (FZ.tab Tryz.prog)) ht (fun _ hx => hx)
 have st2 := st1.fact (B := As.fz (FZ.ksl al nl lists)) hl (fun _ hx => hx)
 have st3 := st2.fact (B := As.fz (FZ.byt ac nc cells)) hc (fun _ hx => hx)
 have st4 := st3.fact (B := As.fz (FKS [] [])) (FKS.nil _ _) (fun _ hx => hx)
 have st5 := st4.newN RR.hdr 25 1
 have st6 := st5.newN RR.key 27 2
 refine WC.seq ?_
 refine WC.region ?_
 refine WL.p rfl rfl (PV.as rfl) <| WL.nil ?_
 refine EX.seqN ?_
 refine WC.seq ?_
 refine WC.seq ?_
 refine WC.cut1S (t := 23) (v := .bool (decide ((20 : Int) < nl) || decide ((60 : Int) < nc))) st6 ?_ ?_
 ·
  skip
  refine WC.region ?_
  refine WL.p rfl rfl (PV.mv rfl) <| WL.p rfl rfl (PV.len' sl22 rfl) <| WL.p rfl rfl (PV.gtr rfl rfl) <| WL.p rfl rfl (PV.mv rfl) <| ?_
  refine WL.gsplit (t := 19) rfl (fun g19 => ?_) (fun g19 => ?_)
  ·
   skip
   refine WL.no rfl rfl <| WL.no rfl rfl <| WL.no rfl rfl <| WL.p rfl rfl (PV.pickT rfl rfl rfl) <| WL.nil ?_
   exact EX.meet1 9 rfl rfl rfl (by first | rfl | (simp only [g19]; done) | (simp only [g19]; rfl) | (simp [g19]; done) | (simp; done) | (simp at g19 ⊢ <;> omega) | (simp <;> omega) | (simp [g19] <;> omega) | (simp at g19 <;> omega)) (st6)
  ·
   skip
   refine WL.p rfl rfl (PV.mv rfl) <| WL.p rfl rfl (PV.len' sl23 rfl) <| WL.p rfl rfl (PV.gtr rfl rfl) <| WL.p rfl rfl (PV.pickF rfl rfl rfl) <| WL.nil ?_
   exact EX.meet1 9 rfl rfl rfl (by first | rfl | (simp only [g19]; done) | (simp only [g19]; rfl) | (simp [g19]; done) | (simp; done) | (simp at g19 ⊢ <;> omega) | (simp <;> omega) | (simp [g19] <;> omega) | (simp at g19 <;> omega)) (st6)
 intro w1 st7
 refine EX.seqN ?_
 refine WC.cond rfl (fun g23 => ?_) (fun g23 => ?_)
 ·
  skip
  refine WC.seq ?_
  refine WC.region ?_
  refine WL.go rfl (OX.call (xs := []) (args := []) cf4 rfl rfl ((awake_calls (st7.e0) (As.gf st7.g5)).mono ?_))
  rintro _ _ ⟨_, rfl, hzz⟩
  refine ⟨_, rfl, ?_⟩
  refine WL.p rfl rfl (PV.as rfl) <| WL.nil ?_
  refine EX.seqN ?_
  refine WC.ret ?_
  refine EX.thenR ?_
  refine EX.ret1 rfl rfl ?_
  exact ⟨rfl, Chg.trans (St.cg st7) (hzz.chg.chg (fun _ h => by obtain ⟨A, hA, _⟩ := h; cases hA))⟩
 ·
  skip
  simp at g23
  refine WC.skip ?_
  refine EX.seqN ?_
  refine WC.seq ?_
  refine WC.region ?_
  refine WL.p rfl rfl (PV.as rfl) <| WL.nil ?_
  refine EX.seqN ?_
  refine WC.seq ?_
  refine WC.seq ?_
  refine WC.region ?_
  refine WL.p rfl rfl (PV.mv rfl) <| WL.p rfl rfl (PV.len' sl23 rfl) <| WL.p rfl rfl (PV.mv rfl) <| WL.nil ?_
  refine EX.seqN ?_
  refine WC.block ?_
  refine WC.loopS (σ := Nat × Bool × (List (Option Addr × Nat × Nat)) × (List (List Key)) × (List Key) × (Nat → Prop) × (Option Addr) × Nat × Nat × (Option Addr) × Nat × Nat) (kvs := fun (i, b, hp, kp, ks, Z1, a_ol, n_ol, c_ol, a_la, n_la, c_la) => [(0, .slice al nl cl), (5, .slice a_ol n_ol c_ol), (25, .slice ac nc cc), (26, .int .i64 (nc : Int)), (27, .int .i64 (i : Int))]) (F := fun (i, b, hp, kp, ks, Z1, a_ol, n_ol, c_ol, a_la, n_la, c_la) => [As.os RR.hdr 25 1 a_ol n_ol c_ol (hp ++ (if b then [(a_la, n_la, c_la)] else [])), As.os RR.key 27 2 a_la n_la c_la (ks), As.fz (FKS hp kp)]) (I := fun (i, b, hp, kp, ks, Z1, a_ol, n_ol, c_ol, a_la, n_la, c_la) => (i ≤ nc) ∧ (b = false → i = 0) ∧ (hp.length + b.toNat ≤ i) ∧ (ks.length ≤ i) ∧ True) (μ := fun (i, b, hp, kp, ks, Z1, a_ol, n_ol, c_ol, a_la, n_la, c_la) => nc - i) (Zf := fun (i, b, hp, kp, ks, Z1, a_ol, n_ol, c_ol, a_la, n_la, c_la) => Z1) (0, false, [], [], [], Z, none, 0, 0, none, 0, 0) (st7.p2.p1.p2) (Sub.cons rfl <| Sub.consV rfl (by first | rfl | (simp; done) | (congr 1; omega) | (simp only []; congr 1; omega)) <| Sub.cons rfl <| Sub.cons rfl <| Sub.consV rfl (by first | rfl | (simp; done) | (congr 1; omega) | (simp only []; congr 1; omega)) <| Sub.nil) (⟨Nat.zero_le _, fun _ => rfl, Nat.le_refl _, Nat.le_refl _, trivial⟩) ?_
  rintro ⟨i, b, hp, kp, ks, Z1, a_ol, n_ol, c_ol, a_la, n_la, c_la⟩ w2 st8 ⟨hi, hb, hpi, hki, _⟩
  simp only [List.cons_append, List.nil_append] at st8 hi hb hpi hki ⊢
  have hfk := (As.gf st8.g2)
  have hpk := hfk.1
  have hol := ((As.gs st8.g0)).len
  rw [len_ite] at hol
  have hla := ((As.gs st8.g1)).len
  have hbt : b.toNat ≤ 1 := by cases b <;> decide
  refine WC.seq ?_
  refine WC.region ?_
  refine WL.p rfl rfl (PV.lss rfl rfl) <| WL.nil ?_
  refine EX.seqN ?_
  refine WC.seq ?_
  refine WC.cond rfl (fun g28 => ?_) (fun g28 => ?_)
  ·
   skip
   simp at g28
   have hi2 : i < cells.length := by omega
   obtain ⟨b_c, o_c, r_c, ha_c, _, ⟨hu5, hrc⟩, hr_c, _⟩ := LR.at_ (As.gf st8.g3) (getElem_some hi2)
   subst hrc
   obtain ⟨u, hu⟩ : ∃ u, u = cells[i] := ⟨_, rfl⟩
   rw [← hu] at hr_c hu5
   refine WC.skip ?_
   refine EX.seqN ?_
   refine WC.seq ?_
   refine WC.block ?_
   refine WC.seq ?_
   refine WC.region ?_
   refine WL.p rfl rfl (PV.mv rfl) <| WL.p rfl rfl (PV.ixS sl23 ha_c rfl rfl (by omega)) <| WL.p rfl rfl (PV.ld0 one5 hr_c rfl rfl) <| WL.p rfl rfl (PV.as rfl) <| WL.p rfl rfl (PV.as rfl) <| WL.nil ?_
   refine EX.seqN ?_
   refine WC.seq ?_
   refine WC.seq ?_
   refine WC.region ?_
   refine WL.p rfl rfl (PV.mv rfl) <| WL.p rfl rfl (PV.rem rfl rfl (by omega)) <| WL.p rfl rfl (PV.eqi rfl rfl) <| WL.nil ?_
   refine EX.seqN ?_
   refine WC.cond rfl (fun g34 => ?_) (fun g34 => ?_)
   ·
    skip
    simp at g34
    have st9 := st8.p1
    have st10 := st9.frzS (by omega)
    have st11 := st10.fact (B := As.fz (FKS (hp ++ (if b then [(a_la, n_la, c_la)] else [])) (kp ++ (if b then [ks] else [])))) (FKS.opt (As.gf st10.g2) (As.gr st10.g0)) (fun _ hx => hx)
    have st12 := st11.p3.drop
    have st13 := st12.p1.drop
    have st14 := st13.newN RR.key 27 2
    obtain ⟨hp1, hhp1⟩ : ∃ x, x = hp ++ (if b then [(a_la, n_la, c_la)] else []) := ⟨_, rfl⟩
    obtain ⟨kp1, hkp1⟩ : ∃ x, x = kp ++ (if b then [ks] else []) := ⟨_, rfl⟩
    obtain ⟨ks1, hks1⟩ : ∃ x : List Key, x = [] := ⟨_, rfl⟩
    have hpl : hp1.length = hp.length + b.toNat := by rw [hhp1, len_ite]
    have hk1 : ks1.length ≤ i := by rw [hks1]; exact Nat.zero_le _
    have st15 := st14.p1.eqA (B := As.fz (FKS hp1 kp1)) (by rw [hhp1, hkp1])
    have st16 := st15.p1.eqA (B := As.os RR.key 27 2 none 0 0 ks1) (by rw [hks1])
    have st17 := st16.p2.eqA (B := As.os RR.hdr 25 1 a_ol n_ol c_ol hp1) (by rw [hhp1])
    refine WC.region ?_
    refine WL.p rfl rfl (PV.mv rfl) <| ?_
    refine WL.go rfl (OX.bslice' (us := [.slice none 0 0]) bs22_1 rfl rfl rfl rfl fun b36 w3 nw36 hb36 => ?_)
    have st18 := st17.newB nw36 hb36
    refine WL.go rfl (OX.appR ap22 rfl rfl rfl (As.gs st18.g1) (SR.blk1 (A := fun _ => True) (x := (none, 0, 0)) (As.gb st18.g0) trivial rfl (by simp [Value.oneCell']) rfl) (by omega) (by omega) (Nat.zero_le _) fun a37 c'37 w4 h'37 s37 hf37 hn37 => ?_)
    have st19 := st18.p1.updS s37 h'37 hf37
    refine WL.p rfl rfl (PV.as rfl) <| WL.nil ?_
    have hoz : n_ol + 1 = hp1.length + 1 := by omega
    have hlz : 0 = ks1.length := by rw [hks1]; rfl
    obtain ⟨b_z1, ha_z1⟩ := Ow.addr (As.gs st19.g0) (List.getElem?_concat_length : (hp1 ++ [((none : Option Addr), 0, 0)])[hp1.length]? = some (none, 0, 0))
    refine EX.seqN ?_
    have hN9 : ∀ x : Nat, w4.heap.size ≤ x → w4.heap.size ≤ x := fun _ h => h
    refine WC.drawnG (m := 16) [] [13, 15] [10, 11, 12, 13, 4, 5, 6, 7, 8, 9, 14, 15, 0, 1, 2, 3] [(14, .sl 27 1 (cellK (Int.tmod (u : Int) 100)).cells)] st19 (Sub1.cons M0 <| Sub1.cons M1 <| Sub1.cons M3 <| Sub1.cons M4 <| Sub1.cons M5 <| Sub1.cons M6 <| Sub1.nil) mixed (by kernel_rfl) (by kernel_rfl) rfl ?_
    refine DG.p rfl rfl rfl rfl rfl rfl (fun wx Zx Rx hNx hSx hix => PV.mv rfl) <| DG.p rfl rfl rfl rfl rfl rfl (fun wx Zx Rx hNx hSx hix => PV.conv ⟨_, und5⟩ und3 rfl (by omega) (by omega)) <| DG.p rfl rfl rfl rfl rfl rfl (fun wx Zx Rx hNx hSx hix => PV.rem rfl rfl (by omega)) <| ?_
    refine DG.ch rfl rfl rfl rfl rfl rfl (fun w5 R13x hN13x st20 hsd13x => ?_)
    simp only [List.cons_append, List.nil_append] at st20
    refine OX.call cf5 rfl rfl ((cell_calls).mono ?_)
    rintro _ w6 ⟨rfl, s6⟩
    have st21 := st20.step s6
    refine ⟨_, rfl, s6.size, _, rfl, _, _, _, st21, AppE.cons <| AppE.cons <| AppE.cons <| AppE.cons <| AppE.cons <| AppE.cons <| AppE.cons <| AppE.nil, Sub1.cons M0 <| Sub1.cons M1 <| Sub1.cons M3 <| Sub1.cons M4 <| Sub1.cons M5 <| Sub1.cons M6 <| Sub1.nil, ?_⟩
    refine DG.p rfl rfl rfl rfl rfl rfl (fun wx Zx Rx hNx hSx hix => PV.mv rfl) <| DG.p rfl rfl rfl rfl rfl rfl (fun wx Zx Rx hNx hSx hix => PV.mv rfl) <| DG.p rfl rfl rfl rfl rfl rfl (fun wx Zx Rx hNx hSx hix => PV.len' sl22 rfl) <| DG.p rfl rfl rfl rfl rfl rfl (fun wx Zx Rx hNx hSx hix => PV.sub rfl rfl (by omega) (by omega)) <| DG.p rfl rfl rfl rfl rfl rfl (fun wx Zx Rx hNx hSx hix => PV.ixZ sl22 (i := hp1.length) ha_z1 rfl rfl (by omega) (by omega)) <| DG.p rfl rfl rfl rfl rfl rfl (fun wx Zx Rx hNx hSx hix => PV.ld0 (v := .slice none 0 0) one25 (Ow.rng (As.gs (hSx.sv hix).g0) (by simp only [List.length_append, List.length_singleton]; omega) ha_z1 (List.getElem?_concat_length : (hp1 ++ [((none : Option Addr), 0, 0)])[hp1.length]? = some (none, 0, 0))) rfl rfl) <| ?_
    refine DG.side (s := .sl 27 1 (cellK (Int.tmod (u : Int) 100)).cells) rfl rfl rfl rfl rfl rfl (fun wx Zx Rx hNx hSx => OX.bslice' (us := (cellK (Int.tmod (u : Int) 100)).cells) bs25_1 rfl rfl rfl rfl fun b wy nw hb => ⟨nw.ext.size, _, rfl, ⟨b, rfl⟩, hSx.newB nw hb⟩) ?_
    rintro _ ⟨b52, rfl⟩
    refine DG.ch rfl rfl rfl rfl rfl rfl (fun w7 R15x hN15x st22 hsd15x => ?_)
    simp only [List.cons_append, List.nil_append] at st22
    refine OX.appR ap25 rfl rfl rfl (As.gs st22.g2) (SR.blk1 (A := fun _ => True) (x := cellK (Int.tmod (u : Int) 100)) (show Blk _ b52 _ _ from st22.ok _ (.tail _ (.tail _ (.tail _ (.tail _ (.tail _ (.tail _ (.tail _ (hsd15x _ (.head _)))))))))) trivial rfl (by simp [Key.cells, Value.oneCell']) rfl) (by omega) (by omega) (Nat.zero_le _) fun a53 c'53 w8 h'53 s53 hf53 hn53 => ?_
    have st23 := st22.p2.updS s53 h'53 hf53
    refine ⟨s53.size, _, rfl, _, _, _, st23, AppE.cons <| AppE.cons <| AppE.cons <| AppE.cons <| AppE.cons <| AppE.cons <| AppE.cons <| AppE.nil, Sub1.cons M1 <| Sub1.cons M2 <| Sub1.cons M3 <| Sub1.cons M4 <| Sub1.cons M5 <| Sub1.cons M6 <| Sub1.nil, ?_⟩
    refine DG.p rfl rfl rfl rfl rfl rfl (fun wx Zx Rx hNx hSx hix => PV.mv rfl) <| DG.p rfl rfl rfl rfl rfl rfl (fun wx Zx Rx hNx hSx hix => PV.mv rfl) <| DG.p rfl rfl rfl rfl rfl rfl (fun wx Zx Rx hNx hSx hix => PV.len' sl22 rfl) <| DG.p rfl rfl rfl rfl rfl rfl (fun wx Zx Rx hNx hSx hix => PV.sub rfl rfl (by omega) (by omega)) <| DG.nil ?_
    intro w9 hsz9 st24
    simp only [List.map_cons, List.map_nil, List.cons_append, List.nil_append, SdK.it] at st24
    refine WL.p rfl rfl (PV.ixZ sl22 (i := hp1.length) ha_z1 rfl rfl (by omega) (by omega)) <| ?_
    refine WL.go rfl (OX.stOf (i := hp1.length) (f := 0) sz25 (As.gs st24.g2) ha_z1 List.getElem?_concat_length (by decide) rfl rfl rfl (a53, (0 + 1), c'53) (fun r hl h => by rw [h]; rfl) fun w10 sz hz => ?_)
    have st25 := st24.p2.updS sz hz (fun x h => .inl h)
    have st26 := st25.eqS (set_last _ _ _)
    refine WL.nil (EX.np ?_)
    refine EX.blkN ?_
    refine EX.seqN ?_
    refine WC.region ?_
    refine WL.p rfl rfl (PV.add rfl rfl (by omega) (by omega)) <| WL.p rfl rfl (PV.mv rfl) <| WL.nil ?_
    refine EX.again (i + 1, true, hp1, kp1, ks1 ++ [cellK (Int.tmod (u : Int) 100)], _, a37, (n_ol + 1), c'37, a53, (0 + 1), c'53) (Sub.cons rfl <| Sub.consV rfl (by first | rfl | (simp; done) | (congr 1; omega) | (simp only []; congr 1; omega)) <| Sub.cons rfl <| Sub.cons rfl <| Sub.consV rfl (by first | rfl | (simp; done) | (congr 1; omega) | (simp only []; congr 1; omega)) <| Sub.nil) ⟨st26.p1.drop.p2.drop, ⟨by omega, (fun h => by cases h), by show hp1.length + 1 ≤ i + 1; omega, by simp only [List.length_append, List.length_singleton]; omega, trivial⟩⟩ (by first | (simp only []; omega) | omega)
   ·
    skip
    simp at g34
    obtain rfl : b = true := by cases b; (exfalso; have := hb rfl; subst this; exact g34 rfl); rfl
    obtain ⟨hp1, hhp1⟩ : ∃ x, x = hp := ⟨_, rfl⟩
    obtain ⟨kp1, hkp1⟩ : ∃ x, x = kp := ⟨_, rfl⟩
    obtain ⟨ks1, hks1⟩ : ∃ x, x = ks := ⟨_, rfl⟩
    have hpl : hp1.length + 1 ≤ i := by rw [hhp1]; exact hpi
    have hk1 : ks1.length ≤ i := by rw [hks1]; exact hki
    have hoz : n_ol = hp1.length + 1 := by rw [hhp1]; exact hol
    have hlz : n_la = ks1.length := by rw [hks1]; exact hla
    have st9 := st8.p2.eqA (B := As.fz (FKS hp1 kp1)) (by rw [hhp1, hkp1])
    have st10 := st9.p2.eqA (B := As.os RR.key 27 2 a_la n_la c_la ks1) (by rw [hks1])
    have st11 := st10.p2.eqA (B := As.os RR.hdr 25 1 a_ol n_ol c_ol (hp1 ++ [(a_la, n_la, c_la)])) (by rw [hhp1]; rfl)
    obtain ⟨b_z1, ha_z1⟩ := Ow.addr (As.gs st11.g0) (List.getElem?_concat_length : (hp1 ++ [(a_la, n_la, c_la)])[hp1.length]? = some (a_la, n_la, c_la))
    refine WC.skip ?_
    refine EX.seqN ?_
    have hN9 : ∀ x : Nat, w2.heap.size ≤ x → w2.heap.size ≤ x := fun _ h => h
    refine WC.drawnG (m := 16) [] [13, 15] [10, 11, 12, 13, 4, 5, 6, 7, 8, 9, 14, 15, 0, 1, 2, 3] [(14, .sl 27 1 (cellK (Int.tmod (u : Int) 100)).cells)] st11 (Sub1.cons M0 <| Sub1.cons M2 <| Sub1.cons M3 <| Sub1.cons M4 <| Sub1.cons M5 <| Sub1.nil) mixed (by kernel_rfl) (by kernel_rfl) rfl ?_
    refine DG.p rfl rfl rfl rfl rfl rfl (fun wx Zx Rx hNx hSx hix => PV.mv rfl) <| DG.p rfl rfl rfl rfl rfl rfl (fun wx Zx Rx hNx hSx hix => PV.conv ⟨_, und5⟩ und3 rfl (by omega) (by omega)) <| DG.p rfl rfl rfl rfl rfl rfl (fun wx Zx Rx hNx hSx hix => PV.rem rfl rfl (by omega)) <| ?_
    refine DG.ch rfl rfl rfl rfl rfl rfl (fun w3 R13x hN13x st12 hsd13x => ?_)
    simp only [List.cons_append, List.nil_append] at st12
    refine OX.call cf5 rfl rfl ((cell_calls).mono ?_)
    rintro _ w4 ⟨rfl, s4⟩
    have st13 := st12.step s4
    refine ⟨_, rfl, s4.size, _, rfl, _, _, _, st13, AppE.cons <| AppE.cons <| AppE.cons <| AppE.cons <| AppE.cons <| AppE.cons <| AppE.nil, Sub1.cons M0 <| Sub1.cons M2 <| Sub1.cons M3 <| Sub1.cons M4 <| Sub1.cons M5 <| Sub1.nil, ?_⟩
    refine DG.p rfl rfl rfl rfl rfl rfl (fun wx Zx Rx hNx hSx hix => PV.mv rfl) <| DG.p rfl rfl rfl rfl rfl rfl (fun wx Zx Rx hNx hSx hix => PV.mv rfl) <| DG.p rfl rfl rfl rfl rfl rfl (fun wx Zx Rx hNx hSx hix => PV.len' sl22 rfl) <| DG.p rfl rfl rfl rfl rfl rfl (fun wx Zx Rx hNx hSx hix => PV.sub rfl rfl (by omega) (by omega)) <| DG.p rfl rfl rfl rfl rfl rfl (fun wx Zx Rx hNx hSx hix => PV.ixZ sl22 (i := hp1.length) ha_z1 rfl rfl (by omega) (by omega)) <| DG.p rfl rfl rfl rfl rfl rfl (fun wx Zx Rx hNx hSx hix => PV.ld0 (v := .slice a_la n_la c_la) one25 (Ow.rng (As.gs (hSx.sv hix).g0) (by simp only [List.length_append, List.length_singleton]; omega) ha_z1 (List.getElem?_concat_length : (hp1 ++ [(a_la, n_la, c_la)])[hp1.length]? = some (a_la, n_la, c_la))) rfl rfl) <| ?_
    refine DG.side (s := .sl 27 1 (cellK (Int.tmod (u : Int) 100)).cells) rfl rfl rfl rfl rfl rfl (fun wx Zx Rx hNx hSx => OX.bslice' (us := (cellK (Int.tmod (u : Int) 100)).cells) bs25_1 rfl rfl rfl rfl fun b wy nw hb => ⟨nw.ext.size, _, rfl, ⟨b, rfl⟩, hSx.newB nw hb⟩) ?_
    rintro _ ⟨b52, rfl⟩
    refine DG.ch rfl rfl rfl rfl rfl rfl (fun w5 R15x hN15x st14 hsd15x => ?_)
    simp only [List.cons_append, List.nil_append] at st14
    refine OX.appR ap25 rfl rfl rfl (As.gs st14.g1) (SR.blk1 (A := fun _ => True) (x := cellK (Int.tmod (u : Int) 100)) (show Blk _ b52 _ _ from st14.ok _ (.tail _ (.tail _ (.tail _ (.tail _ (.tail _ (.tail _ (hsd15x _ (.head _))))))))) trivial rfl (by simp [Key.cells, Value.oneCell']) rfl) (by omega) (by omega) (Nat.zero_le _) fun a53 c'53 w6 h'53 s53 hf53 hn53 => ?_
    have st15 := st14.p1.updS s53 h'53 hf53
    refine ⟨s53.size, _, rfl, _, _, _, st15, AppE.cons <| AppE.cons <| AppE.cons <| AppE.cons <| AppE.cons <| AppE.cons <| AppE.nil, Sub1.cons M1 <| Sub1.cons M2 <| Sub1.cons M3 <| Sub1.cons M4 <| Sub1.cons M5 <| Sub1.nil, ?_⟩
    refine DG.p rfl rfl rfl rfl rfl rfl (fun wx Zx Rx hNx hSx hix => PV.mv rfl) <| DG.p rfl rfl rfl rfl rfl rfl (fun wx Zx Rx hNx hSx hix => PV.mv rfl) <| DG.p rfl rfl rfl rfl rfl rfl (fun wx Zx Rx hNx hSx hix => PV.len' sl22 rfl) <| DG.p rfl rfl rfl rfl rfl rfl (fun wx Zx Rx hNx hSx hix => PV.sub rfl rfl (by omega) (by omega)) <| DG.nil ?_
    intro w7 hsz9 st16
    simp only [List.map_cons, List.map_nil, List.cons_append, List.nil_append, SdK.it] at st16
    refine WL.p rfl rfl (PV.ixZ sl22 (i := hp1.length) ha_z1 rfl rfl (by omega) (by omega)) <| ?_
    refine WL.go rfl (OX.stOf (i := hp1.length) (f := 0) sz25 (As.gs st16.g2) ha_z1 List.getElem?_concat_length (by decide) rfl rfl rfl (a53, (n_la + 1), c'53) (fun r hl h => by rw [h]; rfl) fun w8 sz hz => ?_)
    have st17 := st16.p2.updS sz hz (fun x h => .inl h)
    have st18 := st17.eqS (set_last _ _ _)
    refine WL.nil (EX.np ?_)
    refine EX.blkN ?_
    refine EX.seqN ?_
    refine WC.region ?_
    refine WL.p rfl rfl (PV.add rfl rfl (by omega) (by omega)) <| WL.p rfl rfl (PV.mv rfl) <| WL.nil ?_
    refine EX.again (i + 1, true, hp1, kp1, ks1 ++ [cellK (Int.tmod (u : Int) 100)], _, a_ol, n_ol, c_ol, a53, (n_la + 1), c'53) (Sub.cons rfl <| Sub.consV rfl (by first | rfl | (simp; done) | (congr 1; omega) | (simp only []; congr 1; omega)) <| Sub.cons rfl <| Sub.cons rfl <| Sub.consV rfl (by first | rfl | (simp; done) | (congr 1; omega) | (simp only []; congr 1; omega)) <| Sub.nil) ⟨st18.p1.drop, ⟨by omega, (fun h => by cases h), by show hp1.length + 1 ≤ i + 1; omega, by simp only [List.length_append, List.length_singleton]; omega, trivial⟩⟩ (by first | (simp only []; omega) | omega)
  ·
   skip
   simp at g28
   have st9 := st8.p1
   have st10 := st9.frzS (by omega)
   have st11 := st10.p1
   have st12 := st11.frzS (by rw [len_ite]; omega)
   obtain ⟨LL, hLL⟩ : ∃ x, x = kp ++ (if b then [ks] else []) := ⟨_, rfl⟩
   have hLn : LL.length ≤ 60 := by rw [hLL, len_ite]; omega
   obtain ⟨nz, hnz⟩ : ∃ x, x = n_ol := ⟨_, rfl⟩
   have hzl : nz = LL.length := by rw [hnz, hLL, len_ite]; omega
   have st13 := st12.fact (B := As.fz (FZ.ksl a_ol n_ol LL)) (by rw [hLL]; exact FKS.ksl (FKS.opt (As.gf st12.g2) (As.gr st12.g1)) (As.gr st12.g0)) (fun _ hx => hx)
   refine WC.exit ?_
   refine EX.thenX ?_
   refine EX.thenX ?_
   refine EX.blkX ?_
   refine EX.seqN ?_
   refine WC.seq ?_
   refine WC.seq ?_
   refine WC.region ?_
   refine WL.p rfl rfl (PV.mv rfl) <| WL.p rfl rfl (PV.mv rfl) <| ?_
   refine WL.go rfl (OX.bslice' (us := [.slice al nl cl, .slice a_ol n_ol c_ol]) bs29_2 rfl rfl rfl rfl fun b58 w3 nw58 hb58 => ?_)
   have st14 := st13.newB nw58 hb58
   refine WL.p rfl rfl (PV.len' sl29 rfl) <| WL.p rfl rfl (PV.mv rfl) <| WL.nil ?_
   refine EX.seqN ?_
   refine WC.block ?_
   refine WC.loopN 3 ?_
   refine LoopN.s ?_
   refine WC.seq ?_
   refine WC.region ?_
   refine WL.p rfl rfl (PV.lss rfl rfl) <| WL.nil ?_
   refine EX.seqN ?_
   refine WC.seq ?_
   refine WC.cond rfl (fun g61 => ?_) (fun g61 => ?_)
   ·
    skip
    refine WC.skip ?_
    refine EX.seqN ?_
    refine WC.seq ?_
    refine WC.block ?_
    refine WC.seq ?_
    refine WC.region ?_
    refine WL.p rfl rfl (PV.ix (i := 0) sl29 rfl rfl (by decide)) <| WL.p rfl rfl (PV.ld1 (j := 0) one22 (Blk.range (As.gb st14.g0)) rfl rfl) <| WL.p rfl rfl (PV.as rfl) <| WL.nil ?_
    refine EX.seqN ?_
    refine WC.seq ?_
    refine WC.region ?_
    refine WL.p rfl rfl (PV.as rfl) <| WL.nil ?_
    refine EX.seqN ?_
    refine WC.seq ?_
    refine WC.region ?_
    refine WL.go rfl (OX.makeMap Key.val rfl fun b64 w4 nw64 hm64 => ?_)
    have st15 := st14.newM nw64 hm64
    refine WL.p rfl rfl (PV.as rfl) <| WL.nil ?_
    refine EX.seqN ?_
    refine WC.seq ?_
    refine WC.seq ?_
    refine WC.region ?_
    refine WL.p rfl rfl (PV.mv rfl) <| WL.p rfl rfl (PV.len' sl22 rfl) <| WL.p rfl rfl (PV.mv rfl) <| WL.nil ?_
    refine EX.seqN ?_
    refine WC.block ?_
    refine WC.loopS1 (σ := Nat × (List (Key × Value))) (kvs := fun (i, ml) => [(9, .slice al nl cl), (10, .int .i64 ((lists.take i).flatten.length : Int)), (11, .map (some b64)), (58, .slice (some ⟨b58, 0, none⟩) 2 2), (59, .int .i64 (2 : Int)), (60, .int .i64 0), (65, .slice al nl cl), (66, .int .i64 (nl : Int)), (67, .int .i64 (i : Int))]) (F := fun (i, ml) => [As.map Key.val b64 ml]) (I := fun (i, ml) => (i ≤ lists.length) ∧ (Cnt ml (lists.take i).flatten) ∧ ((lists.take i).flatten.length ≤ i * 140737488355328) ∧ True) (μ := fun (i, ml) => lists.length - i) (0, []) (st15) (Sub.cons rfl <| Sub.consV rfl (by first | rfl | (simp; done) | (congr 1; omega) | (simp only []; congr 1; omega)) <| Sub.cons rfl <| Sub.cons rfl <| Sub.cons rfl <| Sub.consV rfl (by first | rfl | (simp; done) | (congr 1; omega) | (simp only []; congr 1; omega)) <| Sub.consV rfl (by first | rfl | (simp; done) | (congr 1; omega) | (simp only []; congr 1; omega)) <| Sub.consV rfl (by first | rfl | (simp; done) | (congr 1; omega) | (simp only []; congr 1; omega)) <| Sub.consV rfl (by first | rfl | (simp; done) | (congr 1; omega) | (simp only []; congr 1; omega)) <| Sub.nil) (⟨Nat.zero_le _, Cnt.nil, Nat.le_refl _, trivial⟩) ?_
    rintro ⟨i, ml⟩ w5 st16 ⟨hi, hcnt, hbd, _⟩
    simp only [List.cons_append, List.nil_append] at st16 hi hcnt hbd ⊢
    refine WC.seq ?_
    refine WC.region ?_
    refine WL.p rfl rfl (PV.lss rfl rfl) <| WL.nil ?_
    refine EX.seqN ?_
    refine WC.seq ?_
    refine WC.cond rfl (fun g68 => ?_) (fun g68 => ?_)
    ·
     skip
     simp at g68
     have hi2 : i < lists.length := by omega
     obtain ⟨b_x, o_x, r_x, ha_x, _, ⟨q1, q2, q3, rfl, hks⟩, hr_x, hz_x⟩ := LR.at_ (As.gf st16.g7) (getElem_some hi2)
     have hkn := hks.len
     have hkl := hks.le
     have hfl := flat_len hi2
     have st17 := st16.fact (B := As.fz (FZ.keys q1 q2 lists[i])) hks (fun _ hx => hx)
     refine WC.skip ?_
     refine EX.seqN ?_
     refine WC.seq ?_
     refine WC.block ?_
     refine WC.seq ?_
     refine WC.region ?_
     refine WL.p rfl rfl (PV.ixS sl22 ha_x rfl rfl (by omega)) <| WL.p rfl rfl (PV.ld0 one25 hr_x rfl rfl) <| WL.p rfl rfl (PV.as rfl) <| WL.nil ?_
     refine EX.seqN ?_
     refine WC.seq ?_
     refine WC.region ?_
     refine WL.p rfl rfl (PV.mv rfl) <| WL.p rfl rfl (PV.mv rfl) <| WL.p rfl rfl (PV.len' sl25 rfl) <| WL.p rfl rfl (PV.add rfl rfl (by omega) (by omega)) <| WL.p rfl rfl (PV.as rfl) <| WL.nil ?_
     refine EX.seqN ?_
     refine WC.seq ?_
     refine WC.region ?_
     refine WL.p rfl rfl (PV.mv rfl) <| WL.p rfl rfl (PV.len' sl25 rfl) <| WL.p rfl rfl (PV.mv rfl) <| WL.nil ?_
     refine EX.seqN ?_
     refine WC.block ?_
     refine WC.loopS1 (σ := Nat × (List (Key × Value))) (kvs := fun (j, m2) => [(9, .slice al nl cl), (10, .int .i64 ((lists.take i).flatten.length + q2 : Int)), (11, .map (some b64)), (58, .slice (some ⟨b58, 0, none⟩) 2 2), (59, .int .i64 (2 : Int)), (60, .int .i64 0), (65, .slice al nl cl), (66, .int .i64 (nl : Int)), (67, .int .i64 (i : Int)), (75, .slice q1 q2 q3), (76, .int .i64 (q2 : Int)), (77, .int .i64 (j : Int))]) (F := fun (j, m2) => [As.map Key.val b64 m2]) (I := fun (j, m2) => (j ≤ q2) ∧ (Cnt m2 ((lists.take i).flatten ++ lists[i].take j)) ∧ True) (μ := fun (j, m2) => q2 - j) (0, ml) (st17.p1) (Sub.cons rfl <| Sub.consV rfl (by first | rfl | (simp; done) | (congr 1; omega) | (simp only []; congr 1; omega)) <| Sub.cons rfl <| Sub.cons rfl <| Sub.cons rfl <| Sub.cons rfl <| Sub.cons rfl <| Sub.cons rfl <| Sub.cons rfl <| Sub.cons rfl <| Sub.cons rfl <| Sub.consV rfl (by first | rfl | (simp; done) | (congr 1; omega) | (simp only []; congr 1; omega)) <| Sub.nil) (⟨Nat.zero_le _, by simpa using hcnt, trivial⟩) ?_
     rintro ⟨j, m2⟩ w6 st18 ⟨hj, hc2, _⟩
     simp only [List.cons_append, List.nil_append] at st18 hj hc2 ⊢
     refine WC.seq ?_
     refine WC.region ?_
     refine WL.p rfl rfl (PV.lss rfl rfl) <| WL.nil ?_
     refine EX.seqN ?_
     refine WC.seq ?_
     refine WC.cond rfl (fun g78 => ?_) (fun g78 => ?_)
     ·
      skip
      simp at g78
      have hj2 : j < lists[i].length := by omega
      obtain ⟨b_y1, o_y1, r_y1, ha_y1, _, rfl, hr_y1, hz_y1⟩ := LR.at_ (As.gf st18.g1) (getElem_some hj2)
      refine WC.skip ?_
      refine EX.seqN ?_
      refine WC.seq ?_
      refine WC.block ?_
      refine WC.seq ?_
      refine WC.region ?_
      refine WL.p rfl rfl (PV.ixS sl25 ha_y1 rfl rfl (by omega)) <| WL.p rfl rfl (PV.ldA agg27 hr_y1 rfl rfl) <| ?_
      refine WL.go rfl (OX.alloc zv27 rfl fun b15 w7 nw15 hb15 => ?_)
      have st19 := st18.newB nw15 hb15
      refine WL.go rfl (OX.stW sz27 (As.gb st19.g0) rfl rfl rfl rfl rfl fun w8 ss0 _ hs0 => ?_)
      have st20 := st19.updB ss0 hs0
      refine WL.nil ?_
      refine EX.seqN ?_
      refine WC.region ?_
      refine WL.p rfl rfl (PV.mv rfl) <| WL.p rfl rfl (PV.ldA agg27 (Blk.range (As.gb st20.g0)) rfl rfl) <| ?_
      refine WL.go rfl (OX.put kk27 und30 (As.gm st20.g1) rfl rfl rfl fun w9 smp1 hmp1 => ?_)
      have st21 := st20.p1.updM smp1 hmp1
      refine WL.nil ?_
      refine EX.blkN ?_
      refine EX.seqN ?_
      refine WC.region ?_
      refine WL.p rfl rfl (PV.add rfl rfl (by omega) (by omega)) <| WL.p rfl rfl (PV.mv rfl) <| WL.nil ?_
      refine EX.again (j + 1, _) (Sub.cons rfl <| Sub.consV rfl (by first | rfl | (simp; done) | (congr 1; omega) | (simp only []; congr 1; omega)) <| Sub.cons rfl <| Sub.cons rfl <| Sub.cons rfl <| Sub.cons rfl <| Sub.cons rfl <| Sub.cons rfl <| Sub.cons rfl <| Sub.cons rfl <| Sub.cons rfl <| Sub.consV rfl (by first | rfl | (simp; done) | (congr 1; omega) | (simp only []; congr 1; omega)) <| Sub.nil) ⟨st21.p1.drop, ⟨by omega, by rw [step_pre hi2 hj2]; exact hc2.put _, trivial⟩⟩ (by first | (simp only []; omega) | omega)
     ·
      skip
      simp at g78
      have hje : lists[i].take j = lists[i] := List.take_of_length_le (by omega)
      have hce := hc2
      rw [hje] at hce
      refine WC.exit ?_
      refine EX.thenX ?_
      refine EX.thenX ?_
      refine EX.blkX ?_
      refine EX.blkN ?_
      refine EX.seqN ?_
      refine WC.region ?_
      refine WL.p rfl rfl (PV.add rfl rfl (by omega) (by omega)) <| WL.p rfl rfl (PV.mv rfl) <| WL.nil ?_
      refine EX.again (i + 1, m2) (Sub.cons rfl <| Sub.consV rfl (by first | rfl | (simp; done) | (congr 1; omega) | (simp only []; congr 1; omega)) <| Sub.cons rfl <| Sub.cons rfl <| Sub.cons rfl <| Sub.consV rfl (by first | rfl | (simp; done) | (congr 1; omega) | (simp only []; congr 1; omega)) <| Sub.consV rfl (by first | rfl | (simp; done) | (congr 1; omega) | (simp only []; congr 1; omega)) <| Sub.consV rfl (by first | rfl | (simp; done) | (congr 1; omega) | (simp only []; congr 1; omega)) <| Sub.consV rfl (by first | rfl | (simp; done) | (congr 1; omega) | (simp only []; congr 1; omega)) <| Sub.nil) ⟨st18.p1.drop, ⟨by omega, by rw [flat_take hi2]; exact hce, by rw [flat_len hi2]; omega, trivial⟩⟩ (by first | (simp only []; omega) | omega)
    ·
     skip
     simp at g68
     have hie : lists.take i = lists := List.take_of_length_le (by omega)
     rw [hie] at hcnt
     refine WC.exit ?_
     refine EX.thenX ?_
     refine EX.thenX ?_
     refine EX.blkX ?_
     refine EX.seqN ?_
     refine WC.seq ?_
     refine WC.region ?_
     refine WL.p rfl rfl (PV.mv rfl) <| ?_
     refine WL.go rfl (OX.call cf6 rfl rfl ((paonce_calls (l := lists) (As.gf st16.g7)).mono ?_))
     rintro _ w6 ⟨rfl, s6⟩
     refine ⟨_, rfl, ?_⟩
     have st17 := st16.step s6
     refine WL.p rfl rfl (PV.mv rfl) <| WL.p rfl rfl (PV.mv rfl) <| WL.p rfl rfl (PV.lenM und30 (As.gm st17.g0) rfl) <| WL.p rfl rfl (PV.eqi rfl rfl) <| WL.p rfl rfl (PV.neBf und4 rfl rfl (hcnt.same (by rw [hie]))) <| WL.nil ?_
     refine EX.seqN ?_
     refine WC.condF rfl ?_
     refine WC.skip ?_
     refine EX.blkN ?_
     refine EX.seqN ?_
     refine WC.region ?_
     refine WL.p rfl rfl (PV.add rfl rfl (by omega) (by omega)) <| WL.p rfl rfl (PV.mv rfl) <| WL.nil ?_
     refine EX.againN ?_
     refine LoopN.s ?_
     refine WC.seq ?_
     refine WC.region ?_
     refine WL.p rfl rfl (PV.lss rfl rfl) <| WL.nil ?_
     refine EX.seqN ?_
     refine WC.seq ?_
     refine WC.cond rfl (fun g61 => ?_) (fun g61 => ?_)
     ·
      skip
      refine WC.skip ?_
      refine EX.seqN ?_
      refine WC.seq ?_
      refine WC.block ?_
      refine WC.seq ?_
      refine WC.region ?_
      refine WL.p rfl rfl (PV.ix (i := 1) sl29 rfl rfl (by decide)) <| WL.p rfl rfl (PV.ld1 (j := 1) one22 (Blk.range (As.gb st17.g1)) rfl rfl) <| WL.p rfl rfl (PV.as rfl) <| WL.nil ?_
      refine EX.seqN ?_
      refine WC.seq ?_
      refine WC.region ?_
      refine WL.p rfl rfl (PV.as rfl) <| WL.nil ?_
      refine EX.seqN ?_
      refine WC.seq ?_
      refine WC.region ?_
      refine WL.go rfl (OX.makeMap Key.val rfl fun b64 w7 nw64 hm64 => ?_)
      have st18 := st17.newM nw64 hm64
      refine WL.p rfl rfl (PV.as rfl) <| WL.nil ?_
      refine EX.seqN ?_
      refine WC.seq ?_
      refine WC.seq ?_
      refine WC.region ?_
      refine WL.p rfl rfl (PV.mv rfl) <| WL.p rfl rfl (PV.len' sl22 rfl) <| WL.p rfl rfl (PV.mv rfl) <| WL.nil ?_
      refine EX.seqN ?_
      refine WC.block ?_
      have st19 := st18.p1.drop
      refine WC.loopS1 (σ := Nat × (List (Key × Value))) (kvs := fun (i, ml) => [(9, .slice a_ol n_ol c_ol), (10, .int .i64 ((LL.take i).flatten.length : Int)), (11, .map (some b64)), (58, .slice (some ⟨b58, 0, none⟩) 2 2), (59, .int .i64 (2 : Int)), (60, .int .i64 (0 + 1)), (65, .slice a_ol n_ol c_ol), (66, .int .i64 (n_ol : Int)), (67, .int .i64 (i : Int))]) (F := fun (i, ml) => [As.map Key.val b64 ml]) (I := fun (i, ml) => (i ≤ LL.length) ∧ (Cnt ml (LL.take i).flatten) ∧ ((LL.take i).flatten.length ≤ i * 140737488355328) ∧ True) (μ := fun (i, ml) => LL.length - i) (0, []) (st19) (Sub.cons rfl <| Sub.consV rfl (by first | rfl | (simp; done) | (congr 1; omega) | (simp only []; congr 1; omega)) <| Sub.cons rfl <| Sub.cons rfl <| Sub.cons rfl <| Sub.consV rfl (by first | rfl | (simp; done) | (congr 1; omega) | (simp only []; congr 1; omega)) <| Sub.consV rfl (by first | rfl | (simp; done) | (congr 1; omega) | (simp only []; congr 1; omega)) <| Sub.consV rfl (by first | rfl | (simp; done) | (congr 1; omega) | (simp only []; congr 1; omega)) <| Sub.consV rfl (by first | rfl | (simp; done) | (congr 1; omega) | (simp only []; congr 1; omega)) <| Sub.nil) (⟨Nat.zero_le _, Cnt.nil, Nat.le_refl _, trivial⟩) ?_
      rintro ⟨i, ml⟩ w8 st20 ⟨hi, hcnt, hbd, _⟩
      simp only [List.cons_append, List.nil_append] at st20 hi hcnt hbd ⊢
      refine WC.seq ?_
      refine WC.region ?_
      refine WL.p rfl rfl (PV.lss rfl rfl) <| WL.nil ?_
      refine EX.seqN ?_
      refine WC.seq ?_
      refine WC.cond rfl (fun g68 => ?_) (fun g68 => ?_)
      ·
       skip
       simp at g68
       have hi2 : i < LL.length := by omega
       obtain ⟨b_x, o_x, r_x, ha_x, _, ⟨q1, q2, q3, rfl, hks⟩, hr_x, hz_x⟩ := LR.at_ (As.gf st20.g2) (getElem_some hi2)
       have hkn := hks.len
       have hkl := hks.le
       have hfl := flat_len hi2
       have st21 := st20.fact (B := As.fz (FZ.keys q1 q2 LL[i])) hks (fun _ hx => hx)
       refine WC.skip ?_
       refine EX.seqN ?_
       refine WC.seq ?_
       refine WC.block ?_
       refine WC.seq ?_
       refine WC.region ?_
       refine WL.p rfl rfl (PV.ixS sl22 ha_x rfl rfl (by omega)) <| WL.p rfl rfl (PV.ld0 one25 hr_x rfl rfl) <| WL.p rfl rfl (PV.as rfl) <| WL.nil ?_
       refine EX.seqN ?_
       refine WC.seq ?_
       refine WC.region ?_
       refine WL.p rfl rfl (PV.mv rfl) <| WL.p rfl rfl (PV.mv rfl) <| WL.p rfl rfl (PV.len' sl25 rfl) <| WL.p rfl rfl (PV.add rfl rfl (by omega) (by omega)) <| WL.p rfl rfl (PV.as rfl) <| WL.nil ?_
       refine EX.seqN ?_
       refine WC.seq ?_
       refine WC.region ?_
       refine WL.p rfl rfl (PV.mv rfl) <| WL.p rfl rfl (PV.len' sl25 rfl) <| WL.p rfl rfl (PV.mv rfl) <| WL.nil ?_
       refine EX.seqN ?_
       refine WC.block ?_
       refine WC.loopS1 (σ := Nat × (List (Key × Value))) (kvs := fun (j, m2) => [(9, .slice a_ol n_ol c_ol), (10, .int .i64 ((LL.take i).flatten.length + q2 : Int)), (11, .map (some b64)), (58, .slice (some ⟨b58, 0, none⟩) 2 2), (59, .int .i64 (2 : Int)), (60, .int .i64 (0 + 1)), (65, .slice a_ol n_ol c_ol), (66, .int .i64 (n_ol : Int)), (67, .int .i64 (i : Int)), (75, .slice q1 q2 q3), (76, .int .i64 (q2 : Int)), (77, .int .i64 (j : Int))]) (F := fun (j, m2) => [As.map Key.val b64 m2]) (I := fun (j, m2) => (j ≤ q2) ∧ (Cnt m2 ((LL.take i).flatten ++ LL[i].take j)) ∧ True) (μ := fun (j, m2) => q2 - j) (0, ml) (st21.p1) (Sub.cons rfl <| Sub.consV rfl (by first | rfl | (simp; done) | (congr 1; omega) | (simp only []; congr 1; omega)) <| Sub.cons rfl <| Sub.cons rfl <| Sub.cons rfl <| Sub.cons rfl <| Sub.cons rfl <| Sub.cons rfl <| Sub.cons rfl <| Sub.cons rfl <| Sub.cons rfl <| Sub.consV rfl (by first | rfl | (simp; done) | (congr 1; omega) | (simp only []; congr 1; omega)) <| Sub.nil) (⟨Nat.zero_le _, by simpa using hcnt, trivial⟩) ?_
       rintro ⟨j, m2⟩ w9 st22 ⟨hj, hc2, _⟩
       simp only [List.cons_append, List.nil_append] at st22 hj hc2 ⊢
       refine WC.seq ?_
       refine WC.region ?_
       refine WL.p rfl rfl (PV.lss rfl rfl) <| WL.nil ?_
       refine EX.seqN ?_
       refine WC.seq ?_
       refine WC.cond rfl (fun g78 => ?_) (fun g78 => ?_)
       ·
        skip
        simp at g78
        have hj2 : j < LL[i].length := by omega
        obtain ⟨b_y1, o_y1, r_y1, ha_y1, _, rfl, hr_y1, hz_y1⟩ := LR.at_ (As.gf st22.g1) (getElem_some hj2)
        refine WC.skip ?_
        refine EX.seqN ?_
        refine WC.seq ?_
        refine WC.block ?_
        refine WC.seq ?_
        refine WC.region ?_
        refine WL.p rfl rfl (PV.ixS sl25 ha_y1 rfl rfl (by omega)) <| WL.p rfl rfl (PV.ldA agg27 hr_y1 rfl rfl) <| ?_
        refine WL.go rfl (OX.alloc zv27 rfl fun b15 w10 nw15 hb15 => ?_)
        have st23 := st22.newB nw15 hb15
        refine WL.go rfl (OX.stW sz27 (As.gb st23.g0) rfl rfl rfl rfl rfl fun w11 ss2 _ hs2 => ?_)
        have st24 := st23.updB ss2 hs2
        refine WL.nil ?_
        refine EX.seqN ?_
        refine WC.region ?_
        refine WL.p rfl rfl (PV.mv rfl) <| WL.p rfl rfl (PV.ldA agg27 (Blk.range (As.gb st24.g0)) rfl rfl) <| ?_
        refine WL.go rfl (OX.put kk27 und30 (As.gm st24.g1) rfl rfl rfl fun w12 smp3 hmp3 => ?_)
        have st25 := st24.p1.updM smp3 hmp3
        refine WL.nil ?_
        refine EX.blkN ?_
        refine EX.seqN ?_
        refine WC.region ?_
        refine WL.p rfl rfl (PV.add rfl rfl (by omega) (by omega)) <| WL.p rfl rfl (PV.mv rfl) <| WL.nil ?_
        refine EX.again (j + 1, _) (Sub.cons rfl <| Sub.consV rfl (by first | rfl | (simp; done) | (congr 1; omega) | (simp only []; congr 1; omega)) <| Sub.cons rfl <| Sub.cons rfl <| Sub.cons rfl <| Sub.cons rfl <| Sub.cons rfl <| Sub.cons rfl <| Sub.cons rfl <| Sub.cons rfl <| Sub.cons rfl <| Sub.consV rfl (by first | rfl | (simp; done) | (congr 1; omega) | (simp only []; congr 1; omega)) <| Sub.nil) ⟨st25.p1.drop, ⟨by omega, by rw [step_pre hi2 hj2]; exact hc2.put _, trivial⟩⟩ (by first | (simp only []; omega) | omega)
       ·
        skip
        simp at g78
        have hje : LL[i].take j = LL[i] := List.take_of_length_le (by omega)
        have hce := hc2
        rw [hje] at hce
        refine WC.exit ?_
        refine EX.thenX ?_
        refine EX.thenX ?_
        refine EX.blkX ?_
        refine EX.blkN ?_
        refine EX.seqN ?_
        refine WC.region ?_
        refine WL.p rfl rfl (PV.add rfl rfl (by omega) (by omega)) <| WL.p rfl rfl (PV.mv rfl) <| WL.nil ?_
        refine EX.again (i + 1, m2) (Sub.cons rfl <| Sub.consV rfl (by first | rfl | (simp; done) | (congr 1; omega) | (simp only []; congr 1; omega)) <| Sub.cons rfl <| Sub.cons rfl <| Sub.cons rfl <| Sub.consV rfl (by first | rfl | (simp; done) | (congr 1; omega) | (simp only []; congr 1; omega)) <| Sub.consV rfl (by first | rfl | (simp; done) | (congr 1; omega) | (simp only []; congr 1; omega)) <| Sub.consV rfl (by first | rfl | (simp; done) | (congr 1; omega) | (simp only []; congr 1; omega)) <| Sub.consV rfl (by first | rfl | (simp; done) | (congr 1; omega) | (simp only []; congr 1; omega)) <| Sub.nil) ⟨st22.p1.drop, ⟨by omega, by rw [flat_take hi2]; exact hce, by rw [flat_len hi2]; omega, trivial⟩⟩ (by first | (simp only []; omega) | omega)
      ·
       skip
       simp at g68
       have hie : LL.take i = LL := List.take_of_length_le (by omega)
       rw [hie] at hcnt
       refine WC.exit ?_
       refine EX.thenX ?_
       refine EX.thenX ?_
       refine EX.blkX ?_
       refine EX.seqN ?_
       refine WC.seq ?_
       refine WC.region ?_
       refine WL.p rfl rfl (PV.mv rfl) <| ?_
       refine WL.go rfl (OX.call cf6 rfl rfl ((paonce_calls (l := LL) (As.gf st20.g2)).mono ?_))
       rintro _ w9 ⟨rfl, s9⟩
       refine ⟨_, rfl, ?_⟩
       have st21 := st20.step s9
       refine WL.p rfl rfl (PV.mv rfl) <| WL.p rfl rfl (PV.mv rfl) <| WL.p rfl rfl (PV.lenM und30 (As.gm st21.g0) rfl) <| WL.p rfl rfl (PV.eqi rfl rfl) <| WL.p rfl rfl (PV.neBf und4 rfl rfl (hcnt.same (by rw [hie]))) <| WL.nil ?_
       refine EX.seqN ?_
       refine WC.condF rfl ?_
       refine WC.skip ?_
       refine EX.blkN ?_
       refine EX.seqN ?_
       refine WC.region ?_
       refine WL.p rfl rfl (PV.add rfl rfl (by omega) (by omega)) <| WL.p rfl rfl (PV.mv rfl) <| WL.nil ?_
       refine EX.againN ?_
       refine LoopN.s ?_
       refine WC.seq ?_
       refine WC.region ?_
       refine WL.p rfl rfl (PV.lss rfl rfl) <| WL.nil ?_
       refine EX.seqN ?_
       refine WC.seq ?_
       refine WC.cond rfl (fun g61 => ?_) (fun g61 => ?_)
       ·
        skip
        exact absurd g61 (by first | (simp; done) | (simp; omega) | (simp_all; done) | (simp_all; omega))
       ·
        skip
        refine WC.exit ?_
        refine EX.thenX ?_
        refine EX.thenX ?_
        refine EX.blkX ?_
        refine EX.seqN ?_
        refine WC.seq ?_
        refine WC.region ?_
        refine WL.go rfl (OX.call (xs := []) (args := []) cf4 rfl rfl ((awake_calls (st21.e0) (As.gf st21.g8)).mono ?_))
        rintro _ _ ⟨_, rfl, hzz⟩
        refine ⟨_, rfl, ?_⟩
        refine WL.p rfl rfl (PV.as rfl) <| WL.nil ?_
        refine EX.seqN ?_
        refine WC.ret ?_
        refine EX.ret1 rfl rfl ?_
        exact ⟨rfl, Chg.trans (St.cg st21) (hzz.chg.chg (fun _ h => by obtain ⟨A, hA, _⟩ := h; cases hA))⟩
     ·
      skip
      exact absurd g61 (by first | (simp; done) | (simp; omega) | (simp_all; done) | (simp_all; omega))
   ·
    skip
    exact absurd g61 (by first | (simp; done) | (simp; omega) | (simp_all; done) | (simp_all; omega))
end Go.Rc

