/- Walks over the program, part WE. Conditions: as each theorem says. -/
import Derived.Test.YtlineioeefgnhaaGreatDoorFacts
import Derived.Test.YtlineioeefgnhaaGreatDoorWB
import Derived.Test.YtlineioeefgnhaaGreatDoorBb
set_option linter.unusedVariables false
set_option linter.unusedSimpArgs false
set_option linter.unusedSectionVars false
namespace Go.Rc
open Go Go.Proofs
set_option maxHeartbeats 400000
theorem copyone_calls {x : Rec} {a : Option Addr} {n c : Nat} {w : World} {M Z : Nat → Prop} (hst : St w M Z w []) (hk : Rd RR.key 2 Z w a n c x.reads) (h4 : x.reads.length ≤ 4000) : Calls Tryz.prog 43 #[.agg (x.row a n c).toArray] w fun e w' => ∃ a' n' c', e = .returned (.agg (x.row a' n' c').toArray) ∧ St w M Z w' [As.os RR.key 27 2 a' n' c' x.reads] := by
 have hkn := hk.len
 refine enter (args := [.agg (x.row a n c).toArray]) Tryz.func43 rfl Tryz.ntmps43 rfl ?_
 have st0 := hst
 have st1 := st0.fact (As.mkro hk) (fun _ hx => hx)
 have st2 := st1.newN RR.key 27 2
 refine WC.seq ?_
 refine WC.region ?_
 refine WL.go rfl (OX.box rfl rfl rfl fun b1 w1 nw1 hb1 => ?_)
 have st3 := st2.newB nw1 hb1
 refine WL.go rfl (OX.alloc zv47 rfl fun b2 w2 nw2 hb2 => ?_)
 have st4 := st3.newB nw2 hb2
 refine WL.nil ?_
 refine EX.seqN ?_
 refine WC.seq ?_
 refine WC.region ?_
 refine WL.p rfl rfl (PV.fa fa47_2 rfl) <| WL.p rfl rfl (PV.ld1 one25 (Blk.range (As.gb st4.g1)) rfl rfl) <| ?_
 refine WL.go rfl (OX.appR ap25 rfl rfl rfl (As.gs st4.g2) ((As.gr st4.g3)) (by omega) (by omega) (Nat.zero_le _) fun a5 c'5 w3 h'5 s5 hf5 hn5 => ?_)
 have st5 := st4.p2.updS s5 h'5 hf5
 refine WL.p rfl rfl (PV.fa fa47_2 rfl) <| ?_
 refine WL.go rfl (OX.st sz25 (As.gb st5.g2) rfl rfl (by first | (simp [nth]; done) | exact nns rfl) rfl rfl fun w4 ss0 _ hs0 => ?_)
 have st6 := st5.p2.updB ss0 hs0
 refine WL.nil ?_
 refine EX.seqN ?_
 refine WC.seq ?_
 refine WC.region ?_
 refine WL.p rfl rfl (PV.ldA agg47 (Blk.range (As.gb st6.g0)) rfl rfl) <| ?_
 refine WL.go rfl (OX.stW sz47 (As.gb st6.g2) rfl rfl rfl rfl rfl fun w5 ss1 _ hs1 => ?_)
 have st7 := st6.p2.updB ss1 hs1
 refine WL.nil ?_
 refine EX.seqN ?_
 refine WC.ret ?_
 refine EX.retC agg47 rfl rfl (Blk.range (As.gb st7.g0)) rfl ?_
 exact ⟨_, _, _, rfl, st7.drop.drop.p1.drop⟩
theorem copyR_calls {l : List Rec} {a : Option Addr} {n c : Nat} {w : World} {M Z : Nat → Prop} (hst : St w M Z w []) (hl : Rd RR.rcd 8 Z w a n c l) (h6 : l.length ≤ 1000000) : Calls Tryz.prog 18 #[.slice a n c] w fun e w' => ∃ a' n' c' Z', e = .returned (.slice a' n' c') ∧ Zle w.heap.size Z Z' ∧ St w M Z' w' [As.os RR.rcd 47 8 a' n' c' l] := by
 have hlen := hl.len
 have hle := hl.le
 refine enter (args := [.slice a n c]) Tryz.func18 rfl Tryz.ntmps18 rfl ?_
 have st0 := hst
 have st1 := st0.fact (As.mkro hl) (fun _ hx => hx)
 have st2 := st1.newN RR.rcd 47 8
 refine WC.seq ?_
 refine WC.region ?_
 refine WL.p rfl rfl (PV.as rfl) <| WL.nil ?_
 refine EX.seqN ?_
 refine WC.seq ?_
 refine WC.region ?_
 refine WL.p rfl rfl (PV.as rfl) <| WL.nil ?_
 refine EX.seqN ?_
 refine WC.seq ?_
 refine WC.seq ?_
 refine WC.region ?_
 refine WL.p rfl rfl (PV.mv rfl) <| WL.p rfl rfl (PV.len' sl38 rfl) <| WL.p rfl rfl (PV.mv rfl) <| WL.nil ?_
 refine EX.seqN ?_
 refine WC.block ?_
 refine WC.loopS (σ := Nat × (Nat → Prop) × (List Rec) × (Option Addr) × Nat × Nat) (kvs := fun (i, Z1, acc, a_ho, n_ho, c_ho) => [(3, .slice a_ho n_ho c_ho), (6, .slice a n c), (7, .int .i64 (n : Int)), (8, .int .i64 (i : Int))]) (F := fun (i, Z1, acc, a_ho, n_ho, c_ho) => [As.os RR.rcd 47 8 a_ho n_ho c_ho (acc)]) (I := fun (i, Z1, acc, a_ho, n_ho, c_ho) => (i ≤ n) ∧ (Zle w.heap.size Z Z1) ∧ (acc = l.take i) ∧ True) (μ := fun (i, Z1, acc, a_ho, n_ho, c_ho) => n - i) (Zf := fun (i, Z1, acc, a_ho, n_ho, c_ho) => Z1) (0, Z, [], none, 0, 0) (st2) (Sub.consV rfl (by first | rfl | (simp; done) | (congr 1; omega) | (simp only []; congr 1; omega)) <| Sub.cons rfl <| Sub.cons rfl <| Sub.consV rfl (by first | rfl | (simp; done) | (congr 1; omega) | (simp only []; congr 1; omega)) <| Sub.nil) (⟨by omega, Zle.refl _ _, by simp, trivial⟩) ?_
 rintro ⟨i, Z1, acc, a_ho, n_ho, c_ho⟩ w1 st3 ⟨hi, hZ, hacc, _⟩
 simp only [List.cons_append, List.nil_append] at st3 hi hZ hacc ⊢
 have hnl := ((As.gs st3.g0)).len
 have htk : acc.length ≤ 1000000 := by rw [hacc, List.length_take]; omega
 refine WC.seq ?_
 refine WC.region ?_
 refine WL.p rfl rfl (PV.lss rfl rfl) <| WL.nil ?_
 refine EX.seqN ?_
 refine WC.seq ?_
 refine WC.cond rfl (fun g9 => ?_) (fun g9 => ?_)
 ·
  skip
  simp at g9
  have hi2 : i < l.length := by omega
  refine WC.skip ?_
  refine EX.seqN ?_
  refine WC.seq ?_
  refine WC.block ?_
  refine WC.seq ?_
  obtain ⟨b_x1, o_x1, r_x1, ha_x1, hl_x1, hR_x1, hr_x1, hz_x1⟩ := Rd.at (As.gr st3.g1) hi2
  obtain ⟨q1, q2, q3, rfl, hkq, hk4⟩ := hR_x1
  have st4 := st3.fact (As.mkrg hz_x1 (st3.zlt _ hz_x1) hr_x1) (fun _ hx => hx)
  have st5 := st4.fact (As.mkro hkq) (fun _ hx => hx)
  refine WC.region ?_
  refine WL.p rfl rfl (PV.ixS sl38 ha_x1 rfl rfl (by omega)) <| WL.p rfl rfl (PV.ldA agg47 (As.grg st5.g1) rfl rfl) <| ?_
  refine WL.go rfl (OX.alloc zv47 rfl fun b5 w2 nw5 hb5 => ?_)
  have st6 := st5.newB nw5 hb5
  refine WL.go rfl (OX.stW sz47 (As.gb st6.g0) rfl rfl rfl rfl rfl fun w3 ss0 _ hs0 => ?_)
  have st7 := st6.updB ss0 hs0
  refine WL.nil ?_
  refine EX.seqN ?_
  refine WC.region ?_
  refine WL.p rfl rfl (PV.mv rfl) <| WL.p rfl rfl (PV.ldA agg47 (Blk.range (As.gb st7.g0)) rfl rfl) <| ?_
  have st8 := st7
  refine WL.go rfl (OX.call cf43 rfl rfl ((copyone_calls st8.e0 (As.gr st8.g1) hk4).mono ?_))
  rintro _ w4 ⟨e1, e2, e3, rfl, hst4⟩
  refine ⟨_, rfl, ?_⟩
  have st9 := St.leave (l0 := []) st8 hst4 (Zle.refl _ _)
  simp only [List.cons_append, List.nil_append] at st9
  have hge := St.fresh0 hst4
  have hsz := st8.size
  have st10 := st9.frzS (by omega)
  have hZ2 := hZ.trans (Zle.frz (F := fun x => x ∈ oblk e1) hge) hsz
  refine WL.go rfl (OX.bslice' (us := l[i].row e1 e2 e3) bs38_1 rfl rfl rfl rfl fun b15 w5 nw15 hb15 => ?_)
  have st11 := st10.newB nw15 hb15
  refine WL.go rfl (OX.appR ap38 rfl rfl rfl (As.gs st11.g5) (SR.blk1 (A := fun _ => True) (x := l[i]) (As.gb st11.g0) trivial rfl (Rec.one _ _ _ _) ⟨e1, e2, e3, rfl, (As.gr st11.g1), hk4⟩) (by omega) (by omega) (Nat.zero_le _) fun a16 c'16 w6 h'16 s16 hf16 hn16 => ?_)
  have st12 := st11.p5.updS s16 h'16 hf16
  refine WL.p rfl rfl (PV.as rfl) <| WL.nil ?_
  refine EX.blkN ?_
  refine EX.seqN ?_
  refine WC.region ?_
  refine WL.p rfl rfl (PV.add rfl rfl (by omega) (by omega)) <| WL.p rfl rfl (PV.mv rfl) <| WL.nil ?_
  refine EX.again (i + 1, _, acc ++ [l[i]], a16, (n_ho + 1), c'16) (Sub.consV rfl (by first | rfl | (simp; done) | (congr 1; omega) | (simp only []; congr 1; omega)) <| Sub.cons rfl <| Sub.cons rfl <| Sub.consV rfl (by first | rfl | (simp; done) | (congr 1; omega) | (simp only []; congr 1; omega)) <| Sub.nil) ⟨st12.p1.drop.p1.drop.p1.drop.p1.drop.p1.drop, ⟨by omega, hZ2, by rw [hacc, List.take_succ_eq_append_getElem hi2], trivial⟩⟩ (by first | (simp only []; omega) | omega)
 ·
  skip
  simp at g9
  have hall : acc = l := by rw [hacc]; exact List.take_of_length_le (by omega)
  subst hall
  refine WC.exit ?_
  refine EX.thenX ?_
  refine EX.thenX ?_
  refine EX.blkX ?_
  refine EX.seqN ?_
  refine WC.seq ?_
  refine WC.region ?_
  refine WL.p rfl rfl (PV.mv rfl) <| WL.p rfl rfl (PV.as rfl) <| WL.nil ?_
  refine EX.seqN ?_
  refine WC.ret ?_
  refine EX.ret1 rfl rfl ?_
  exact ⟨_, _, _, _, rfl, hZ, st3.p1.drop⟩
theorem findR_calls {l : List Rec} {k : Key} {a : Option Addr} {n c : Nat} {w : World} {M Z : Nat → Prop} (hst : St w M Z w []) (hl : Rd RR.rcd 8 Z w a n c l) : Calls Tryz.prog 38 #[.slice a n c, k.val] w fun e w' => ∃ a' n' c', e = .returned (.tuple #[.agg ((recOf l k).row a' n' c').toArray, .bool (findR l k).isSome]) ∧ (recOf l k).reads.length ≤ 4000 ∧ St w M Z w' [As.os RR.key 27 2 a' n' c' (recOf l k).reads] := by
 have hlen := hl.len
 have hle := hl.le
 refine enter (args := [.slice a n c, k.val]) Tryz.func38 rfl Tryz.ntmps38 rfl ?_
 have st0 := hst
 have st1 := st0.fact (As.mkro hl) (fun _ hx => hx)
 refine WC.seq ?_
 refine WC.region ?_
 refine WL.go rfl (OX.box rfl rfl rfl fun b3 w1 nw3 hb3 => ?_)
 have st2 := st1.newB nw3 hb3
 refine WL.go rfl (OX.alloc zv47 rfl fun b4 w2 nw4 hb4 => ?_)
 have st3 := st2.newB nw4 hb4
 refine WL.p rfl rfl (PV.as rfl) <| WL.nil ?_
 refine EX.seqN ?_
 refine WC.seq ?_
 refine WC.seq ?_
 refine WC.region ?_
 refine WL.p rfl rfl (PV.mv rfl) <| WL.p rfl rfl (PV.len' sl38 rfl) <| WL.p rfl rfl (PV.mv rfl) <| WL.nil ?_
 refine EX.seqN ?_
 refine WC.block ?_
 refine WC.loopS1 (σ := Nat) (kvs := fun i => [(3, .pointer (some ⟨b3, 0, none⟩)), (4, .pointer (some ⟨b4, 0, none⟩)), (8, .slice a n c), (9, .int .i64 (n : Int)), (10, .int .i64 (i : Int))]) (F := fun i => []) (I := fun i => (i ≤ n) ∧ (∀ j x, j < i → l[j]? = some x → (x.key == k) = false) ∧ True) (μ := fun i => n - i) (0) (st3) (Sub.cons rfl <| Sub.cons rfl <| Sub.cons rfl <| Sub.cons rfl <| Sub.consV rfl (by first | rfl | (simp; done) | (congr 1; omega) | (simp only []; congr 1; omega)) <| Sub.nil) (⟨by omega, fun j x h => by omega, trivial⟩) ?_
 rintro i w3 st4 ⟨hi, hno, _⟩
 simp only [List.cons_append, List.nil_append] at st4 hi hno ⊢
 refine WC.seq ?_
 refine WC.region ?_
 refine WL.p rfl rfl (PV.lss rfl rfl) <| WL.nil ?_
 refine EX.seqN ?_
 refine WC.seq ?_
 refine WC.cond rfl (fun g11 => ?_) (fun g11 => ?_)
 ·
  skip
  simp at g11
  have hi2 : i < l.length := by omega
  refine WC.skip ?_
  refine EX.seqN ?_
  refine WC.seq ?_
  refine WC.block ?_
  refine WC.seq ?_
  obtain ⟨b_x1, o_x1, r_x1, ha_x1, hl_x1, hR_x1, hr_x1, hz_x1⟩ := Rd.at (As.gr st4.g2) hi2
  obtain ⟨q1, q2, q3, rfl, hkq, hk4⟩ := hR_x1
  have st5 := st4.fact (As.mkrg hz_x1 (st4.zlt _ hz_x1) hr_x1) (fun _ hx => hx)
  have st6 := st5.fact (As.mkro hkq) (fun _ hx => hx)
  refine WC.region ?_
  refine WL.p rfl rfl (PV.ixS sl38 ha_x1 rfl rfl (by omega)) <| WL.p rfl rfl (PV.ldA agg47 (As.grg st6.g1) rfl rfl) <| ?_
  refine WL.go rfl (OX.alloc zv47 rfl fun b7 w4 nw7 hb7 => ?_)
  have st7 := st6.newB nw7 hb7
  refine WL.go rfl (OX.stW sz47 (As.gb st7.g0) rfl rfl rfl rfl rfl fun w5 ss0 _ hs0 => ?_)
  have st8 := st7.updB ss0 hs0
  refine WL.nil ?_
  refine EX.seqN ?_
  refine WC.seq ?_
  refine WC.region ?_
  refine WL.p rfl rfl (PV.fa fa47_0 rfl) <| WL.p rfl rfl (PV.ldM agg27 (Blk.range (As.gb st8.g0)) rfl rfl) <| WL.p rfl rfl (PV.ldA agg27 (Blk.range (As.gb st8.g4)) rfl rfl) <| WL.p rfl rfl (PV.eqK keyt27 (p := l[i].key) (q := k) rfl rfl) <| WL.nil ?_
  refine EX.seqN ?_
  refine WC.cond rfl (fun g17 => ?_) (fun g17 => ?_)
  ·
   skip
   simp at g17
   have hf : findR l k = some l[i] := find_before hi2 hno (by simpa using g17)
   have hrf : recOf l k = l[i] := by unfold recOf; rw [hf]; rfl
   refine WC.seq ?_
   refine WC.region ?_
   refine WL.p rfl rfl (PV.ldA agg47 (Blk.range (As.gb st8.g0)) rfl rfl) <| ?_
   have st9 := st8
   refine WL.go rfl (OX.call cf43 rfl rfl ((copyone_calls st9.e0 (As.gr st9.g1) hk4).mono ?_))
   rintro _ w6 ⟨e1, e2, e3, rfl, hst6⟩
   refine ⟨_, rfl, ?_⟩
   have st10 := St.leave (l0 := []) st9 hst6 (Zle.refl _ _)
   simp only [List.cons_append, List.nil_append] at st10
   refine WL.go rfl (OX.stW sz47 (As.gb st10.g4) rfl rfl rfl rfl rfl fun w7 ss1 _ hs1 => ?_)
   have st11 := st10.p4.updB ss1 hs1
   refine WL.p rfl rfl (PV.as rfl) <| WL.nil ?_
   refine EX.seqN ?_
   refine WC.ret ?_
   refine EX.blkR ?_
   refine EX.thenR ?_
   refine EX.thenR ?_
   refine EX.blkR ?_
   refine EX.thenR ?_
   refine EX.retN rfl (RS.cell agg47 rfl (Blk.range (As.gb st11.g0)) rfl <| RS.tmp rfl <| RS.nil) rfl ?_
   exact ⟨e1, e2, e3, by rw [hf, hrf]; rfl, by rw [hrf]; exact hk4, by rw [hrf]; exact st11.drop.p1.drop.p1.drop.p1.drop.p1.drop.p1.drop⟩
  ·
   skip
   simp at g17
   refine WC.skip ?_
   refine EX.blkN ?_
   refine EX.seqN ?_
   refine WC.region ?_
   refine WL.p rfl rfl (PV.add rfl rfl (by omega) (by omega)) <| WL.p rfl rfl (PV.mv rfl) <| WL.nil ?_
   refine EX.again (i + 1) (Sub.cons rfl <| Sub.cons rfl <| Sub.cons rfl <| Sub.cons rfl <| Sub.consV rfl (by first | rfl | (simp; done) | (congr 1; omega) | (simp only []; congr 1; omega)) <| Sub.nil) ⟨st8.drop.drop.drop, ⟨by omega, below_succ hi2 hno (by simpa using g17), trivial⟩⟩ (by first | (simp only []; omega) | omega)
 ·
  skip
  simp at g11
  have hf : findR l k = none := find_all (i := i) (by omega) hno
  have hrf : recOf l k = noRec := by unfold recOf; rw [hf]; rfl
  have st5 := st4.newN RR.key 27 2
  refine WC.exit ?_
  refine EX.thenX ?_
  refine EX.thenX ?_
  refine EX.blkX ?_
  refine EX.seqN ?_
  refine WC.seq ?_
  refine WC.region ?_
  refine WL.p rfl rfl (PV.build' (us := [.int .i64 0, .string ⟨#[]⟩, .string ⟨#[]⟩, .slice none 0 0, .int .i64 0, .int .i64 0, .int .i64 0, .bool false]) bt47 rfl rfl rfl) <| ?_
  refine WL.go rfl (OX.stW sz47 (As.gb st5.g1) rfl rfl rfl rfl rfl fun w4 ss2 _ hs2 => ?_)
  have st6 := st5.p1.updB ss2 hs2
  refine WL.p rfl rfl (PV.as rfl) <| WL.nil ?_
  refine EX.seqN ?_
  refine WC.ret ?_
  refine EX.retN rfl (RS.cell agg47 rfl (Blk.range (As.gb st6.g0)) rfl <| RS.tmp rfl <| RS.nil) rfl ?_
  exact ⟨none, 0, 0, by rw [hf, hrf]; rfl, by rw [hrf]; simp [noRec], by rw [hrf]; exact st6.drop.p1.drop.p1.drop⟩
theorem findR_calls0 {l : List Rec} {k : Key} {a : Option Addr} {n c : Nat} {w : World} {Z : Nat → Prop} (hl : Rd RR.rcd 8 Z w a n c l) : Calls Tryz.prog 38 #[.slice a n c, k.val] w fun e w' => ∃ a' n' c', e = .returned (.tuple #[.agg ((recOf l k).row a' n' c').toArray, .bool (findR l k).isSome]) ∧ Chg [] w w' :=
 (findR_calls (M := fun _ => False) (St.start fun _ hx => hx.2) hl.cut).mono fun _ _ ⟨a', n', c', h1, _, h2⟩ => ⟨a', n', c', h1, h2.cg⟩
theorem putR_calls {l : List Rec} {x : Rec} {a a2 : Option Addr} {n c n2 e2 : Nat} {w : World} {M Z : Nat → Prop} (hst : St w M Z w []) (hl : Rd RR.rcd 8 Z w a n c l) (h6 : l.length ≤ 1000000) (hx : Rd RR.key 2 Z w a2 n2 e2 x.reads) (hx4 : x.reads.length ≤ 4000) : Calls Tryz.prog 81 #[.slice a n c, .agg (x.row a2 n2 e2).toArray] w fun e w' => ∃ a' n' c' Z', e = .returned (.slice a' n' c') ∧ Zle w.heap.size Z Z' ∧ St w M Z' w' [As.os RR.rcd 47 8 a' n' c' (putR l x)] := by
 have hlen := hl.len
 refine enter (args := [.slice a n c, .agg (x.row a2 n2 e2).toArray]) Tryz.func81 rfl Tryz.ntmps81 rfl ?_
 have st0 := hst
 have st1 := st0.fact (As.mkro hl) (fun _ hx => hx)
 have st2 := st1.fact (As.mkro hx) (fun _ hx => hx)
 have st3 := st2.newN RR.rcd 47 8
 refine WC.seq ?_
 refine WC.region ?_
 refine WL.go rfl (OX.box rfl rfl rfl fun b3 w1 nw3 hb3 => ?_)
 have st4 := st3.newB nw3 hb3
 refine WL.p rfl rfl (PV.as rfl) <| WL.nil ?_
 refine EX.seqN ?_
 refine WC.seq ?_
 refine WC.region ?_
 refine WL.p rfl rfl (PV.as rfl) <| WL.nil ?_
 refine EX.seqN ?_
 refine WC.seq ?_
 refine WC.region ?_
 refine WL.p rfl rfl (PV.as rfl) <| WL.nil ?_
 refine EX.seqN ?_
 refine WC.seq ?_
 refine WC.seq ?_
 refine WC.region ?_
 refine WL.p rfl rfl (PV.mv rfl) <| WL.p rfl rfl (PV.len' sl38 rfl) <| WL.p rfl rfl (PV.mv rfl) <| WL.nil ?_
 refine EX.seqN ?_
 refine WC.block ?_
 refine WC.loopS (σ := Nat × Bool × (Nat → Prop) × (List Rec) × (Option Addr) × Nat × Nat) (kvs := fun (i, put, Z1, out, a_ho, n_ho, c_ho) => [(3, .pointer (some ⟨b3, 0, none⟩)), (5, .slice a_ho n_ho c_ho), (6, .bool put), (10, .slice a n c), (11, .int .i64 (n : Int)), (12, .int .i64 (i : Int))]) (F := fun (i, put, Z1, out, a_ho, n_ho, c_ho) => [As.os RR.rcd 47 8 a_ho n_ho c_ho (out)]) (I := fun (i, put, Z1, out, a_ho, n_ho, c_ho) => (i ≤ n) ∧ (Zle w.heap.size Z Z1) ∧ (out ++ putGo x (l.drop i) put = putR l x) ∧ True) (μ := fun (i, put, Z1, out, a_ho, n_ho, c_ho) => n - i) (Zf := fun (i, put, Z1, out, a_ho, n_ho, c_ho) => Z1) (0, false, Z, [], none, 0, 0) (st4.p1) (Sub.cons rfl <| Sub.consV rfl (by first | rfl | (simp; done) | (congr 1; omega) | (simp only []; congr 1; omega)) <| Sub.consV rfl (by first | rfl | (simp; done) | (congr 1; omega) | (simp only []; congr 1; omega)) <| Sub.cons rfl <| Sub.cons rfl <| Sub.consV rfl (by first | rfl | (simp; done) | (congr 1; omega) | (simp only []; congr 1; omega)) <| Sub.nil) (⟨by omega, Zle.refl _ _, rfl, trivial⟩) ?_
 rintro ⟨i, put, Z1, out, a_ho, n_ho, c_ho⟩ w2 st5 ⟨hi, hZ, hinv, _⟩
 simp only [List.cons_append, List.nil_append] at st5 hi hZ hinv ⊢
 have hnl := ((As.gs st5.g0)).len
 have hol : out.length ≤ 1000001 := by have h1 := congrArg List.length hinv; have h2 := putGo_len x l false; simp only [putR, List.length_append] at h1; omega
 refine WC.seq ?_
 refine WC.region ?_
 refine WL.p rfl rfl (PV.lss rfl rfl) <| WL.nil ?_
 refine EX.seqN ?_
 refine WC.seq ?_
 refine WC.cond rfl (fun g13 => ?_) (fun g13 => ?_)
 ·
  skip
  simp at g13
  have hi2 : i < l.length := by omega
  have hstep : putGo x (l.drop i) put = (if decide (0 ≤ cmpK l[i].key x.key) && !put then [x] else []) ++ (if cmpK l[i].key x.key = 0 then [] else [l[i]]) ++ putGo x (l.drop (i + 1)) (put || decide (0 ≤ cmpK l[i].key x.key)) := by rw [List.drop_eq_getElem_cons hi2]; rfl
  refine WC.skip ?_
  refine EX.seqN ?_
  refine WC.seq ?_
  refine WC.block ?_
  refine WC.seq ?_
  obtain ⟨b_x1, o_x1, r_x1, ha_x1, hl_x1, hR_x1, hr_x1, hz_x1⟩ := Rd.at (As.gr st5.g3) hi2
  obtain ⟨q1, q2, q3, rfl, hkq, hk4⟩ := hR_x1
  have st6 := st5.fact (As.mkrg hz_x1 (st5.zlt _ hz_x1) hr_x1) (fun _ hx => hx)
  have st7 := st6.fact (As.mkro hkq) (fun _ hx => hx)
  refine WC.region ?_
  refine WL.p rfl rfl (PV.ixS sl38 ha_x1 rfl rfl (by omega)) <| WL.p rfl rfl (PV.ldA agg47 (As.grg st7.g1) rfl rfl) <| ?_
  refine WL.go rfl (OX.alloc zv47 rfl fun b8 w3 nw8 hb8 => ?_)
  have st8 := st7.newB nw8 hb8
  refine WL.go rfl (OX.stW sz47 (As.gb st8.g0) rfl rfl rfl rfl rfl fun w4 ss0 _ hs0 => ?_)
  have st9 := st8.updB ss0 hs0
  refine WL.nil ?_
  refine EX.seqN ?_
  refine WC.seq ?_
  refine WC.region ?_
  refine WL.p rfl rfl (PV.fa fa47_0 rfl) <| WL.p rfl rfl (PV.ldM agg27 (Blk.range (As.gb st9.g0)) rfl rfl) <| WL.p rfl rfl (PV.fa fa47_0 rfl) <| WL.p rfl rfl (PV.ldM agg27 (Blk.range (As.gb st9.g4)) rfl rfl) <| ?_
  refine WL.go rfl (OX.call cf42 rfl rfl ((cmp_calls (k := l[i].key) (q := x.key)).mono ?_))
  rintro _ w5 ⟨rfl, s5⟩
  refine ⟨_, rfl, ?_⟩
  have st10 := st9.step s5
  refine WL.p rfl rfl (PV.as rfl) <| WL.nil ?_
  refine EX.seqN ?_
  refine WC.seq ?_
  refine WC.seq ?_
  refine WC.cut1S (t := 26) (v := .bool (decide (0 ≤ cmpK l[i].key x.key) && !put)) st10 ?_ ?_
  ·
   skip
   refine WC.region ?_
   refine WL.p rfl rfl (PV.mv rfl) <| WL.p rfl rfl (PV.geq rfl rfl) <| WL.p rfl rfl (PV.mv rfl) <| ?_
   refine WL.gsplit (t := 23) rfl (fun g23 => ?_) (fun g23 => ?_)
   ·
    skip
    refine WL.p rfl rfl (PV.mv rfl) <| WL.p rfl rfl (PV.not rfl) <| WL.p rfl rfl (PV.pickT rfl rfl rfl) <| WL.nil ?_
    exact EX.meet1 7 rfl rfl rfl (by simp only [g23]; first | rfl | simp) (st10)
   ·
    skip
    refine WL.no rfl rfl <| WL.no rfl rfl <| WL.p rfl rfl (PV.pickF rfl rfl rfl) <| WL.nil ?_
    exact EX.meet1 7 rfl rfl rfl (by simp only [g23]; first | rfl | simp) (st10)
  intro w6 st11
  refine EX.seqN ?_
  refine WC.cond rfl (fun g26 => ?_) (fun g26 => ?_)
  ·
   skip
   simp at g26
   obtain ⟨hA, hB⟩ := g26
   subst hB
   have hs : putGo x (l.drop i) false = [x] ++ (if cmpK l[i].key x.key = 0 then [] else [l[i]]) ++ putGo x (l.drop (i + 1)) true := by rw [hstep]; simp [hA]
   refine WC.region ?_
   refine WL.p rfl rfl (PV.mv rfl) <| WL.p rfl rfl (PV.ldA agg47 (Blk.range (As.gb st11.g4)) rfl rfl) <| ?_
   have st12 := st11
   refine WL.go rfl (OX.call cf43 rfl rfl ((copyone_calls st12.e0 (As.gr st12.g5) hx4).mono ?_))
   rintro _ w7 ⟨f1, f2, f3, rfl, hst7⟩
   refine ⟨_, rfl, ?_⟩
   have st13 := St.leave (l0 := []) st12 hst7 (Zle.refl _ _)
   simp only [List.cons_append, List.nil_append] at st13
   have hge := St.fresh0 hst7
   have hsz := st12.size
   have st14 := st13.frzS (by omega)
   have hZ2 := hZ.trans (Zle.frz (F := fun x => x ∈ oblk f1) hge) hsz
   refine WL.go rfl (OX.bslice' (us := x.row f1 f2 f3) bs38_1 rfl rfl rfl rfl fun b30 w8 nw30 hb30 => ?_)
   have st15 := st14.newB nw30 hb30
   refine WL.go rfl (OX.appR ap38 rfl rfl rfl (As.gs st15.g5) (SR.blk1 (A := fun _ => True) (x := x) (As.gb st15.g0) trivial rfl (Rec.one _ _ _ _) ⟨f1, f2, f3, rfl, (As.gr st15.g1), hx4⟩) (by omega) (by omega) (Nat.zero_le _) fun a31 c'31 w9 h'31 s31 hf31 hn31 => ?_)
   have st16 := st15.p5.updS s31 h'31 hf31
   refine WL.p rfl rfl (PV.as rfl) <| WL.p rfl rfl (PV.as rfl) <| WL.nil ?_
   refine EX.seqN ?_
   refine WC.seq ?_
   refine WC.region ?_
   refine WL.p rfl rfl (PV.mv rfl) <| WL.p rfl rfl (PV.nei rfl rfl) <| WL.nil ?_
   refine EX.seqN ?_
   refine WC.cond rfl (fun g33 => ?_) (fun g33 => ?_)
   ·
    skip
    simp at g33
    rw [if_neg g33] at hs
    refine WC.region ?_
    refine WL.p rfl rfl (PV.mv rfl) <| WL.p rfl rfl (PV.ldA agg47 (Blk.range (As.gb st16.g3)) rfl rfl) <| ?_
    refine WL.go rfl (OX.bslice' (us := l[i].row q1 q2 q3) bs38_1 rfl rfl rfl rfl fun b36 w10 nw36 hb36 => ?_)
    have st17 := st16.newB nw36 hb36
    refine WL.go rfl (OX.appR ap38 rfl rfl rfl (As.gs st17.g1) (SR.blk1 (A := fun _ => True) (x := l[i]) (As.gb st17.g0) trivial rfl (Rec.one _ _ _ _) ⟨q1, q2, q3, rfl, (As.gr st17.g5), hk4⟩) (by omega) (by omega) (Nat.zero_le _) fun a37 c'37 w11 h'37 s37 hf37 hn37 => ?_)
    have st18 := st17.p1.updS s37 h'37 hf37
    refine WL.p rfl rfl (PV.as rfl) <| WL.nil ?_
    refine EX.blkN ?_
    refine EX.seqN ?_
    refine WC.region ?_
    refine WL.p rfl rfl (PV.add rfl rfl (by omega) (by omega)) <| WL.p rfl rfl (PV.mv rfl) <| WL.nil ?_
    refine EX.again (i + 1, true, _, _, a37, ((n_ho + 1) + 1), c'37) (Sub.cons rfl <| Sub.consV rfl (by first | rfl | (simp; done) | (congr 1; omega) | (simp only []; congr 1; omega)) <| Sub.consV rfl (by first | rfl | (simp; done) | (congr 1; omega) | (simp only []; congr 1; omega)) <| Sub.cons rfl <| Sub.cons rfl <| Sub.consV rfl (by first | rfl | (simp; done) | (congr 1; omega) | (simp only []; congr 1; omega)) <| Sub.nil) ⟨st18.p1.drop.p1.drop.p1.drop.p1.drop.p1.drop.p1.drop, ⟨by omega, hZ2, by rw [← hinv, hs]; simp, trivial⟩⟩ (by first | (simp only []; omega) | omega)
   ·
    skip
    simp at g33
    rw [if_pos g33] at hs
    refine WC.skip ?_
    refine EX.blkN ?_
    refine EX.seqN ?_
    refine WC.region ?_
    refine WL.p rfl rfl (PV.add rfl rfl (by omega) (by omega)) <| WL.p rfl rfl (PV.mv rfl) <| WL.nil ?_
    refine EX.again (i + 1, true, _, _, a31, (n_ho + 1), c'31) (Sub.cons rfl <| Sub.consV rfl (by first | rfl | (simp; done) | (congr 1; omega) | (simp only []; congr 1; omega)) <| Sub.consV rfl (by first | rfl | (simp; done) | (congr 1; omega) | (simp only []; congr 1; omega)) <| Sub.cons rfl <| Sub.cons rfl <| Sub.consV rfl (by first | rfl | (simp; done) | (congr 1; omega) | (simp only []; congr 1; omega)) <| Sub.nil) ⟨st16.p1.drop.p1.drop.p1.drop.p1.drop.p1.drop, ⟨by omega, hZ2, by rw [← hinv, hs]; simp, trivial⟩⟩ (by first | (simp only []; omega) | omega)
  ·
   skip
   have hs : putGo x (l.drop i) put = [] ++ (if cmpK l[i].key x.key = 0 then [] else [l[i]]) ++ putGo x (l.drop (i + 1)) put := by
    rw [hstep]
    cases put
    ·
     simp at g26; rw [decide_eq_false (by omega)]; rfl
    ·
     simp
   refine WC.skip ?_
   refine EX.seqN ?_
   refine WC.seq ?_
   refine WC.region ?_
   refine WL.p rfl rfl (PV.mv rfl) <| WL.p rfl rfl (PV.nei rfl rfl) <| WL.nil ?_
   refine EX.seqN ?_
   refine WC.cond rfl (fun g33 => ?_) (fun g33 => ?_)
   ·
    skip
    simp at g33
    rw [if_neg g33] at hs
    refine WC.region ?_
    refine WL.p rfl rfl (PV.mv rfl) <| WL.p rfl rfl (PV.ldA agg47 (Blk.range (As.gb st11.g0)) rfl rfl) <| ?_
    refine WL.go rfl (OX.bslice' (us := l[i].row q1 q2 q3) bs38_1 rfl rfl rfl rfl fun b36 w7 nw36 hb36 => ?_)
    have st12 := st11.newB nw36 hb36
    refine WL.go rfl (OX.appR ap38 rfl rfl rfl (As.gs st12.g4) (SR.blk1 (A := fun _ => True) (x := l[i]) (As.gb st12.g0) trivial rfl (Rec.one _ _ _ _) ⟨q1, q2, q3, rfl, (As.gr st12.g2), hk4⟩) (by omega) (by omega) (Nat.zero_le _) fun a37 c'37 w8 h'37 s37 hf37 hn37 => ?_)
    have st13 := st12.p4.updS s37 h'37 hf37
    refine WL.p rfl rfl (PV.as rfl) <| WL.nil ?_
    refine EX.blkN ?_
    refine EX.seqN ?_
    refine WC.region ?_
    refine WL.p rfl rfl (PV.add rfl rfl (by omega) (by omega)) <| WL.p rfl rfl (PV.mv rfl) <| WL.nil ?_
    refine EX.again (i + 1, put, _, _, a37, (n_ho + 1), c'37) (Sub.cons rfl <| Sub.consV rfl (by first | rfl | (simp; done) | (congr 1; omega) | (simp only []; congr 1; omega)) <| Sub.consV rfl (by first | rfl | (simp; done) | (congr 1; omega) | (simp only []; congr 1; omega)) <| Sub.cons rfl <| Sub.cons rfl <| Sub.consV rfl (by first | rfl | (simp; done) | (congr 1; omega) | (simp only []; congr 1; omega)) <| Sub.nil) ⟨st13.p1.drop.p1.drop.p1.drop.p1.drop, ⟨by omega, hZ, by rw [← hinv, hs]; simp, trivial⟩⟩ (by first | (simp only []; omega) | omega)
   ·
    skip
    simp at g33
    rw [if_pos g33] at hs
    refine WC.skip ?_
    refine EX.blkN ?_
    refine EX.seqN ?_
    refine WC.region ?_
    refine WL.p rfl rfl (PV.add rfl rfl (by omega) (by omega)) <| WL.p rfl rfl (PV.mv rfl) <| WL.nil ?_
    refine EX.again (i + 1, put, _, _, a_ho, n_ho, c_ho) (Sub.cons rfl <| Sub.consV rfl (by first | rfl | (simp; done) | (congr 1; omega) | (simp only []; congr 1; omega)) <| Sub.consV rfl (by first | rfl | (simp; done) | (congr 1; omega) | (simp only []; congr 1; omega)) <| Sub.cons rfl <| Sub.cons rfl <| Sub.consV rfl (by first | rfl | (simp; done) | (congr 1; omega) | (simp only []; congr 1; omega)) <| Sub.nil) ⟨st11.drop.drop.drop, ⟨by omega, hZ, by rw [← hinv, hs]; simp, trivial⟩⟩ (by first | (simp only []; omega) | omega)
 ·
  skip
  simp at g13
  have hall : l.drop i = [] := List.drop_eq_nil_of_le (by omega)
  rw [hall] at hinv
  refine WC.exit ?_
  refine EX.thenX ?_
  refine EX.thenX ?_
  refine EX.blkX ?_
  refine EX.seqN ?_
  refine WC.seq ?_
  refine WC.seq ?_
  refine WC.region ?_
  refine WL.p rfl rfl (PV.mv rfl) <| WL.p rfl rfl (PV.not rfl) <| WL.nil ?_
  refine EX.seqN ?_
  refine WC.cond rfl (fun g40 => ?_) (fun g40 => ?_)
  ·
   skip
   simp at g40
   subst g40
   refine WC.region ?_
   refine WL.p rfl rfl (PV.mv rfl) <| WL.p rfl rfl (PV.ldA agg47 (Blk.range (As.gb st5.g1)) rfl rfl) <| ?_
   have st6 := st5
   refine WL.go rfl (OX.call cf43 rfl rfl ((copyone_calls st6.e0 (As.gr st6.g2) hx4).mono ?_))
   rintro _ w3 ⟨f1, f2, f3, rfl, hst3⟩
   refine ⟨_, rfl, ?_⟩
   have st7 := St.leave (l0 := []) st6 hst3 (Zle.refl _ _)
   simp only [List.cons_append, List.nil_append] at st7
   have hge := St.fresh0 hst3
   have hsz := st6.size
   have st8 := st7.frzS (by omega)
   have hZ2 := hZ.trans (Zle.frz (F := fun x => x ∈ oblk f1) hge) hsz
   refine WL.go rfl (OX.bslice' (us := x.row f1 f2 f3) bs38_1 rfl rfl rfl rfl fun b44 w4 nw44 hb44 => ?_)
   have st9 := st8.newB nw44 hb44
   refine WL.go rfl (OX.appR ap38 rfl rfl rfl (As.gs st9.g2) (SR.blk1 (A := fun _ => True) (x := x) (As.gb st9.g0) trivial rfl (Rec.one _ _ _ _) ⟨f1, f2, f3, rfl, (As.gr st9.g1), hx4⟩) (by omega) (by omega) (Nat.zero_le _) fun a45 c'45 w5 h'45 s45 hf45 hn45 => ?_)
   have st10 := st9.p2.updS s45 h'45 hf45
   refine WL.p rfl rfl (PV.as rfl) <| WL.nil ?_
   refine EX.seqN ?_
   refine WC.seq ?_
   refine WC.region ?_
   refine WL.p rfl rfl (PV.mv rfl) <| WL.p rfl rfl (PV.as rfl) <| WL.nil ?_
   refine EX.seqN ?_
   refine WC.ret ?_
   refine EX.ret1 rfl rfl ?_
   exact ⟨_, _, _, _, rfl, hZ2, by rw [← hinv]; exact st10.p1.drop.p1.drop.p1.drop.p1.drop.p1.drop⟩
  ·
   skip
   simp at g40
   subst g40
   refine WC.skip ?_
   refine EX.seqN ?_
   refine WC.seq ?_
   refine WC.region ?_
   refine WL.p rfl rfl (PV.mv rfl) <| WL.p rfl rfl (PV.as rfl) <| WL.nil ?_
   refine EX.seqN ?_
   refine WC.ret ?_
   refine EX.ret1 rfl rfl ?_
   exact ⟨_, _, _, _, rfl, hZ, by rw [← hinv]; simp only [putGo, List.append_nil, if_true]; exact st5.p1.drop.p1.drop.p1.drop⟩
theorem validR_calls {x : Rec} {a : Option Addr} {n c : Nat} {w : World} {Z : Nat → Prop} (hk : Rd RR.key 2 Z w a n c x.reads) : Calls Tryz.prog 116 #[.agg (x.row a n c).toArray] w fun e w' => e = .returned (.bool (validRec x)) ∧ Chg [] w w'  := by
 have hlen := SR.len hk
 have hle := SR.le hk
 refine enter (args := [.agg (x.row a n c).toArray]) Tryz.func116 rfl Tryz.ntmps116 rfl ?_
 have c0 : Chg [] w w := Chg.refl _ _
 refine WC.seq ?_
 refine WC.region ?_
 refine WL.go rfl (OX.box rfl rfl rfl fun b1 w1 nw1 hb1 => ?_)
 have s1 := nw1.ext
 have ge_hb1 := nw1.ge' c0
 have c1 := c0.trans s1
 refine WL.p rfl rfl (PV.as rfl) <| WL.nil ?_
 refine EX.seqN ?_
 refine WC.seq ?_
 refine WC.seq ?_
 refine WC.region ?_
 refine WL.p rfl rfl (PV.fa fa47_2 rfl) <| WL.p rfl rfl (PV.ld1 one25 hb1.range rfl rfl) <| WL.p rfl rfl (PV.len' sl25 rfl) <| WL.p rfl rfl (PV.mv rfl) <| WL.nil ?_
 refine EX.seqN ?_
 refine WC.block ?_
 refine WC.loop (σ := Nat) (kvs := fun i => [(1, .pointer (some ⟨b1, 0, none⟩)), (6, .slice a n c), (7, .int .i64 (n : Int)), (8, .int .i64 (i : Int))]) (I := fun i w' => Chg [] w w' ∧ Blk w' b1 47 (x.row a n c) ∧ i ≤ n ∧ ∀ j y, j < i → x.reads[j]? = some y → validK y = true) (μ := fun i => n - i) 0 (Sub.cons rfl <| Sub.cons rfl <| Sub.cons rfl <| Sub.cons rfl <| Sub.nil) ⟨c1, hb1, by omega, fun j y h => by omega⟩ ?_
 rintro i w2 ⟨c2, hb1, hi, hall⟩
 refine WC.seq ?_
 refine WC.region ?_
 refine WL.p rfl rfl (PV.lss rfl rfl) <| WL.nil ?_
 refine EX.seqN ?_
 refine WC.seq ?_
 refine WC.cond rfl (fun g9 => ?_) (fun g9 => ?_)
 ·
  skip
  simp at g9
  have hi2 : i < x.reads.length := by omega
  refine WC.skip ?_
  refine EX.seqN ?_
  refine WC.seq ?_
  refine WC.block ?_
  refine WC.seq ?_
  obtain ⟨bx1, ox1, rx1, ha1, _, hrx, hr1, _⟩ := SR.at hk (getElem_some hi2)
  have hrx := RR.flat_eq hrx
  subst hrx
  have hr1 := range_chg hr1 c2 (by simp)
  refine WC.region ?_
  refine WL.p rfl rfl (PV.ixS sl25 ha1 rfl rfl (by omega)) <| WL.p rfl rfl (PV.ldA agg27 hr1 rfl rfl) <| ?_
  refine WL.go rfl (OX.alloc zv27 rfl fun b4 w3 nw4 hb4 => ?_)
  have s3 := nw4.ext
  have ge_hb4 := nw4.ge' c2
  have ne_hb1_hb4 : b1 ≠ b4 := nw4.ne hb1.lt
  have ne_hb4_hb1 : b4 ≠ b1 := Ne.symm ne_hb1_hb4
  have c3 := c2.trans s3
  have hb1 := hb1.ext s3
  refine WL.go rfl (OX.stW sz27 hb4 rfl rfl rfl rfl rfl fun w4 s4 _ hb4 => ?_)
  have c4 := c3.own s4 ge_hb4
  have hb1 := hb1.chg s4 (by simp [ne_hb1_hb4])
  refine WL.nil ?_
  refine EX.seqN ?_
  refine WC.seq ?_
  refine WC.region ?_
  refine WL.p rfl rfl (PV.ldA agg27 hb4.range rfl rfl) <| ?_
  refine WL.go rfl (OX.call cf71 rfl rfl ((validK_calls (k := x.reads[i])).mono ?_))
  rintro _ w5 ⟨rfl, s5⟩
  refine ⟨_, rfl, ?_⟩
  have c5 := c4.trans s5
  have hb1 := hb1.ext s5
  have hb4 := hb4.ext s5
  refine WL.p rfl rfl (PV.not rfl) <| WL.nil ?_
  refine EX.seqN ?_
  refine WC.cond rfl (fun g14 => ?_) (fun g14 => ?_)
  ·
   skip
   simp at g14
   have hv : validRec x = false := by unfold validRec; rw [Bool.and_eq_false_iff]; left; rw [List.all_eq_false]; exact ⟨_, List.getElem_mem hi2, by simp [g14]⟩
   refine WC.seq ?_
   refine WC.region ?_
   refine WL.p rfl rfl (PV.as rfl) <| WL.nil ?_
   refine EX.seqN ?_
   refine WC.ret ?_
   refine EX.blkR ?_
   refine EX.thenR ?_
   refine EX.thenR ?_
   refine EX.blkR ?_
   refine EX.thenR ?_
   refine EX.ret1 rfl rfl ?_
   exact ⟨by rw [hv], c5⟩
  ·
   skip
   simp at g14
   refine WC.skip ?_
   refine EX.blkN ?_
   refine EX.seqN ?_
   refine WC.region ?_
   refine WL.p rfl rfl (PV.add rfl rfl (by omega) (by omega)) <| WL.p rfl rfl (PV.mv rfl) <| WL.nil ?_
   refine EX.again (i + 1) (Sub.cons rfl <| Sub.cons rfl <| Sub.cons rfl <| Sub.consI rfl (by simp) <| Sub.nil) ⟨c5, hb1, by omega, below_succ hi2 hall g14⟩ (by omega)
 ·
  skip
  simp at g9
  have hv : validRec x = recTail x := by
   unfold validRec
   rw [show x.reads.all validK = true from List.all_eq_true.2 fun y hy => by obtain ⟨j, hj, rfl⟩ := List.mem_iff_getElem.1 hy; exact hall j _ (by omega) (getElem_some hj)]
   rfl
  refine WC.exit ?_
  refine EX.thenX ?_
  refine EX.thenX ?_
  refine EX.blkX ?_
  refine EX.seqN ?_
  refine WC.seq ?_
  refine WC.cut1e (t := 2) (v := .bool (recTail x)) (Chg [] w2) ?_ ?_
  ·
   skip
   refine WC.region ?_
   refine WL.p rfl rfl (PV.fa fa47_0 rfl) <| WL.p rfl rfl (PV.ldM agg27 hb1.range rfl rfl) <| ?_
   refine WL.go rfl (OX.call cf71 rfl rfl ((validK_calls (k := x.key)).mono ?_))
   rintro _ w3 ⟨rfl, s3⟩
   refine ⟨_, rfl, ?_⟩
   have c3 := c2.trans s3
   have hb1 := hb1.ext s3
   refine WL.p rfl rfl (PV.mv rfl) <| ?_
   refine WL.gsplit (t := 19) rfl (fun g19 => ?_) (fun g19 => ?_)
   ·
    skip
    refine WL.p rfl rfl (PV.fa fa47_0 rfl) <| WL.p rfl rfl (PV.ldM agg27 hb1.range rfl rfl) <| ?_
    refine WL.go rfl (OX.call cf37 rfl rfl ((input_calls (k := x.key)).mono ?_))
    rintro _ w4 ⟨rfl, s4⟩
    refine ⟨_, rfl, ?_⟩
    have c4 := c3.trans s4
    have hb1 := hb1.ext s4
    refine WL.p rfl rfl (PV.not rfl) <| WL.p rfl rfl (PV.pickT rfl rfl rfl) <| WL.p rfl rfl (PV.mv rfl) <| ?_
    refine WL.gsplit (t := 25) rfl (fun g25 => ?_) (fun g25 => ?_)
    ·
     skip
     refine WL.p rfl rfl (PV.fa fa47_1 rfl) <| WL.p rfl rfl (PV.ld1 one9 hb1.range rfl rfl) <| WL.p rfl rfl (PV.lenS und9 rfl) <| WL.p rfl rfl (PV.leq rfl rfl) <| WL.p rfl rfl (PV.pickT rfl rfl rfl) <| WL.p rfl rfl (PV.mv rfl) <| ?_
     refine WL.gsplit (t := 31) rfl (fun g31 => ?_) (fun g31 => ?_)
     ·
      skip
      refine WL.p rfl rfl (PV.fa fa47_2 rfl) <| WL.p rfl rfl (PV.ld1 one25 hb1.range rfl rfl) <| WL.p rfl rfl (PV.len' sl25 rfl) <| WL.p rfl rfl (PV.leq rfl rfl) <| WL.p rfl rfl (PV.pickT rfl rfl rfl) <| WL.p rfl rfl (PV.mv rfl) <| ?_
      refine WL.gsplit (t := 37) rfl (fun g37 => ?_) (fun g37 => ?_)
      ·
       skip
       refine WL.p rfl rfl (PV.fa fa47_3 rfl) <| WL.p rfl rfl (PV.ld1 one3 hb1.range rfl rfl) <| WL.p rfl rfl (PV.geq rfl rfl) <| WL.p rfl rfl (PV.pickT rfl rfl rfl) <| WL.p rfl rfl (PV.mv rfl) <| ?_
       refine WL.gsplit (t := 42) rfl (fun g42 => ?_) (fun g42 => ?_)
       ·
        skip
        refine WL.p rfl rfl (PV.fa fa47_3 rfl) <| WL.p rfl rfl (PV.ld1 one3 hb1.range rfl rfl) <| WL.p rfl rfl (PV.fa fa47_4 rfl) <| WL.p rfl rfl (PV.ld1 one3 hb1.range rfl rfl) <| WL.p rfl rfl (PV.leq rfl rfl) <| WL.p rfl rfl (PV.pickT rfl rfl rfl) <| WL.p rfl rfl (PV.mv rfl) <| ?_
        refine WL.gsplit (t := 49) rfl (fun g49 => ?_) (fun g49 => ?_)
        ·
         skip
         refine WL.p rfl rfl (PV.fa fa47_4 rfl) <| WL.p rfl rfl (PV.ld1 one3 hb1.range rfl rfl) <| WL.p rfl rfl (PV.leq rfl rfl) <| WL.p rfl rfl (PV.pickT rfl rfl rfl) <| WL.p rfl rfl (PV.mv rfl) <| ?_
         refine WL.gsplit (t := 54) rfl (fun g54 => ?_) (fun g54 => ?_)
         ·
          skip
          refine WL.p rfl rfl (PV.fa fa47_5 rfl) <| WL.p rfl rfl (PV.ld1 one3 hb1.range rfl rfl) <| WL.p rfl rfl (PV.geq rfl rfl) <| WL.p rfl rfl (PV.pickT rfl rfl rfl) <| WL.p rfl rfl (PV.mv rfl) <| ?_
          refine WL.gsplit (t := 59) rfl (fun g59 => ?_) (fun g59 => ?_)
          ·
           skip
           refine WL.p rfl rfl (PV.fa fa47_5 rfl) <| WL.p rfl rfl (PV.ld1 one3 hb1.range rfl rfl) <| WL.p rfl rfl (PV.leq rfl rfl) <| WL.p rfl rfl (PV.pickT rfl rfl rfl) <| WL.p rfl rfl (PV.mv rfl) <| ?_
           refine WL.gsplit (t := 64) rfl (fun g64 => ?_) (fun g64 => ?_)
           ·
            skip
            refine WL.p rfl rfl (PV.fa fa47_6 rfl) <| WL.p rfl rfl (PV.ld1 one4 hb1.range rfl rfl) <| WL.p rfl rfl (PV.not rfl) <| WL.p rfl rfl (PV.mv rfl) <| ?_
            refine WL.gsplit (t := 68) rfl (fun g68 => ?_) (fun g68 => ?_)
            ·
             skip
             refine WL.no rfl rfl <| WL.no rfl rfl <| WL.no rfl rfl <| WL.p rfl rfl (PV.pickT rfl rfl rfl) <| WL.p rfl rfl (PV.pickT rfl rfl rfl) <| WL.p rfl rfl (PV.as rfl) <| WL.nil ?_
             exact EX.meet1e 69 rfl rfl rfl (by unfold recTail; simp only [g19, g25, g31, g37, g42, g49, g54, g59, g64, g68, ← hlen]; first | rfl | simp) (s3.trans s4)
            ·
             skip
             refine WL.p rfl rfl (PV.fa fa47_0 rfl) <| WL.p rfl rfl (PV.ldM agg27 hb1.range rfl rfl) <| ?_
             refine WL.go rfl (OX.call cf39 rfl rfl ((cyclic_calls (k := x.key)).mono ?_))
             rintro _ w5 ⟨rfl, s5⟩
             refine ⟨_, rfl, ?_⟩
             have c5 := c4.trans s5
             have hb1 := hb1.ext s5
             refine WL.p rfl rfl (PV.pickF rfl rfl rfl) <| WL.p rfl rfl (PV.pickT rfl rfl rfl) <| WL.p rfl rfl (PV.as rfl) <| WL.nil ?_
             exact EX.meet1e 69 rfl rfl rfl (by unfold recTail; simp only [g19, g25, g31, g37, g42, g49, g54, g59, g64, g68, ← hlen]; first | rfl | simp) ((s3.trans s4).trans s5)
           ·
            skip
            refine WL.no rfl rfl <| WL.no rfl rfl <| WL.no rfl rfl <| WL.no rfl rfl <| WL.no rfl rfl <| WL.no rfl rfl <| WL.no rfl rfl <| WL.no rfl rfl <| WL.p rfl rfl (PV.pickF rfl rfl rfl) <| WL.p rfl rfl (PV.as rfl) <| WL.nil ?_
            exact EX.meet1e 68 rfl rfl rfl (by unfold recTail; simp only [g19, g25, g31, g37, g42, g49, g54, g59, g64, ← hlen]; first | rfl | simp) (s3.trans s4)
          ·
           skip
           refine WL.no rfl rfl <| WL.no rfl rfl <| WL.no rfl rfl <| WL.p rfl rfl (PV.pickF rfl rfl rfl) <| WL.p rfl rfl (PV.mv rfl) <| WL.no rfl rfl <| WL.no rfl rfl <| WL.no rfl rfl <| WL.no rfl rfl <| WL.no rfl rfl <| WL.no rfl rfl <| WL.no rfl rfl <| WL.no rfl rfl <| WL.p rfl rfl (PV.pickF rfl rfl rfl) <| WL.p rfl rfl (PV.as rfl) <| WL.nil ?_
           exact EX.meet1e 67 rfl rfl rfl (by unfold recTail; simp only [g19, g25, g31, g37, g42, g49, g54, g59, ← hlen]; first | rfl | simp) (s3.trans s4)
         ·
          skip
          refine WL.no rfl rfl <| WL.no rfl rfl <| WL.no rfl rfl <| WL.p rfl rfl (PV.pickF rfl rfl rfl) <| WL.p rfl rfl (PV.mv rfl) <| WL.no rfl rfl <| WL.no rfl rfl <| WL.no rfl rfl <| WL.p rfl rfl (PV.pickF rfl rfl rfl) <| WL.p rfl rfl (PV.mv rfl) <| WL.no rfl rfl <| WL.no rfl rfl <| WL.no rfl rfl <| WL.no rfl rfl <| WL.no rfl rfl <| WL.no rfl rfl <| WL.no rfl rfl <| WL.no rfl rfl <| WL.p rfl rfl (PV.pickF rfl rfl rfl) <| WL.p rfl rfl (PV.as rfl) <| WL.nil ?_
          exact EX.meet1e 66 rfl rfl rfl (by unfold recTail; simp only [g19, g25, g31, g37, g42, g49, g54, ← hlen]; first | rfl | simp) (s3.trans s4)
        ·
         skip
         refine WL.no rfl rfl <| WL.no rfl rfl <| WL.no rfl rfl <| WL.p rfl rfl (PV.pickF rfl rfl rfl) <| WL.p rfl rfl (PV.mv rfl) <| WL.no rfl rfl <| WL.no rfl rfl <| WL.no rfl rfl <| WL.p rfl rfl (PV.pickF rfl rfl rfl) <| WL.p rfl rfl (PV.mv rfl) <| WL.no rfl rfl <| WL.no rfl rfl <| WL.no rfl rfl <| WL.p rfl rfl (PV.pickF rfl rfl rfl) <| WL.p rfl rfl (PV.mv rfl) <| WL.no rfl rfl <| WL.no rfl rfl <| WL.no rfl rfl <| WL.no rfl rfl <| WL.no rfl rfl <| WL.no rfl rfl <| WL.no rfl rfl <| WL.no rfl rfl <| WL.p rfl rfl (PV.pickF rfl rfl rfl) <| WL.p rfl rfl (PV.as rfl) <| WL.nil ?_
         exact EX.meet1e 65 rfl rfl rfl (by unfold recTail; simp only [g19, g25, g31, g37, g42, g49, ← hlen]; first | rfl | simp) (s3.trans s4)
       ·
        skip
        refine WL.no rfl rfl <| WL.no rfl rfl <| WL.no rfl rfl <| WL.no rfl rfl <| WL.no rfl rfl <| WL.p rfl rfl (PV.pickF rfl rfl rfl) <| WL.p rfl rfl (PV.mv rfl) <| WL.no rfl rfl <| WL.no rfl rfl <| WL.no rfl rfl <| WL.p rfl rfl (PV.pickF rfl rfl rfl) <| WL.p rfl rfl (PV.mv rfl) <| WL.no rfl rfl <| WL.no rfl rfl <| WL.no rfl rfl <| WL.p rfl rfl (PV.pickF rfl rfl rfl) <| WL.p rfl rfl (PV.mv rfl) <| WL.no rfl rfl <| WL.no rfl rfl <| WL.no rfl rfl <| WL.p rfl rfl (PV.pickF rfl rfl rfl) <| WL.p rfl rfl (PV.mv rfl) <| WL.no rfl rfl <| WL.no rfl rfl <| WL.no rfl rfl <| WL.no rfl rfl <| WL.no rfl rfl <| WL.no rfl rfl <| WL.no rfl rfl <| WL.no rfl rfl <| WL.p rfl rfl (PV.pickF rfl rfl rfl) <| WL.p rfl rfl (PV.as rfl) <| WL.nil ?_
        exact EX.meet1e 64 rfl rfl rfl (by unfold recTail; simp only [g19, g25, g31, g37, g42, ← hlen]; first | rfl | simp) (s3.trans s4)
      ·
       skip
       refine WL.no rfl rfl <| WL.no rfl rfl <| WL.no rfl rfl <| WL.p rfl rfl (PV.pickF rfl rfl rfl) <| WL.p rfl rfl (PV.mv rfl) <| WL.no rfl rfl <| WL.no rfl rfl <| WL.no rfl rfl <| WL.no rfl rfl <| WL.no rfl rfl <| WL.p rfl rfl (PV.pickF rfl rfl rfl) <| WL.p rfl rfl (PV.mv rfl) <| WL.no rfl rfl <| WL.no rfl rfl <| WL.no rfl rfl <| WL.p rfl rfl (PV.pickF rfl rfl rfl) <| WL.p rfl rfl (PV.mv rfl) <| WL.no rfl rfl <| WL.no rfl rfl <| WL.no rfl rfl <| WL.p rfl rfl (PV.pickF rfl rfl rfl) <| WL.p rfl rfl (PV.mv rfl) <| WL.no rfl rfl <| WL.no rfl rfl <| WL.no rfl rfl <| WL.p rfl rfl (PV.pickF rfl rfl rfl) <| WL.p rfl rfl (PV.mv rfl) <| WL.no rfl rfl <| WL.no rfl rfl <| WL.no rfl rfl <| WL.no rfl rfl <| WL.no rfl rfl <| WL.no rfl rfl <| WL.no rfl rfl <| WL.no rfl rfl <| WL.p rfl rfl (PV.pickF rfl rfl rfl) <| WL.p rfl rfl (PV.as rfl) <| WL.nil ?_
       exact EX.meet1e 63 rfl rfl rfl (by unfold recTail; simp only [g19, g25, g31, g37, ← hlen]; first | rfl | simp) (s3.trans s4)
     ·
      skip
      refine WL.no rfl rfl <| WL.no rfl rfl <| WL.no rfl rfl <| WL.no rfl rfl <| WL.p rfl rfl (PV.pickF rfl rfl rfl) <| WL.p rfl rfl (PV.mv rfl) <| WL.no rfl rfl <| WL.no rfl rfl <| WL.no rfl rfl <| WL.p rfl rfl (PV.pickF rfl rfl rfl) <| WL.p rfl rfl (PV.mv rfl) <| WL.no rfl rfl <| WL.no rfl rfl <| WL.no rfl rfl <| WL.no rfl rfl <| WL.no rfl rfl <| WL.p rfl rfl (PV.pickF rfl rfl rfl) <| WL.p rfl rfl (PV.mv rfl) <| WL.no rfl rfl <| WL.no rfl rfl <| WL.no rfl rfl <| WL.p rfl rfl (PV.pickF rfl rfl rfl) <| WL.p rfl rfl (PV.mv rfl) <| WL.no rfl rfl <| WL.no rfl rfl <| WL.no rfl rfl <| WL.p rfl rfl (PV.pickF rfl rfl rfl) <| WL.p rfl rfl (PV.mv rfl) <| WL.no rfl rfl <| WL.no rfl rfl <| WL.no rfl rfl <| WL.p rfl rfl (PV.pickF rfl rfl rfl) <| WL.p rfl rfl (PV.mv rfl) <| WL.no rfl rfl <| WL.no rfl rfl <| WL.no rfl rfl <| WL.no rfl rfl <| WL.no rfl rfl <| WL.no rfl rfl <| WL.no rfl rfl <| WL.no rfl rfl <| WL.p rfl rfl (PV.pickF rfl rfl rfl) <| WL.p rfl rfl (PV.as rfl) <| WL.nil ?_
      exact EX.meet1e 62 rfl rfl rfl (by unfold recTail; simp only [g19, g25, g31, ← hlen]; first | rfl | simp) (s3.trans s4)
    ·
     skip
     refine WL.no rfl rfl <| WL.no rfl rfl <| WL.no rfl rfl <| WL.no rfl rfl <| WL.p rfl rfl (PV.pickF rfl rfl rfl) <| WL.p rfl rfl (PV.mv rfl) <| WL.no rfl rfl <| WL.no rfl rfl <| WL.no rfl rfl <| WL.no rfl rfl <| WL.p rfl rfl (PV.pickF rfl rfl rfl) <| WL.p rfl rfl (PV.mv rfl) <| WL.no rfl rfl <| WL.no rfl rfl <| WL.no rfl rfl <| WL.p rfl rfl (PV.pickF rfl rfl rfl) <| WL.p rfl rfl (PV.mv rfl) <| WL.no rfl rfl <| WL.no rfl rfl <| WL.no rfl rfl <| WL.no rfl rfl <| WL.no rfl rfl <| WL.p rfl rfl (PV.pickF rfl rfl rfl) <| WL.p rfl rfl (PV.mv rfl) <| WL.no rfl rfl <| WL.no rfl rfl <| WL.no rfl rfl <| WL.p rfl rfl (PV.pickF rfl rfl rfl) <| WL.p rfl rfl (PV.mv rfl) <| WL.no rfl rfl <| WL.no rfl rfl <| WL.no rfl rfl <| WL.p rfl rfl (PV.pickF rfl rfl rfl) <| WL.p rfl rfl (PV.mv rfl) <| WL.no rfl rfl <| WL.no rfl rfl <| WL.no rfl rfl <| WL.p rfl rfl (PV.pickF rfl rfl rfl) <| WL.p rfl rfl (PV.mv rfl) <| WL.no rfl rfl <| WL.no rfl rfl <| WL.no rfl rfl <| WL.no rfl rfl <| WL.no rfl rfl <| WL.no rfl rfl <| WL.no rfl rfl <| WL.no rfl rfl <| WL.p rfl rfl (PV.pickF rfl rfl rfl) <| WL.p rfl rfl (PV.as rfl) <| WL.nil ?_
     exact EX.meet1e 61 rfl rfl rfl (by unfold recTail; simp only [g19, g25, ← hlen]; first | rfl | simp) (s3.trans s4)
   ·
    skip
    refine WL.no rfl rfl <| WL.no rfl rfl <| WL.no rfl rfl <| WL.no rfl rfl <| WL.p rfl rfl (PV.pickF rfl rfl rfl) <| WL.p rfl rfl (PV.mv rfl) <| WL.no rfl rfl <| WL.no rfl rfl <| WL.no rfl rfl <| WL.no rfl rfl <| WL.p rfl rfl (PV.pickF rfl rfl rfl) <| WL.p rfl rfl (PV.mv rfl) <| WL.no rfl rfl <| WL.no rfl rfl <| WL.no rfl rfl <| WL.no rfl rfl <| WL.p rfl rfl (PV.pickF rfl rfl rfl) <| WL.p rfl rfl (PV.mv rfl) <| WL.no rfl rfl <| WL.no rfl rfl <| WL.no rfl rfl <| WL.p rfl rfl (PV.pickF rfl rfl rfl) <| WL.p rfl rfl (PV.mv rfl) <| WL.no rfl rfl <| WL.no rfl rfl <| WL.no rfl rfl <| WL.no rfl rfl <| WL.no rfl rfl <| WL.p rfl rfl (PV.pickF rfl rfl rfl) <| WL.p rfl rfl (PV.mv rfl) <| WL.no rfl rfl <| WL.no rfl rfl <| WL.no rfl rfl <| WL.p rfl rfl (PV.pickF rfl rfl rfl) <| WL.p rfl rfl (PV.mv rfl) <| WL.no rfl rfl <| WL.no rfl rfl <| WL.no rfl rfl <| WL.p rfl rfl (PV.pickF rfl rfl rfl) <| WL.p rfl rfl (PV.mv rfl) <| WL.no rfl rfl <| WL.no rfl rfl <| WL.no rfl rfl <| WL.p rfl rfl (PV.pickF rfl rfl rfl) <| WL.p rfl rfl (PV.mv rfl) <| WL.no rfl rfl <| WL.no rfl rfl <| WL.no rfl rfl <| WL.no rfl rfl <| WL.no rfl rfl <| WL.no rfl rfl <| WL.no rfl rfl <| WL.no rfl rfl <| WL.p rfl rfl (PV.pickF rfl rfl rfl) <| WL.p rfl rfl (PV.as rfl) <| WL.nil ?_
    exact EX.meet1e 60 rfl rfl rfl (by unfold recTail; simp only [g19, ← hlen]; first | rfl | simp) s3
  intro w3 s3
  have c3 := c2.trans s3
  have hb1 := hb1.ext s3
  refine EX.seqN ?_
  refine WC.ret ?_
  refine EX.ret1 rfl rfl ?_
  exact ⟨by rw [hv], c3⟩
theorem validList_calls {l : List Rec} {a : Option Addr} {n c : Nat} {w : World} {Z : Nat → Prop} (hl : Rd RR.rcd 8 Z w a n c l) : Calls Tryz.prog 72 #[.slice a n c] w fun e w' => ∃ b : Bool, e = .returned (.bool b) ∧ (b = true ↔ recsOk l) ∧ Chg [] w w'  := by
 have hlen := SR.len hl
 have hle := SR.le hl
 refine enter (args := [.slice a n c]) Tryz.func72 rfl Tryz.ntmps72 rfl ?_
 have c0 : Chg [] w w := Chg.refl _ _
 refine WC.seq ?_
 refine WC.region ?_
 refine WL.p rfl rfl (PV.as rfl) <| WL.nil ?_
 refine EX.seqN ?_
 refine WC.seq ?_
 refine WC.seq ?_
 refine WC.region ?_
 refine WL.p rfl rfl (PV.mv rfl) <| WL.p rfl rfl (PV.len' sl38 rfl) <| WL.p rfl rfl (PV.mv rfl) <| WL.nil ?_
 refine EX.seqN ?_
 refine WC.block ?_
 refine WC.loop (σ := Nat) (kvs := fun i => [(0, .slice a n c), (5, .slice a n c), (6, .int .i64 (n : Int)), (7, .int .i64 (i : Int))]) (I := fun i w' => Chg [] w w' ∧ i ≤ n ∧ ∀ j y, j < i → l[j]? = some y → recOkAt l j y) (μ := fun i => n - i) 0 (Sub.cons rfl <| Sub.cons rfl <| Sub.cons rfl <| Sub.cons rfl <| Sub.nil) ⟨c0, by omega, fun j y h => by omega⟩ ?_
 rintro i w1 ⟨c1, hi, hall⟩
 refine WC.seq ?_
 refine WC.region ?_
 refine WL.p rfl rfl (PV.lss rfl rfl) <| WL.nil ?_
 refine EX.seqN ?_
 refine WC.seq ?_
 refine WC.cond rfl (fun g8 => ?_) (fun g8 => ?_)
 ·
  skip
  simp at g8
  have hi2 : i < l.length := by omega
  have hl1 := getElem!_pos l i hi2
  obtain ⟨bx1, ox1, rx1, ha1, _, ⟨q1, q2, q3, rfl, hkq, hk4⟩, hr1, _⟩ := SR.at hl (getElem_some hi2)
  refine WC.skip ?_
  refine EX.seqN ?_
  refine WC.seq ?_
  refine WC.block ?_
  refine WC.seq ?_
  have hr1 := range_chg hr1 c1 (by simp)
  refine WC.region ?_
  refine WL.p rfl rfl (PV.mv rfl) <| WL.p rfl rfl (PV.ixS sl38 ha1 rfl rfl (by omega)) <| WL.p rfl rfl (PV.ldA agg47 hr1 rfl rfl) <| ?_
  refine WL.go rfl (OX.alloc zv47 rfl fun b4 w2 nw4 hb4 => ?_)
  have s2 := nw4.ext
  have ge_hb4 := nw4.ge' c1
  have c2 := c1.trans s2
  refine WL.p rfl rfl (PV.as rfl) <| ?_
  refine WL.go rfl (OX.stW sz47 hb4 rfl rfl rfl rfl rfl fun w3 s3 _ hb4 => ?_)
  have c3 := c2.own s3 ge_hb4
  refine WL.nil ?_
  refine EX.seqN ?_
  refine WC.seq ?_
  refine WC.cut1 (t := 30) (v := .bool (ordBad l i)) (Chg [] w3) ?_ ?_
  ·
   skip
   refine WC.drawn (m := 15) (C := Chg [] w3) (T := fun _ => Chg []) (E := lookE [(1, fun v _ => v = .bool (validRec l[i]))]) (lookE_st (⟨fun _ _ _ _ _ _ _ h => h, trivial⟩)) mixed (by kernel_rfl) (Chg.drew _ _) ?_
   refine DW.p rfl rfl rfl rfl rfl (fun _ hC => PV.ldA agg47 (hb4.ext hC).range rfl rfl) <| ?_
   refine DW.e rfl rfl rfl rfl rfl (fun wx hC hF => OX.call cf116 rfl rfl ((validR_calls (hkq.ext (c3.trans hC))).mono ?_)) ?_
   ·
    skip
    rintro _ wy ⟨rfl, hy⟩
    exact ⟨_, rfl, hC.trans hy, hy, _, rfl, rfl⟩
   rintro _ wz _ rfl
   refine DW.p rfl rfl rfl rfl rfl (fun _ hC => PV.not rfl) <| DW.p rfl rfl rfl rfl rfl (fun _ hC => PV.mv rfl) <| ?_
   refine DW.gsplit (t := 15) rfl (fun g15 => ?_) (fun g15 => ?_)
   ·
    skip
    refine DW.no rfl rfl rfl <| DW.no rfl rfl rfl <| DW.no rfl rfl rfl <| DW.no rfl rfl rfl <| DW.no rfl rfl rfl <| DW.no rfl rfl rfl <| DW.no rfl rfl rfl <| DW.no rfl rfl rfl <| DW.no rfl rfl rfl <| DW.no rfl rfl rfl <| DW.no rfl rfl rfl <| DW.nil ?_
    rintro w4 s4 _
    have c4 := c3.trans s4
    have hb4 := hb4.ext s4
    refine WL.no rfl rfl <| WL.no rfl rfl <| WL.no rfl rfl <| WL.p rfl rfl (PV.pickT rfl rfl rfl) <| WL.nil ?_
    exact EX.meet1 20 rfl rfl rfl (by unfold ordBad; first | (simp only [hl1, hl2, g15]; done) | (simp only [hl1, hl2, g15]; rfl) | (simp only [hl1, g15]; rfl) | (simp only [hl1]; rw [Bool.not_eq_true'] at g15; simp [g15]) | (simp only [hl1]; simp at g15 g18; simp [g15, g18])) s4
   ·
    skip
    refine DW.p rfl rfl rfl rfl rfl (fun _ hC => PV.mv rfl) <| DW.p rfl rfl rfl rfl rfl (fun _ hC => PV.gtr rfl rfl) <| DW.p rfl rfl rfl rfl rfl (fun _ hC => PV.mv rfl) <| ?_
    refine DW.gsplit (t := 18) rfl (fun g18 => ?_) (fun g18 => ?_)
    ·
     skip
     have hi3 : i - 1 < l.length := by omega
     have hl2 := getElem!_pos l (i - 1) hi3
     have hpos := of_decide_eq_true g18
     obtain ⟨bx2, ox2, rx2, ha2, _, ⟨p1, p2, p3, rfl, _, _⟩, hr2, _⟩ := SR.at hl (getElem_some hi3)
     have hr2 := range_chg hr2 c3 (by simp)
     refine DW.p rfl rfl rfl rfl rfl (fun _ hC => PV.mv rfl) <| DW.p rfl rfl rfl rfl rfl (fun _ hC => PV.mv rfl) <| DW.p rfl rfl rfl rfl rfl (fun _ hC => PV.sub rfl rfl (by omega) (by omega)) <| DW.p rfl rfl rfl rfl rfl (fun _ hC => PV.ixZ sl38 (i - 1) ha2 rfl rfl (by omega) (by omega)) <| DW.p rfl rfl rfl rfl rfl (fun _ hC => PV.fa fa47_0 rfl) <| DW.p rfl rfl rfl rfl rfl (fun _ hC => PV.ldM agg27 (range_chg hr2 hC (by simp)) rfl rfl) <| DW.p rfl rfl rfl rfl rfl (fun _ hC => PV.fa fa47_0 rfl) <| DW.p rfl rfl rfl rfl rfl (fun _ hC => PV.ldM agg27 (hb4.ext hC).range rfl rfl) <| DW.nil ?_
     rintro w4 s4 _
     have c4 := c3.trans s4
     have hb4 := hb4.ext s4
     refine WL.go rfl (OX.call cf42 rfl rfl ((cmp_calls (k := l[i - 1].key) (q := l[i].key)).mono ?_))
     rintro _ w5 ⟨rfl, s5⟩
     refine ⟨_, rfl, ?_⟩
     have c5 := c4.trans s5
     have hb4 := hb4.ext s5
     refine WL.p rfl rfl (PV.geq rfl rfl) <| WL.p rfl rfl (PV.pickT rfl rfl rfl) <| WL.p rfl rfl (PV.pickF rfl rfl rfl) <| WL.nil ?_
     exact EX.meet1 21 rfl rfl rfl (by unfold ordBad; first | (simp only [hl1, hl2, g15, g18]; done) | (simp only [hl1, hl2, g15, g18]; rfl) | (simp only [hl1, g15, g18]; rfl) | (simp only [hl1]; rw [Bool.not_eq_true'] at g15; simp [g15]) | (simp only [hl1]; simp at g15 g18; simp [g15, g18])) (s4.trans s5)
    ·
     skip
     refine DW.no rfl rfl rfl <| DW.no rfl rfl rfl <| DW.no rfl rfl rfl <| DW.no rfl rfl rfl <| DW.no rfl rfl rfl <| DW.no rfl rfl rfl <| DW.no rfl rfl rfl <| DW.no rfl rfl rfl <| DW.nil ?_
     rintro w4 s4 _
     have c4 := c3.trans s4
     have hb4 := hb4.ext s4
     refine WL.no rfl rfl <| WL.no rfl rfl <| WL.p rfl rfl (PV.pickF rfl rfl rfl) <| WL.p rfl rfl (PV.pickF rfl rfl rfl) <| WL.nil ?_
     exact EX.meet1 21 rfl rfl rfl (by unfold ordBad; first | (simp only [hl1, hl2, g15, g18]; done) | (simp only [hl1, hl2, g15, g18]; rfl) | (simp only [hl1, g15, g18]; rfl) | (simp only [hl1]; rw [Bool.not_eq_true'] at g15; simp [g15]) | (simp only [hl1]; simp at g15 g18; simp [g15, g18])) s4
  intro w4 s4
  have c4 := c3.trans s4
  have hb4 := hb4.ext s4
  refine EX.seqN ?_
  refine WC.cond rfl (fun g30 => ?_) (fun g30 => ?_)
  ·
   skip
   skip
   refine WC.seq ?_
   refine WC.region ?_
   refine WL.p rfl rfl (PV.as rfl) <| WL.nil ?_
   refine EX.seqN ?_
   refine WC.ret ?_
   refine EX.blkR ?_
   refine EX.thenR ?_
   refine EX.thenR ?_
   refine EX.blkR ?_
   refine EX.thenR ?_
   refine EX.ret1 rfl rfl ?_
   exact ⟨false, rfl, ⟨fun h => (by cases h), fun h => absurd ((ordBad_false hi2).2 (h.2 i _ (getElem_some hi2))) (by simp [g30])⟩, c4⟩
  ·
   skip
   refine WC.skip ?_
   refine EX.blkN ?_
   refine EX.seqN ?_
   refine WC.region ?_
   refine WL.p rfl rfl (PV.add rfl rfl (by omega) (by omega)) <| WL.p rfl rfl (PV.mv rfl) <| WL.nil ?_
   refine EX.again (i + 1) (Sub.cons rfl <| Sub.cons rfl <| Sub.cons rfl <| Sub.consI rfl (by simp) <| Sub.nil) ⟨c4, by omega, below_succ hi2 hall ((ordBad_false hi2).1 g30)⟩ (by omega)
 ·
  skip
  simp at g8
  have hall : ∀ j y, l[j]? = some y → recOkAt l j y := fun j x hx => hall j x (by have := (List.getElem?_eq_some_iff.1 hx).1; omega) hx
  refine WC.exit ?_
  refine EX.thenX ?_
  refine EX.thenX ?_
  refine EX.blkX ?_
  refine EX.seqN ?_
  refine WC.seq ?_
  refine WC.region ?_
  refine WL.p rfl rfl (PV.mv rfl) <| WL.p rfl rfl (PV.len' sl38 rfl) <| WL.p rfl rfl (PV.leq rfl rfl) <| WL.p rfl rfl (PV.as rfl) <| WL.nil ?_
  refine EX.seqN ?_
  refine WC.ret ?_
  refine EX.ret1 rfl rfl ?_
  exact ⟨_, rfl, ⟨fun h => ⟨by simp at h; omega, hall⟩, fun h => by have := h.1; simp; omega⟩, c1⟩
 -- UNUSED ANNOTATIONS G17.T
end Go.Rc

