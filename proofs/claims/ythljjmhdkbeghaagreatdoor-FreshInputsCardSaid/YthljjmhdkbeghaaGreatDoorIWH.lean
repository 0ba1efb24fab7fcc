/- Walks over the program, part WH. Conditions: as each theorem says. -/
import Derived.Test.YthljjmhdkbeghaaGreatDoorIFacts
import Derived.Test.YthljjmhdkbeghaaGreatDoorIWB
import Derived.Test.YthljjmhdkbeghaaGreatDoorIWD
import Derived.Test.YthljjmhdkbeghaaGreatDoorIWF
import Derived.Test.YthljjmhdkbeghaaGreatDoorIBe
set_option linter.unusedVariables false
set_option linter.unusedSimpArgs false
set_option linter.unusedSectionVars false
namespace Go.Rc
open Go Go.Proofs
set_option maxHeartbeats 400000
theorem least22_calls {n:Int} {w:World}:Calls Tryz.prog 512 #[.int .i64 n] w fun e w'=>e=.returned (.string (least22 n))∧Chg [] w w':=by
 refine enter Tryz.func512 rfl Tryz.ntmps512 rfl<|?_;have c0:Chg [] w w:=Chg.refl _ _;refine nx12 ?_;refine WC.cd (fun g4=>?_) fun g4=>?_
 ·
  simp at g4
  refine nx7 ?_;refine EX.ret1 rfl rfl<|?_;exact ⟨by unfold least22;rw [if_pos g4],c0⟩
 simp at g4
 refine nx8 ?_;refine EX.ret1 rfl rfl<|?_;exact ⟨by unfold least22;rw [if_neg g4],c0⟩
theorem leastK_calls {k:Key} {w:World}:Calls Tryz.prog 310 #[k.val] w fun e w'=>e=.returned (.string (leastK k))∧Chg [] w w':=by
 refine enter Tryz.func310 rfl Tryz.ntmps310 rfl<|?_;have c0:Chg [] w w:=Chg.refl _ _;refine nx2 ?_;refine WL.go rfl (OX.box rfl rfl rfl fun b1 w1 nw1 hb1=>?_);have s1:=nw1.ext;have ge_hb1:=nw1.ge' c0;have c1:=c0.trans s1;refine nx7 ?_;refine WP .r (PV.fa fa35_0 rfl)<|WP .r (V1 one3 hb1.range .r)<|nx4 ?_;refine WC.cd (fun g3=>?_) fun g3=>?_
 ·
  simp at g3
  refine nx8 ?_;refine EX.ret1 rfl rfl<|?_;exact ⟨by unfold leastK;rw [if_pos g3],c1⟩
 simp at g3
 refine nx2 ?_;refine WP .r (VA agg35 hb1.range .r)<|?_;refine WL.go rfl (OX.call cf75 rfl rfl ((cyclic_calls (k:=k)).mono ?_));rintro _ w2 ⟨rfl,s2⟩;refine ⟨_,rfl,?_⟩;have c2:=c1.trans s2;have hb1:=hb1.ext s2;refine nx3 ?_;refine WC.cd (fun g7=>?_) fun g7=>?_
 ·
  refine nx2 ?_;refine WP .r (PV.fa fa35_0 rfl)<|WP .r (V1 one3 hb1.range .r)<|?_;refine WL.go rfl (OX.call cf512 rfl rfl ((least22_calls (n:=k.kind)).mono ?_));rintro _ w3 ⟨rfl,s3⟩;refine ⟨_,rfl,?_⟩;have c3:=c2.trans s3;have hb1:=hb1.ext s3;refine nx6 ?_;refine EX.ret1 rfl rfl<|?_;exact ⟨by unfold leastK;rw [if_neg g3,if_pos g7],c3⟩
 refine nx9 ?_;refine EX.ret1 rfl rfl<|?_;exact ⟨by unfold leastK;rw [if_neg g3,if_neg (by simp [g7])],c2⟩
theorem right_calls {rules:List Rule} {k:Key} {A:Nat→Prop} {a:Option Addr} {r c:Nat} {w:World} (hr:Rules A w a r c rules):Calls Tryz.prog 108 #[.slice a r c,k.val] w fun e w'=>e=.returned (.bool (rightK rules k))∧Chg [] w w':=by
 refine enter Tryz.func108 rfl Tryz.ntmps108 rfl<|?_;have c0:Chg [] w w:=Chg.refl _ _;refine nx2 ?_;refine WL.go rfl (OX.box rfl rfl rfl fun b3 w1 nw3 hb3=>?_);have s1:=nw3.ext;have ge_hb3:=nw3.ge' c0;have c1:=c0.trans s1;refine nx4 ?_;refine WC.cut1e (t:=4) (v:=.bool (rightK rules k)) (Chg [] w1) ?_<|?_
 ·
  refine WC.drawn (m:=17) (C:=Chg [] w1) (T:=fun _=>Chg []) (E:=lookE [(1,fun v _=>v=.bool (validK k)),(14,fun v _=>v=.int .i64 (number k)),(15,fun v _=>v=(ofK rules (number k)).val)]) (lookE_st (⟨fun _ _ _ _ _ _ _ h=>h,⟨fun _ _ _ _ _ _ _ h=>h,⟨fun _ _ _ _ _ _ _ h=>h,trivial⟩⟩⟩)) mixed (by kernel_rfl) (Chg.drew _ _)<|?_;refine DP .r (fun _ hC=>PV.ldA agg35 (hb3.ext hC).range rfl rfl)<|?_;refine DW.e rfl rfl rfl rfl rfl (fun wx hC hF=>OX.call cf18 rfl rfl ((validK_calls (k:=k)).mono ?_))<|?_
  ·
   rintro _ wy ⟨rfl,hy⟩;exact ⟨_,rfl,hC.trans hy,hy,_,rfl,rfl⟩
  rintro _ wz _ rfl;refine nx ?_;refine DW.gsplit (t:=7) rfl (fun g7=>?_) (fun g7=>?_)
  ·
   refine DP .r (fun _ hC=>PV.fa fa35_0 rfl)<|DP .r (fun _ hC=>PV.ld1 one3 (hb3.ext hC).range rfl rfl)<|nx2 ?_;refine DW.gsplit (t:=11) rfl (fun g11=>?_) (fun g11=>?_)
   ·
    refine DP .r (fun _ hC=>PV.fa fa35_0 rfl)<|DP .r (fun _ hC=>PV.ld1 one3 (hb3.ext hC).range rfl rfl)<|nx3 ?_;refine DW.gsplit (t:=16) rfl (fun g16=>?_) (fun g16=>?_)
    ·
     refine nx5 ?_;refine DW.nil<|?_;rintro w2 s2 _;have c2:=c1.trans s2;have hb3:=hb3.ext s2;refine nx5 ?_;exact EX.meet1e 24 rfl rfl rfl (by unfold rightK;simp only [g7,g11,g16];first | rfl | simp) s2
    refine nx ?_;refine DP .r (fun _ hC=>PV.ldA agg35 (hb3.ext hC).range rfl rfl)<|?_;refine DW.e rfl rfl rfl rfl rfl (fun wx hC hF=>OX.call cf39 rfl rfl ((number_calls (k:=k)).mono ?_))<|?_
    ·
     rintro _ wy ⟨rfl,hy⟩;exact ⟨_,rfl,hC.trans hy,hy,_,rfl,rfl⟩
    rintro _ wz _ rfl;refine DW.e rfl rfl rfl rfl rfl (fun wx hC hF=>OX.call cf11 rfl rfl ((of_calls (n:=number k) (hr.ext (c1.trans hC))).mono ?_))<|?_
    ·
     rintro _ wy ⟨rfl,hy⟩;exact ⟨_,rfl,hC.trans hy,hy,_,rfl,rfl⟩
    rintro _ wz _ rfl;refine DP .r (fun _ hC=>PV.ldA agg35 (hb3.ext hC).range rfl rfl)<|DW.nil<|?_;rintro w2 s2 _;have c2:=c1.trans s2;have hb3:=hb3.ext s2;refine WP .r (PV.eqK keyt35 (p:=ofK rules (number k)) (q:=k) rfl rfl)<|nx4 ?_;exact EX.meet1e 24 rfl rfl rfl (by unfold rightK;simp only [g7,g11,g16];first | rfl | simp) s2
   refine nx6 ?_;refine DP .r (fun _ hC=>PV.ldA agg35 (hb3.ext hC).range rfl rfl)<|?_;refine DW.e rfl rfl rfl rfl rfl (fun wx hC hF=>OX.call cf39 rfl rfl ((number_calls (k:=k)).mono ?_))<|?_
   ·
    rintro _ wy ⟨rfl,hy⟩;exact ⟨_,rfl,hC.trans hy,hy,_,rfl,rfl⟩
   rintro _ wz _ rfl;refine DW.e rfl rfl rfl rfl rfl (fun wx hC hF=>OX.call cf11 rfl rfl ((of_calls (n:=number k) (hr.ext (c1.trans hC))).mono ?_))<|?_
   ·
    rintro _ wy ⟨rfl,hy⟩;exact ⟨_,rfl,hC.trans hy,hy,_,rfl,rfl⟩
   rintro _ wz _ rfl;refine DP .r (fun _ hC=>PV.ldA agg35 (hb3.ext hC).range rfl rfl)<|DW.nil<|?_;rintro w2 s2 _;have c2:=c1.trans s2;have hb3:=hb3.ext s2;refine WP .r (PV.eqK keyt35 (p:=ofK rules (number k)) (q:=k) rfl rfl)<|nx4 ?_;exact EX.meet1e 23 rfl rfl rfl (by unfold rightK;simp only [g7,g11];first | rfl | simp) s2
  refine nx12 ?_;refine nx2 ?_;refine DW.nil<|?_;rintro w2 s2 _;have c2:=c1.trans s2;have hb3:=hb3.ext s2;refine nx5 ?_;exact EX.meet1e 22 rfl rfl rfl (by unfold rightK;simp only [g7];first | rfl | simp) s2
 intro w2 s2;have c2:=c1.trans s2;have hb3:=hb3.ext s2;refine nx2 ?_;refine EX.ret1 rfl rfl<|?_;exact ⟨rfl,c2⟩
theorem turn28_calls {rules:List Rule} {k:Key} {answers:List ByteArray} {A B C:Nat→Prop} {a a2:Option Addr} {r c r2 e2:Nat} {w:World} (ht:Tab Tryz.prog A w) (hr:Rules B w a r c rules) (hl:Strs C w a2 r2 e2 answers) (hb:∀x∈rules,0≤x.c∧x.c≤65535∧x.asks.length≤1000) (hk:notLang k):Calls Tryz.prog 149 #[.slice a r c,k.val,.slice a2 r2 e2] w fun e w'=>e=.returned (turn28 rules k answers).val∧Chg [] w w':=by
 refine enter Tryz.func149 rfl Tryz.ntmps149 rfl<|?_;have c0:Chg [] w w:=Chg.refl _ _;refine nx2 ?_;refine WL.go rfl (OX.box rfl rfl rfl fun b4 w1 nw4 hb4=>?_);have s1:=nw4.ext;have ge_hb4:=nw4.ge' c0;have c1:=c0.trans s1;refine WL.go rfl (OX.alloc zv65 rfl fun b6 w2 nw6 hb6=>?_);have s2:=nw6.ext;have ge_hb6:=nw6.ge' c1;have ne_hb4_hb6:b4≠b6:=nw6.ne hb4.lt;have ne_hb6_hb4:b6≠b4:=Ne.symm ne_hb4_hb6;have c2:=c1.trans s2;have hb4:=hb4.ext s2;refine nx5 ?_;refine WC.cut1 (t:=7) (v:=.bool (decide (k.kind=31) || decide (k.kind=32))) (fun wx=>w2=wx) ?_ ?_
 ·
  refine nx ?_;refine WP .r (PV.fa fa35_0 rfl)<|WP .r (V1 one3 hb4.range .r)<|nx2 ?_;refine WL.gsplit (t:=11) rfl (fun g11=>?_) (fun g11=>?_)
  ·
   refine nx6 ?_;exact EX.meet1 10 rfl rfl rfl (by simp only [g11];first | rfl | simp) rfl
  refine WP .r (PV.fa fa35_0 rfl)<|WP .r (V1 one3 hb4.range .r)<|nx4 ?_;exact EX.meet1 10 rfl rfl rfl (by simp only [g11];first | rfl | simp) rfl
 rintro _ rfl;refine nx ?_;refine WC.cd (fun g7=>?_) fun g7=>?_
 ·
  simp at g7
  have hv:turn28 rules k answers=turnV rules k answers:=by unfold turn28;rw [if_pos g7]
  refine nx3 ?_;refine WP .r (VA agg35 hb4.range .r)<|nx ?_;refine WL.go rfl (OX.call cf23 rfl rfl ((turn_calls (k:=k) (ht.ext c2) (hr.ext c2) (hl.ext c2) hb).mono ?_));rintro _ w3 ⟨rfl,s3⟩;refine ⟨_,rfl,?_⟩;have c3:=c2.trans s3;have hb4:=hb4.ext s3;have hb6:=hb6.ext s3;refine WL.go rfl (OX.stW sz65 hb6 rfl rfl rfl rfl rfl fun w4 s4 _ hb6=>?_);have c4:=c3.own s4 ge_hb6;have hb4:=hb4.chg s4 (by simp [ne_hb4_hb6]);refine nx5 ?_;refine EX.retC agg65 rfl rfl hb6.range rfl<|?_;rw [hv];exact ⟨rfl,c4⟩
 simp at g7
 have hv:turn28 rules k answers=⟨true,⟨#[]⟩,noKey⟩:=by unfold turn28;rw [if_neg (by omega)]
 refine nx ?_;refine WC.cut1 (t:=20) (v:=.bool (isInput k || (decide (k.kind<1) || decide (22<k.kind)))) (Chg [] w2) ?_<|?_
 ·
  refine nx ?_;refine WP .r (VA agg35 hb4.range .r)<|?_;refine WL.go rfl (OX.call cf25 rfl rfl ((input_calls (k:=k)).mono ?_));rintro _ w3 ⟨rfl,s3⟩;refine ⟨_,rfl,?_⟩;have c3:=c2.trans s3;have hb4:=hb4.ext s3;have hb6:=hb6.ext s3;refine nx ?_;refine WL.gsplit (t:=23) rfl (fun g23=>?_) (fun g23=>?_)
  ·
   refine nx11 ?_;exact EX.meet1 14 rfl rfl rfl (by simp only [g23];first | rfl | simp) s3
  refine WP .r (PV.fa fa35_0 rfl)<|WP .r (V1 one3 hb4.range .r)<|nx3 ?_;refine WL.gsplit (t:=28) rfl (fun g28=>?_) (fun g28=>?_)
  ·
   refine nx6 ?_;exact EX.meet1 15 rfl rfl rfl (by simp only [g23,g28];first | rfl | simp) s3
  refine WP .r (PV.fa fa35_0 rfl)<|WP .r (V1 one3 hb4.range .r)<|nx4 ?_;exact EX.meet1 15 rfl rfl rfl (by simp only [g23,g28];first | rfl | simp) s3
 intro w3 s3;have c3:=c2.trans s3;have hb4:=hb4.ext s3;have hb6:=hb6.ext s3;refine nx ?_;refine WC.cd (fun g20=>?_) fun g20=>?_
 ·
  skip
  refine nx2 ?_;refine WP .r (PV.build' (us:=[.bool true,.string ⟨#[]⟩,.int .i64 0,.string ⟨#[]⟩]) bt65 rfl rfl rfl)<|?_;refine WL.go rfl (OX.stW sz65 hb6 rfl rfl rfl rfl rfl fun w4 s4 _ hb6=>?_);have c4:=c3.own s4 ge_hb6;have hb4:=hb4.chg s4 (by simp [ne_hb4_hb6]);refine nx5 ?_;refine EX.retC agg65 rfl rfl hb6.range rfl<|?_;rw [hv];exact ⟨rfl,c4⟩
 exfalso;simp at g20;rcases hk with h | h <;> omega
theorem open_calls {l:List Rec} {k:Key} {rev:Int} {a:Option Addr} {n c:Nat} {w:World} {Z:Nat→Prop} (hl:Rd RR.rcd 8 Z w a n c l):Calls Tryz.prog 176 #[.slice a n c,.int .i64 rev,k.val] w fun e w'=>e=.returned (.bool (openR l rev k))∧Chg [] w w':=by
 refine enter Tryz.func176 rfl Tryz.ntmps176 rfl<|?_;have c0:Chg [] w w:=Chg.refl _ _;refine nx2 ?_;refine WL.go rfl (OX.box rfl rfl rfl fun b5 w1 nw5 hb5=>?_);have s1:=nw5.ext;have ge_hb5:=nw5.ge' c0;have c1:=c0.trans s1;refine nx6 ?_;refine WP .r (VA agg35 hb5.range .r)<|?_;refine WL.go rfl (OX.call cf117 rfl rfl ((findR_calls0 (k:=k) (hl.ext c1)).mono ?_));rintro _ w2 ⟨f1,f2,f3,rfl,s2⟩;refine ⟨_,rfl,?_⟩;have c2:=c1.trans s2;have hb5:=hb5.ext s2;refine nx3 ?_;refine WL.go rfl (OX.alloc zv116 rfl fun b7 w3 nw7 hb7=>?_);have s3:=nw7.ext;have ge_hb7:=nw7.ge' c2;have ne_hb5_hb7:b5≠b7:=nw7.ne hb5.lt;have ne_hb7_hb5:b7≠b5:=Ne.symm ne_hb5_hb7;have c3:=c2.trans s3;have hb5:=hb5.ext s3;refine WL.go rfl (OX.stW sz116 hb7 rfl rfl rfl rfl rfl fun w4 s4 _ hb7=>?_);have c4:=c3.own s4 ge_hb7;have hb5:=hb5.chg s4 (by simp [ne_hb5_hb7]);refine nx4 ?_;refine WC.cut1e (t:=6) (v:=.bool (openR l rev k)) (Chg [] w4) ?_<|?_
 ·
  refine nx3 ?_;refine WL.gsplit (t:=16) rfl (fun g16=>?_) (fun g16=>?_)
  ·
   refine WP .r (VA agg35 hb5.range .r)<|?_;refine WL.go rfl (OX.call cf75 rfl rfl ((cyclic_calls (k:=k)).mono ?_));rintro _ w5 ⟨rfl,s5⟩;refine ⟨_,rfl,?_⟩;have c5:=c4.trans s5;have hb5:=hb5.ext s5;have hb7:=hb7.ext s5;refine nx2 ?_;refine WL.gsplit (t:=20) rfl (fun g20=>?_) (fun g20=>?_)
   ·
    refine WP .r (PV.fa fa116_4 rfl)<|WP .r (V1 one3 hb7.range .r)<|nx4 ?_;refine WL.gsplit (t:=26) rfl (fun g26=>?_) (fun g26=>?_)
    ·
     refine WP .r (PV.fa fa116_6 rfl)<|WP .r (V1 one4 hb7.range .r)<|nx4 ?_;exact EX.meet1e 20 rfl rfl rfl (by unfold openR;simp only [g16,g20,g26];first | rfl | simp) s5
    refine nx6 ?_;exact EX.meet1e 20 rfl rfl rfl (by unfold openR;simp only [g16,g20,g26];first | rfl | simp) s5
   refine nx12 ?_;exact EX.meet1e 19 rfl rfl rfl (by unfold openR;simp only [g16,g20];first | rfl | simp) s5
  refine nx12 ?_;refine nx4 ?_;exact EX.meet1e 18 rfl rfl rfl (by unfold openR;simp only [g16];first | rfl | simp) (Chg.refl _ _)
 intro w5 s5;have c5:=c4.trans s5;have hb5:=hb5.ext s5;have hb7:=hb7.ext s5;refine nx2 ?_;refine EX.ret1 rfl rfl<|?_;exact ⟨rfl,c5⟩
theorem kept_calls {x:Bas} {a1 a2:Option Addr} {n1 e1 n2 e2:Nat} {w:World} {Z:Nat→Prop} (hi:Rd RR.inp 4 Z w a1 n1 e1 x.inputs) (hr:Rd RR.rcd 8 Z w a2 n2 e2 x.recs) {k:Key}:Calls Tryz.prog 180 #[.agg (x.row a1 n1 e1 a2 n2 e2).toArray,k.val] w fun e w'=>e=.returned (.tuple #[.string (keptV x k),.bool (keptOk x k)])∧Chg [] w w':=by
 refine enter Tryz.func180 rfl Tryz.ntmps180 rfl<|?_;have c0:Chg [] w w:=Chg.refl _ _;refine nx2 ?_;refine WL.go rfl (OX.box rfl rfl rfl fun b2 w1 nw2 hb2=>?_);have s1:=nw2.ext;have ge_hb2:=nw2.ge' c0;have c1:=c0.trans s1;refine WL.go rfl (OX.box rfl rfl rfl fun b3 w2 nw3 hb3=>?_);have s2:=nw3.ext;have ge_hb3:=nw3.ge' c1;have ne_hb2_hb3:b2≠b3:=nw3.ne hb2.lt;have ne_hb3_hb2:b3≠b2:=Ne.symm ne_hb2_hb3;have c2:=c1.trans s2;have hb2:=hb2.ext s2;refine nx7 ?_;refine WP .r (VA agg35 hb3.range .r)<|?_;refine WL.go rfl (OX.call cf25 rfl rfl ((input_calls (k:=k)).mono ?_));rintro _ w3 ⟨rfl,s3⟩;refine ⟨_,rfl,?_⟩;have c3:=c2.trans s3;have hb2:=hb2.ext s3;have hb3:=hb3.ext s3;refine nx2 ?_;refine WC.cd (fun g9=>?_) fun g9=>?_
 ·
  refine nx2 ?_;refine WP .r (VA agg31 hb2.range .r)<|WP .r (VA agg35 hb3.range .r)<|?_;refine WL.go rfl (OX.call cf37 rfl rfl ((get_calls (k:=k) (hi.ext c3) (hr.ext c3)).mono ?_));rintro _ w4 ⟨rfl,s4⟩;refine ⟨_,rfl,?_⟩;have c4:=c3.trans s4;have hb2:=hb2.ext s4;have hb3:=hb3.ext s4;refine nx6 ?_;refine EX.ret2 rfl rfl rfl<|?_;exact ⟨by unfold keptV keptOk;rw [if_pos g9,g9];rfl,c4⟩
 refine nx5 ?_;refine WP .r (PV.fa fa31_2 rfl)<|WP .r (V1 one29 hb2.range .r)<|WP .r (VA agg35 hb3.range .r)<|?_;refine WL.go rfl (OX.call cf117 rfl rfl ((findR_calls0 (k:=k) (hr.ext c3)).mono ?_));rintro _ w4 ⟨f1,f2,f3,rfl,s4⟩;refine ⟨_,rfl,?_⟩;have c4:=c3.trans s4;have hb2:=hb2.ext s4;have hb3:=hb3.ext s4;refine nx3 ?_;refine WL.go rfl (OX.alloc zv116 rfl fun b6 w5 nw6 hb6=>?_);have s5:=nw6.ext;have ge_hb6:=nw6.ge' c4;have ne_hb2_hb6:b2≠b6:=nw6.ne hb2.lt;have ne_hb6_hb2:b6≠b2:=Ne.symm ne_hb2_hb6;have ne_hb3_hb6:b3≠b6:=nw6.ne hb3.lt;have ne_hb6_hb3:b6≠b3:=Ne.symm ne_hb3_hb6;have c5:=c4.trans s5;have hb2:=hb2.ext s5;have hb3:=hb3.ext s5;refine WL.go rfl (OX.stW sz116 hb6 rfl rfl rfl rfl rfl fun w6 s6 _ hb6=>?_);have c6:=c5.own s6 ge_hb6;have hb2:=hb2.chg s6 (by simp [ne_hb2_hb6]);have hb3:=hb3.chg s6 (by simp [ne_hb3_hb6]);refine nx4 ?_;refine WC.cut1 (t:=27) (v:=.bool (keptOk x k)) (fun wx=>w6=wx) ?_ ?_
 ·
  refine nx3 ?_;refine WL.gsplit (t:=21) rfl (fun g21=>?_) (fun g21=>?_)
  ·
   refine WP .r (PV.fa fa116_4 rfl)<|WP .r (V1 one3 hb6.range .r)<|WP .r (PV.fa fa31_0 rfl)<|WP .r (V1 one3 hb2.range .r)<|nx3 ?_;exact EX.meet1 9 rfl rfl rfl (by unfold keptOk;simp only [g9,g21];first | rfl | simp) rfl
  refine nx7 ?_;exact EX.meet1 9 rfl rfl rfl (by unfold keptOk;simp only [g9,g21];first | rfl | simp) rfl
 rintro _ rfl;refine nx ?_;refine WC.cd (fun g27=>?_) fun g27=>?_
 ·
  refine nx2 ?_;refine WP .r (PV.fa fa116_1 rfl)<|WP .r (V1 one9 hb6.range .r)<|nx6 ?_;refine EX.ret2 rfl rfl rfl<|?_;exact ⟨by unfold keptV;rw [if_neg (by simp [g9]),if_pos g27,g27],c6⟩
 refine nx9 ?_;refine EX.ret2 rfl rfl rfl<|?_;exact ⟨by unfold keptV;rw [if_neg (by simp [g9]),if_neg (by simp [g27]),g27],c6⟩
theorem made_calls {x:Bas} {a1 a2:Option Addr} {n1 e1 n2 e2:Nat} {w:World} {Z:Nat→Prop} (hi:Rd RR.inp 4 Z w a1 n1 e1 x.inputs) (hr:Rd RR.rcd 8 Z w a2 n2 e2 x.recs) {k:Key} {v:ByteArray} {reads:List Key} {a:Option Addr} {n e:Nat} (hk:Rd RR.key 2 Z w a n e reads):Calls Tryz.prog 151 #[.agg (x.row a1 n1 e1 a2 n2 e2).toArray,k.val,.string v,.slice a n e] w fun en w'=>en=.returned (.agg ((madeV x k v reads).row a n e).toArray)∧Chg [] w w':=by
 have hlen:=SR.len hk;have hle:=SR.le hk;refine enter Tryz.func151 rfl Tryz.ntmps151 rfl<|?_;have c0:Chg [] w w:=Chg.refl _ _;refine nx2 ?_;refine WL.go rfl (OX.box rfl rfl rfl fun b4 w1 nw4 hb4=>?_);have s1:=nw4.ext;have ge_hb4:=nw4.ge' c0;have c1:=c0.trans s1;refine WL.go rfl (OX.box rfl rfl rfl fun b5 w2 nw5 hb5=>?_);have s2:=nw5.ext;have ge_hb5:=nw5.ge' c1;have ne_hb4_hb5:b4≠b5:=nw5.ne hb4.lt;have ne_hb5_hb4:b5≠b4:=Ne.symm ne_hb4_hb5;have c2:=c1.trans s2;have hb4:=hb4.ext s2;refine WL.go rfl (OX.alloc zv116 rfl fun b8 w3 nw8 hb8=>?_);have s3:=nw8.ext;have ge_hb8:=nw8.ge' c2;have ne_hb4_hb8:b4≠b8:=nw8.ne hb4.lt;have ne_hb8_hb4:b8≠b4:=Ne.symm ne_hb4_hb8;have ne_hb5_hb8:b5≠b8:=nw8.ne hb5.lt;have ne_hb8_hb5:b8≠b5:=Ne.symm ne_hb5_hb8;have c3:=c2.trans s3;have hb4:=hb4.ext s3;have hb5:=hb5.ext s3;refine nx4 ?_;refine WP .r (VA agg35 hb5.range .r)<|nx2 ?_;refine WP .r (PV.fa fa31_0 rfl)<|WP .r (V1 one3 hb4.range .r)<|WP .r (PV.fa fa31_0 rfl)<|WP .r (V1 one3 hb4.range .r)<|nx ?_;refine WP .r (PV.len' sl41 rfl)<|nx ?_;refine WP .r (PV.build' (us:=(Rec.mk k v reads x.revision x.revision (1+(n:Int)) false).row a n e) bt116 rfl rfl rfl)<|?_;refine WL.go rfl (OX.alloc zv116 rfl fun b9 w4 nw9 hb9=>?_);have s4:=nw9.ext;have ge_hb9:=nw9.ge' c3;have ne_hb4_hb9:b4≠b9:=nw9.ne hb4.lt;have ne_hb9_hb4:b9≠b4:=Ne.symm ne_hb4_hb9;have ne_hb5_hb9:b5≠b9:=nw9.ne hb5.lt;have ne_hb9_hb5:b9≠b5:=Ne.symm ne_hb5_hb9;have ne_hb8_hb9:b8≠b9:=nw9.ne hb8.lt;have ne_hb9_hb8:b9≠b8:=Ne.symm ne_hb8_hb9;have c4:=c3.trans s4;have hb4:=hb4.ext s4;have hb5:=hb5.ext s4;have hb8:=hb8.ext s4;refine WL.go rfl (OX.stW sz116 hb9 rfl rfl rfl rfl rfl fun w5 s5 _ hb9=>?_);have c5:=c4.own s5 ge_hb9;have hb4:=hb4.chg s5 (by simp [ne_hb4_hb9]);have hb5:=hb5.chg s5 (by simp [ne_hb5_hb9]);have hb8:=hb8.chg s5 (by simp [ne_hb8_hb9]);refine nx5 ?_;refine WP .r (PV.fa fa31_2 rfl)<|WP .r (V1 one29 hb4.range .r)<|WP .r (VA agg35 hb5.range .r)<|?_;refine WL.go rfl (OX.call cf117 rfl rfl ((findR_calls0 (k:=k) (hr.ext c5)).mono ?_));rintro _ w6 ⟨f1,f2,f3,rfl,s6⟩;refine ⟨_,rfl,?_⟩;have c6:=c5.trans s6;have hb4:=hb4.ext s6;have hb5:=hb5.ext s6;have hb8:=hb8.ext s6;have hb9:=hb9.ext s6;refine nx3 ?_;refine WL.go rfl (OX.alloc zv116 rfl fun b10 w7 nw10 hb10=>?_);have s7:=nw10.ext;have ge_hb10:=nw10.ge' c6;have ne_hb4_hb10:b4≠b10:=nw10.ne hb4.lt;have ne_hb10_hb4:b10≠b4:=Ne.symm ne_hb4_hb10;have ne_hb5_hb10:b5≠b10:=nw10.ne hb5.lt;have ne_hb10_hb5:b10≠b5:=Ne.symm ne_hb5_hb10;have ne_hb8_hb10:b8≠b10:=nw10.ne hb8.lt;have ne_hb10_hb8:b10≠b8:=Ne.symm ne_hb8_hb10;have ne_hb9_hb10:b9≠b10:=nw10.ne hb9.lt;have ne_hb10_hb9:b10≠b9:=Ne.symm ne_hb9_hb10;have c7:=c6.trans s7;have hb4:=hb4.ext s7;have hb5:=hb5.ext s7;have hb8:=hb8.ext s7;have hb9:=hb9.ext s7;refine WL.go rfl (OX.stW sz116 hb10 rfl rfl rfl rfl rfl fun w8 s8 _ hb10=>?_);have c8:=c7.own s8 ge_hb10;have hb4:=hb4.chg s8 (by simp [ne_hb4_hb10]);have hb5:=hb5.chg s8 (by simp [ne_hb5_hb10]);have hb8:=hb8.chg s8 (by simp [ne_hb8_hb10]);have hb9:=hb9.chg s8 (by simp [ne_hb9_hb10]);refine nx4 ?_;refine WC.cut1 (t:=36) (v:=.bool ((findR x.recs k).isSome && decide ((recOf x.recs k).value=v))) (fun wx=>w8=wx) ?_ ?_
 ·
  refine nx3 ?_;refine WL.gsplit (t:=31) rfl (fun g31=>?_) (fun g31=>?_)
  ·
   refine WP .r (PV.fa fa116_1 rfl)<|WP .r (V1 one9 hb10.range .r)<|nx4 ?_;exact EX.meet1 8 rfl rfl rfl (by simp only [g31];first | rfl | simp) rfl
  refine nx6 ?_;exact EX.meet1 8 rfl rfl rfl (by simp only [g31];first | rfl | simp) rfl
 rintro _ rfl;refine nx ?_;refine WC.cd (fun g36=>?_) fun g36=>?_
 ·
  have hm:madeV x k v reads=⟨k,v,reads,(recOf x.recs k).changed,x.revision,1+(reads.length:Int),false⟩:=by unfold madeV;rw [if_pos g36]
  refine nx ?_;refine WP .r (PV.fa fa116_3 rfl)<|WP .r (V1 one3 hb10.range .r)<|WP .r (PV.fa fa116_3 rfl)<|?_;refine WL.go rfl (OX.st sz3 hb9 rfl rfl (by first | (simp [nth];done) | exact nns rfl) rfl rfl fun w9 s9 _ hb9=>?_);have c9:=c8.own s9 ge_hb9;have hb4:=hb4.chg s9 (by simp [ne_hb4_hb9]);have hb5:=hb5.chg s9 (by simp [ne_hb5_hb9]);have hb8:=hb8.chg s9 (by simp [ne_hb8_hb9]);have hb10:=hb10.chg s9 (by simp [ne_hb10_hb9]);refine nx4 ?_;refine WP .r (VA agg116 hb9.range .r)<|?_;refine WL.go rfl (OX.stW sz116 hb8 rfl rfl rfl rfl rfl fun w10 s10 _ hb8=>?_);have c10:=c9.own s10 ge_hb8;have hb4:=hb4.chg s10 (by simp [ne_hb4_hb8]);have hb5:=hb5.chg s10 (by simp [ne_hb5_hb8]);have hb9:=hb9.chg s10 (by simp [ne_hb9_hb8]);have hb10:=hb10.chg s10 (by simp [ne_hb10_hb8]);refine nx3 ?_;refine EX.retC agg116 rfl rfl hb8.range rfl<|?_;exact ⟨by rw [hm,← hlen] <;> rfl,c10⟩
 have hm:madeV x k v reads=⟨k,v,reads,x.revision,x.revision,1+(reads.length:Int),false⟩:=by unfold madeV;rw [if_neg (by simp [g36])]
 refine nx4 ?_;refine WP .r (VA agg116 hb9.range .r)<|?_;refine WL.go rfl (OX.stW sz116 hb8 rfl rfl rfl rfl rfl fun w9 s9 _ hb8=>?_);have c9:=c8.own s9 ge_hb8;have hb4:=hb4.chg s9 (by simp [ne_hb4_hb8]);have hb5:=hb5.chg s9 (by simp [ne_hb5_hb8]);have hb9:=hb9.chg s9 (by simp [ne_hb9_hb8]);have hb10:=hb10.chg s9 (by simp [ne_hb10_hb8]);refine nx3 ?_;refine EX.retC agg116 rfl rfl hb8.range rfl<|?_;exact ⟨by rw [hm,← hlen] <;> rfl,c9⟩
theorem check30_calls {rules:List Rule} {goals:List Key} {A B:Nat→Prop} {ar ag:Option Addr} {r c g eg:Nat} {x:Bas} {a1 a2:Option Addr} {n1 e1 n2 e2:Nat} {w:World} {Z:Nat→Prop} (hu:Rules A w ar r c rules) (hi:Rd RR.inp 4 Z w a1 n1 e1 x.inputs) (hr:Rd RR.rcd 8 Z w a2 n2 e2 x.recs) (hg:Keys B w ag g eg goals):Calls Tryz.prog 69 #[.slice ar r c,.agg (x.row a1 n1 e1 a2 n2 e2).toArray,.slice ag g eg] w fun e w'=>e=.returned (.int .i64 (checkE rules x goals))∧Chg [] w w':=by
 have hlen:=SR.len hg;have hle:=SR.le hg;refine enter Tryz.func69 rfl Tryz.ntmps69 rfl<|?_;have c0:Chg [] w w:=Chg.refl _ _;refine nx2 ?_;refine WL.go rfl (OX.box rfl rfl rfl fun b4 w1 nw4 hb4=>?_);have s1:=nw4.ext;have ge_hb4:=nw4.ge' c0;have c1:=c0.trans s1;refine nx8 ?_;refine WL.go rfl (OX.call cf107 rfl rfl ((valid_calls (hu.ext c1)).mono ?_));rintro _ w2 ⟨bv,rfl,hbv,s2⟩;refine ⟨_,rfl,?_⟩;have c2:=c1.trans s2;have hb4:=hb4.ext s2;refine nx4 ?_;refine WC.cd (fun g9=>?_) fun g9=>?_
 ·
  simp at g9
  have hE:checkE rules x goals=41:=by unfold checkE;rw [if_pos (by rw [← hbv];simp [g9])]
  refine nx8 ?_;refine EX.ret1 rfl rfl<|?_;exact ⟨by rw [hE],c2⟩
 simp at g9
 have hR:=hbv.1 g9;refine nx2 ?_;refine WP .r (VA agg31 hb4.range .r)<|?_;refine WL.go rfl (OX.call cf36 rfl rfl ((validB_calls (hi.ext c2) (hr.ext c2)).mono ?_));rintro _ w3 ⟨bv2,rfl,hbv2,s3⟩;refine ⟨_,rfl,?_⟩;have c3:=c2.trans s3;have hb4:=hb4.ext s3;refine nx4 ?_;refine WC.cd (fun g13=>?_) fun g13=>?_
 ·
  simp at g13
  have hE:checkE rules x goals=42:=by unfold checkE;rw [if_neg (by simpa using hR),if_pos (by rw [← hbv2];simp [g13])]
  refine nx8 ?_;refine EX.ret1 rfl rfl<|?_;exact ⟨by rw [hE],c3⟩
 simp at g13
 have hB:=hbv2.1 g13;refine nx3 ?_;refine WP .r (PV.len' sl41 rfl)<|nx4 ?_;refine WC.cd (fun g17=>?_) fun g17=>?_
 ·
  simp at g17
  have hE:checkE rules x goals=3:=by unfold checkE;rw [if_neg (by simpa using hR),if_neg (by simpa using hB),if_pos (by omega)]
  refine nx8 ?_;refine EX.ret1 rfl rfl<|?_;exact ⟨by rw [hE],c3⟩
 simp at g17
 have hE:checkE rules x goals=if goals.all (rightK rules) then 0 else 40:=by unfold checkE;rw [if_neg (by simpa using hR),if_neg (by simpa using hB),if_neg (by omega)]
 refine nx7 ?_;refine WP .r (PV.len' sl41 rfl)<|nx4 ?_;refine WC.loop (σ:=Nat) (kvs:=fun i=>[(0,.slice ar r c),(21,.slice ag g eg),(22,.int .i64 (g:Int)),(23,.int .i64 (i:Int))]) (I:=fun i w'=>Chg [] w w'∧i≤g∧∀j y,j<i→goals[j]?=some y→rightK rules y=true) (μ:=fun i=>g - i) 0 (Sub.k4 rfl rfl rfl rfl<|Sub.nil) ⟨c3,by omega,fun j y h=>by omega⟩ ?_;rintro i w4 ⟨c4,hin,hall⟩;refine nx6 ?_;refine WC.cd (fun g24=>?_) fun g24=>?_
 ·
  simp at g24
  have hi2:i<goals.length:=by omega
  obtain ⟨bx1,ox1,rx1,ha1,_,hrx,hr1,_⟩:=SR.at hg (getElem_some hi2);subst hrx;refine nx5 ?_;have hr1:=range_chg hr1 c4 (by simp);refine nx ?_;refine WP .r (PV.ixS sl41 ha1 rfl rfl (by omega))<|WP .r (VA agg35 hr1 .r)<|?_;refine WL.go rfl (OX.alloc zv35 rfl fun b8 w5 nw8 hb8=>?_);have s5:=nw8.ext;have ge_hb8:=nw8.ge' c4;have c5:=c4.trans s5;refine WL.go rfl (OX.stW sz35 hb8 rfl rfl rfl rfl rfl fun w6 s6 _ hb8=>?_);have c6:=c5.own s6 ge_hb8;refine nx5 ?_;refine WP .r (VA agg35 hb8.range .r)<|?_;refine WL.go rfl (OX.call cf108 rfl rfl ((right_calls (k:=goals[i]) (hu.ext c6)).mono ?_));rintro _ w7 ⟨rfl,s7⟩;refine ⟨_,rfl,?_⟩;have c7:=c6.trans s7;have hb8:=hb8.ext s7;refine nx3 ?_;refine WC.cd (fun g30=>?_) fun g30=>?_
  ·
   simp at g30
   have hE:checkE rules x goals=40:=by rw [hE,if_neg];rw [List.all_eq_true];intro h;have:=h _ (List.getElem_mem hi2);rw [g30] at this;cases this
   refine nx11 ?_;refine EX.ret1 rfl rfl<|?_;exact ⟨by rw [hE],c7⟩
  simp at g30
  refine nx7 ?_;refine EX.again (i+1) (Sub.k2 rfl rfl<|Sub.cons rfl<|Sub.consI rfl (by simp)<|Sub.nil) ⟨c7,by omega,below_succ (P:=fun _ y=>rightK rules y=true) hi2 hall g30⟩ (by omega)
 simp at g24
 have hE:checkE rules x goals=0:=by rw [hE,if_pos];rw [List.all_eq_true];intro y hy;obtain ⟨j,hj,rfl⟩:=List.mem_iff_getElem.1 hy;exact hall j _ (by omega) (getElem_some hj)
 refine nx11 ?_;refine EX.ret1 rfl rfl<|?_;exact ⟨by rw [hE],c4⟩
theorem checks_calls {l:List Rec} {group:List Key} {a ag:Option Addr} {n c g eg:Nat} {w:World} {M Z:Nat→Prop} (hst:St w M Z w []) (hl:Rd RR.rcd 8 Z w a n c l) (hg:Rd RR.key 2 Z w ag g eg group) (hb:∀i,(((group.take i).flatMap fun m=>checksOf group m (recOf l m).reads)).length≤100000000):Calls Tryz.prog 146 #[.slice a n c,.slice ag g eg] w fun e w'=>∃a' n' c' Z',e=.returned (.slice a' n' c')∧Zle w.heap.size Z Z'∧St w M Z' w' [As.os RR.chk 199 4 a' n' c' (checksV l group)]:=by
 have hlen:=hg.len;have hle:=hg.le;refine enter Tryz.func146 rfl Tryz.ntmps146 rfl<|?_;have st0:=hst;have st1:=st0.fact (As.mkro hl) (fun _ hx=>hx);have st2:=st1.fact (As.mkro hg) (fun _ hx=>hx);have st3:=st2.newN RR.chk 199 4;refine nx12 ?_;refine nx7 ?_;refine WC.loopS (σ:=Nat × (Nat→Prop) × (List Chk) × (Option Addr) × Nat × Nat) (kvs:=fun (i,Z1,acc,a_ho,n_ho,c_ho)=>[(0,.slice a n c),(1,.slice ag g eg),(5,.slice a_ho n_ho c_ho),(12,.slice ag g eg),(13,.int .i64 (g:Int)),(14,.int .i64 (i:Int))]) (F:=fun (i,Z1,acc,a_ho,n_ho,c_ho)=>[As.os RR.chk 199 4 a_ho n_ho c_ho (acc)]) (I:=fun (i,Z1,acc,a_ho,n_ho,c_ho)=>(i≤g)∧(Zle w.heap.size Z Z1)∧(acc=(group.take i).flatMap fun m=>checksOf group m (recOf l m).reads)∧True) (μ:=fun (i,Z1,acc,a_ho,n_ho,c_ho)=>g - i) (Zf:=fun (i,Z1,acc,a_ho,n_ho,c_ho)=>Z1) (0,Z,[],none,0,0) (st3) (Sub.k2 rfl rfl<|Sub.v<|Sub.k2 rfl rfl<|Sub.v<|Sub.nil) (⟨by omega,Zle.refl _ _,by simp,trivial⟩)<|?_;rintro ⟨i,Z1,acc,a_ho,n_ho,c_ho⟩ w1 st4 ⟨hi,hZ,hacc,_⟩;simp only [CA,NA] at st4 hi hZ hacc ⊢;refine nx6 ?_;refine WC.cd (fun g15=>?_) fun g15=>?_
 ·
  simp at g15
  have hi2:i<group.length:=by omega
  refine nx5 ?_;obtain ⟨b_x1,o_x1,r_x1,ha_x1,hl_x1,hR_x1,hr_x1,hz_x1⟩:=Rd.at (As.gr st4.g1) hi2;have hR_x1:=RR.flat_eq hR_x1;subst hR_x1;have st5:=st4.fact (As.mkrg hz_x1 (st4.zlt _ hz_x1) hr_x1) (fun _ hx=>hx);refine nx ?_;refine WP .r (PV.ixS sl41 ha_x1 rfl rfl (by omega))<|WP .r (VA agg35 (As.grg st5.g0) .r)<|?_;refine WL.al st5 fun b7 w2 nw7 hb7 st6=>?_;refine WL.go rfl (OX.stW sz35 (As.gb st6.g0) rfl rfl rfl rfl rfl fun w3 ss0 _ hs0=>?_);have st7:=st6.updB ss0 hs0;refine nx5 ?_;refine WP .r (VA agg35 st7.b0 .r)<|?_;have st8:=st7;refine WL.go rfl (OX.call cf117 rfl rfl ((findR_calls (k:=group[i]) st8.e0 (As.gr st8.g4)).mono ?_));rintro _ w4 ⟨f1,f2,f3,rfl,hq4,hst4⟩;refine ⟨_,rfl,?_⟩;have st9:=St.leave (l0:=[]) st8 hst4 (Zle.refl _ _);simp only [CA,NA] at st9;have hge:=St.fresh0 hst4;have hsz:=st8.size;have st10:=st9.frzS (by omega);have hZ2:=hZ.trans (Zle.frz (F:=fun x=>x∈oblk f1) hge) hsz;have hqn:=((As.gr st10.g0)).len;refine nx3 ?_;refine WL.al st10 fun b8 w5 nw8 hb8 st11=>?_;refine WL.go rfl (OX.stW sz116 (As.gb st11.g0) rfl rfl rfl rfl rfl fun w6 ss1 _ hs1=>?_);have st12:=st11.updB ss1 hs1;refine nx6 ?_;refine WP .r (V1 one41 st12.b0 .r)<|nx5 ?_;refine WC.loopS1 (σ:=Nat × (List Chk) × (Option Addr) × Nat × Nat) (kvs:=fun (j,acc2,a_ho,n_ho,c_ho)=>[(0,.slice a n c),(1,.slice ag g eg),(5,.slice a_ho n_ho c_ho),(7,.pointer (some ⟨b7,0,none⟩)),(12,.slice ag g eg),(13,.int .i64 (g:Int)),(14,.int .i64 (i:Int)),(25,.slice f1 f2 f3),(26,.int .i64 (f2:Int)),(27,.int .i64 (j:Int))]) (F:=fun (j,acc2,a_ho,n_ho,c_ho)=>[As.os RR.chk 199 4 a_ho n_ho c_ho (acc2)]) (I:=fun (j,acc2,a_ho,n_ho,c_ho)=>(j≤f2)∧(acc2=acc++checksOf group group[i] ((recOf l group[i]).reads.take j))∧True) (μ:=fun (j,acc2,a_ho,n_ho,c_ho)=>f2 - j) (0,acc,a_ho,n_ho,c_ho) (st12.p4) (Sub.k2 rfl rfl<|Sub.v<|Sub.k4 rfl rfl rfl rfl<|Sub.k2 rfl rfl<|Sub.v<|Sub.nil) (⟨by omega,by simp [checksOf],trivial⟩)<|?_;rintro ⟨j,acc2,a_ho,n_ho,c_ho⟩ w7 st13 ⟨hj,hacc2,_⟩;simp only [CA,NA] at st13 hj hacc2 ⊢;have hnl:=((As.gs st13.g0)).len;have hbi:=hb i;rw [← hacc] at hbi;have htk:=checksOf_len group group[i] ((recOf l group[i]).reads.take j)
  have htl:acc2.length≤100100000:=by rw [hacc2,List.length_append];rw [List.length_take] at htk;omega
  refine nx6 ?_;refine WC.cd (fun g28=>?_) fun g28=>?_
  ·
   simp at g28
   have hj2:j<(recOf l group[i]).reads.length:=by omega
   refine nx5 ?_;obtain ⟨b_x2,o_x2,r_x2,ha_x2,hl_x2,hR_x2,hr_x2,hz_x2⟩:=Rd.at (As.gr st13.g2) hj2;have hR_x2:=RR.flat_eq hR_x2;subst hR_x2;have st14:=st13.fact (As.mkrg hz_x2 (st13.zlt _ hz_x2) hr_x2) (fun _ hx=>hx);refine nx ?_;refine WP .r (PV.ixS sl41 ha_x2 rfl rfl (by omega))<|WP .r (VA agg35 (As.grg st14.g0) .r)<|?_;refine WL.al st14 fun b11 w8 nw11 hb11 st15=>?_;refine WL.go rfl (OX.stW sz35 (As.gb st15.g0) rfl rfl rfl rfl rfl fun w9 ss2 _ hs2=>?_);have st16:=st15.updB ss2 hs2;refine nx5 ?_;refine WP .r (VA agg35 st16.b0 .r)<|?_;refine WL.c0 (has_calls (k:=(recOf l group[i]).reads[j]) (As.gr st16.g7)) st16 fun w10 s10 st17=>?_;refine nx3 ?_;refine WC.cd (fun g34=>?_) fun g34=>?_
   ·
    simp at g34
    have hct:=checksOf_take (group:=group) (m:=group[i]) hj2;rw [if_neg g34] at hct;refine nx2 ?_;refine WP .r (VA agg35 st17.b5 .r)<|WP .r (VA agg35 st17.b0 .r)<|WP .r (PV.build' (us:=(Chk.mk group[i] (recOf l group[i]).reads[j]).cells) bt199 rfl rfl rfl)<|?_;refine WL.go rfl (OX.bslice' (us:=(Chk.mk group[i] (recOf l group[i]).reads[j]).cells) bs188_1 rfl rfl rfl rfl fun b39 w11 nw39 hb39=>?_);have st18:=st17.newB nw39 hb39;refine WL.ap rfl rfl st18.p3 (SR.blk1 (A:=fun _=>True) (x:=Chk.mk group[i] (recOf l group[i]).reads[j]) (As.gb st18.g0) trivial rfl (by simp [Chk.cells,Value.oneCell']) rfl) fun a40 c'40 w12 hf40 hn40 st19=>?_;refine nx8 ?_;refine EX.again (j+1,_,a40,(n_ho+1),c'40) (Sub.k2 rfl rfl<|Sub.v<|Sub.k4 rfl rfl rfl rfl<|Sub.k2 rfl rfl<|Sub.v<|Sub.nil) ⟨st19.p1.drop.p1.drop.p1.drop,⟨by omega,by rw [hct,hacc2,List.append_assoc],trivial⟩⟩ (by first | (simp only [];omega) | omega)
   simp at g34
   have hct:=checksOf_take (group:=group) (m:=group[i]) hj2;rw [if_pos g34] at hct;refine nx7 ?_;refine EX.again (j+1,_,a_ho,n_ho,c_ho) (Sub.k2 rfl rfl<|Sub.v<|Sub.k4 rfl rfl rfl rfl<|Sub.k2 rfl rfl<|Sub.v<|Sub.nil) ⟨st17.drop.drop,⟨by omega,by rw [hct,hacc2],trivial⟩⟩ (by first | (simp only [];omega) | omega)
  simp at g28
  have hall:(recOf l group[i]).reads.take j=(recOf l group[i]).reads:=List.take_of_length_le (by omega);refine nx10 ?_;refine EX.again (i+1,_,acc2,a_ho,n_ho,c_ho) (Sub.k2 rfl rfl<|Sub.v<|Sub.k2 rfl rfl<|Sub.v<|Sub.nil) ⟨st13.p6.p6.p2.k3,⟨by omega,hZ2,by rw [hacc2,hall,hacc,List.take_succ_eq_append_getElem hi2];simp only [List.flatMap_append,List.flatMap_cons,List.flatMap_nil,List.append_nil],trivial⟩⟩ (by first | (simp only [];omega) | omega)
 simp at g15
 have hall:group.take i=group:=List.take_of_length_le (by omega);rw [hall] at hacc;subst hacc;refine nx12 ?_;refine EX.ret1 rfl rfl<|?_;exact ⟨_,_,_,_,rfl,hZ,st4.p1.drop.p1.drop⟩
set_option maxHeartbeats 400000
theorem on_calls {l:List Frm} {k:Key} {a:Option Addr} {r c:Nat} {w:World} {Z:Nat→Prop} (hl:Rd RR.frm 6 Z w a r c l):Calls Tryz.prog 148 #[.slice a r c,k.val] w fun e w'=>e=.returned (.bool (onF l k))∧Chg [] w w':=by
 have hle:=SR.le hl;have hlen:=SR.len hl;refine enter Tryz.func148 rfl Tryz.ntmps148 rfl<|?_;have c0:Chg [] w w:=Chg.refl _ _;refine nx2 ?_;refine WL.go rfl (OX.box rfl rfl rfl fun b3 w1 nw3 hb3=>?_);have s1:=nw3.ext;have ge_hb3:=nw3.ge' c0;have c1:=c0.trans s1;refine nx7 ?_;refine WP .r (PV.len' sl92 rfl)<|nx4 ?_;refine WC.loop (σ:=Nat) (kvs:=fun i=>[(3,.pointer (some ⟨b3,0,none⟩)),(7,.slice a r c),(8,.int .i64 (r:Int)),(9,.int .i64 (i:Int))]) (I:=fun i w'=>Chg [] w w'∧Blk w' b3 35 [.int .i64 k.kind,.string k.text]∧i≤r∧∀j y,j<i→l[j]?=some y→decide (Frm.key y=k)=false) (μ:=fun i=>r - i) 0 (Sub.k4 rfl rfl rfl rfl<|Sub.nil) ⟨c1,hb3,by omega,fun j y h=>by omega⟩ ?_;rintro i w2 ⟨c2,hb3,hi,hno⟩;refine nx6 ?_;refine WC.cd (fun g10=>?_) fun g10=>?_
 ·
  simp at g10
  have hi2:i<l.length:=by omega
  refine nx5 ?_;obtain ⟨bx1,ox1,rx1,ha1,_,⟨q1,q2,q3,q4,q5,q6,rfl,_⟩,hr1,_⟩:=SR.at hl (getElem_some hi2);have hr1:=range_chg hr1 c2 (by simp);refine nx ?_;refine WP .r (PV.ixS sl92 ha1 rfl rfl (by omega))<|WP .r (VA agg130 hr1 .r)<|?_;refine WL.go rfl (OX.alloc zv130 rfl fun b6 w3 nw6 hb6=>?_);have s3:=nw6.ext;have ge_hb6:=nw6.ge' c2;have ne_hb3_hb6:b3≠b6:=nw6.ne hb3.lt;have ne_hb6_hb3:b6≠b3:=Ne.symm ne_hb3_hb6;have c3:=c2.trans s3;have hb3:=hb3.ext s3;refine WL.go rfl (OX.stW sz130 hb6 rfl rfl rfl rfl rfl fun w4 s4 _ hb6=>?_);have c4:=c3.own s4 ge_hb6;have hb3:=hb3.chg s4 (by simp [ne_hb3_hb6]);refine nx4 ?_;refine WP .r (PV.fa fa130_0 rfl)<|WP .r (PV.ldM agg35 hb6.range rfl rfl)<|WP .r (VA agg35 hb3.range .r)<|WP .r (PV.eqK keyt35 (p:=l[i].key) (q:=k) rfl rfl)<|nx2 ?_;refine WC.cd (fun g16=>?_) fun g16=>?_
  ·
   have hv:onF l k=true:=List.any_eq_true.2 ⟨_,List.getElem_mem hi2,g16⟩;refine nx11 ?_;refine EX.ret1 rfl rfl<|?_;exact ⟨by rw [hv],c4⟩
  skip
  refine nx7 ?_;refine EX.again (i+1) (Sub.k2 rfl rfl<|Sub.cons rfl<|Sub.consI rfl (by simp)<|Sub.nil) ⟨c4,hb3,by omega,below_succ (P:=fun _ (y:Frm)=>decide (y.key=k)=false) hi2 hno g16⟩ (by omega)
 simp at g10
 have hv:onF l k=false:=List.any_eq_false.2 fun y hy=>by obtain ⟨j,hj,rfl⟩:=List.mem_iff_getElem.1 hy;simpa using hno j _ (by omega) (getElem_some hj)
 refine nx11 ?_;refine EX.ret1 rfl rfl<|?_;exact ⟨by rw [hv],c2⟩
theorem needed_calls {x:Bas} {a1 a2:Option Addr} {n1 e1 n2 e2:Nat} {w:World} {Z:Nat→Prop} (hi:Rd RR.inp 4 Z w a1 n1 e1 x.inputs) (hr:Rd RR.rcd 8 Z w a2 n2 e2 x.recs) {l:List Frm} {k:Key} {a:Option Addr} {n c:Nat} (hl:Rd RR.frm 6 Z w a n c l):Calls Tryz.prog 112 #[.agg (x.row a1 n1 e1 a2 n2 e2).toArray,.slice a n c,k.val] w fun e w'=>e=.returned (.bool (neededV x l k))∧Chg [] w w':=by
 refine enter Tryz.func112 rfl Tryz.ntmps112 rfl<|?_;have c0:Chg [] w w:=Chg.refl _ _;refine nx2 ?_;refine WL.go rfl (OX.box rfl rfl rfl fun b3 w1 nw3 hb3=>?_);have s1:=nw3.ext;have ge_hb3:=nw3.ge' c0;have c1:=c0.trans s1;refine WL.go rfl (OX.box rfl rfl rfl fun b5 w2 nw5 hb5=>?_);have s2:=nw5.ext;have ge_hb5:=nw5.ge' c1;have ne_hb3_hb5:b3≠b5:=nw5.ne hb3.lt;have ne_hb5_hb3:b5≠b3:=Ne.symm ne_hb3_hb5;have c2:=c1.trans s2;have hb3:=hb3.ext s2;refine nx5 ?_;refine WC.cut1 (t:=15) (v:=.bool (isInput k || onF l k)) (Chg [] w2) ?_<|?_
 ·
  refine nx ?_;refine WP .r (VA agg35 hb5.range .r)<|?_;refine WL.go rfl (OX.call cf25 rfl rfl ((input_calls (k:=k)).mono ?_));rintro _ w3 ⟨rfl,s3⟩;refine ⟨_,rfl,?_⟩;have c3:=c2.trans s3;have hb3:=hb3.ext s3;have hb5:=hb5.ext s3;refine nx ?_;refine WL.gsplit (t:=11) rfl (fun g11=>?_) (fun g11=>?_)
  ·
   refine nx5 ?_;exact EX.meet1 8 rfl rfl rfl (by simp only [g11];first | rfl | simp) s3
  refine nx ?_;refine WP .r (VA agg35 hb5.range .r)<|?_;refine WL.go rfl (OX.call cf148 rfl rfl ((on_calls (k:=k) (hl.ext c3)).mono ?_));rintro _ w4 ⟨rfl,s4⟩;refine ⟨_,rfl,?_⟩;have c4:=c3.trans s4;have hb3:=hb3.ext s4;have hb5:=hb5.ext s4;refine nx2 ?_;exact EX.meet1 8 rfl rfl rfl (by simp only [g11];first | rfl | simp) (s3.trans s4)
 intro w3 s3;have c3:=c2.trans s3;have hb3:=hb3.ext s3;have hb5:=hb5.ext s3;refine nx ?_;refine WC.cd (fun g15=>?_) fun g15=>?_
 ·
  have hv:neededV x l k=false:=by unfold neededV;rw [g15];rfl
  refine nx7 ?_;refine EX.ret1 rfl rfl<|?_;exact ⟨by rw [hv],c3⟩
 have hv:neededV x l k=(!(findR x.recs k).isSome || decide ((recOf x.recs k).verified≠x.revision)):=by unfold neededV;rw [g15];rfl
 refine nx4 ?_;refine WP .r (PV.fa fa31_2 rfl)<|WP .r (V1 one29 hb3.range .r)<|WP .r (VA agg35 hb5.range .r)<|?_;refine WL.go rfl (OX.call cf117 rfl rfl ((findR_calls0 (k:=k) (hr.ext c3)).mono ?_));rintro _ w4 ⟨f1,f2,f3,rfl,s4⟩;refine ⟨_,rfl,?_⟩;have c4:=c3.trans s4;have hb3:=hb3.ext s4;have hb5:=hb5.ext s4;refine nx3 ?_;refine WL.go rfl (OX.alloc zv116 rfl fun b7 w5 nw7 hb7=>?_);have s5:=nw7.ext;have ge_hb7:=nw7.ge' c4;have ne_hb3_hb7:b3≠b7:=nw7.ne hb3.lt;have ne_hb7_hb3:b7≠b3:=Ne.symm ne_hb3_hb7;have ne_hb5_hb7:b5≠b7:=nw7.ne hb5.lt;have ne_hb7_hb5:b7≠b5:=Ne.symm ne_hb5_hb7;have c5:=c4.trans s5;have hb3:=hb3.ext s5;have hb5:=hb5.ext s5;refine WL.go rfl (OX.stW sz116 hb7 rfl rfl rfl rfl rfl fun w6 s6 _ hb7=>?_);have c6:=c5.own s6 ge_hb7;have hb3:=hb3.chg s6 (by simp [ne_hb3_hb7]);have hb5:=hb5.chg s6 (by simp [ne_hb5_hb7]);refine nx4 ?_;refine WC.cut1e (t:=6) (v:=.bool (neededV x l k)) (fun wx=>w6=wx) ?_ ?_
 ·
  refine nx4 ?_;refine WL.gsplit (t:=25) rfl (fun g25=>?_) (fun g25=>?_)
  ·
   refine nx8 ?_;exact EX.meet1e 11 rfl rfl rfl (by rw [hv];simp only [g25];first | rfl | simp) rfl
  refine WP .r (PV.fa fa116_4 rfl)<|WP .r (V1 one3 hb7.range .r)<|WP .r (PV.fa fa31_0 rfl)<|WP .r (V1 one3 hb3.range .r)<|nx4 ?_;exact EX.meet1e 11 rfl rfl rfl (by rw [hv];simp only [g25];first | rfl | simp) rfl
 rintro _ rfl;refine nx2 ?_;refine EX.ret1 rfl rfl<|?_;exact ⟨rfl,c6⟩
theorem look_calls {x:Bas} {a1 a2:Option Addr} {n1 e1 n2 e2:Nat} {w:World} {Z:Nat→Prop} (hi:Rd RR.inp 4 Z w a1 n1 e1 x.inputs) (hr:Rd RR.rcd 8 Z w a2 n2 e2 x.recs) {l others:List Frm} {k:Key} {a a3:Option Addr} {n c n3 e3:Nat} (hl:Rd RR.frm 6 Z w a n c l) (ho:Rd RR.frm 6 Z w a3 n3 e3 others):Calls Tryz.prog 152 #[.agg (x.row a1 n1 e1 a2 n2 e2).toArray,.slice a n c,.slice a3 n3 e3,k.val] w fun e w'=>e=.returned (.int .i64 (lookV x l others k))∧Chg [] w w':=by
 refine enter Tryz.func152 rfl Tryz.ntmps152 rfl<|?_;have c0:Chg [] w w:=Chg.refl _ _;refine nx2 ?_;refine WL.go rfl (OX.box rfl rfl rfl fun b4 w1 nw4 hb4=>?_);have s1:=nw4.ext;have ge_hb4:=nw4.ge' c0;have c1:=c0.trans s1;refine WL.go rfl (OX.box rfl rfl rfl fun b7 w2 nw7 hb7=>?_);have s2:=nw7.ext;have ge_hb7:=nw7.ge' c1;have ne_hb4_hb7:b4≠b7:=nw7.ne hb4.lt;have ne_hb7_hb4:b7≠b4:=Ne.symm ne_hb4_hb7;have c2:=c1.trans s2;have hb4:=hb4.ext s2;refine nx6 ?_;refine WC.cut1 (t:=9) (v:=.bool (!isCyclic k && onF l k)) (Chg [] w2) ?_<|?_
 ·
  refine nx ?_;refine WP .r (VA agg35 hb7.range .r)<|?_;refine WL.go rfl (OX.call cf75 rfl rfl ((cyclic_calls (k:=k)).mono ?_));rintro _ w3 ⟨rfl,s3⟩;refine ⟨_,rfl,?_⟩;have c3:=c2.trans s3;have hb4:=hb4.ext s3;have hb7:=hb7.ext s3;refine nx2 ?_;refine WL.gsplit (t:=13) rfl (fun g13=>?_) (fun g13=>?_)
  ·
   refine nx ?_;refine WP .r (VA agg35 hb7.range .r)<|?_;refine WL.go rfl (OX.call cf148 rfl rfl ((on_calls (k:=k) (hl.ext c3)).mono ?_));rintro _ w4 ⟨rfl,s4⟩;refine ⟨_,rfl,?_⟩;have c4:=c3.trans s4;have hb4:=hb4.ext s4;have hb7:=hb7.ext s4;refine nx3 ?_;exact EX.meet1 10 rfl rfl rfl (by simp only [g13];first | rfl | simp) (s3.trans s4)
  refine nx6 ?_;exact EX.meet1 10 rfl rfl rfl (by simp only [g13];first | rfl | simp) s3
 intro w3 s3;have c3:=c2.trans s3;have hb4:=hb4.ext s3;have hb7:=hb7.ext s3;refine nx ?_;refine WC.cd (fun g9=>?_) fun g9=>?_
 ·
  skip
  refine nx8 ?_;refine EX.ret1 rfl rfl<|?_;exact ⟨by unfold lookV;rw [if_pos g9],c3⟩
 have g9:¬((!isCyclic k && onF l k)=true):=by simp [g9]
 refine nx2 ?_;refine WP .r (VA agg31 hb4.range .r)<|nx ?_;refine WP .r (VA agg35 hb7.range .r)<|?_;refine WL.go rfl (OX.call cf112 rfl rfl ((needed_calls (k:=k) (hi.ext c3) (hr.ext c3) (hl.ext c3)).mono ?_));rintro _ w4 ⟨rfl,s4⟩;refine ⟨_,rfl,?_⟩;have c4:=c3.trans s4;have hb4:=hb4.ext s4;have hb7:=hb7.ext s4;refine nx4 ?_;refine WC.cd (fun g18=>?_) fun g18=>?_
 ·
  skip
  refine nx8 ?_;refine EX.ret1 rfl rfl<|?_;exact ⟨by unfold lookV;rw [if_neg g9,if_pos g18],c4⟩
 have g18:¬((!neededV x l k)=true):=by simp [g18]
 refine nx3 ?_;refine WP .r (VA agg35 hb7.range .r)<|?_;refine WL.go rfl (OX.call cf148 rfl rfl ((on_calls (k:=k) (ho.ext c4)).mono ?_));rintro _ w5 ⟨rfl,s5⟩;refine ⟨_,rfl,?_⟩;have c5:=c4.trans s5;have hb4:=hb4.ext s5;have hb7:=hb7.ext s5;refine nx4 ?_;refine WC.cd (fun g24=>?_) fun g24=>?_
 ·
  skip
  refine nx8 ?_;refine EX.ret1 rfl rfl<|?_;exact ⟨by unfold lookV;rw [if_neg g9,if_neg g18,if_pos g24],c5⟩
 have g24:¬((!onF others k)=true):=by simp [g24]
 refine nx2 ?_;refine WP .r (VA agg35 hb7.range .r)<|?_;refine WL.go rfl (OX.call cf75 rfl rfl ((cyclic_calls (k:=k)).mono ?_));rintro _ w6 ⟨rfl,s6⟩;refine ⟨_,rfl,?_⟩;have c6:=c5.trans s6;have hb4:=hb4.ext s6;have hb7:=hb7.ext s6;refine nx3 ?_;refine WC.cd (fun g29=>?_) fun g29=>?_
 ·
  skip
  refine nx8 ?_;refine EX.ret1 rfl rfl<|?_;exact ⟨by unfold lookV;rw [if_neg g9,if_neg g18,if_neg g24,if_pos g29],c6⟩
 refine nx9 ?_;refine EX.ret1 rfl rfl<|?_;exact ⟨by unfold lookV;rw [if_neg g9,if_neg g18,if_neg g24,if_neg (by simp [g29])],c6⟩
theorem copyRules_calls {l:List Rule} {a:Option Addr} {n c:Nat} {w:World} {M Z:Nat→Prop} (hst:St w M Z w []) (hl:Rd RR.rule 4 Z w a n c l) (h6:l.length≤1000000) (h4:∀x∈l,x.asks.length≤1000):Calls Tryz.prog 109 #[.slice a n c] w fun e w'=>∃a' n' c' Z',e=.returned (.slice a' n' c')∧Zle w.heap.size Z Z'∧St w M Z' w' [As.os RR.rule 56 4 a' n' c' l]:=by
 have hlen:=hl.len;have hle:=hl.le;refine enter Tryz.func109 rfl Tryz.ntmps109 rfl<|?_;have st0:=hst;have st1:=st0.fact (As.mkro hl) (fun _ hx=>hx);have st2:=st1.newN RR.rule 56 4;refine nx12 ?_;refine nx7 ?_;refine WC.loopS (σ:=Nat × (Nat→Prop) × (List Rule) × (Option Addr) × Nat × Nat) (kvs:=fun (i,Z1,acc,a_ho,n_ho,c_ho)=>[(3,.slice a_ho n_ho c_ho),(6,.slice a n c),(7,.int .i64 (n:Int)),(8,.int .i64 (i:Int))]) (F:=fun (i,Z1,acc,a_ho,n_ho,c_ho)=>[As.os RR.rule 56 4 a_ho n_ho c_ho (acc)]) (I:=fun (i,Z1,acc,a_ho,n_ho,c_ho)=>(i≤n)∧(Zle w.heap.size Z Z1)∧(acc=l.take i)∧True) (μ:=fun (i,Z1,acc,a_ho,n_ho,c_ho)=>n - i) (Zf:=fun (i,Z1,acc,a_ho,n_ho,c_ho)=>Z1) (0,Z,[],none,0,0) (st2) (Sub.v<|Sub.k2 rfl rfl<|Sub.v<|Sub.nil) (⟨by omega,Zle.refl _ _,by simp,trivial⟩)<|?_;rintro ⟨i,Z1,acc,a_ho,n_ho,c_ho⟩ w1 st3 ⟨hi,hZ,hacc,_⟩;simp only [CA,NA] at st3 hi hZ hacc ⊢;have hnl:=((As.gs st3.g0)).len
 have htk:acc.length≤1000000:=by rw [hacc,List.length_take];omega
 refine nx6 ?_;refine WC.cd (fun g9=>?_) fun g9=>?_
 ·
  simp at g9
  have hi2:i<l.length:=by omega
  refine nx5 ?_;obtain ⟨b_x1,o_x1,r_x1,ha_x1,hl_x1,hR_x1,hr_x1,hz_x1⟩:=Rd.at (As.gr st3.g1) hi2;obtain ⟨q1,q2,q3,rfl,hask0⟩:=hR_x1;have st4:=st3.fact (As.mkrg hz_x1 (st3.zlt _ hz_x1) hr_x1) (fun _ hx=>hx);have hask:Rd RR.ask 4 _ _ q1 q2 q3 l[i].asks:=hask0;have st5:=st4.fact (As.mkro (hask)) (fun _ hx=>hx);have hk4:=h4 _ (List.getElem_mem hi2);have hqn:=SR.len hask;have st6:=st5.newN RR.ask 61 4;refine nx ?_;refine WP .r (PV.ixS sl27 ha_x1 rfl rfl (by omega))<|WP .r (VA agg56 (As.grg st6.g2) .r)<|?_;refine WL.al st6 fun b5 w2 nw5 hb5 st7=>?_;refine WL.go rfl (OX.stW sz56 (As.gb st7.g0) rfl rfl rfl rfl rfl fun w3 ss0 _ hs0=>?_);have st8:=st7.updB ss0 hs0;refine nx5 ?_;refine WP .r (V1 one54 st8.b0 .r)<|?_;have hsz:=st8.size;refine WL.ap rfl rfl st8.p1 ((As.gr st8.g2)) fun a14 c'14 w4 hf14 hn14 st9=>?_;refine nx ?_;refine WL.s1 st9.p1 fun w5 _ st10=>?_;refine nx2 ?_;have st11:=st10.p1.frzS (by simp;omega)
  have hge:∀x∈oblk a14,w.heap.size≤x:=fun x hx=>by rcases hf14 x hx with h | h;simp [oblk] at h;omega
  have hZ2:=hZ.trans (Zle.frz (F:=fun x=>x∈oblk a14) hge) (Nat.le_refl _);refine nx2 ?_;refine WP .r (VA agg56 st11.b1 .r)<|?_;refine WL.go rfl (OX.bslice' (us:=l[i].row _ _ _) bs27_1 rfl rfl rfl rfl fun b18 w6 nw18 hb18=>?_);have st12:=st11.newB nw18 hb18;refine WL.ap rfl rfl st12.p5 (SR.blk1 (A:=fun _=>True) (x:=l[i]) (As.gb st12.g0) trivial rfl (Rule.one _ _ _ _) ⟨_,_,_,rfl,(As.gr st12.g1)⟩) fun a19 c'19 w7 hf19 hn19 st13=>?_;refine nx8 ?_;refine EX.again (i+1,_,acc++[l[i]],a19,(n_ho+1),c'19) (Sub.v<|Sub.k2 rfl rfl<|Sub.v<|Sub.nil) ⟨st13.p6.p1.k2,⟨by omega,hZ2,by rw [hacc,List.take_succ_eq_append_getElem hi2],trivial⟩⟩ (by first | (simp only [];omega) | omega)
 simp at g9
 have hall:acc=l:=by rw [hacc];exact List.take_of_length_le (by omega)
 subst hall;refine nx12 ?_;refine EX.ret1 rfl rfl<|?_;exact ⟨_,_,_,_,rfl,hZ,st3.p1.drop⟩
end Go.Rc

