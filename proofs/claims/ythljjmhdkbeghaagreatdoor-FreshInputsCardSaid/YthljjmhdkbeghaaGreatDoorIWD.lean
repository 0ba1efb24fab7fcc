/- Walks over the program, part WD. Conditions: as each theorem says. -/
import Derived.Test.YthljjmhdkbeghaaGreatDoorIFacts
import Derived.Test.YthljjmhdkbeghaaGreatDoorIWB
import Derived.Test.YthljjmhdkbeghaaGreatDoorIBc
set_option linter.unusedVariables false
set_option linter.unusedSimpArgs false
set_option linter.unusedSectionVars false
namespace Go.Rc
open Go Go.Proofs
set_option maxHeartbeats 400000
theorem may_calls {rules:List Rule} {A:Nat→Prop} {a:Option Addr} {r c i:Nat} {x:Ask} {n:Int} {w:World} (hr:Rules A w a r c rules) (hi:i<rules.length):Calls Tryz.prog 145 #[.slice a r c,.int .i64 (i:Int),x.val,.int .i64 n] w fun e w'=>e=.returned (.bool (mayOk rules i x.cell n))∧Chg [] w w':=by
 have hle:=hr.le;have hlen:=hr.len;have hri:=ringAt_get hi;refine enter Tryz.func145 rfl Tryz.ntmps145 rfl<|?_;have c0:Chg [] w w:=Chg.refl _ _;refine nx2 ?_;refine WL.go rfl (OX.box rfl rfl rfl fun b6 w1 nw6 hb6=>?_);have s1:=nw6.ext;have ge_hb6:=nw6.ge' c0;have c1:=c0.trans s1;refine nx6 ?_;refine WP .r (PV.fa fa61_0 rfl)<|WP .r (V1 one4 hb6.range .r)<|nx2 ?_;refine WC.cd (fun g12=>?_) fun g12=>?_
 ·
  refine nx ?_;refine WC.cut1e (t:=8) (v:=.bool (decide (0≤n) && decide (n≤15))) (fun wx=>w1=wx) ?_ ?_
  ·
   refine nx4 ?_;refine WL.gsplit (t:=15) rfl (fun g15=>?_) (fun g15=>?_)
   ·
    refine nx5 ?_;exact EX.meet1e 8 rfl rfl rfl (by simp only [g15];first | rfl | simp) rfl
   refine nx5 ?_;exact EX.meet1e 8 rfl rfl rfl (by simp only [g15];first | rfl | simp) rfl
  rintro _ rfl;refine nx3 ?_;refine EX.ret1 rfl rfl<|?_;exact ⟨by unfold mayOk;rw [if_pos g12],c1⟩
 refine nx6 ?_;refine WL.go rfl (OX.call cf20 rfl rfl ((block_calls (n:=(i:Int)) (hr.ext c1)).mono ?_));rintro _ w2 ⟨rfl,s2⟩;refine ⟨_,rfl,?_⟩;have c2:=c1.trans s2;have hb6:=hb6.ext s2;refine nx9 ?_;obtain ⟨b1,o1,r1,ha1,_,⟨q1,q2,q3,rfl,_⟩,hr1,_⟩:=(hr.ext c2).at (getElem_some hi);refine nx3 ?_;refine WP .r (PV.ixS sl27 ha1 rfl rfl (by omega))<|WP .r (PV.fa fa56_0 rfl)<|WP .r (V1 one4 hr1 .r)<|nx3 ?_;refine WC.cd (fun g30=>?_) fun g30=>?_
 ·
  have ht:mayTop rules i=(block rules i).1:=by unfold mayTop;rw [hri];simp at g30;rw [g30];rfl
  refine nx6 ?_;refine WC.cut1e (t:=8) (v:=.bool (decide (0≤n) && decide (n<mayTop rules i))) (fun wx=>w2=wx) ?_ ?_
  ·
   refine nx4 ?_;refine WL.gsplit (t:=34) rfl (fun g34=>?_) (fun g34=>?_)
   ·
    refine nx6 ?_;exact EX.meet1e 9 rfl rfl rfl (by simp only [ht,g34];first | rfl | simp) rfl
   refine nx6 ?_;exact EX.meet1e 9 rfl rfl rfl (by simp only [ht,g34];first | rfl | simp) rfl
  rintro _ rfl;refine nx2 ?_;refine EX.ret1 rfl rfl<|?_;exact ⟨by unfold mayOk;rw [g12];rfl,c2⟩
 have ht:mayTop rules i=(block rules i).2:=by unfold mayTop;rw [hri];simp at g30;rw [g30];rfl
 refine nx3 ?_;refine WC.cut1e (t:=8) (v:=.bool (decide (0≤n) && decide (n<mayTop rules i))) (fun wx=>w2=wx) ?_ ?_
 ·
  refine nx4 ?_;refine WL.gsplit (t:=34) rfl (fun g34=>?_) (fun g34=>?_)
  ·
   refine nx6 ?_;exact EX.meet1e 9 rfl rfl rfl (by simp only [ht,g34];first | rfl | simp) rfl
  refine nx6 ?_;exact EX.meet1e 9 rfl rfl rfl (by simp only [ht,g34];first | rfl | simp) rfl
 rintro _ rfl;refine nx2 ?_;refine EX.ret1 rfl rfl<|?_;exact ⟨by unfold mayOk;rw [g12];rfl,c2⟩
theorem valS_calls {s:ByteArray} {w:World}:Calls Tryz.prog 21 #[.string s] w fun e w'=>e=.returned (.int .i64 (valS s:Int))∧Chg [] w w':=by
 refine enter Tryz.func21 rfl Tryz.ntmps21 rfl<|?_;have c0:Chg [] w w:=Chg.refl _ _;refine nx8 ?_;refine WL.go rfl (OX.call cf40 rfl rfl ((decimal_calls (s:=s)).mono ?_));rintro _ w1 ⟨rfl,s1⟩;refine ⟨_,rfl,?_⟩;have c1:=c0.trans s1;refine nx5 ?_;refine WC.cut1 (t:=11) (v:=.bool (decide (decimal s<0) || decide (65535<decimal s))) (fun wx=>w1=wx) ?_ ?_
 ·
  refine nx4 ?_;refine WL.gsplit (t:=8) rfl (fun g8=>?_) (fun g8=>?_)
  ·
   refine nx4 ?_;exact EX.meet1 7 rfl rfl rfl (by simp only [g8];first | rfl | simp) rfl
  refine nx4 ?_;exact EX.meet1 7 rfl rfl rfl (by simp only [g8];first | rfl | simp) rfl
 rintro _ rfl;refine nx ?_;refine WC.cd (fun g11=>?_) fun g11=>?_
 ·
  simp at g11
  have hv:valS s=0:=by unfold valS;rw [if_pos g11]
  refine nx7 ?_;refine EX.ret1 rfl rfl<|?_;rw [hv];exact ⟨rfl,c1⟩
 simp at g11
 have hv:(valS s:Int)=decimal s:=by unfold valS;rw [if_neg (by omega)];omega
 refine nx9 ?_;refine EX.ret1 rfl rfl<|?_;rw [hv];exact ⟨rfl,c1⟩
theorem final_calls {l:List ByteArray} {ring:Bool} {a1:Option Addr} {n1 e1:Nat} {fin:Int} {cc:Nat} {A:Nat→Prop} {a:Option Addr} {r c:Nat} {w:World} (hl:Strs A w a r c l) (hc:cc≤65535) (h6:r≤1000):Calls Tryz.prog 41 #[.agg #[.bool ring,.slice a1 n1 e1,.int .i64 fin,.int .i64 (cc:Int)],.slice a r c] w fun e w'=>e=.returned (.int .i64 (finalV fin cc (l.map valS):Int))∧Chg [] w w':=by
 have hlen:=hl.len
 have hv5:∀x∈l.map valS,x≤65535:=fun x hx=>by obtain ⟨s,_,rfl⟩:=List.mem_map.1 hx;exact valS_le s
 have htk:∀i,∀x∈(l.map valS).take i,x≤65535:=fun i x hx=>hv5 x (List.mem_of_mem_take hx);refine enter Tryz.func41 rfl Tryz.ntmps41 rfl<|?_;have c0:Chg [] w w:=Chg.refl _ _;refine nx2 ?_;refine WL.go rfl (OX.box rfl rfl rfl fun b2 w1 nw2 hb2=>?_);have s1:=nw2.ext;have ge_hb2:=nw2.ge' c0;have c1:=c0.trans s1;refine nx4 ?_;refine WC.drawn (m:=8) (C:=Chg [] w1) (T:=fun _=>Chg []) (E:=lookE []) (lookE_st (trivial)) mixed (by kernel_rfl) (Chg.drew _ _)<|?_;refine DP .r (fun _ hC=>PV.fa fa56_3 rfl)<|DP .r (fun _ hC=>PV.ld1 one3 (hb2.ext hC).range rfl rfl)<|DP .r (fun _ hC=>PV.fa fa56_3 rfl)<|DP .r (fun _ hC=>PV.ld1 one3 (hb2.ext hC).range rfl rfl)<|DP .r (fun _ hC=>PV.fa fa56_3 rfl)<|DP .r (fun _ hC=>PV.ld1 one3 (hb2.ext hC).range rfl rfl)<|nx2 ?_;refine DW.nil<|?_;rintro w2 s2 _;have c2:=c1.trans s2;have hb2:=hb2.ext s2;refine nx7 ?_;refine WP .r (PV.len' sl63 rfl)<|nx4 ?_;refine WC.loop (σ:=Nat) (kvs:=fun i=>[(2,.pointer (some ⟨b2,0,none⟩)),(5,.int .i64 (sumV cc ((l.map valS).take i):Int)),(6,.int .i64 (mostV cc ((l.map valS).take i):Int)),(7,.int .i64 (bitsV cc ((l.map valS).take i):Int)),(17,.slice a r c),(18,.int .i64 (r:Int)),(19,.int .i64 (i:Int))]) (I:=fun i w'=>Chg [] w w'∧Blk w' b2 56 [.bool ring,.slice a1 n1 e1,.int .i64 fin,.int .i64 (cc:Int)]∧i≤r) (μ:=fun i=>r - i) 0 (Sub.k4 rfl rfl rfl rfl<|Sub.k2 rfl rfl<|Sub.cons rfl<|Sub.nil) ⟨c2,hb2,by omega⟩ ?_;rintro i w3 ⟨c3,hb2,hi⟩;refine nx6 ?_;refine WC.cd (fun g20=>?_) fun g20=>?_
 ·
  simp at g20
  have hi2:i<l.length:=by omega
  have hi3:i<(l.map valS).length:=by simp;omega
  have hs1:=sumV_le (c:=cc) (htk i);have hs2:=mostV_le hc (htk i);have hs3:=bitsV_le hc (htk i);have hvi:=valS_le l[i]
  have hlt:((l.map valS).take i).length≤1000:=by rw [List.length_take];omega
  refine nx5 ?_;obtain ⟨b1,o1,r1,ha1,_,rfl,hr1,_⟩:=(hl.ext c3).at (getElem_some hi2);refine nx ?_;refine WP .r (PV.ixS sl63 ha1 rfl rfl (by omega))<|WP .r (PV.ld0 one9 hr1 rfl rfl)<|nx6 ?_;refine WL.go rfl (OX.call cf21 rfl rfl ((valS_calls (s:=l[i])).mono ?_));rintro _ w4 ⟨rfl,s4⟩;refine ⟨_,rfl,?_⟩;have c4:=c3.trans s4;have hb2:=hb2.ext s4;refine nx9 ?_;refine WP .r (PV.maxI rfl rfl)<|nx2 ?_;refine WP .r (PV.orN rfl rfl (by omega) (by omega))<|nx10 ?_;refine EX.again (i+1) (Sub.cons rfl<|Sub.consI rfl (by rw [sumV_take hi3,List.getElem_map];omega)<|Sub.consI rfl (by rw [mostV_take hi3,List.getElem_map];omega)<|Sub.consI rfl (by rw [bitsV_take hi3,List.getElem_map])<|Sub.k2 rfl rfl<|Sub.consI rfl (by simp)<|Sub.nil) ⟨c4,hb2,by omega⟩ (by omega)
 simp at g20
 have hall:(l.map valS).take i=l.map valS:=List.take_of_length_le (by simp;omega);rw [hall];have hs1:=sumV_le (c:=cc) hv5;have hs2:=mostV_le hc hv5;have hs3:=bitsV_le hc hv5
 have hll:(l.map valS).length≤1000:=by rw [List.length_map];omega
 refine nx8 ?_;refine WP .r (PV.fa fa56_2 rfl)<|WP .r (V1 one3 hb2.range .r)<|nx9 ?_;refine WC.cd (fun g37=>?_) fun g37=>?_
 ·
  simp at g37
  refine nx3 ?_;refine WP .r (PV.rem rfl rfl (by omega))<|nx6 ?_;refine EX.ret1 rfl rfl<|?_;exact ⟨by unfold finalV;rw [if_pos g37,Int.tmod_eq_emod_of_nonneg (by omega)];rfl,c3⟩
 simp at g37
 refine nx6 ?_;refine WC.cd (fun g41=>?_) fun g41=>?_
 ·
  simp at g41
  refine nx3 ?_;refine WP .r (PV.quo rfl rfl (by omega) (by rw [Int.tdiv_eq_ediv_of_nonneg (by omega)];omega) (by rw [Int.tdiv_eq_ediv_of_nonneg (by omega)];omega))<|WP .r (PV.rem rfl rfl (by omega))<|nx6 ?_;refine EX.ret1 rfl rfl<|?_;exact ⟨by unfold finalV;rw [if_neg g37,if_pos g41,Int.tdiv_eq_ediv_of_nonneg (by omega),Int.tmod_eq_emod_of_nonneg (by omega)];rfl,c3⟩
 simp at g41
 refine nx6 ?_;refine WC.cd (fun g46=>?_) fun g46=>?_
 ·
  simp at g46
  refine nx9 ?_;refine EX.ret1 rfl rfl<|?_;exact ⟨by unfold finalV;rw [if_neg g37,if_neg g41,if_pos g46],c3⟩
 simp at g46
 refine nx6 ?_;refine WC.cd (fun g49=>?_) fun g49=>?_
 ·
  simp at g49
  refine nx3 ?_;refine WP .r (PV.rem rfl rfl (by omega))<|nx6 ?_;refine EX.ret1 rfl rfl<|?_;exact ⟨by unfold finalV;rw [if_neg g37,if_neg g41,if_neg g46,if_pos g49,Int.tmod_eq_emod_of_nonneg (by omega)];rfl,c3⟩
 simp at g49
 refine nx10 ?_;refine EX.ret1 rfl rfl<|?_;exact ⟨by unfold finalV;rw [if_neg g37,if_neg g41,if_neg g46,if_neg g49],c3⟩
theorem turn_calls {rules:List Rule} {k:Key} {answers:List ByteArray} {A B C:Nat→Prop} {a a2:Option Addr} {r c r2 e2:Nat} {w:World} (ht:Tab Tryz.prog A w) (hr:Rules B w a r c rules) (hl:Strs C w a2 r2 e2 answers) (hb:∀x∈rules,0≤x.c∧x.c≤65535∧x.asks.length≤1000):Calls Tryz.prog 23 #[.slice a r c,k.val,.slice a2 r2 e2] w fun e w'=>e=.returned (turnV rules k answers).val∧Chg [] w w':=by
 have hle:=hr.le;have hlen:=hr.len;have hlen2:=hl.len;refine enter Tryz.func23 rfl Tryz.ntmps23 rfl<|?_;have c0:Chg [] w w:=Chg.refl _ _;refine nx2 ?_;refine WL.go rfl (OX.box rfl rfl rfl fun b4 w1 nw4 hb4=>?_);have s1:=nw4.ext;have ge_hb4:=nw4.ge' c0;have c1:=c0.trans s1;refine WL.go rfl (OX.alloc zv65 rfl fun b6 w2 nw6 hb6=>?_);have s2:=nw6.ext;have ge_hb6:=nw6.ge' c1;have ne_hb4_hb6:b4≠b6:=nw6.ne hb4.lt;have ne_hb6_hb4:b6≠b4:=Ne.symm ne_hb4_hb6;have c2:=c1.trans s2;have hb4:=hb4.ext s2;refine nx4 ?_;refine WP .r (VA agg35 hb4.range .r)<|?_;refine WL.go rfl (OX.call cf39 rfl rfl ((number_calls (k:=k)).mono ?_));rintro _ w3 ⟨rfl,s3⟩;refine ⟨_,rfl,?_⟩;have c3:=c2.trans s3;have hb4:=hb4.ext s3;have hb6:=hb6.ext s3;refine nx5 ?_;refine WC.cut1 (t:=28) (v:=.bool (decide (number k<0) || (decide ((r:Int)≤number k) || decide (ofK rules (number k)≠k)))) (Chg [] w3) ?_<|?_
 ·
  refine WC.drawn (m:=13) (C:=Chg [] w3) (T:=fun _=>Chg []) (E:=lookE [(11,fun v _=>v=(ofK rules (number k)).val)]) (lookE_st (⟨fun _ _ _ _ _ _ _ h=>h,trivial⟩)) mixed (by kernel_rfl) (Chg.drew _ _)<|nx3 ?_;refine DW.gsplit (t:=16) rfl (fun g16=>?_) (fun g16=>?_)
  ·
   refine nx10 ?_;refine DW.nil<|?_;rintro w4 s4 _;have c4:=c3.trans s4;have hb4:=hb4.ext s4;have hb6:=hb6.ext s4;refine nx3 ?_;exact EX.meet1 16 rfl rfl rfl (by simp only [g16];first | rfl | simp) s4
  refine nx2 ?_;refine DP .r (fun _ hC=>PV.len' sl27 rfl)<|nx3 ?_;refine DW.gsplit (t:=22) rfl (fun g22=>?_) (fun g22=>?_)
  ·
   refine nx4 ?_;refine DW.nil<|?_;rintro w4 s4 _;have c4:=c3.trans s4;have hb4:=hb4.ext s4;have hb6:=hb6.ext s4;refine nx3 ?_;exact EX.meet1 17 rfl rfl rfl (by simp only [g16,g22];first | rfl | simp) s4
  refine nx2 ?_;refine DW.e rfl rfl rfl rfl rfl (fun wx hC hF=>OX.call cf11 rfl rfl ((of_calls (n:=number k) (hr.ext (c3.trans hC))).mono ?_))<|?_
  ·
   rintro _ wy ⟨rfl,hy⟩;exact ⟨_,rfl,hC.trans hy,hy,_,rfl,rfl⟩
  rintro _ wz _ rfl;refine DP .r (fun _ hC=>PV.ldA agg35 (hb4.ext hC).range rfl rfl)<|DW.nil<|?_;rintro w4 s4 _;have c4:=c3.trans s4;have hb4:=hb4.ext s4;have hb6:=hb6.ext s4;refine WP .r (PV.neK keyt35 (p:=ofK rules (number k)) (q:=k) rfl rfl)<|nx2 ?_;exact EX.meet1 17 rfl rfl rfl (by simp only [g16,g22];first | rfl | simp) s4
 intro w4 s4;have c4:=c3.trans s4;have hb4:=hb4.ext s4;have hb6:=hb6.ext s4;refine nx ?_;refine WC.cd (fun g28=>?_) fun g28=>?_
 ·
  simp at g28
  have hv:=turnV_no (answers:=answers) (show number k<0∨(rules.length:Int)≤number k∨ofK rules (number k)≠k by rw [← hlen];exact g28);refine nx2 ?_;refine WP .r (PV.build' (us:=[.bool true,.string ⟨#[]⟩,.int .i64 0,.string ⟨#[]⟩]) bt65 rfl rfl rfl)<|?_;refine WL.go rfl (OX.stW sz65 hb6 rfl rfl rfl rfl rfl fun w5 s5 _ hb6=>?_);have c5:=c4.own s5 ge_hb6;have hb4:=hb4.chg s5 (by simp [ne_hb4_hb6]);refine nx4 ?_;refine EX.retC agg65 rfl rfl hb6.range rfl<|?_;rw [hv];exact ⟨rfl,c5⟩
 simp at g28
 obtain ⟨g1,g2,g3⟩:=g28;obtain ⟨i,hni⟩:∃i:Nat,number k=i:=⟨(number k).toNat,by omega⟩
 have hi:i<rules.length:=by omega
 obtain ⟨hb1,hb2,hb3⟩:=hb _ (List.getElem_mem hi);obtain ⟨cc,hcc⟩:∃cc:Nat,rules[i].c=cc:=⟨rules[i].c.toNat,by omega⟩;refine nx3 ?_;obtain ⟨bx1,ox1,rx1,ha1,_,⟨q1,q2,q3,rfl,hasks⟩,hr1,_⟩:=hr.at (getElem_some hi);have hr1:=range_chg hr1 c4 (by simp);rw [hcc] at hr1;have hal:=hasks.len;refine nx3 ?_;refine WP .r (PV.ixZ sl27 (i) ha1 rfl rfl (by omega) (by omega))<|WP .r (VA agg56 hr1 .r)<|nx ?_;refine WP .r (PV.len' sl63 rfl)<|?_;refine WL.go rfl (OX.alloc zv56 rfl fun b8 w5 nw8 hb8=>?_);have s5:=nw8.ext;have ge_hb8:=nw8.ge' c4;have ne_hb4_hb8:b4≠b8:=nw8.ne hb4.lt;have ne_hb8_hb4:b8≠b4:=Ne.symm ne_hb4_hb8;have ne_hb6_hb8:b6≠b8:=nw8.ne hb6.lt;have ne_hb8_hb6:b8≠b6:=Ne.symm ne_hb6_hb8;have c5:=c4.trans s5;have hb4:=hb4.ext s5;have hb6:=hb6.ext s5;refine WL.go rfl (OX.stW sz56 hb8 rfl rfl rfl rfl rfl fun w6 s6 _ hb8=>?_);have c6:=c5.own s6 ge_hb8;have hb4:=hb4.chg s6 (by simp [ne_hb4_hb8]);have hb6:=hb6.chg s6 (by simp [ne_hb6_hb8]);refine nx7 ?_;refine WP .r (PV.fa fa56_1 rfl)<|WP .r (V1 one54 hb8.range .r)<|WP .r (PV.len' sl54 rfl)<|nx3 ?_;refine WC.cd (fun g40=>?_) fun g40=>?_
 ·
  simp at g40
  have hv:=turnV_end (answers:=answers) hni hi g3 (by omega);rw [← hal,hcc,Int.toNat_natCast] at hv;have hfl:=finalV_le (kind:=rules[i].final) (c:=cc) (l:=(answers.take q2).map valS) (by omega) (fun x hx=>by obtain ⟨s,_,rfl⟩:=List.mem_map.1 hx;exact valS_le s);refine nx ?_;refine WC.drawn (m:=6) (C:=Chg [] w6) (T:=fun _=>Chg []) (E:=lookE []) (lookE_st (trivial)) mixed (by kernel_rfl) (Chg.drew _ _)<|?_;refine DP .r (fun _ hC=>PV.ldA agg56 (hb8.ext hC).range rfl rfl)<|nx ?_;refine DP .r (fun _ hC=>PV.fa fa56_1 rfl)<|DP .r (fun _ hC=>PV.ld1 one54 (hb8.ext hC).range rfl rfl)<|DP .r (fun _ hC=>PV.len' sl54 rfl)<|DP .r (fun _ hC=>PV.sliceH sl63 (hl.ext (c6.trans hC)) rfl rfl (by omega))<|DW.nil<|?_;rintro w7 s7 _;have c7:=c6.trans s7;have hb4:=hb4.ext s7;have hb6:=hb6.ext s7;have hb8:=hb8.ext s7;refine WL.go rfl (OX.call cf41 rfl rfl ((final_calls (SR.take (hl.ext c7) (by omega)) (show cc≤65535 by omega) (by omega)).mono ?_));rintro _ w8 ⟨rfl,s8⟩;refine ⟨_,rfl,?_⟩;have c8:=c7.trans s8;have hb4:=hb4.ext s8;have hb6:=hb6.ext s8;have hb8:=hb8.ext s8;refine WL.go rfl (OX.call cf17 rfl rfl ((itoa_calls (ht.ext c8) (by omega) (by omega)).mono ?_));rintro _ w9 ⟨rfl,s9⟩;refine ⟨_,rfl,?_⟩;have c9:=c8.trans s9;have hb4:=hb4.ext s9;have hb6:=hb6.ext s9;have hb8:=hb8.ext s9;refine WP .r (PV.build' (us:=[.bool true,.string (itoa ((finalV rules[i].final cc ((answers.take q2).map valS)):Int)),.int .i64 0,.string ⟨#[]⟩]) bt65 rfl rfl rfl)<|?_;refine WL.go rfl (OX.stW sz65 hb6 rfl rfl rfl rfl rfl fun w10 s10 _ hb6=>?_);have c10:=c9.own s10 ge_hb6;have hb4:=hb4.chg s10 (by simp [ne_hb4_hb6]);have hb8:=hb8.chg s10 (by simp [ne_hb8_hb6]);refine nx4 ?_;refine EX.retC agg65 rfl rfl hb6.range rfl<|?_;rw [hv];exact ⟨rfl,c10⟩
 simp at g40
 have hn:r2<rules[i].asks.length:=by omega
 have hv:=turnV_ask (answers:=answers) hni hi g3 (by omega);simp only [← hlen2] at hv;refine nx3 ?_;obtain ⟨bx2,ox2,rx2,ha2,_,rfl,hr2,_⟩:=(hasks.ext c6).at (getElem_some hn);refine nx ?_;refine WP .r (PV.fa fa56_1 rfl)<|WP .r (V1 one54 hb8.range .r)<|nx ?_;refine WP .r (PV.ixS sl54 ha2 rfl rfl (by omega))<|WP .r (VA agg61 hr2 .r)<|?_;refine WL.go rfl (OX.alloc zv61 rfl fun b10 w7 nw10 hb10=>?_);have s7:=nw10.ext;have ge_hb10:=nw10.ge' c6;have ne_hb4_hb10:b4≠b10:=nw10.ne hb4.lt;have ne_hb10_hb4:b10≠b4:=Ne.symm ne_hb4_hb10;have ne_hb6_hb10:b6≠b10:=nw10.ne hb6.lt;have ne_hb10_hb6:b10≠b6:=Ne.symm ne_hb6_hb10;have ne_hb8_hb10:b8≠b10:=nw10.ne hb8.lt;have ne_hb10_hb8:b10≠b8:=Ne.symm ne_hb8_hb10;have c7:=c6.trans s7;have hb4:=hb4.ext s7;have hb6:=hb6.ext s7;have hb8:=hb8.ext s7;refine WL.go rfl (OX.stW sz61 hb10 rfl rfl rfl rfl rfl fun w8 s8 _ hb10=>?_);have c8:=c7.own s8 ge_hb10;have hb4:=hb4.chg s8 (by simp [ne_hb4_hb10]);have hb6:=hb6.chg s8 (by simp [ne_hb6_hb10]);have hb8:=hb8.chg s8 (by simp [ne_hb8_hb10]);refine nx4 ?_;refine WP .r (PV.fa fa61_2 rfl)<|WP .r (V1 one3 hb10.range .r)<|nx5 ?_;refine WC.cut1 (t:=72) (v:=.bool (pickNow rules[i].asks[r2] answers)) (Chg [] w8) ?_<|?_
 ·
  refine nx ?_;refine WP .r (PV.fa fa61_1 rfl)<|WP .r (V1 one4 hb10.range .r)<|nx ?_;refine WL.gsplit (t:=59) rfl (fun g59=>?_) (fun g59=>?_)
  ·
   refine nx3 ?_;refine WL.gsplit (t:=62) rfl (fun g62=>?_) (fun g62=>?_)
   ·
    have hm2:pickNow rules[i].asks[r2] answers=true:=by unfold pickNow;rw [g59,← hlen2];simp at g62;simp [g62]
    refine nx11 ?_;exact EX.meet1 18 rfl rfl rfl (by rw [hm2]) (Chg.refl _ _)
   simp at g62
   obtain ⟨bx3,ox3,rx3,ha3,_,rfl,hr3,_⟩:=(hl.ext c8).at (getElem_some (show r2 - 1<answers.length by omega))
   have hm2:pickNow rules[i].asks[r2] answers=decide ((valS answers[r2 - 1]:Int).tmod 2=0):=by
    unfold pickNow
    simp only [g59,← hlen2,Bool.true_and];rw [decide_eq_false (by omega),Bool.false_or,getElem!_pos answers (r2 - 1) (by omega),Int.tmod_eq_emod_of_nonneg (by omega)]
    congr 1
    exact propext ⟨fun h=>by omega,fun h=>by omega⟩
   refine nx3 ?_;refine WP .r (PV.ixZ sl63 (r2 - 1) ha3 rfl rfl (by omega) (by omega))<|WP .r (PV.ld0 one9 hr3 rfl rfl)<|?_;refine WL.go rfl (OX.call cf21 rfl rfl ((valS_calls (s:=answers[r2 - 1])).mono ?_));rintro _ w9 ⟨rfl,s9⟩;refine ⟨_,rfl,?_⟩;have c9:=c8.trans s9;have hb4:=hb4.ext s9;have hb6:=hb6.ext s9;have hb8:=hb8.ext s9;have hb10:=hb10.ext s9;refine WP .r (PV.rem rfl rfl (by omega))<|nx4 ?_;exact EX.meet1 18 rfl rfl rfl (by rw [hm2]) s9
  have hm2:pickNow rules[i].asks[r2] answers=false:=by unfold pickNow;rw [g59];rfl
  refine nx12 ?_;refine nx2 ?_;exact EX.meet1 17 rfl rfl rfl (by rw [hm2]) (Chg.refl _ _)
 intro w9 s9;have c9:=c8.trans s9;have hb4:=hb4.ext s9;have hb6:=hb6.ext s9;have hb8:=hb8.ext s9;have hb10:=hb10.ext s9;refine nx ?_;refine WC.cd (fun g72=>?_) fun g72=>?_
 ·
  have hto:toOf rules[i].asks[r2] answers=rules[i].asks[r2].els:=by unfold toOf;rw [if_pos g72]
  refine nx ?_;refine WP .r (PV.fa fa61_3 rfl)<|WP .r (V1 one3 hb10.range .r)<|nx6 ?_;refine WP .r (PV.fa fa61_0 rfl)<|WP .r (V1 one4 hb10.range .r)<|nx2 ?_;refine WC.cd (fun g76=>?_) fun g76=>?_
  ·
   rw [hto,if_pos g76] at hv;refine nx3 ?_;refine WL.go rfl (OX.call cf15 rfl rfl ((cell_calls).mono ?_));rintro _ w10 ⟨rfl,s10⟩;refine ⟨_,rfl,?_⟩;have c10:=c9.trans s10;have hb4:=hb4.ext s10;have hb6:=hb6.ext s10;have hb8:=hb8.ext s10;have hb10:=hb10.ext s10;refine WP .r (PV.build' (us:=[.bool false,.string ⟨#[]⟩,.int .i64 (cellK _).kind,.string (cellK _).text]) bt65 rfl rfl rfl)<|?_;refine WL.go rfl (OX.stW sz65 hb6 rfl rfl rfl rfl rfl fun w11 s11 _ hb6=>?_);have c11:=c10.own s11 ge_hb6;have hb4:=hb4.chg s11 (by simp [ne_hb4_hb6]);have hb8:=hb8.chg s11 (by simp [ne_hb8_hb6]);have hb10:=hb10.chg s11 (by simp [ne_hb10_hb6]);refine nx4 ?_;refine EX.retC agg65 rfl rfl hb6.range rfl<|?_;rw [hv];exact ⟨rfl,c11⟩
  rw [hto,if_neg (by simp [g76])] at hv;refine nx6 ?_;refine WL.go rfl (OX.call cf11 rfl rfl ((of_calls (hr.ext c9)).mono ?_));rintro _ w10 ⟨rfl,s10⟩;refine ⟨_,rfl,?_⟩;have c10:=c9.trans s10;have hb4:=hb4.ext s10;have hb6:=hb6.ext s10;have hb8:=hb8.ext s10;have hb10:=hb10.ext s10;refine WP .r (PV.build' (us:=[.bool false,.string ⟨#[]⟩,.int .i64 (ofK rules _).kind,.string (ofK rules _).text]) bt65 rfl rfl rfl)<|?_;refine WL.go rfl (OX.stW sz65 hb6 rfl rfl rfl rfl rfl fun w11 s11 _ hb6=>?_);have c11:=c10.own s11 ge_hb6;have hb4:=hb4.chg s11 (by simp [ne_hb4_hb6]);have hb8:=hb8.chg s11 (by simp [ne_hb8_hb6]);have hb10:=hb10.chg s11 (by simp [ne_hb10_hb6]);refine nx3 ?_;refine EX.retC agg65 rfl rfl hb6.range rfl<|?_;rw [hv];exact ⟨rfl,c11⟩
 have hto:toOf rules[i].asks[r2] answers=rules[i].asks[r2].n:=by unfold toOf;rw [if_neg (by simp [g72])]
 refine nx5 ?_;refine WP .r (PV.fa fa61_0 rfl)<|WP .r (V1 one4 hb10.range .r)<|nx2 ?_;refine WC.cd (fun g76=>?_) fun g76=>?_
 ·
  rw [hto,if_pos g76] at hv;refine nx3 ?_;refine WL.go rfl (OX.call cf15 rfl rfl ((cell_calls).mono ?_));rintro _ w10 ⟨rfl,s10⟩;refine ⟨_,rfl,?_⟩;have c10:=c9.trans s10;have hb4:=hb4.ext s10;have hb6:=hb6.ext s10;have hb8:=hb8.ext s10;have hb10:=hb10.ext s10;refine WP .r (PV.build' (us:=[.bool false,.string ⟨#[]⟩,.int .i64 (cellK _).kind,.string (cellK _).text]) bt65 rfl rfl rfl)<|?_;refine WL.go rfl (OX.stW sz65 hb6 rfl rfl rfl rfl rfl fun w11 s11 _ hb6=>?_);have c11:=c10.own s11 ge_hb6;have hb4:=hb4.chg s11 (by simp [ne_hb4_hb6]);have hb8:=hb8.chg s11 (by simp [ne_hb8_hb6]);have hb10:=hb10.chg s11 (by simp [ne_hb10_hb6]);refine nx4 ?_;refine EX.retC agg65 rfl rfl hb6.range rfl<|?_;rw [hv];exact ⟨rfl,c11⟩
 rw [hto,if_neg (by simp [g76])] at hv;refine nx6 ?_;refine WL.go rfl (OX.call cf11 rfl rfl ((of_calls (hr.ext c9)).mono ?_));rintro _ w10 ⟨rfl,s10⟩;refine ⟨_,rfl,?_⟩;have c10:=c9.trans s10;have hb4:=hb4.ext s10;have hb6:=hb6.ext s10;have hb8:=hb8.ext s10;have hb10:=hb10.ext s10;refine WP .r (PV.build' (us:=[.bool false,.string ⟨#[]⟩,.int .i64 (ofK rules _).kind,.string (ofK rules _).text]) bt65 rfl rfl rfl)<|?_;refine WL.go rfl (OX.stW sz65 hb6 rfl rfl rfl rfl rfl fun w11 s11 _ hb6=>?_);have c11:=c10.own s11 ge_hb6;have hb4:=hb4.chg s11 (by simp [ne_hb4_hb6]);have hb8:=hb8.chg s11 (by simp [ne_hb8_hb6]);have hb10:=hb10.chg s11 (by simp [ne_hb10_hb6]);refine nx3 ?_;refine EX.retC agg65 rfl rfl hb6.range rfl<|?_;rw [hv];exact ⟨rfl,c11⟩
theorem valid_calls {rules:List Rule} {A:Nat→Prop} {a:Option Addr} {r c:Nat} {w:World} (hr:Rules A w a r c rules):Calls Tryz.prog 107 #[.slice a r c] w fun e w'=>∃b:Bool,e=.returned (.bool b)∧(b=true↔rulesOk rules)∧Chg [] w w':=by
 have hle:=hr.le;have hlen:=hr.len;refine enter Tryz.func107 rfl Tryz.ntmps107 rfl<|?_;have c0:Chg [] w w:=Chg.refl _ _;refine nx9 ?_;refine WP .r (PV.len' sl27 rfl)<|nx4 ?_;refine WC.loop (σ:=Nat) (kvs:=fun i=>[(0,.slice a r c),(7,.slice a r c),(8,.int .i64 (r:Int)),(9,.int .i64 (i:Int))]) (I:=fun i w'=>Chg [] w w'∧i≤r∧∀j x,j<i→rules[j]?=some x→ruleOk rules j x) (μ:=fun i=>r - i) 0 (Sub.k4 rfl rfl rfl rfl<|Sub.nil) ⟨c0,by omega,fun j x h=>by omega⟩ ?_;rintro i w1 ⟨c1,hi,hok⟩;refine nx6 ?_;refine WC.cd (fun g10=>?_) fun g10=>?_
 ·
  simp at g10
  have hi2:i<rules.length:=by omega
  obtain ⟨bx1,ox1,rx1,ha1,_,⟨q1,q2,q3,rfl,hasks⟩,hr1,_⟩:=hr.at (getElem_some hi2);have hal:=hasks.len;have hq:=hasks.le;refine nx5 ?_;have hr1:=range_chg hr1 c1 (by simp);refine nx2 ?_;refine WP .r (PV.ixS sl27 ha1 rfl rfl (by omega))<|WP .r (VA agg56 hr1 .r)<|?_;refine WL.go rfl (OX.alloc zv56 rfl fun b4 w2 nw4 hb4=>?_);have s2:=nw4.ext;have ge_hb4:=nw4.ge' c1;have c2:=c1.trans s2;refine nx ?_;refine WL.go rfl (OX.stW sz56 hb4 rfl rfl rfl rfl rfl fun w3 s3 _ hb4=>?_);have c3:=c2.own s3 ge_hb4;refine nx5 ?_;refine WP .r (PV.fa fa56_1 rfl)<|WP .r (V1 one54 hb4.range .r)<|WP .r (PV.len' sl54 rfl)<|nx3 ?_;refine WC.cd (fun g17=>?_) fun g17=>?_
  ·
   simp at g17
   refine nx12 ?_;refine EX.ret1 rfl rfl<|?_;exact ⟨false,rfl,⟨fun h=>(by cases h),fun h=>absurd (h.2 i _ (getElem_some hi2)).1 (by omega)⟩,c3⟩
  simp at g17
  refine nx5 ?_;refine WP .r (PV.fa fa56_1 rfl)<|WP .r (V1 one54 hb4.range .r)<|WP .r (PV.len' sl54 rfl)<|nx4 ?_;refine WC.loop (σ:=Nat) (kvs:=fun k=>[(0,.slice a r c),(7,.slice a r c),(8,.int .i64 (r:Int)),(9,.int .i64 (i:Int)),(3,.int .i64 (i:Int)),(4,.pointer (some ⟨b4,0,none⟩)),(19,.slice q1 q2 q3),(20,.int .i64 (q2:Int)),(21,.int .i64 (k:Int))]) (I:=fun k w'=>Chg [] w w'∧Blk w' b4 56 [.bool rules[i].ring,.slice q1 q2 q3,.int .i64 rules[i].final,.int .i64 rules[i].c]∧k≤q2∧∀j x,j<k→rules[i].asks[j]?=some x→askOk rules i rules[i].ring j x=true) (μ:=fun k=>q2 - k) 0 (Sub.k4 rfl rfl rfl rfl<|Sub.k4 rfl rfl rfl rfl<|Sub.cons rfl<|Sub.nil) ⟨c3,hb4,by omega,fun j x h=>by omega⟩ ?_;rintro k w4 ⟨c4,hb4,hk,haok⟩;refine nx6 ?_;refine WC.cd (fun g22=>?_) fun g22=>?_
  ·
   simp at g22
   have hk2:k<rules[i].asks.length:=by omega
   obtain ⟨bx2,ox2,rx2,ha2,_,rfl,hr2,_⟩:=(hasks.ext c4).at (getElem_some hk2);refine nx7 ?_;refine WP .r (PV.ixS sl54 ha2 rfl rfl (by omega))<|WP .r (VA agg61 hr2 .r)<|?_;refine WL.go rfl (OX.alloc zv61 rfl fun b6 w5 nw6 hb6=>?_);have s5:=nw6.ext;have ge_hb6:=nw6.ge' c4;have ne_hb4_hb6:b4≠b6:=nw6.ne hb4.lt;have ne_hb6_hb4:b6≠b4:=Ne.symm ne_hb4_hb6;have c5:=c4.trans s5;have hb4:=hb4.ext s5;refine nx ?_;refine WL.go rfl (OX.stW sz61 hb6 rfl rfl rfl rfl rfl fun w6 s6 _ hb6=>?_);have c6:=c5.own s6 ge_hb6;have hb4:=hb4.chg s6 (by simp [ne_hb4_hb6]);refine nx3 ?_;refine WC.cut1 (t:=63) (v:=.bool (!askOk rules i rules[i].ring k rules[i].asks[k])) (Chg [] w6) ?_<|?_
   ·
    refine nx3 ?_;refine WP .r (VA agg61 hb6.range .r)<|WP .r (PV.fa fa61_2 rfl)<|WP .r (V1 one3 hb6.range .r)<|?_;refine WL.go rfl (OX.call cf145 rfl rfl ((may_calls (x:=rules[i].asks[k]) (n:=rules[i].asks[k].n) (hr.ext c6) hi2).mono ?_));rintro _ w7 ⟨rfl,s7⟩;refine ⟨_,rfl,?_⟩;have c7:=c6.trans s7;have hb4:=hb4.ext s7;have hb6:=hb6.ext s7;refine nx2 ?_;refine WL.gsplit (t:=33) rfl (fun g33=>?_) (fun g33=>?_)
    ·
     refine nx12 ?_;refine nx12 ?_;refine nx7 ?_;exact EX.meet1 39 rfl rfl rfl (by unfold askOk;simp at g33;first | (simp [g33];done) | (exfalso;simp_all;done) | (simp_all;done) | (simp [g33];rw [Bool.eq_iff_iff];simp;done) | (simp [g33];rw [Bool.eq_iff_iff];simp;omega) | (simp [g33];omega) | (simp_all;omega)) s7
    refine WP .r (PV.fa fa61_1 rfl)<|WP .r (V1 one4 hb6.range .r)<|nx ?_;refine WL.gsplit (t:=36) rfl (fun g36=>?_) (fun g36=>?_)
    ·
     refine WP .r (PV.fa fa56_0 rfl)<|WP .r (V1 one4 hb4.range .r)<|nx ?_;refine WL.gsplit (t:=39) rfl (fun g39=>?_) (fun g39=>?_)
     ·
      refine nx12 ?_;refine nx12 ?_;refine nx ?_;exact EX.meet1 41 rfl rfl rfl (by unfold askOk;simp at g33 g36 g39;first | (simp [g33,g36,g39];done) | (exfalso;simp_all;done) | (simp_all;done) | (simp [g33,g36,g39];rw [Bool.eq_iff_iff];simp;done) | (simp [g33,g36,g39];rw [Bool.eq_iff_iff];simp;omega) | (simp [g33,g36,g39];omega) | (simp_all;omega)) s7
     refine nx4 ?_;refine WL.gsplit (t:=43) rfl (fun g43=>?_) (fun g43=>?_)
     ·
      refine nx12 ?_;refine nx9 ?_;exact EX.meet1 42 rfl rfl rfl (by unfold askOk;simp at g33 g36 g39 g43;first | (simp [g33,g36,g39,g43];done) | (exfalso;simp_all;done) | (simp_all;done) | (simp [g33,g36,g39,g43];rw [Bool.eq_iff_iff];simp;done) | (simp [g33,g36,g39,g43];rw [Bool.eq_iff_iff];simp;omega) | (simp [g33,g36,g39,g43];omega) | (simp_all;omega)) s7
     refine nx2 ?_;refine WP .r (VA agg61 hb6.range .r)<|WP .r (PV.fa fa61_3 rfl)<|WP .r (V1 one3 hb6.range .r)<|?_;refine WL.go rfl (OX.call cf145 rfl rfl ((may_calls (x:=rules[i].asks[k]) (n:=rules[i].asks[k].els) (hr.ext c7) hi2).mono ?_));rintro _ w8 ⟨rfl,s8⟩;refine ⟨_,rfl,?_⟩;have c8:=c7.trans s8;have hb4:=hb4.ext s8;have hb6:=hb6.ext s8;refine nx5 ?_;refine WL.gsplit (t:=54) rfl (fun g54=>?_) (fun g54=>?_)
     ·
      refine nx10 ?_;exact EX.meet1 43 rfl rfl rfl (by unfold askOk;simp at g33 g36 g39 g43 g54;first | (simp [g33,g36,g39,g43,g54];done) | (exfalso;simp_all;done) | (simp_all;done) | (simp [g33,g36,g39,g43,g54];rw [Bool.eq_iff_iff];simp;done) | (simp [g33,g36,g39,g43,g54];rw [Bool.eq_iff_iff];simp;omega) | (simp [g33,g36,g39,g43,g54];omega) | (simp_all;omega)) (s7.trans s8)
     refine WP .r (PV.fa fa61_1 rfl)<|WP .r (V1 one4 hb6.range .r)<|nx2 ?_;refine WL.gsplit (t:=58) rfl (fun g58=>?_) (fun g58=>?_)
     ·
      refine WP .r (PV.fa fa61_3 rfl)<|WP .r (V1 one3 hb6.range .r)<|nx4 ?_;exact EX.meet1 44 rfl rfl rfl (by unfold askOk;simp at g33 g36 g39 g43 g54 g58;first | (simp [g33,g36,g39,g43,g54,g58];done) | (exfalso;simp_all;done) | (simp_all;done) | (simp [g33,g36,g39,g43,g54,g58];rw [Bool.eq_iff_iff];simp;done) | (simp [g33,g36,g39,g43,g54,g58];rw [Bool.eq_iff_iff];simp;omega) | (simp [g33,g36,g39,g43,g54,g58];omega) | (simp_all;omega)) (s7.trans s8)
     refine nx6 ?_;exact EX.meet1 44 rfl rfl rfl (by unfold askOk;simp at g33 g36 g39 g43 g54 g58;first | (simp [g33,g36,g39,g43,g54,g58];done) | (exfalso;simp_all;done) | (simp_all;done) | (simp [g33,g36,g39,g43,g54,g58];rw [Bool.eq_iff_iff];simp;done) | (simp [g33,g36,g39,g43,g54,g58];rw [Bool.eq_iff_iff];simp;omega) | (simp [g33,g36,g39,g43,g54,g58];omega) | (simp_all;omega)) (s7.trans s8)
    refine nx12 ?_;refine nx6 ?_;refine WP .r (PV.fa fa61_1 rfl)<|WP .r (V1 one4 hb6.range .r)<|nx2 ?_;refine WL.gsplit (t:=58) rfl (fun g58=>?_) (fun g58=>?_)
    ·
     refine WP .r (PV.fa fa61_3 rfl)<|WP .r (V1 one3 hb6.range .r)<|nx4 ?_;exact EX.meet1 41 rfl rfl rfl (by unfold askOk;simp at g33 g36 g58;first | (simp [g33,g36,g58];done) | (exfalso;simp_all;done) | (simp_all;done) | (simp [g33,g36,g58];rw [Bool.eq_iff_iff];simp;done) | (simp [g33,g36,g58];rw [Bool.eq_iff_iff];simp;omega) | (simp [g33,g36,g58];omega) | (simp_all;omega)) s7
    refine nx6 ?_;exact EX.meet1 41 rfl rfl rfl (by unfold askOk;simp at g33 g36 g58;first | (simp [g33,g36,g58];done) | (exfalso;simp_all;done) | (simp_all;done) | (simp [g33,g36,g58];rw [Bool.eq_iff_iff];simp;done) | (simp [g33,g36,g58];rw [Bool.eq_iff_iff];simp;omega) | (simp [g33,g36,g58];omega) | (simp_all;omega)) s7
   intro w7 s7;have c7:=c6.trans s7;have hb4:=hb4.ext s7;have hb6:=hb6.ext s7;refine nx ?_;refine WC.cd (fun g63=>?_) fun g63=>?_
   ·
    simp at g63
    refine nx12 ?_;refine nx4 ?_;refine EX.ret1 rfl rfl<|?_;exact ⟨false,rfl,⟨fun h=>(by cases h),fun h=>absurd ((h.2 i _ (getElem_some hi2)).2.1 k _ (getElem_some hk2)) (by simp [g63])⟩,c7⟩
   simp at g63
   refine nx7 ?_;refine EX.again (k+1) (Sub.k4 rfl rfl rfl rfl<|Sub.k4 rfl rfl rfl rfl<|Sub.consI rfl (by simp)<|Sub.nil) ⟨c7,hb4,by omega,below_succ hk2 haok g63⟩ (by omega)
  simp at g22
  have haok:∀j x,rules[i].asks[j]?=some x→askOk rules i rules[i].ring j x=true:=fun j x hx=>haok j x (by have:=(List.getElem?_eq_some_iff.1 hx).1;omega) hx;refine nx6 ?_;refine WC.cut1 (t:=106) (v:=.bool (!endOk rules[i])) (fun wx=>w4=wx) ?_ ?_
  ·
   refine nx ?_;refine WP .r (PV.fa fa56_0 rfl)<|WP .r (V1 one4 hb4.range .r)<|nx ?_;refine WL.gsplit (t:=67) rfl (fun g67=>?_) (fun g67=>?_)
   ·
    refine WP .r (PV.fa fa56_2 rfl)<|WP .r (V1 one3 hb4.range .r)<|nx2 ?_;refine WL.gsplit (t:=71) rfl (fun g71=>?_) (fun g71=>?_)
    ·
     refine nx12 ?_;refine nx12 ?_;refine nx12 ?_;exact EX.meet1 44 rfl rfl rfl (by unfold endOk;simp at g67 g71;first | (simp [g67,g71];done) | (exfalso;simp_all;done) | (simp_all;done) | (simp [g67,g71];rw [Bool.eq_iff_iff];simp;done) | (simp [g67,g71];rw [Bool.eq_iff_iff];simp;omega) | (simp [g67,g71];omega) | (simp_all;omega)) rfl
    refine WP .r (PV.fa fa56_3 rfl)<|WP .r (V1 one3 hb4.range .r)<|nx3 ?_;refine WL.gsplit (t:=76) rfl (fun g76=>?_) (fun g76=>?_)
    ·
     refine nx12 ?_;refine nx12 ?_;refine nx7 ?_;exact EX.meet1 45 rfl rfl rfl (by unfold endOk;simp at g67 g71 g76;first | (simp [g67,g71,g76];done) | (exfalso;simp_all;done) | (simp_all;done) | (simp [g67,g71,g76];rw [Bool.eq_iff_iff];simp;done) | (simp [g67,g71,g76];rw [Bool.eq_iff_iff];simp;omega) | (simp [g67,g71,g76];omega) | (simp_all;omega)) rfl
    refine WP .r (PV.fa fa56_3 rfl)<|WP .r (V1 one3 hb4.range .r)<|nx4 ?_;refine WL.gsplit (t:=82) rfl (fun g82=>?_) (fun g82=>?_)
    ·
     refine nx12 ?_;refine nx12 ?_;refine nx ?_;exact EX.meet1 46 rfl rfl rfl (by unfold endOk;simp at g67 g71 g76 g82;first | (simp [g67,g71,g76,g82];done) | (exfalso;simp_all;done) | (simp_all;done) | (simp [g67,g71,g76,g82];rw [Bool.eq_iff_iff];simp;done) | (simp [g67,g71,g76,g82];rw [Bool.eq_iff_iff];simp;omega) | (simp [g67,g71,g76,g82];omega) | (simp_all;omega)) rfl
    refine WP .r (PV.fa fa56_0 rfl)<|WP .r (V1 one4 hb4.range .r)<|nx2 ?_;refine WL.gsplit (t:=86) rfl (fun g86=>?_) (fun g86=>?_)
    ·
     refine WP .r (PV.fa fa56_2 rfl)<|WP .r (V1 one3 hb4.range .r)<|nx2 ?_;refine WL.gsplit (t:=90) rfl (fun g90=>?_) (fun g90=>?_)
     ·
      refine nx12 ?_;refine nx5 ?_;exact EX.meet1 48 rfl rfl rfl (by unfold endOk;simp at g67 g71 g76 g82 g86 g90;first | (simp [g67,g71,g76,g82,g86,g90];done) | (exfalso;simp_all;done) | (simp_all;done) | (simp [g67,g71,g76,g82,g86,g90];rw [Bool.eq_iff_iff];simp;done) | (simp [g67,g71,g76,g82,g86,g90];rw [Bool.eq_iff_iff];simp;omega) | (simp [g67,g71,g76,g82,g86,g90];omega) | (simp_all;omega)) rfl
     refine WP .r (PV.fa fa56_2 rfl)<|WP .r (V1 one3 hb4.range .r)<|nx3 ?_;refine WL.gsplit (t:=95) rfl (fun g95=>?_) (fun g95=>?_)
     ·
      refine nx12 ?_;exact EX.meet1 49 rfl rfl rfl (by unfold endOk;simp at g67 g71 g76 g82 g86 g90 g95;first | (simp [g67,g71,g76,g82,g86,g90,g95];done) | (exfalso;simp_all;done) | (simp_all;done) | (simp [g67,g71,g76,g82,g86,g90,g95];rw [Bool.eq_iff_iff];simp;done) | (simp [g67,g71,g76,g82,g86,g90,g95];rw [Bool.eq_iff_iff];simp;omega) | (simp [g67,g71,g76,g82,g86,g90,g95];omega) | (simp_all;omega)) rfl
     refine WP .r (PV.fa fa56_3 rfl)<|WP .r (V1 one3 hb4.range .r)<|nx3 ?_;refine WL.gsplit (t:=100) rfl (fun g100=>?_) (fun g100=>?_)
     ·
      refine nx7 ?_;exact EX.meet1 50 rfl rfl rfl (by unfold endOk;simp at g67 g71 g76 g82 g86 g90 g95 g100;first | (simp [g67,g71,g76,g82,g86,g90,g95,g100];done) | (exfalso;simp_all;done) | (simp_all;done) | (simp [g67,g71,g76,g82,g86,g90,g95,g100];rw [Bool.eq_iff_iff];simp;done) | (simp [g67,g71,g76,g82,g86,g90,g95,g100];rw [Bool.eq_iff_iff];simp;omega) | (simp [g67,g71,g76,g82,g86,g90,g95,g100];omega) | (simp_all;omega)) rfl
     refine WP .r (PV.fa fa56_3 rfl)<|WP .r (V1 one3 hb4.range .r)<|nx5 ?_;exact EX.meet1 50 rfl rfl rfl (by unfold endOk;simp at g67 g71 g76 g82 g86 g90 g95 g100;first | (simp [g67,g71,g76,g82,g86,g90,g95,g100];done) | (exfalso;simp_all;done) | (simp_all;done) | (simp [g67,g71,g76,g82,g86,g90,g95,g100];rw [Bool.eq_iff_iff];simp;done) | (simp [g67,g71,g76,g82,g86,g90,g95,g100];rw [Bool.eq_iff_iff];simp;omega) | (simp [g67,g71,g76,g82,g86,g90,g95,g100];omega) | (simp_all;omega)) rfl
    refine nx12 ?_;refine nx9 ?_;exact EX.meet1 47 rfl rfl rfl (by unfold endOk;simp at g67 g71 g76 g82 g86;first | (simp [g67,g71,g76,g82,g86];done) | (exfalso;simp_all;done) | (simp_all;done) | (simp [g67,g71,g76,g82,g86];rw [Bool.eq_iff_iff];simp;done) | (simp [g67,g71,g76,g82,g86];rw [Bool.eq_iff_iff];simp;omega) | (simp [g67,g71,g76,g82,g86];omega) | (simp_all;omega)) rfl
   refine nx12 ?_;refine nx3 ?_;refine WP .r (PV.fa fa56_0 rfl)<|WP .r (V1 one4 hb4.range .r)<|nx2 ?_;refine WL.gsplit (t:=86) rfl (fun g86=>?_) (fun g86=>?_)
   ·
    refine WP .r (PV.fa fa56_2 rfl)<|WP .r (V1 one3 hb4.range .r)<|nx2 ?_;refine WL.gsplit (t:=90) rfl (fun g90=>?_) (fun g90=>?_)
    ·
     refine nx12 ?_;refine nx5 ?_;exact EX.meet1 45 rfl rfl rfl (by unfold endOk;simp at g67 g86 g90;first | (simp [g67,g86,g90];done) | (exfalso;simp_all;done) | (simp_all;done) | (simp [g67,g86,g90];rw [Bool.eq_iff_iff];simp;done) | (simp [g67,g86,g90];rw [Bool.eq_iff_iff];simp;omega) | (simp [g67,g86,g90];omega) | (simp_all;omega)) rfl
    refine WP .r (PV.fa fa56_2 rfl)<|WP .r (V1 one3 hb4.range .r)<|nx3 ?_;refine WL.gsplit (t:=95) rfl (fun g95=>?_) (fun g95=>?_)
    ·
     refine nx12 ?_;exact EX.meet1 46 rfl rfl rfl (by unfold endOk;simp at g67 g86 g90 g95;first | (simp [g67,g86,g90,g95];done) | (exfalso;simp_all;done) | (simp_all;done) | (simp [g67,g86,g90,g95];rw [Bool.eq_iff_iff];simp;done) | (simp [g67,g86,g90,g95];rw [Bool.eq_iff_iff];simp;omega) | (simp [g67,g86,g90,g95];omega) | (simp_all;omega)) rfl
    refine WP .r (PV.fa fa56_3 rfl)<|WP .r (V1 one3 hb4.range .r)<|nx3 ?_;refine WL.gsplit (t:=100) rfl (fun g100=>?_) (fun g100=>?_)
    ·
     refine nx7 ?_;exact EX.meet1 47 rfl rfl rfl (by unfold endOk;simp at g67 g86 g90 g95 g100;first | (simp [g67,g86,g90,g95,g100];done) | (exfalso;simp_all;done) | (simp_all;done) | (simp [g67,g86,g90,g95,g100];rw [Bool.eq_iff_iff];simp;done) | (simp [g67,g86,g90,g95,g100];rw [Bool.eq_iff_iff];simp;omega) | (simp [g67,g86,g90,g95,g100];omega) | (simp_all;omega)) rfl
    refine WP .r (PV.fa fa56_3 rfl)<|WP .r (V1 one3 hb4.range .r)<|nx5 ?_;exact EX.meet1 47 rfl rfl rfl (by unfold endOk;simp at g67 g86 g90 g95 g100;first | (simp [g67,g86,g90,g95,g100];done) | (exfalso;simp_all;done) | (simp_all;done) | (simp [g67,g86,g90,g95,g100];rw [Bool.eq_iff_iff];simp;done) | (simp [g67,g86,g90,g95,g100];rw [Bool.eq_iff_iff];simp;omega) | (simp [g67,g86,g90,g95,g100];omega) | (simp_all;omega)) rfl
   refine nx12 ?_;refine nx9 ?_;exact EX.meet1 44 rfl rfl rfl (by unfold endOk;simp at g67 g86;first | (simp [g67,g86];done) | (exfalso;simp_all;done) | (simp_all;done) | (simp [g67,g86];rw [Bool.eq_iff_iff];simp;done) | (simp [g67,g86];rw [Bool.eq_iff_iff];simp;omega) | (simp [g67,g86];omega) | (simp_all;omega)) rfl
  rintro _ rfl;refine nx ?_;refine WC.cd (fun g106=>?_) fun g106=>?_
  ·
   simp at g106
   refine nx11 ?_;refine EX.ret1 rfl rfl<|?_;exact ⟨false,rfl,⟨fun h=>(by cases h),fun h=>absurd (h.2 i _ (getElem_some hi2)).2.2 (by simp [g106])⟩,c4⟩
  simp at g106
  refine nx7 ?_;refine EX.again (i+1) (Sub.k2 rfl rfl<|Sub.cons rfl<|Sub.consI rfl (by simp)<|Sub.nil) ⟨c4,by omega,below_succ hi2 hok ⟨by omega,haok,g106⟩⟩ (by omega)
 simp at g10
 have hall:∀j x,rules[j]?=some x→ruleOk rules j x:=fun j x hx=>hok j x (by have:=(List.getElem?_eq_some_iff.1 hx).1;omega) hx;refine nx8 ?_;refine WP .r (PV.len' sl27 rfl)<|nx5 ?_;refine EX.ret1 rfl rfl<|?_;exact ⟨_,rfl,⟨fun h=>⟨by simp at h;omega,hall⟩,fun h=>by have:=h.1;simp;omega⟩,c1⟩
set_option maxHeartbeats 400000
theorem light_calls {a:Option Addr} {n c:Nat} {w:World}:Calls Tryz.prog 7 #[.slice a n c] w fun e w'=>e=.returned (.bool (decide (n≤400)))∧Chg [] w w':=by
 refine enter Tryz.func7 rfl Tryz.ntmps7 rfl<|?_;have c0:Chg [] w w:=Chg.refl _ _;refine nx8 ?_;refine WP .r (PV.len' sl22 rfl)<|nx5 ?_;refine EX.ret1 rfl rfl<|?_;exact ⟨by congr 2;exact decide_eq_decide.2 (by omega),c0⟩
theorem roll_calls {l:List Int} {A:Nat→Prop} {a:Option Addr} {n c:Nat} {w:World} (hl:Ints A w a n c l) (h4:n≤400):Calls Tryz.prog 9 #[.slice a n c] w fun e w'=>∃d,e=.returned (.pointer (some ⟨d,0,none⟩))∧w.heap.size≤d∧Dice A w' 72 d∧Chg [] w w':=by
 refine enter Tryz.func9 rfl Tryz.ntmps9 rfl<|?_;have c0:Chg [] w w:=Chg.refl _ _;refine nx8 ?_;refine WP .r (PV.build' (us:=[.slice a n c,.int .i64 0]) bt72 rfl rfl rfl)<|?_;refine WL.go rfl (OX.box rfl rfl rfl fun b5 w1 nw5 hb5=>?_);have s1:=nw5.ext;have ge_hb5:=nw5.ge' c0;have c1:=c0.trans s1;refine nx4 ?_;refine EX.ret1 rfl rfl<|?_;exact ⟨_,rfl,ge_hb5,⟨l,a,n,c,0,hb5,SR.ext hl c1,h4,by omega⟩,c1⟩
theorem next_calls {m:Int} {A:Nat→Prop} {d:Nat} {w:World} (hd:Dice A w 72 d) (hA:¬A d) (hm:m≤4611686018427387904):Calls Tryz.prog 43 #[.pointer (some ⟨d,0,none⟩),.int .i64 m] w fun e w'=>∃z:Int,e=.returned (.int .i64 z)∧0≤z∧(1≤m→z<m)∧Chg [d] w w'∧Dice A w' 72 d:=by
 obtain ⟨l,a,n,c,t,hb,hl,h4,ht4⟩:=hd;have hlen:=SR.len hl;refine enter Tryz.func43 rfl Tryz.ntmps43 rfl<|?_;have c0:Chg [d] w w:=Chg.refl _ _;refine nx7 ?_;refine WC.drawn (m:=9) (C:=Chg [] w) (T:=fun _=>Chg []) (E:=lookE []) (lookE_st (trivial)) mixed (by kernel_rfl) (Chg.drew _ _)<|nx2 ?_;refine DP .r (fun _ hC=>PV.fa fa72_1 rfl)<|DP .r (fun _ hC=>PV.ld1 one3 (hb.ext hC).range rfl rfl)<|nx2 ?_;refine DP .r (fun _ hC=>PV.fa fa72_0 rfl)<|DP .r (fun _ hC=>PV.ld1 one22 (hb.ext hC).range rfl rfl)<|DP .r (fun _ hC=>PV.len' sl22 rfl)<|DW.nil<|?_;rintro w1 s1 _;have c1:=c0.trans s1.nil;have hb:=hb.ext s1;refine nx3 ?_;refine WC.cd (fun g14=>?_) fun g14=>?_
 ·
  skip
  refine nx7 ?_;refine EX.ret1 rfl rfl<|?_;exact ⟨0,rfl,by omega,fun h=>by omega,c1,l,a,n,c,t,hb,SR.chg hl c1 (by simpa using hA) (fun _ _ h=>h),h4,ht4⟩
 simp at g14
 obtain ⟨bx1,ox1,rx1,ha1,_,hrx,hr1,hAb⟩:=SR.at hl (getElem_some (show t<l.length by omega));subst hrx;refine nx6 ?_;refine WP .r (PV.fa fa72_1 rfl)<|WP .r (V1 one3 hb.range .r)<|nx2 ?_;refine WP .r (PV.fa fa72_1 rfl)<|?_;refine WL.go rfl (OX.st sz3 hb rfl rfl (by first | (simp [nth];done) | exact nns rfl) rfl rfl fun w2 s2 _ hb=>?_);have c2:=c1.trans s2;refine nx3 ?_;have hr1:=range_chg hr1 c2 (by simp;rintro rfl;exact hA hAb);refine WC.drawn (m:=12) (C:=Chg [] w2) (T:=fun _=>Chg []) (E:=lookE []) (lookE_st (trivial)) mixed (by kernel_rfl) (Chg.drew _ _)<|nx2 ?_;refine DP .r (fun _ hC=>PV.fa fa72_0 rfl)<|DP .r (fun _ hC=>PV.ld1 one22 (hb.ext hC).range rfl rfl)<|nx2 ?_;refine DP .r (fun _ hC=>PV.fa fa72_1 rfl)<|DP .r (fun _ hC=>PV.ld1 one3 (hb.ext hC).range rfl rfl)<|nx ?_;refine DP .r (fun _ hC=>PV.ixZ sl22 (t) ha1 rfl rfl (by omega) (by omega))<|DP .r (fun _ hC=>PV.ld0 one3 (range_chg hr1 hC (by simp)) rfl rfl)<|nx ?_;refine DW.nil<|?_;rintro w3 s3 _;have c3:=c2.trans s3.nil;have hb:=hb.ext s3;refine WL.go rfl (OX.call cf12 rfl rfl ((mod_calls (n:=l[t]) (m:=m) (by omega)).mono ?_));rintro _ w4 ⟨rfl,s4⟩;refine ⟨_,rfl,?_⟩;have c4:=c3.trans s4.nil;have hb:=hb.ext s4;refine nx4 ?_;refine EX.ret1 rfl rfl<|?_;refine ⟨_,rfl,?_,?_,c4,l,a,n,c,t+1,?_,SR.chg hl c4 (by simpa using hA) (fun _ _ h=>h),h4,by omega⟩
 ·
  split
  ·
   omega
  exact Int.emod_nonneg _ (by omega)
 ·
  intro h;rw [if_neg (by omega)];exact Int.emod_lt_of_pos _ (by omega)
 exact hb
def words:List ByteArray:=[⟨#[48]⟩,⟨#[49]⟩,⟨#[50]⟩,⟨#[51]⟩,⟨#[55]⟩,⟨#[49,48,48]⟩,⟨#[]⟩,⟨#[120]⟩,⟨#[49,54]⟩,⟨#[49]⟩]
theorem words_le:∀s∈words,s.size≤100:=by decide
end Go.Rc

