/- Walks over the program, part WS. Conditions: as each theorem says. -/
import Derived.Test.YthljjmhdkbeghaaGreatDoorIFacts
import Derived.Test.YthljjmhdkbeghaaGreatDoorIWN
import Derived.Test.YthljjmhdkbeghaaGreatDoorIBe
import Derived.Test.YthljjmhdkbeghaaGreatDoorIBf
set_option linter.unusedVariables false
set_option linter.unusedSimpArgs false
set_option linter.unusedSectionVars false
namespace Go.Rc
open Go Go.Proofs
set_option maxHeartbeats 400000
set_option maxRecDepth 1000000 in
theorem clone_calls {s:ByteArray} {w:World} (hs:s.size≤1000):Calls Tryz.prog 207 #[.string s] w fun e w'=>e=.returned (.string s)∧Chg [] w w':=by
 refine enter Tryz.func207 rfl Tryz.ntmps207 rfl<|?_;have st0:St w (fun _=>False) (fun _=>False) w []:=St.start (by simp);refine nx12 ?_;refine nx ?_;refine WC.cd (fun g6=>?_) fun g6=>?_
 ·
  refine nx7 ?_;refine EX.ret1 rfl rfl<|?_;exact ⟨by rw [show s=⟨#[]⟩ from ByteArray.ext (Array.eq_empty_of_size_eq_zero (show s.size=0 by have:=of_decide_eq_true g6;omega))],(St.cg st0)⟩
 have h0:s.size≠0:=by have:=of_decide_eq_false g6;omega
 obtain ⟨i,hi,hq⟩:=Option.map_eq_some_iff.1 (show (Tryz.prog.info? 5).map (fun i=>(i.zero,i.size,i.bytes))=some (some (.int .u8 0),1,1) by kernel_rfl);simp only [Prod.mk.injEq] at hq;obtain ⟨hz,h1,hb⟩:=hq;obtain ⟨u1,u2,u3,k1,k2,k3,hc⟩:=clone_worlds (S:=9) (it:=3) (ty1:=3) (ty2:=9) Tryz.underlying149 hi hz h1 hb Tryz.underlying380 h0 hs w;refine nx6 ?_;refine WL.go rfl (OX.mkRow rfl rfl rfl k1 ?_);refine nx7 ?_;refine WL.go rfl (OX.copyS rfl rfl rfl k2 ?_);refine nx5 ?_;refine WP .r (PV.ixZ sl149 0 (show some (⟨w.heap.size,0,none⟩:Addr)=some ⟨w.heap.size,0,none⟩ from rfl) rfl rfl rfl (by omega))<|nx2 ?_;refine WL.go rfl (OX.unsS rfl rfl rfl k3 ?_);refine nx4 ?_;refine EX.ret1 rfl rfl<|?_;exact ⟨rfl,hc⟩
theorem synErrN_calls {f s:ByteArray} {w:World} (hs:s.size≤1000) (hv:w.cell? ⟨4,0,none⟩=some .nilIface):Calls Tryz.prog 184 #[.string f,.string s] w fun e w'=>∃b,e=.returned (.pointer (some ⟨b,0,none⟩))∧Chg [] w w':=by
 have hr:w.rangeAt 4 0 [.nilIface]:=fun j v hj=>by
  cases j with
  | zero=>simp at hj;subst hj;exact hv
  | succ j=>simp at hj
 refine enter Tryz.func184 rfl Tryz.ntmps184 rfl<|?_;have st0:St w (fun _=>False) (fun _=>False) w []:=St.start (by simp);refine nx6 ?_;have hN1:=st0.fplt;refine WC.drawnS (m:=4) (E:=lookE [(2,fun v _=>v=.string s)]) st0 (lookE_st (⟨fun _ _ _ _ _ _ _ h=>h,trivial⟩)) mixed (by kernel_rfl)<|nx2 ?_;refine DW.c0 (fun wx hC hF=>clone_calls hs)<|?_;refine DP .r (fun _ hC=>PV.ld0 one168 (range_chg hr (St.cg hC.2) (by simp)) rfl rfl)<|DW.nil<|?_;rintro w1 ⟨hsz1,st1⟩ ⟨_,_⟩;refine WP .r (PV.build' (us:=[.string f,.string s,.nilIface]) bt239 rfl rfl rfl)<|?_;refine WL.go rfl (OX.box rfl rfl rfl fun b10 w2 nw10 hb10=>?_);have st2:=st1.newB nw10 hb10;refine nx4 ?_;refine EX.ret1 rfl rfl<|?_;exact ⟨_,rfl,(St.cg st2)⟩
theorem synErrI_calls {f s:ByteArray} {t:TypeId} {p:Value} {w:World} (hs:s.size≤1000) (hv:w.cell? ⟨4,0,none⟩=some (.iface t p)):Calls Tryz.prog 184 #[.string f,.string s] w fun e w'=>∃b,e=.returned (.pointer (some ⟨b,0,none⟩))∧Chg [] w w':=by
 have hr:w.rangeAt 4 0 [(.iface t p)]:=fun j v hj=>by
  cases j with
  | zero=>simp at hj;subst hj;exact hv
  | succ j=>simp at hj
 refine enter Tryz.func184 rfl Tryz.ntmps184 rfl<|?_;have st0:St w (fun _=>False) (fun _=>False) w []:=St.start (by simp);refine nx6 ?_;have hN1:=st0.fplt;refine WC.drawnS (m:=4) (E:=lookE [(2,fun v _=>v=.string s)]) st0 (lookE_st (⟨fun _ _ _ _ _ _ _ h=>h,trivial⟩)) mixed (by kernel_rfl)<|nx2 ?_;refine DW.c0 (fun wx hC hF=>clone_calls hs)<|?_;refine DP .r (fun _ hC=>PV.ld0 one168 (range_chg hr (St.cg hC.2) (by simp)) rfl rfl)<|DW.nil<|?_;rintro w1 ⟨hsz1,st1⟩ ⟨_,_⟩;refine WP .r (PV.build' (us:=[.string f,.string s,(.iface t p)]) bt239 rfl rfl rfl)<|?_;refine WL.go rfl (OX.box rfl rfl rfl fun b10 w2 nw10 hb10=>?_);have st2:=st1.newB nw10 hb10;refine nx4 ?_;refine EX.ret1 rfl rfl<|?_;exact ⟨_,rfl,(St.cg st2)⟩
theorem gsyn:Tryz.prog.globalNamed "strconv.ErrSyntax" = some 4:=by kernel_rfl
theorem synErr_calls {f s:ByteArray} {A:Nat→Prop} {w:World} (ht:Tab Tryz.prog A w) (hs:s.size≤1000):Calls Tryz.prog 184 #[.string f,.string s] w fun e w'=>∃b,e=.returned (.pointer (some ⟨b,0,none⟩))∧Chg [] w w':=by
 obtain ⟨ev,hv,hev⟩:=ht.err (.inl rfl) gsyn
 rcases hev with rfl | ⟨t,p,rfl⟩
 ·
  exact synErrN_calls hs hv
 exact synErrI_calls hs hv
theorem ranErrN_calls {f s:ByteArray} {w:World} (hs:s.size≤1000) (hv:w.cell? ⟨5,0,none⟩=some .nilIface):Calls Tryz.prog 185 #[.string f,.string s] w fun e w'=>∃b,e=.returned (.pointer (some ⟨b,0,none⟩))∧Chg [] w w':=by
 have hr:w.rangeAt 5 0 [.nilIface]:=fun j v hj=>by
  cases j with
  | zero=>simp at hj;subst hj;exact hv
  | succ j=>simp at hj
 refine enter Tryz.func185 rfl Tryz.ntmps185 rfl<|?_;have st0:St w (fun _=>False) (fun _=>False) w []:=St.start (by simp);refine nx6 ?_;have hN1:=st0.fplt;refine WC.drawnS (m:=4) (E:=lookE [(2,fun v _=>v=.string s)]) st0 (lookE_st (⟨fun _ _ _ _ _ _ _ h=>h,trivial⟩)) mixed (by kernel_rfl)<|nx2 ?_;refine DW.c0 (fun wx hC hF=>clone_calls hs)<|?_;refine DP .r (fun _ hC=>PV.ld0 one168 (range_chg hr (St.cg hC.2) (by simp)) rfl rfl)<|DW.nil<|?_;rintro w1 ⟨hsz1,st1⟩ ⟨_,_⟩;refine WP .r (PV.build' (us:=[.string f,.string s,.nilIface]) bt239 rfl rfl rfl)<|?_;refine WL.go rfl (OX.box rfl rfl rfl fun b10 w2 nw10 hb10=>?_);have st2:=st1.newB nw10 hb10;refine nx4 ?_;refine EX.ret1 rfl rfl<|?_;exact ⟨_,rfl,(St.cg st2)⟩
theorem ranErrI_calls {f s:ByteArray} {t:TypeId} {p:Value} {w:World} (hs:s.size≤1000) (hv:w.cell? ⟨5,0,none⟩=some (.iface t p)):Calls Tryz.prog 185 #[.string f,.string s] w fun e w'=>∃b,e=.returned (.pointer (some ⟨b,0,none⟩))∧Chg [] w w':=by
 have hr:w.rangeAt 5 0 [(.iface t p)]:=fun j v hj=>by
  cases j with
  | zero=>simp at hj;subst hj;exact hv
  | succ j=>simp at hj
 refine enter Tryz.func185 rfl Tryz.ntmps185 rfl<|?_;have st0:St w (fun _=>False) (fun _=>False) w []:=St.start (by simp);refine nx6 ?_;have hN1:=st0.fplt;refine WC.drawnS (m:=4) (E:=lookE [(2,fun v _=>v=.string s)]) st0 (lookE_st (⟨fun _ _ _ _ _ _ _ h=>h,trivial⟩)) mixed (by kernel_rfl)<|nx2 ?_;refine DW.c0 (fun wx hC hF=>clone_calls hs)<|?_;refine DP .r (fun _ hC=>PV.ld0 one168 (range_chg hr (St.cg hC.2) (by simp)) rfl rfl)<|DW.nil<|?_;rintro w1 ⟨hsz1,st1⟩ ⟨_,_⟩;refine WP .r (PV.build' (us:=[.string f,.string s,(.iface t p)]) bt239 rfl rfl rfl)<|?_;refine WL.go rfl (OX.box rfl rfl rfl fun b10 w2 nw10 hb10=>?_);have st2:=st1.newB nw10 hb10;refine nx4 ?_;refine EX.ret1 rfl rfl<|?_;exact ⟨_,rfl,(St.cg st2)⟩
theorem gran:Tryz.prog.globalNamed "strconv.ErrRange" = some 5:=by kernel_rfl
theorem ranErr_calls {f s:ByteArray} {A:Nat→Prop} {w:World} (ht:Tab Tryz.prog A w) (hs:s.size≤1000):Calls Tryz.prog 185 #[.string f,.string s] w fun e w'=>∃b,e=.returned (.pointer (some ⟨b,0,none⟩))∧Chg [] w w':=by
 obtain ⟨ev,hv,hev⟩:=ht.err (.inr rfl) gran
 rcases hev with rfl | ⟨t,p,rfl⟩
 ·
  exact ranErrN_calls hs hv
 exact ranErrI_calls hs hv
theorem synTo_calls {f s:ByteArray} {A:Nat→Prop} {w:World} (ht:Tab Tryz.prog A w) (hs:s.size≤1000):Calls Tryz.prog 162 #[.string f,.string s,.int .i64 0,.int .i64 0,.iface 221 (.int .i64 2)] w fun e w'=>∃b,e=.returned (.iface 224 (.pointer (some ⟨b,0,none⟩)))∧Chg [] w w':=by
 refine enter Tryz.func162 rfl Tryz.ntmps162 rfl<|?_;have st0:St w (fun _=>False) (fun _=>False) w []:=St.start (by simp);refine nx12 ?_;refine nx2 ?_;refine WP .r (PV.mkif Tryz.underlying221 (by intro ms h;cases h) rfl)<|WP .r (PV.eqIF Tryz.underlying168 (by kernel_rfl) Tryz.underlying221 rfl rfl)<|nx3 ?_;refine WC.cd (fun g12=>?_) fun g12=>?_
 ·
  refine nx4 ?_;refine WL.go rfl (OX.call cf184 rfl rfl ((synErr_calls (ht.ext (St.cg st0)) hs).mono ?_));rintro _ w1 ⟨b,rfl,s1⟩;refine ⟨_,rfl,?_⟩;have st1:=st0.step s1;refine WP .r (PV.mkif Tryz.underlying224 (by intro ms h;cases h) rfl)<|nx6 ?_;refine EX.ret1 rfl rfl<|?_;exact ⟨_,rfl,(St.cg st1)⟩
 ·
  exact nope g12
 -- UNUSED ANNOTATIONS C19 R4.0 R4.1 R5.2 R5.3 X1
theorem ranTo_calls {f s:ByteArray} {A:Nat→Prop} {w:World} (ht:Tab Tryz.prog A w) (hs:s.size≤1000):Calls Tryz.prog 162 #[.string f,.string s,.int .i64 0,.int .i64 0,.iface 221 (.int .i64 1)] w fun e w'=>∃b,e=.returned (.iface 224 (.pointer (some ⟨b,0,none⟩)))∧Chg [] w w':=by
 refine enter Tryz.func162 rfl Tryz.ntmps162 rfl<|?_;have st0:St w (fun _=>False) (fun _=>False) w []:=St.start (by simp);refine nx12 ?_;refine nx2 ?_;refine WP .r (PV.mkif Tryz.underlying221 (by intro ms h;cases h) rfl)<|WP .r (PV.eqIF Tryz.underlying168 (by kernel_rfl) Tryz.underlying221 rfl rfl)<|nx3 ?_;refine WC.cd (fun g12=>?_) fun g12=>?_
 ·
  exact nope g12
 ·
  refine nx2 ?_;refine WP .r (PV.mkif Tryz.underlying221 (by intro ms h;cases h) rfl)<|WP .r (PV.eqIF Tryz.underlying168 (by kernel_rfl) Tryz.underlying221 rfl rfl)<|nx3 ?_;refine WC.cd (fun g19=>?_) fun g19=>?_
  ·
   refine nx4 ?_;refine WL.go rfl (OX.call cf185 rfl rfl ((ranErr_calls (ht.ext (St.cg st0)) hs).mono ?_));rintro _ w1 ⟨b,rfl,s1⟩;refine ⟨_,rfl,?_⟩;have st1:=st0.step s1;refine WP .r (PV.mkif Tryz.underlying224 (by intro ms h;cases h) rfl)<|nx6 ?_;refine EX.ret1 rfl rfl<|?_;exact ⟨_,rfl,(St.cg st1)⟩
  exact nope g19
 -- UNUSED ANNOTATIONS R3.2 R3.3 X1
theorem toErr_calls {f s:ByteArray} {ev:Value} {A:Nat→Prop} {w:World} (ht:Tab Tryz.prog A w) (hs:s.size≤1000) (he:ev=.iface 221 (.int .i64 2)∨ev=.iface 221 (.int .i64 1)):Calls Tryz.prog 162 #[.string f,.string s,.int .i64 0,.int .i64 0,ev] w fun e w'=>∃b,e=.returned (.iface 224 (.pointer (some ⟨b,0,none⟩)))∧Chg [] w w':=by
 rcases he with rfl | rfl
 ·
  exact synTo_calls ht hs
 exact ranTo_calls ht hs
theorem atoi_any {A:Nat→Prop} {s:ByteArray} {w:World} (ht:Tab Tryz.prog A w) (hs:s.size≤1000):Calls Tryz.prog 124 #[.string s] w fun e w'=>∃(v:Int) (ok:Bool) (ev:Value),e=.returned (.tuple #[.int .i64 v,ev])∧(-9223372036854775808≤v∧v≤9223372036854775807)∧((ok=true∧ev=.nilIface)∨(ok=false∧∃t y,ev=.iface t y))∧Chg [] w w':=by
 refine enter Tryz.func124 rfl Tryz.ntmps124 rfl<|?_;have st0:St w (fun _=>False) (fun _=>False) w []:=St.start (by simp);refine nx9 ?_;refine WL.go rfl (OX.call cf161 rfl rfl ((iatoi_calls hs w).mono ?_));rintro _ w1 ⟨v,ok,ev,rfl,hv,hok,hev,s1⟩;refine ⟨_,rfl,?_⟩;have st1:=st0.step s1;refine nx11 ?_;refine WP .r (PV.neIV nif168 rfl hok)<|nx2 ?_;refine WC.cd (fun g12=>?_) fun g12=>?_
 ·
  refine nx5 ?_;refine WL.go rfl (OX.call cf162 rfl rfl ((toErr_calls (ht.ext (St.cg st1)) hs (hev (by simpa using g12))).mono ?_));rintro _ w2 ⟨b,rfl,s2⟩;refine ⟨_,rfl,?_⟩;have st2:=st1.step s2;refine nx6 ?_;refine EX.ret2 rfl rfl rfl<|?_;exact ⟨v,false,_,rfl,hv,.inr ⟨rfl,_,_,rfl⟩,(St.cg st2)⟩
 refine nx10 ?_;refine EX.ret2 rfl rfl rfl<|?_;exact ⟨v,true,.nilIface,rfl,hv,.inl ⟨rfl,rfl⟩,(St.cg st1)⟩
set_option maxHeartbeats 400000
theorem pcell_calls {n:Int} {w:World}:Calls Tryz.prog 164 #[.int .i64 n] w fun e w'=>e=.returned (cellK n).val∧Chg [] w w':=by
 refine enter Tryz.func164 rfl Tryz.ntmps164 rfl<|?_;have st0:St w (fun _=>False) (fun _=>False) w []:=St.start (by simp);refine nx2 ?_;refine WL.al st0 fun b2 w1 nw2 hb2 st1=>?_;refine nx4 ?_;refine WC.cut1S (t:=8) (v:=.bool (decide (n<0) || decide (99<n))) st1 ?_<|?_
 ·
  refine nx4 ?_;refine WL.gsplit (t:=5) rfl (fun g5=>?_) (fun g5=>?_)
  ·
   refine nx4 ?_;exact EX.meet1 7 rfl rfl rfl (by simp only [g5];first | rfl | simp) (st1)
  refine nx4 ?_;exact EX.meet1 7 rfl rfl rfl (by simp only [g5];first | rfl | simp) (st1)
 intro w2 st2;refine nx ?_;refine WC.cd (fun g8=>?_) fun g8=>?_
 ·
  have hk:cellK n=noKey:=by unfold cellK;rw [if_pos (by simp at g8;omega)]
  refine nx3 ?_;refine WL.go rfl (OX.stW sz35 (As.gb st2.g0) rfl rfl rfl rfl rfl fun w3 ss0 _ hs0=>?_);have st3:=st2.updB ss0 hs0;refine nx4 ?_;refine EX.retC agg35 rfl rfl st3.b0 rfl<|?_;rw [hk];exact ⟨rfl,(St.cg st3)⟩
 simp at g8
 have hk:cellK n=⟨30,itoa n⟩:=by unfold cellK;rw [if_neg (by omega)]
 refine nx5 ?_;refine WL.c0 (itoa_small (n:=n) (by omega) (by omega) w2) st2 fun w3 s3 st3=>?_;refine WP .r (PV.build' (us:=[.int .i64 30,.string (itoa n)]) bt35 rfl rfl rfl)<|?_;refine WL.go rfl (OX.stW sz35 (As.gb st3.g0) rfl rfl rfl rfl rfl fun w4 ss1 _ hs1=>?_);have st4:=st3.updB ss1 hs1;refine nx3 ?_;refine EX.retC agg35 rfl rfl st4.b0 rfl<|?_;rw [hk];exact ⟨rfl,(St.cg st4)⟩
theorem pblock_calls {rules:List Rule} {A:Nat→Prop} {a:Option Addr} {r c:Nat} {n:Int} {w:World} (hr:Rules A w a r c rules):Calls Tryz.prog 158 #[.slice a r c,.int .i64 n] w fun e w'=>e=.returned (.tuple #[.int .i64 (block rules n).1,.int .i64 (block rules n).2])∧Chg [] w w':=by
 have hle:=hr.le;have hlen:=hr.len;refine enter Tryz.func158 rfl Tryz.ntmps158 rfl<|?_;have st0:St w (fun _=>False) (fun _=>False) w []:=St.start (by simp);refine nx8 ?_;refine WC.cut1S (t:=15) (v:=.bool (decide (n<0) || decide ((r:Int)≤n))) st0 ?_<|?_
 ·
  refine nx4 ?_;refine WL.gsplit (t:=10) rfl (fun g10=>?_) (fun g10=>?_)
  ·
   refine nx6 ?_;exact EX.meet1 9 rfl rfl rfl (by simp only [g10];first | rfl | simp) (st0)
  refine nx6 ?_;exact EX.meet1 9 rfl rfl rfl (by simp only [g10];first | rfl | simp) (st0)
 intro w1 st1;refine nx ?_;refine WC.cd (fun g15=>?_) fun g15=>?_
 ·
  have hb:=block_out rules n (by simp at g15;omega);refine nx8 ?_;refine EX.ret2 rfl rfl rfl<|?_;exact ⟨by rw [hb],(St.cg st1)⟩
 obtain ⟨nn,rfl⟩:∃i:Nat,n=i:=⟨n.toNat,by simp at g15;omega⟩
 have hnl:nn<rules.length:=by simp at g15;omega
 have hbl:block rules nn=if ringAt rules nn then ((blockLo rules nn:Int),(hiFrom rules (nn+1):Int)) else ((nn:Int),(nn:Int)+1):=by
  unfold block;rw [if_neg (by omega)];rfl
 refine nx12 ?_;refine nx ?_;obtain ⟨b_x,o_x,r_x,ha_x,_,⟨q1,q2,q3,rfl,_⟩,hr_x,_⟩:=(hr.ext (St.cg st1)).at (getElem_some hnl);refine nx3 ?_;refine WP .r (PV.ixS sl27 ha_x rfl rfl (by omega))<|nx ?_;refine WP .r (PV.ld1 (j:=0) one4 hr_x rfl rfl)<|nx3 ?_;refine WC.cd (fun g24=>?_) fun g24=>?_
 ·
  simp at g24
  have hb:block rules nn=((nn:Int),(nn:Int)+1):=by rw [hbl,if_neg (by rw [ringAt_get hnl,g24];simp)]
  refine nx10 ?_;refine EX.ret2 rfl rfl rfl<|?_;exact ⟨by rw [hb],(St.cg st1)⟩
 simp at g24
 rw [if_pos (by rw [ringAt_get hnl];exact g24)] at hbl;refine nx4 ?_;refine WC.loopS1 (σ:=Nat) (kvs:=fun k=>[(0,.slice a r c),(6,.int .i64 (k:Int)),(7,.int .i64 ((nn:Int)+1))]) (F:=fun k=>[]) (I:=fun k=>(k≤nn)∧(blockLo rules k=blockLo rules nn)∧True) (μ:=fun k=>k) (nn) (st1) (Sub.cons rfl<|Sub.v<|Sub.v<|Sub.nil) (⟨Nat.le_refl _,rfl,trivial⟩)<|?_;rintro k w2 st2 ⟨hk,hlo,_⟩;simp only [CA,NA] at st2 hk hlo ⊢;refine nx2 ?_;refine WC.cut1S (t:=36) (v:=.bool (decide ((0:Int)<k) && ringAt rules (k - 1))) st2 ?_<|?_
 ·
  refine nx4 ?_;refine WL.gsplit (t:=29) rfl (fun g29=>?_) (fun g29=>?_)
  ·
   simp at g29
   obtain ⟨b_y,o_y,r_y,ha_y,_,⟨q4,q5,q6,rfl,_⟩,hr_y,_⟩:=(hr.ext (St.cg st2)).at (getElem_some (show k - 1<rules.length by omega));have hk1:rules[k-1].ring=ringAt rules (k-1):=(ringAt_get (by omega)).symm;refine nx3 ?_;refine WP .r (PV.ixZ sl27 (i:=k - 1) ha_y rfl rfl (by omega) (by omega))<|nx ?_;refine WP .r (PV.ld1 (j:=0) one4 hr_y rfl rfl)<|nx2 ?_;exact EX.meet1 11 rfl rfl rfl (by simp [*]) (st2)
  simp at g29
  have hk0:¬(0<k):=by omega
  refine nx8 ?_;exact EX.meet1 11 rfl rfl rfl (by simp [*]) (st2)
 intro w3 st3;refine nx ?_;refine WC.cd (fun g36=>?_) fun g36=>?_
 ·
  simp at g36
  obtain ⟨g1,g2⟩:=g36;obtain ⟨j,rfl⟩:∃j,k=j+1:=⟨k - 1,by omega⟩;refine nx9 ?_;refine EX.again (j) (Sub.cons rfl<|Sub.v<|Sub.v<|Sub.nil) ⟨st3,⟨by omega,by rw [← hlo,blockLo_step (by simpa using g2)],trivial⟩⟩ (by first | (simp only [];omega) | omega)
 simp at g36
 have hfst:(block rules nn).1=k:=by
  rw [hbl]
  show (blockLo rules nn:Int)=k
  rw [← hlo,blockLo_end]
  by_cases h0:k=0
  ·
   exact .inl h0
  exact .inr (g36 (by omega))
 refine nx7 ?_;refine WC.loopS1 (σ:=Nat) (kvs:=fun m=>[(0,.slice a r c),(6,.int .i64 (k:Int)),(7,.int .i64 (m:Int))]) (F:=fun m=>[]) (I:=fun m=>(nn+1≤m)∧(m≤r)∧(hiFrom rules m=hiFrom rules (nn+1))∧True) (μ:=fun m=>r - m) (nn+1) (st3) (Sub.k2 rfl rfl<|Sub.v<|Sub.nil) (⟨Nat.le_refl _,by omega,rfl,trivial⟩)<|?_;rintro m w4 st4 ⟨hm1,hm2,hhi,_⟩;simp only [CA,NA] at st4 hm1 hm2 hhi ⊢;refine nx2 ?_;refine WC.cut1S (t:=49) (v:=.bool (decide ((m:Int)<r) && ringAt rules m)) st4 ?_<|?_
 ·
  refine nx6 ?_;refine WL.gsplit (t:=43) rfl (fun g43=>?_) (fun g43=>?_)
  ·
   simp at g43
   obtain ⟨b_z,o_z,r_z,ha_z,_,⟨q4,q5,q6,rfl,_⟩,hr_z,_⟩:=(hr.ext (St.cg st4)).at (getElem_some (show m<rules.length by omega));have hk2:rules[m].ring=ringAt rules m:=(ringAt_get (by omega)).symm
   have hdec:decide ((m:Int)<r)=true:=by simp;omega
   refine nx2 ?_;refine WP .r (PV.ixS sl27 ha_z rfl rfl (by omega))<|nx ?_;refine WP .r (PV.ld1 (j:=0) one4 hr_z rfl rfl)<|nx2 ?_;exact EX.meet1 12 rfl rfl rfl (by first | (rw [hk2,hdec];rfl) | simp [*]) (st4)
  simp at g43
  have hk0:¬(m<rules.length):=by omega
  refine nx7 ?_;exact EX.meet1 12 rfl rfl rfl (by first | (rw [hk2,hdec];rfl) | simp [*]) (st4)
 intro w5 st5;refine nx ?_;refine WC.cd (fun g49=>?_) fun g49=>?_
 ·
  simp at g49
  obtain ⟨g3,g4⟩:=g49;refine nx9 ?_;refine EX.again (m+1) (Sub.k2 rfl rfl<|Sub.v<|Sub.nil) ⟨st5,⟨by omega,by omega,by rw [← hhi,← hiFrom_step g4],trivial⟩⟩ (by first | (simp only [];omega) | omega)
 simp at g49
 have hsnd:(block rules nn).2=m:=by
  rw [hbl]
  show (hiFrom rules (nn+1):Int)=m
  rw [← hhi,hiFrom_end]
  rcases Nat.lt_or_ge m r with h0 | h0
  ·
   exact g49 (by omega)
  exact ringAt_out (by omega)
 refine nx12 ?_;refine nx2 ?_;refine EX.ret2 rfl rfl rfl<|?_;exact ⟨by rw [hfst,hsnd],(St.cg st5)⟩
theorem pmay_calls {rules:List Rule} {A:Nat→Prop} {a:Option Addr} {r c i:Nat} {cell:Bool} {n:Int} {w:World} (hr:Rules A w a r c rules) (hi:i<rules.length):Calls Tryz.prog 120 #[.slice a r c,.int .i64 (i:Int),.bool cell,.int .i64 n] w fun e w'=>e=.returned (.bool (mayOk rules i cell n))∧Chg [] w w':=by
 have hle:=hr.le;have hlen:=hr.len;have hri:=ringAt_get hi;have hbw:=block_wide hi
 have ht:mayTop rules i=if rules[i].ring=true then (block rules (i:Int)).2 else (block rules (i:Int)).1:=by unfold mayTop;rw [hri]
 refine enter Tryz.func120 rfl Tryz.ntmps120 rfl<|?_;have st0:St w (fun _=>False) (fun _=>False) w []:=St.start (by simp);refine nx11 ?_;refine WC.cd (fun g11=>?_) fun g11=>?_
 ·
  refine nx ?_;refine WC.cut1Se (t:=8) (v:=.bool (decide (0≤n) && decide (n≤15))) st0 ?_<|?_
  ·
   refine nx4 ?_;refine WL.gsplit (t:=14) rfl (fun g14=>?_) (fun g14=>?_)
   ·
    refine nx5 ?_;exact EX.meet1e 8 rfl rfl rfl (by simp only [g14];first | rfl | simp) (st0)
   refine nx5 ?_;exact EX.meet1e 8 rfl rfl rfl (by simp only [g14];first | rfl | simp) (st0)
  intro w1 st1;refine nx3 ?_;refine EX.ret1 rfl rfl<|?_;exact ⟨by unfold mayOk;rw [if_pos g11],(St.cg st1)⟩
 refine nx6 ?_;refine WL.c0 (pblock_calls (n:=(i:Int)) (hr.ext (St.cg st0))) st0 fun w1 s1 st1=>?_;refine nx8 ?_;obtain ⟨b_x,o_x,r_x,ha_x,_,⟨q1,q2,q3,rfl,_⟩,hr_x,_⟩:=(hr.ext (St.cg st1)).at (getElem_some hi);refine WC.cut1Se (t:=8) (v:=.bool (decide (0≤n) && decide (n<mayTop rules i))) st1 ?_<|?_
 ·
  refine nx4 ?_;refine WL.gsplit (t:=26) rfl (fun g26=>?_) (fun g26=>?_)
  ·
   refine nx4 ?_;refine WL.gsplit (t:=30) rfl (fun g30=>?_) (fun g30=>?_)
   ·
    refine nx12 ?_;refine nx2 ?_;exact EX.meet1e 22 rfl rfl rfl (by rw [ht];first | (simp [g26,g30];done) | (simp at g26 g30;simp [g26,g30];done) | (simp at g26 g30 ⊢;split <;> omega) | (simp at g26 g30;simp [g26,g30];omega)) (st1)
   refine nx2 ?_;refine WP .r (PV.ixS sl27 ha_x rfl rfl (by omega))<|nx ?_;refine WP .r (PV.ld1 (j:=0) one4 hr_x rfl rfl)<|nx ?_;refine WL.gsplit (t:=36) rfl (fun g36=>?_) (fun g36=>?_)
   ·
    refine nx8 ?_;exact EX.meet1e 23 rfl rfl rfl (by rw [ht];first | (simp [g26,g30,g36];done) | (simp at g26 g30 g36;simp [g26,g30,g36];done) | (simp at g26 g30 g36 ⊢;split <;> omega) | (simp at g26 g30 g36;simp [g26,g30,g36];omega)) (st1)
   refine nx8 ?_;exact EX.meet1e 23 rfl rfl rfl (by rw [ht];first | (simp [g26,g30,g36];done) | (simp at g26 g30 g36;simp [g26,g30,g36];done) | (simp at g26 g30 g36 ⊢;split <;> omega) | (simp at g26 g30 g36;simp [g26,g30,g36];omega)) (st1)
  refine nx12 ?_;refine nx6 ?_;exact EX.meet1e 21 rfl rfl rfl (by rw [ht];first | (simp [g26];done) | (simp at g26;simp [g26];done) | (simp at g26 ⊢;split <;> omega) | (simp at g26;simp [g26];omega)) (st1)
 intro w2 st2;refine nx2 ?_;refine EX.ret1 rfl rfl<|?_;exact ⟨by unfold mayOk;rw [g11];rfl,(St.cg st2)⟩
theorem pright_calls {rules:List Rule} {A:Nat→Prop} {a:Option Addr} {r c i k:Nat} {x:Ask} {w:World} (hr:Rules A w a r c rules) (hi:i<rules.length):Calls Tryz.prog 81 #[.slice a r c,.int .i64 (i:Int),x.val,.bool (decide ((k:Int)=0))] w fun e w'=>e=.returned (.bool (askOk rules i rules[i].ring k x))∧Chg [] w w':=by
 have hle:=hr.le;have hlen:=hr.len;obtain ⟨b_x,o_x,r_x,ha_x,_,⟨q1,q2,q3,rfl,_⟩,hr_x,_⟩:=hr.at (getElem_some hi);have hak:(askOk rules i rules[i].ring k x)=(mayOk rules i x.cell x.n && (if x.pick then !rules[i].ring && decide (k≠0) && mayOk rules i x.cell x.els else decide (x.els=0))):=rfl;rw [hak]
 clear hak
 have hkz:decide ((k:Int)=0)=decide (k=0):=by simp
 refine enter Tryz.func81 rfl Tryz.ntmps81 rfl<|?_;have st0:St w (fun _=>False) (fun _=>False) w []:=St.start (by simp);refine nx2 ?_;refine WL.go rfl (OX.box rfl rfl rfl fun b6 w1 nw6 hb6=>?_);have st1:=st0.newB nw6 hb6;refine nx5 ?_;refine WC.cut1S (t:=30) (v:=.bool ((x.pick && (rules[i].ring || decide (k=0))) || !mayOk rules i x.cell x.n)) st1 ?_<|?_
 ·
  refine nx2 ?_;refine WP .r (V1 one4 st1.b0 .r)<|nx ?_;refine WL.gsplit (t:=11) rfl (fun g11=>?_) (fun g11=>?_)
  ·
   refine nx2 ?_;refine WP .r (PV.ixS sl27 ha_x rfl rfl (by omega))<|nx ?_;refine WP .r (PV.ld1 (j:=0) one4 (range_chg hr_x (St.cg st1) (by simp)) rfl rfl)<|nx ?_;refine WL.gsplit (t:=17) rfl (fun g17=>?_) (fun g17=>?_)
   ·
    refine nx12 ?_;refine nx2 ?_;exact EX.meet1 24 rfl rfl rfl (by first | (simp only [g11,g17,← hkz];rfl) | (simp [g11,g17,hkz];done) | (simp at g11 g17;simp [g11,g17,hkz];done) | (simp at g11 g17;simp_all;done)) (st1)
   refine nx4 ?_;refine WL.gsplit (t:=21) rfl (fun g21=>?_) (fun g21=>?_)
   ·
    refine nx10 ?_;exact EX.meet1 25 rfl rfl rfl (by first | (simp only [g11,g17,g21,← hkz];rfl) | (simp [g11,g17,g21,hkz];done) | (simp at g11 g17 g21;simp [g11,g17,g21,hkz];done) | (simp at g11 g17 g21;simp_all;done)) (st1)
   refine nx3 ?_;refine WP .r (V1 one4 st1.b0 .r)<|nx ?_;refine WP .r (V1 one3 st1.b0 .r)<|?_;refine WL.c0 (pmay_calls (cell:=x.cell) (n:=x.n) (hr.ext (St.cg st1)) hi) st1 fun w2 s2 st2=>?_;refine nx3 ?_;exact EX.meet1 25 rfl rfl rfl (by first | (simp only [g11,g17,g21,← hkz];rfl) | (simp [g11,g17,g21,hkz];done) | (simp at g11 g17 g21;simp [g11,g17,g21,hkz];done) | (simp at g11 g17 g21;simp_all;done)) (st2)
  refine nx12 ?_;refine nx ?_;refine WP .r (V1 one4 st1.b0 .r)<|nx ?_;refine WP .r (V1 one3 st1.b0 .r)<|?_;refine WL.c0 (pmay_calls (cell:=x.cell) (n:=x.n) (hr.ext (St.cg st1)) hi) st1 fun w2 s2 st2=>?_;refine nx3 ?_;exact EX.meet1 23 rfl rfl rfl (by first | (simp only [g11,← hkz];rfl) | (simp [g11,hkz];done) | (simp at g11;simp [g11,hkz];done) | (simp at g11;simp_all;done)) (st2)
 intro w2 st2;refine nx ?_;refine WC.cd (fun g30=>?_) fun g30=>?_
 ·
  refine nx7 ?_;refine EX.ret1 rfl rfl<|?_;exact ⟨by cases hm:mayOk rules i x.cell x.n <;> cases hp:x.pick <;> cases hg:rules[i].ring <;> by_cases h0:k=0 <;> simp_all,(St.cg st2)⟩
 refine nx6 ?_;refine WP .r (V1 one4 st2.b0 .r)<|nx3 ?_;refine WC.cd (fun g33=>?_) fun g33=>?_
 ·
  simp at g33
  refine nx3 ?_;refine WP .r (V1 one3 st2.b0 .r)<|nx6 ?_;refine EX.ret1 rfl rfl<|?_;exact ⟨by cases hm:mayOk rules i x.cell x.n <;> simp_all,(St.cg st2)⟩
 simp at g33
 refine nx7 ?_;refine WP .r (V1 one4 st2.b0 .r)<|nx ?_;refine WP .r (V1 one3 st2.b0 .r)<|?_;refine WL.c0 (pmay_calls (cell:=x.cell) (n:=x.els) (hr.ext (St.cg st2)) hi) st2 fun w3 s3 st3=>?_;refine nx4 ?_;refine EX.ret1 rfl rfl<|?_;exact ⟨by cases hm:mayOk rules i x.cell x.n <;> cases hg:rules[i].ring <;> by_cases h0:k=0 <;> simp_all,(St.cg st3)⟩
theorem pvalidRu_calls {rules:List Rule} {A:Nat→Prop} {a:Option Addr} {r c:Nat} {w:World} (hr:Rules A w a r c rules) (hR:rulesOk rules):Calls Tryz.prog 51 #[.slice a r c] w fun e w'=>e=.returned (.bool true)∧Chg [] w w':=by
 have hle:=hr.le;have hlen:=hr.len;have h24:=hR.1;refine enter Tryz.func51 rfl Tryz.ntmps51 rfl<|?_;have st0:St w (fun _=>False) (fun _=>False) w []:=St.start (by simp);refine nx12 ?_;refine nx ?_;refine WC.cd (fun g12=>?_) fun g12=>?_
 ·
  exact nope g12
 ·
  refine nx11 ?_;refine WC.loopS1 (σ:=Nat) (kvs:=fun i=>[(0,.slice a r c),(13,.slice a r c),(14,.int .i64 (r:Int)),(15,.int .i64 (i:Int))]) (F:=fun i=>[]) (I:=fun i=>(i≤r)∧True) (μ:=fun i=>r - i) (0) (st0) (Sub.k2 rfl rfl<|Sub.cons rfl<|Sub.v<|Sub.nil) (⟨by omega,trivial⟩)<|?_;rintro i w1 st1 ⟨hi,_⟩;simp only [CA,NA] at st1 hi ⊢;refine nx6 ?_;refine WC.cd (fun g16=>?_) fun g16=>?_
  ·
   simp at g16
   have hi2:i<rules.length:=by omega
   obtain ⟨hro1,hro2,hro3⟩:=hR.2 i _ (getElem_some hi2)
   unfold endOk at hro3
   obtain ⟨b_x,o_x,r_x,ha_x,_,⟨q1,q2,q3,rfl,hasks⟩,hr_x,_⟩:=hr.at (getElem_some hi2);have hal:=hasks.len;refine nx7 ?_;refine WP .r (PV.ixS sl27 ha_x rfl rfl (by omega))<|WP .r (VA agg56 (range_chg hr_x (St.cg st1) (by simp)) .r)<|?_;refine WL.al st1 fun b4 w2 nw4 hb4 st2=>?_;refine nx ?_;refine WL.go rfl (OX.stW sz56 (As.gb st2.g0) rfl rfl rfl rfl rfl fun w3 ss0 _ hs0=>?_);have st3:=st2.updB ss0 hs0;refine nx12 ?_;refine nx ?_;refine WP .r (V1 one4 st3.b0 .r)<|nx2 ?_;refine WC.cd (fun g21=>?_) fun g21=>?_
   ·
    rw [if_pos g21] at hro3
    simp at hro3
    refine nx8 ?_;refine WC.cut1S (t:=48) (v:=.bool false) st3 ?_<|?_
    ·
     refine nx2 ?_;refine WP .r (V1 one54 st3.b0 .r)<|nx3 ?_;refine WL.gsplit (t:=26) rfl (fun g26=>?_) (fun g26=>?_)
     ·
      refine nx12 ?_;refine nx11 ?_;exact EX.meet1 28 rfl rfl rfl (tG g26) (st3)
     refine nx ?_;refine WP .r (V1 one3 st3.b0 .r)<|nx4 ?_;refine WL.gsplit (t:=32) rfl (fun g32=>?_) (fun g32=>?_)
     ·
      refine nx12 ?_;refine nx5 ?_;exact EX.meet1 29 rfl rfl rfl (tG (aj g26 g32)) (st3)
     refine nx ?_;refine WP .r (V1 one3 st3.b0 .r)<|nx4 ?_;refine WL.gsplit (t:=38) rfl (fun g38=>?_) (fun g38=>?_)
     ·
      refine nx11 ?_;exact EX.meet1 30 rfl rfl rfl (tG (aj g26<|aj g32 g38)) (st3)
     refine nx ?_;refine WP .r (V1 one3 st3.b0 .r)<|nx3 ?_;refine WL.gsplit (t:=43) rfl (fun g43=>?_) (fun g43=>?_)
     ·
      refine nx6 ?_;exact EX.meet1 31 rfl rfl rfl (tG (aj g26<|aj g32<|aj g38 g43)) (st3)
     refine nx ?_;refine WP .r (V1 one3 st3.b0 .r)<|nx4 ?_;exact EX.meet1 31 rfl rfl rfl (tG (aj g26<|aj g32<|aj g38 g43)) (st3)
    intro w4 st4;refine nx ?_;refine WC.cd (fun g48=>?_) fun g48=>?_
    ·
     exact nope g48
    refine nx5 ?_;refine WP .r (V1 one54 st4.b0 .r)<|nx5 ?_;refine WC.loopS1 (σ:=Nat) (kvs:=fun k=>[(0,.slice a r c),(3,.int .i64 (i:Int)),(13,.slice a r c),(14,.int .i64 (r:Int)),(15,.int .i64 (i:Int)),(50,.slice q1 q2 q3),(51,.int .i64 (q2:Int)),(52,.int .i64 (k:Int))]) (F:=fun k=>[]) (I:=fun k=>(k≤q2)∧True) (μ:=fun k=>q2 - k) (0) (st4) (Sub.k4 rfl rfl rfl rfl<|Sub.cons rfl<|Sub.v<|Sub.v<|Sub.v<|Sub.nil) (⟨by omega,trivial⟩)<|?_;rintro k w5 st5 ⟨hk,_⟩;simp only [CA,NA] at st5 hk ⊢;refine nx6 ?_;refine WC.cd (fun g53=>?_) fun g53=>?_
    ·
     simp at g53
     have hk2:k<rules[i].asks.length:=by omega
     obtain ⟨b_y,o_y,r_y,ha_y,_,rfl,hr_y,_⟩:=(hasks.ext (St.cg st5)).at (getElem_some hk2);refine nx7 ?_;refine WP .r (PV.ixS sl54 ha_y rfl rfl (by omega))<|WP .r (VA agg61 hr_y .r)<|?_;refine WL.al st5 fun b9 w6 nw9 hb9 st6=>?_;refine nx ?_;refine WL.go rfl (OX.stW sz61 (As.gb st6.g0) rfl rfl rfl rfl rfl fun w7 ss1 _ hs1=>?_);have st7:=st6.updB ss1 hs1;refine nx6 ?_;refine WP .r (VA agg61 st7.b0 .r)<|nx2 ?_;refine WL.c1 (u:=.bool true) (pright_calls (k:=k) (x:=rules[i].asks[k]) (hr.ext (St.cg st7)) hi2) (by rw [show askOk rules i rules[i].ring k rules[i].asks[k]=true from hro2 k _ (getElem_some hk2)]) st7 fun w8 s8 st8=>?_;refine nx3 ?_;refine WC.condF rfl<|nx7 ?_;refine EX.again (k+1) (Sub.k4 rfl rfl rfl rfl<|Sub.cons rfl<|Sub.v<|Sub.v<|Sub.v<|Sub.nil) ⟨st8.drop,⟨by omega,trivial⟩⟩ (by first | (simp only [];omega) | omega)
    simp at g53
    refine nx10 ?_;refine EX.again (i+1) (Sub.k2 rfl rfl<|Sub.cons rfl<|Sub.v<|Sub.nil) ⟨st5.drop,⟨by omega,trivial⟩⟩ (by first | (simp only [];omega) | omega)
   rw [if_neg (by simp [g21])] at hro3
   simp at hro3
   refine nx4 ?_;refine WC.cut1S (t:=48) (v:=.bool false) st3 ?_<|?_
   ·
    refine nx2 ?_;refine WP .r (V1 one54 st3.b0 .r)<|nx3 ?_;refine WL.gsplit (t:=26) rfl (fun g26=>?_) (fun g26=>?_)
    ·
     refine nx12 ?_;refine nx11 ?_;exact EX.meet1 28 rfl rfl rfl (tG g26) (st3)
    refine nx ?_;refine WP .r (V1 one3 st3.b0 .r)<|nx4 ?_;refine WL.gsplit (t:=32) rfl (fun g32=>?_) (fun g32=>?_)
    ·
     refine nx12 ?_;refine nx5 ?_;exact EX.meet1 29 rfl rfl rfl (tG (aj g26 g32)) (st3)
    refine nx ?_;refine WP .r (V1 one3 st3.b0 .r)<|nx4 ?_;refine WL.gsplit (t:=38) rfl (fun g38=>?_) (fun g38=>?_)
    ·
     refine nx11 ?_;exact EX.meet1 30 rfl rfl rfl (tG (aj g26<|aj g32 g38)) (st3)
    refine nx ?_;refine WP .r (V1 one3 st3.b0 .r)<|nx3 ?_;refine WL.gsplit (t:=43) rfl (fun g43=>?_) (fun g43=>?_)
    ·
     refine nx6 ?_;exact EX.meet1 31 rfl rfl rfl (tG (aj g26<|aj g32<|aj g38 g43)) (st3)
    refine nx ?_;refine WP .r (V1 one3 st3.b0 .r)<|nx4 ?_;exact EX.meet1 31 rfl rfl rfl (tG (aj g26<|aj g32<|aj g38 g43)) (st3)
   intro w4 st4;refine nx ?_;refine WC.cd (fun g48=>?_) fun g48=>?_
   ·
    exact nope g48
   refine nx5 ?_;refine WP .r (V1 one54 st4.b0 .r)<|nx5 ?_;refine WC.loopS1 (σ:=Nat) (kvs:=fun k=>[(0,.slice a r c),(3,.int .i64 (i:Int)),(13,.slice a r c),(14,.int .i64 (r:Int)),(15,.int .i64 (i:Int)),(50,.slice q1 q2 q3),(51,.int .i64 (q2:Int)),(52,.int .i64 (k:Int))]) (F:=fun k=>[]) (I:=fun k=>(k≤q2)∧True) (μ:=fun k=>q2 - k) (0) (st4) (Sub.k4 rfl rfl rfl rfl<|Sub.cons rfl<|Sub.v<|Sub.v<|Sub.v<|Sub.nil) (⟨by omega,trivial⟩)<|?_;rintro k w5 st5 ⟨hk,_⟩;simp only [CA,NA] at st5 hk ⊢;refine nx6 ?_;refine WC.cd (fun g53=>?_) fun g53=>?_
   ·
    simp at g53
    have hk2:k<rules[i].asks.length:=by omega
    obtain ⟨b_y,o_y,r_y,ha_y,_,rfl,hr_y,_⟩:=(hasks.ext (St.cg st5)).at (getElem_some hk2);refine nx7 ?_;refine WP .r (PV.ixS sl54 ha_y rfl rfl (by omega))<|WP .r (VA agg61 hr_y .r)<|?_;refine WL.al st5 fun b9 w6 nw9 hb9 st6=>?_;refine nx ?_;refine WL.go rfl (OX.stW sz61 (As.gb st6.g0) rfl rfl rfl rfl rfl fun w7 ss2 _ hs2=>?_);have st7:=st6.updB ss2 hs2;refine nx6 ?_;refine WP .r (VA agg61 st7.b0 .r)<|nx2 ?_;refine WL.c1 (u:=.bool true) (pright_calls (k:=k) (x:=rules[i].asks[k]) (hr.ext (St.cg st7)) hi2) (by rw [show askOk rules i rules[i].ring k rules[i].asks[k]=true from hro2 k _ (getElem_some hk2)]) st7 fun w8 s8 st8=>?_;refine nx3 ?_;refine WC.condF rfl<|nx7 ?_;refine EX.again (k+1) (Sub.k4 rfl rfl rfl rfl<|Sub.cons rfl<|Sub.v<|Sub.v<|Sub.v<|Sub.nil) ⟨st8.drop,⟨by omega,trivial⟩⟩ (by first | (simp only [];omega) | omega)
   simp at g53
   refine nx10 ?_;refine EX.again (i+1) (Sub.k2 rfl rfl<|Sub.cons rfl<|Sub.v<|Sub.nil) ⟨st5.drop,⟨by omega,trivial⟩⟩ (by first | (simp only [];omega) | omega)
  simp at g16
  refine nx11 ?_;refine EX.ret1 rfl rfl<|?_;exact ⟨rfl,(St.cg st1)⟩
 -- UNUSED ANNOTATIONS C63
theorem pvalS1_calls {n:Nat} {A:Nat→Prop} {w:World} (ht:Tab Tryz.prog A w) (hn:n≤65535):Calls Tryz.prog 163 #[.string (itoa (n:Int))] w fun e w'=>e=.returned (.int .i64 (n:Int))∧Chg [] w w':=by
 refine enter Tryz.func163 rfl Tryz.ntmps163 rfl<|?_;have st0:St w (fun _=>False) (fun _=>False) w []:=St.start (by simp);refine nx8 ?_;refine WL.c0 (atoi_num (n:=n) (by omega) w) st0 fun w1 s1 st1=>?_;refine nx9 ?_;refine WC.cut1S (t:=25) (v:=.bool false) st1 ?_<|?_
 ·
  refine nx2 ?_;refine WP .r (PV.neIN nif168 rfl)<|nx ?_;refine WL.gsplit (t:=12) rfl (fun g12=>?_) (fun g12=>?_)
  ·
   refine nx12 ?_;refine nx2 ?_;exact EX.meet1 17 rfl rfl rfl (tG g12) (st1)
  refine nx4 ?_;refine WL.gsplit (t:=16) rfl (fun g16=>?_) (fun g16=>?_)
  ·
   refine nx10 ?_;exact EX.meet1 18 rfl rfl rfl (tG (aj g12 g16)) (st1)
  refine nx4 ?_;refine WL.gsplit (t:=20) rfl (fun g20=>?_) (fun g20=>?_)
  ·
   refine nx6 ?_;exact EX.meet1 19 rfl rfl rfl (tG (aj g12<|aj g16 g20)) (st1)
  refine nx ?_;refine WL.c0 (itoa_calls (n:=(n:Int)) (ht.ext (St.cg st1)) (by omega) (by omega)) st1 fun w2 s2 st2=>?_;refine nx4 ?_;exact EX.meet1 19 rfl rfl rfl (tG (aj g12<|aj g16 g20)) (st2)
 intro w2 st2;refine nx ?_;refine WC.cd (fun g25=>?_) fun g25=>?_
 ·
  exact nope g25
 refine nx9 ?_;refine EX.ret1 rfl rfl<|?_;exact ⟨rfl,(St.cg st2)⟩
theorem pvalS0_calls {s:ByteArray} {A:Nat→Prop} {w:World} (ht:Tab Tryz.prog A w) (hs:s.size≤1000) (hno:∀n:Nat,n≤65535→s≠itoa (n:Int)):Calls Tryz.prog 163 #[.string s] w fun e w'=>e=.returned (.int .i64 0)∧Chg [] w w':=by
 refine enter Tryz.func163 rfl Tryz.ntmps163 rfl<|?_;have st0:St w (fun _=>False) (fun _=>False) w []:=St.start (by simp);refine nx8 ?_;refine WL.go rfl (OX.call cf124 rfl rfl ((atoi_any (s:=s) (ht.ext (St.cg st0)) hs).mono ?_));rintro _ w1 ⟨v,ok,ev,rfl,hv,hok,s1⟩;refine ⟨_,rfl,?_⟩;have st1:=st0.step s1;refine nx9 ?_;refine WC.cut1S (t:=25) (v:=.bool true) st1 ?_<|?_
 ·
  refine nx2 ?_;refine WP .r (PV.neIV nif168 rfl hok)<|nx ?_;refine WL.gsplit (t:=12) rfl (fun g12=>?_) (fun g12=>?_)
  ·
   refine nx12 ?_;refine nx2 ?_;exact EX.meet1 17 rfl rfl rfl (by first | (simp [g12];done) | (simp at g12 ⊢;intro e;exact hno v.toNat (by omega) (by rw [show ((v.toNat:Nat):Int)=v by omega];exact e.symm))) (st1)
  refine nx4 ?_;refine WL.gsplit (t:=16) rfl (fun g16=>?_) (fun g16=>?_)
  ·
   refine nx10 ?_;exact EX.meet1 18 rfl rfl rfl (by first | (simp [g12,g16];done) | (simp at g12 g16 ⊢;intro e;exact hno v.toNat (by omega) (by rw [show ((v.toNat:Nat):Int)=v by omega];exact e.symm))) (st1)
  refine nx4 ?_;refine WL.gsplit (t:=20) rfl (fun g20=>?_) (fun g20=>?_)
  ·
   refine nx6 ?_;exact EX.meet1 19 rfl rfl rfl (by first | (simp [g12,g16,g20];done) | (simp at g12 g16 g20 ⊢;intro e;exact hno v.toNat (by omega) (by rw [show ((v.toNat:Nat):Int)=v by omega];exact e.symm))) (st1)
  refine nx ?_;refine WL.c0 (itoa_calls (n:=v) (ht.ext (St.cg st1)) (by omega) (by omega)) st1 fun w2 s2 st2=>?_;refine nx4 ?_;exact EX.meet1 19 rfl rfl rfl (by first | (simp [g12,g16,g20];done) | (simp at g12 g16 g20 ⊢;intro e;exact hno v.toNat (by omega) (by rw [show ((v.toNat:Nat):Int)=v by omega];exact e.symm))) (st2)
 intro w2 st2;refine nx ?_;refine WC.cd (fun g25=>?_) fun g25=>?_
 ·
  refine nx7 ?_;refine EX.ret1 rfl rfl<|?_;exact ⟨rfl,(St.cg st2)⟩
 exact nope g25
theorem pvalS_calls {s:ByteArray} {A:Nat→Prop} {w:World} (ht:Tab Tryz.prog A w) (hs:s.size≤1000):Calls Tryz.prog 163 #[.string s] w fun e w'=>e=.returned (.int .i64 (valS s:Int))∧Chg [] w w':=by
 by_cases h:∃n:Nat,n≤65535∧s=itoa (n:Int)
 ·
  obtain ⟨n,hn,rfl⟩:=h;rw [valS_itoa hn];exact pvalS1_calls ht hn
 have h0:∀n:Nat,n≤65535→s≠itoa (n:Int):=fun n hn e=>h ⟨n,hn,e⟩;rw [valS_none h0];exact pvalS0_calls ht hs h0
theorem pfinalV_calls {kd:Int} {l:List Nat} {A:Nat→Prop} {a:Option Addr} {r c:Nat} {w:World} (hl:Ints A w a r c (l.map fun x:Nat=>(x:Int))) (hv5:∀x∈l,x≤65535) (hr:r≤1000):Calls Tryz.prog 165 #[.int .i64 kd,.slice a r c] w fun e w'=>e=.returned (.int .i64 (finalV kd 0 l:Int))∧Chg [] w w':=by
 have hle:=SR.le hl;have hlen:=SR.len hl;rw [List.length_map] at hlen;have htk:∀i,∀x∈l.take i,x≤65535:=fun i x hx=>hv5 x (List.mem_of_mem_take hx);refine enter Tryz.func165 rfl Tryz.ntmps165 rfl<|?_;have st0:St w (fun _=>False) (fun _=>False) w []:=St.start (by simp);refine nx12 ?_;refine nx9 ?_;refine WC.loopS1 (σ:=Nat) (kvs:=fun i=>[(0,.int .i64 kd),(5,.int .i64 (sumV 0 (l.take i):Int)),(6,.int .i64 (mostV 0 (l.take i):Int)),(7,.int .i64 (bitsV 0 (l.take i):Int)),(10,.slice a r c),(11,.int .i64 (r:Int)),(12,.int .i64 (i:Int))]) (F:=fun i=>[]) (I:=fun i=>(i≤r)∧True) (μ:=fun i=>r - i) (0) (st0) (Sub.cons rfl<|Sub.v<|Sub.v<|Sub.v<|Sub.k2 rfl rfl<|Sub.v<|Sub.nil) (⟨by omega,trivial⟩)<|?_;rintro i w1 st1 ⟨hi,_⟩;simp only [CA,NA] at st1 hi ⊢;refine nx6 ?_;refine WC.cd (fun g13=>?_) fun g13=>?_
 ·
  simp at g13
  have hi2:i<l.length:=by omega
  have hi3:i<(l.map fun x:Nat=>(x:Int)).length:=by simpa using hi2
  have hs1:=sumV_le (c:=0) (htk i);have hs2:=mostV_le (c:=0) (by omega) (htk i);have hs3:=bitsV_le (c:=0) (by omega) (htk i);have hvi:=hv5 l[i] (List.getElem_mem hi2)
  have hlt:(l.take i).length≤1000:=by rw [List.length_take];omega
  have e1:=sumV_take (c:=0) hi2;have e2:=mostV_take (c:=0) hi2;have e3:=bitsV_take (c:=0) hi2;refine nx5 ?_;obtain ⟨b_x,o_x,r_x,ha_x,_,rfl,hr_x,_⟩:=(SR.ext hl (St.cg st1)).at (getElem_some hi3);rw [List.getElem_map] at hr_x;refine nx ?_;refine WP .r (PV.ixS sl22 ha_x rfl rfl (by omega))<|WP .r (PV.ld0 one3 hr_x rfl rfl)<|nx9 ?_;refine WP .r (PV.maxI rfl rfl)<|nx2 ?_;refine WP .r (PV.orN rfl rfl (by omega) (by omega))<|nx10 ?_;refine EX.again (i+1) (Sub.cons rfl<|Sub.v<|Sub.v<|Sub.v<|Sub.k2 rfl rfl<|Sub.v<|Sub.nil) ⟨st1,⟨by omega,trivial⟩⟩ (by first | (simp only [];omega) | omega)
 simp at g13
 have hall:l.take i=l:=List.take_of_length_le (by omega);rw [hall];have hs1:=sumV_le (c:=0) hv5;have hs2:=mostV_le (c:=0) (by omega) hv5;have hs3:=bitsV_le (c:=0) (by omega) hv5
 have hll:l.length≤1000:=by omega
 refine nx12 ?_;refine nx6 ?_;refine WC.cd (fun g27=>?_) fun g27=>?_
 ·
  simp at g27
  refine nx10 ?_;refine EX.ret1 rfl rfl<|?_;exact ⟨by unfold finalV;rw [if_pos g27,Int.tmod_eq_emod_of_nonneg (by omega)];rfl,(St.cg st1)⟩
 simp at g27
 refine nx6 ?_;refine WC.cd (fun g31=>?_) fun g31=>?_
 ·
  simp at g31
  refine nx3 ?_;refine WP .r (PV.quo rfl rfl (by omega) (by rw [Int.tdiv_eq_ediv_of_nonneg (by omega)];omega) (by rw [Int.tdiv_eq_ediv_of_nonneg (by omega)];omega))<|nx7 ?_;refine EX.ret1 rfl rfl<|?_;exact ⟨by unfold finalV;rw [if_neg g27,if_pos g31,Int.tdiv_eq_ediv_of_nonneg (by omega),Int.tmod_eq_emod_of_nonneg (by omega)];rfl,(St.cg st1)⟩
 simp at g31
 refine nx6 ?_;refine WC.cd (fun g36=>?_) fun g36=>?_
 ·
  simp at g36
  refine nx9 ?_;refine EX.ret1 rfl rfl<|?_;exact ⟨by unfold finalV;rw [if_neg g27,if_neg g31,if_pos g36],(St.cg st1)⟩
 simp at g36
 refine nx6 ?_;refine WC.cd (fun g39=>?_) fun g39=>?_
 ·
  simp at g39
  refine nx10 ?_;refine EX.ret1 rfl rfl<|?_;exact ⟨by unfold finalV;rw [if_neg g27,if_neg g31,if_neg g36,if_pos g39,Int.tmod_eq_emod_of_nonneg (by omega)];rfl,(St.cg st1)⟩
 simp at g39
 refine nx10 ?_;refine EX.ret1 rfl rfl<|?_;exact ⟨by unfold finalV;rw [if_neg g27,if_neg g31,if_neg g36,if_neg g39],(St.cg st1)⟩
set_option maxHeartbeats 1600000 in
theorem pturn_calls {rules:List Rule} {i:Nat} {answers:List ByteArray} {A B C:Nat→Prop} {a a2:Option Addr} {r c r2 e2:Nat} {w:World} (ht:Tab Tryz.prog A w) (hR:rulesOk rules) (hi:i<rules.length) (hr:Rules B w a r c rules) (hl:Strs C w a2 r2 e2 answers) (hsz:∀s∈answers,s.size≤1000):Calls Tryz.prog 128 #[.slice a r c,(ofK rules (i:Int)).val,.slice a2 r2 e2] w fun e w'=>e=.returned (turnV rules (ofK rules (i:Int)) answers).val∧Chg [] w w':=by
 have h24:=hR.len
 have h99:i≤99:=by omega
 have hle:=hr.le;have hlen:=hr.len;have hlen2:=hl.len;have hle2:=hl.le
 obtain ⟨kd,hkd,hk⟩:∃kd:Int,(kd=31∨kd=32)∧ofK rules (i:Int)=⟨kd,itoa i⟩:=by
  unfold ofK
  rw [if_neg (by omega)]
  cases h:ringAt rules i
  ·
   exact ⟨31,.inl rfl,by simp [h]⟩
  exact ⟨32,.inr rfl,by simp [h]⟩
 have hnk:=number_ofK hi h99;obtain ⟨hro1,hro2,hro3⟩:=hR.2 i _ (getElem_some hi);have hcb:=rulesOk.hb hR _ (List.getElem_mem hi);obtain ⟨cc,hcc⟩:∃cc:Nat,rules[i].c=cc:=⟨rules[i].c.toNat,by omega⟩;obtain ⟨b_x,o_x,r_x,ha_x,_,⟨q1,q2,q3,rfl,hasks⟩,hr_x,_⟩:=hr.at (getElem_some hi);rw [hcc] at hr_x;have hal:=hasks.len;rw [hk] at hnk ⊢;refine enter Tryz.func128 rfl Tryz.ntmps128 rfl<|?_;have st0:St w (fun _=>False) (fun _=>False) w []:=St.start (by simp);refine nx2 ?_;refine WL.go rfl (OX.box rfl rfl rfl fun b4 w1 nw4 hb4=>?_);have st1:=st0.newB nw4 hb4;refine WL.al st1 fun b6 w2 nw6 hb6 st2=>?_;refine nx4 ?_;refine WP .r (VA agg35 st2.b1 .r)<|?_;refine WL.c0 (pnumber_calls (k:=(⟨kd,itoa i⟩:Key)) ⟨by simp only [];omega,by simp only [];omega⟩ rfl h99) st2 fun w3 s3 st3=>?_;refine nx5 ?_;refine WC.cut1S (t:=30) (v:=.bool false) st3 ?_<|?_
 ·
  have hN2:=st3.fplt;refine WC.drawnS (m:=12) (E:=lookE [(10,fun v _=>v=(ofK rules (i:Int)).val)]) st3 (lookE_st (⟨fun _ _ _ _ _ _ _ h=>h,trivial⟩)) mixed (by kernel_rfl)<|nx3 ?_;refine DW.gsplit (t:=19) rfl (fun g19=>?_) (fun g19=>?_)
  ·
   refine nx9 ?_;refine DW.nil<|?_;rintro w4 ⟨hsz2,st4⟩ _;refine nx3 ?_;exact EX.meet1 15 rfl rfl rfl (by first | rfl | (simp [g19,hk];done) | (simp [g19,hk];omega) | (simp only [g19];done) | (simp only [g19];rfl) | (simp [g19];done) | (simp;done) | (simp at g19 ⊢ <;> omega) | (simp <;> omega) | (simp [g19] <;> omega) | (simp at g19 <;> omega)) (st4)
  refine nx ?_;refine DP .r (fun _ hC=>V1 one3 (Blk.range (As.gb hC.2.g1)) .r)<|nx3 ?_;refine DW.gsplit (t:=24) rfl (fun g24=>?_) (fun g24=>?_)
  ·
   refine nx4 ?_;refine DW.nil<|?_;rintro w4 ⟨hsz2,st4⟩ _;refine nx3 ?_;exact EX.meet1 16 rfl rfl rfl (by first | rfl | (simp [g19,g24,hk];done) | (simp [g19,g24,hk];omega) | (simp only [g19,g24];done) | (simp only [g19,g24];rfl) | (simp [g19,g24];done) | (simp;done) | (simp at g19 g24 ⊢ <;> omega) | (simp <;> omega) | (simp [g19,g24] <;> omega) | (simp at g19 g24 <;> omega)) (st4)
  refine nx2 ?_;refine DW.c0 (fun wx hC hF=>pof_calls (n:=(i:Int)) (hr.ext (St.cg hC.2)))<|?_;refine DP .r (fun _ hC=>VA agg35 (Blk.range (As.gb hC.2.g1)) .r)<|DW.nil<|?_;rintro w4 ⟨hsz2,st4⟩ ⟨_,_⟩;refine WP .r (PV.neK keyt35 (p:=ofK rules (i:Int)) (q:=(⟨kd,itoa i⟩:Key)) rfl rfl)<|nx2 ?_;exact EX.meet1 16 rfl rfl rfl (by first | rfl | (simp [g19,g24,hk];done) | (simp [g19,g24,hk];omega) | (simp only [g19,g24];done) | (simp only [g19,g24];rfl) | (simp [g19,g24];done) | (simp;done) | (simp at g19 g24 ⊢ <;> omega) | (simp <;> omega) | (simp [g19,g24] <;> omega) | (simp at g19 g24 <;> omega)) (st4)
 intro w4 st4;refine nx ?_;refine WC.cd (fun g30=>?_) fun g30=>?_
 ·
  exact nope g30
 refine nx6 ?_;refine WP .r (PV.ixZ sl27 (i:=i) ha_x rfl rfl (by omega) (by omega))<|WP .r (VA agg56 (range_chg hr_x (St.cg st4) (by simp)) .r)<|?_;refine WL.al st4 fun b8 w5 nw8 hb8 st5=>?_;refine WL.go rfl (OX.stW sz56 (As.gb st5.g0) rfl rfl rfl rfl rfl fun w6 ss0 _ hs0=>?_);have st6:=st5.updB ss0 hs0;refine nx12 ?_;refine nx2 ?_;refine WP .r (V1 one54 st6.b0 .r)<|nx4 ?_;refine WC.cd (fun g42=>?_) fun g42=>?_
 ·
  simp at g42
  have hn:r2<rules[i].asks.length:=by omega
  have hv:=turnV_ask (answers:=answers) hnk hi (by rw [hnk];exact hk) (show answers.length<rules[i].asks.length by omega);simp only [← hlen2] at hv
  have hp0:r2=0→rules[i].asks[r2].pick=false:=fun h0=>by
   have:=hro2 r2 _ (getElem_some hn)
   cases hp:rules[i].asks[r2].pick
   ·
    rfl
   unfold askOk at this
   rw [hp] at this
   simp [h0] at this
  refine nx ?_;obtain ⟨b_y,o_y,r_y,ha_y,_,rfl,hr_y,_⟩:=(hasks.ext (St.cg st6)).at (getElem_some hn);refine nx2 ?_;refine WP .r (V1 one54 st6.b0 .r)<|nx ?_;refine WP .r (PV.ixS sl54 ha_y rfl rfl (by omega))<|WP .r (VA agg61 hr_y .r)<|?_;refine WL.al st6 fun b10 w7 nw10 hb10 st7=>?_;refine WL.go rfl (OX.stW sz61 (As.gb st7.g0) rfl rfl rfl rfl rfl fun w8 ss1 _ hs1=>?_);have st8:=st7.updB ss1 hs1;refine nx5 ?_;refine WP .r (V1 one3 st8.b0 .r)<|nx5 ?_;refine WC.cut1S (t:=65) (v:=.bool (pickNow rules[i].asks[r2] answers)) st8 ?_<|?_
  ·
   refine nx2 ?_;refine WP .r (V1 one4 st8.b0 .r)<|nx ?_;refine WL.gsplit (t:=52) rfl (fun g52=>?_) (fun g52=>?_)
   ·
    refine nx4 ?_;refine WL.gsplit (t:=56) rfl (fun g56=>?_) (fun g56=>?_)
    ·
     simp at g56
     obtain ⟨b_z,o_z,r_z,ha_z,_,rfl,hr_z,_⟩:=(hl.ext (St.cg st8)).at (getElem_some (show r2 - 1<answers.length by omega))
     have hm2:pickNow rules[i].asks[r2] answers=decide ((valS answers[r2 - 1]:Int).tmod 2=0):=by
      unfold pickNow
      simp only [g52,← hlen2,Bool.true_and];rw [decide_eq_false (by omega),Bool.false_or,getElem!_pos answers (r2 - 1) (by omega),Int.tmod_eq_emod_of_nonneg (by omega)]
      congr 1
      exact propext ⟨fun h=>by omega,fun h=>by omega⟩
     refine nx3 ?_;refine WP .r (PV.ixZ sl63 (i:=r2 - 1) ha_z rfl rfl (by omega) (by omega))<|WP .r (PV.ld0 one9 hr_z rfl rfl)<|?_;refine WL.c0 (pvalS_calls (s:=answers[r2 - 1]) (ht.ext (St.cg st8)) (hsz _ (List.getElem_mem _))) st8 fun w9 s9 st9=>?_;refine nx4 ?_;exact EX.meet1 18 rfl rfl rfl (by rw [hm2]) (st9)
    exact absurd (hp0 (by simp at g56;omega)) (by simp [g52])
   have hm2:pickNow rules[i].asks[r2] answers=false:=by unfold pickNow;rw [g52];rfl
   refine nx12 ?_;refine nx2 ?_;exact EX.meet1 17 rfl rfl rfl (by rw [hm2]) (st8)
  intro w9 st9;refine nx ?_;refine WC.cd (fun g65=>?_) fun g65=>?_
  ·
   have hto:toOf rules[i].asks[r2] answers=rules[i].asks[r2].els:=by unfold toOf;rw [if_pos g65]
   refine nx2 ?_;refine WP .r (V1 one3 st9.b0 .r)<|nx7 ?_;refine WP .r (V1 one4 st9.b0 .r)<|nx2 ?_;refine WC.cd (fun g69=>?_) fun g69=>?_
   ·
    rw [hto,if_pos g69] at hv;refine nx3 ?_;refine WL.c0 (pcell_calls) st9 fun w10 s10 st10=>?_;refine WP .r (PV.build' (us:=[.bool false,.string ⟨#[]⟩,.int .i64 (cellK _).kind,.string (cellK _).text]) bt65 rfl rfl rfl)<|?_;refine WL.go rfl (OX.stW sz65 (As.gb st10.g2) rfl rfl rfl rfl rfl fun w11 ss2 _ hs2=>?_);have st11:=st10.p2.updB ss2 hs2;refine nx5 ?_;refine EX.retC agg65 rfl rfl st11.b0 rfl<|?_;rw [hv];exact ⟨rfl,(St.cg st11)⟩
   rw [hto,if_neg (by simp [g69])] at hv;refine nx6 ?_;refine WL.c0 (pof_calls (hr.ext (St.cg st9))) st9 fun w10 s10 st10=>?_;refine WP .r (PV.build' (us:=[.bool false,.string ⟨#[]⟩,.int .i64 (ofK rules _).kind,.string (ofK rules _).text]) bt65 rfl rfl rfl)<|?_;refine WL.go rfl (OX.stW sz65 (As.gb st10.g2) rfl rfl rfl rfl rfl fun w11 ss3 _ hs3=>?_);have st11:=st10.p2.updB ss3 hs3;refine nx4 ?_;refine EX.retC agg65 rfl rfl st11.b0 rfl<|?_;rw [hv];exact ⟨rfl,(St.cg st11)⟩
  have hto:toOf rules[i].asks[r2] answers=rules[i].asks[r2].n:=by unfold toOf;rw [if_neg (by simp [g65])]
  refine nx6 ?_;refine WP .r (V1 one4 st9.b0 .r)<|nx2 ?_;refine WC.cd (fun g69=>?_) fun g69=>?_
  ·
   rw [hto,if_pos g69] at hv;refine nx3 ?_;refine WL.c0 (pcell_calls) st9 fun w10 s10 st10=>?_;refine WP .r (PV.build' (us:=[.bool false,.string ⟨#[]⟩,.int .i64 (cellK _).kind,.string (cellK _).text]) bt65 rfl rfl rfl)<|?_;refine WL.go rfl (OX.stW sz65 (As.gb st10.g2) rfl rfl rfl rfl rfl fun w11 ss4 _ hs4=>?_);have st11:=st10.p2.updB ss4 hs4;refine nx5 ?_;refine EX.retC agg65 rfl rfl st11.b0 rfl<|?_;rw [hv];exact ⟨rfl,(St.cg st11)⟩
  rw [hto,if_neg (by simp [g69])] at hv;refine nx6 ?_;refine WL.c0 (pof_calls (hr.ext (St.cg st9))) st9 fun w10 s10 st10=>?_;refine WP .r (PV.build' (us:=[.bool false,.string ⟨#[]⟩,.int .i64 (ofK rules _).kind,.string (ofK rules _).text]) bt65 rfl rfl rfl)<|?_;refine WL.go rfl (OX.stW sz65 (As.gb st10.g2) rfl rfl rfl rfl rfl fun w11 ss5 _ hs5=>?_);have st11:=st10.p2.updB ss5 hs5;refine nx4 ?_;refine EX.retC agg65 rfl rfl st11.b0 rfl<|?_;rw [hv];exact ⟨rfl,(St.cg st11)⟩
 simp at g42
 have hv:=turnV_end (answers:=answers) hnk hi (by rw [hnk];exact hk) (show rules[i].asks.length≤answers.length by omega);rw [← hal,hcc,Int.toNat_natCast] at hv
 have hv5:∀x∈(answers.take q2).map valS,x≤65535:=fun x hx=>by obtain ⟨s,_,rfl⟩:=List.mem_map.1 hx;exact valS_le s
 have hfl:=finalV_le (kind:=rules[i].final) (c:=cc) (l:=(answers.take q2).map valS) (by omega) hv5
 have hll:((answers.take q2).map valS).length=q2:=by rw [List.length_map,List.length_take];omega
 refine nx5 ?_;refine WP .r (V1 one3 st6.b0 .r)<|?_;refine WL.go rfl (OX.bslice' (us:=[.int .i64 (cc:Int)]) bs22_1 rfl rfl rfl rfl fun b79 w7 nw79 hb79=>?_);have st7:=St.newS (R:=RR.int) (E:=3) (k:=1) (a:=some ⟨b79,0,none⟩) (n:=1) (c:=1) (xs:=[(cc:Int)]) st6 nw79.ext (OR.blk1 hb79 (Nat.zero_le _) rfl (by simp [Value.oneCell']) rfl) (fun x hx=>by simp [oblk] at hx;subst hx;exact nw79.ge);refine nx8 ?_;refine WP .r (V1 one54 st7.b1 .r)<|nx ?_;refine WP .r (PV.sliceH sl63 (hl.ext (St.cg st7)) rfl rfl (by omega))<|nx5 ?_;refine WC.loopS1 (σ:=Nat × (Option Addr) × Nat × Nat) (kvs:=fun (j,a_lv,n_lv,c_lv)=>[(6,.pointer (some ⟨b6,0,none⟩)),(8,.pointer (some ⟨b8,0,none⟩)),(12,.slice a_lv n_lv c_lv),(84,.slice a2 q2 e2),(85,.int .i64 (q2:Int)),(86,.int .i64 (j:Int))]) (F:=fun (j,a_lv,n_lv,c_lv)=>[As.os RR.int 3 1 a_lv n_lv c_lv ((((cc::((answers.take q2).map valS).take j)).map fun x:Nat=>(x:Int)))]) (I:=fun (j,a_lv,n_lv,c_lv)=>(j≤q2)∧True) (μ:=fun (j,a_lv,n_lv,c_lv)=>q2 - j) (0,(some ⟨b79,0,none⟩),1,1) (st7) (Sub.k2 rfl rfl<|Sub.v<|Sub.v<|Sub.v<|Sub.v<|Sub.nil) (⟨by omega,trivial⟩)<|?_;rintro ⟨j,a_lv,n_lv,c_lv⟩ w8 st8 ⟨hj,_⟩;simp only [CA,NA] at st8 hj ⊢;have hnl:=((As.gs st8.g0)).len
 have hnl2:n_lv≤1+j:=by have h0:=hnl;simp at h0;omega
 refine nx6 ?_;refine WC.cd (fun g87=>?_) fun g87=>?_
 ·
  simp at g87
  have hj2:j<answers.length:=by omega
  obtain ⟨b_u,o_u,r_u,ha_u,_,rfl,hr_u,_⟩:=(hl.ext (St.cg st8)).at (getElem_some hj2);refine nx6 ?_;refine WP .r (PV.ixS sl63 ha_u rfl rfl (by omega))<|WP .r (PV.ld0 one9 hr_u rfl rfl)<|nx6 ?_;refine WL.c0 (pvalS_calls (s:=answers[j]) (ht.ext (St.cg st8)) (hsz _ (List.getElem_mem _))) st8 fun w9 s9 st9=>?_;refine WL.go rfl (OX.bslice' (us:=[.int .i64 (valS answers[j]:Int)]) bs22_1 rfl rfl rfl rfl fun b93 w10 nw93 hb93=>?_);have st10:=st9.newB nw93 hb93;refine WL.ap rfl rfl st10.p1 (SR.blk1 (A:=fun _=>True) (x:=((valS answers[j]:Nat):Int)) (As.gb st10.g0) trivial rfl (by simp [Value.oneCell']) rfl) fun a94 c'94 w11 hf94 hn94 st11=>?_;refine nx2 ?_;have st12:=st11.eqS (show (((((cc::((answers.take q2).map valS).take j)).map fun x:Nat=>(x:Int)))++[((valS answers[j]:Nat):Int)])=(((cc::((answers.take q2).map valS).take (j+1))).map fun x:Nat=>(x:Int)) by rw [List.take_succ_eq_append_getElem (by omega),← List.cons_append,List.map_append,List.getElem_map,List.getElem_take];rfl);refine nx6 ?_;refine EX.again (j+1,a94,(n_lv+1),c'94) (Sub.k2 rfl rfl<|Sub.v<|Sub.v<|Sub.v<|Sub.v<|Sub.nil) ⟨st12.p1.drop,⟨by omega,trivial⟩⟩ (by first | (simp only [];omega) | omega)
 simp at g87
 have hje:((answers.take q2).map valS).take j=(answers.take q2).map valS:=List.take_of_length_le (by omega);have st9:=st8.eqS (show (((cc::((answers.take q2).map valS).take j)).map fun x:Nat=>(x:Int))=(((cc::(answers.take q2).map valS)).map fun x:Nat=>(x:Int)) by rw [hje]);refine nx8 ?_;refine WP .r (V1 one3 st9.b1 .r)<|nx ?_;refine WL.c1 (u:=.int .i64 ((finalV rules[i].final cc ((answers.take q2).map valS)):Int)) (pfinalV_calls (kd:=rules[i].final) (l:=cc::(answers.take q2).map valS) (Ow.rd (As.gs st9.g0) (by simp;omega)) (fun x hx=>by rcases List.mem_cons.1 hx with rfl | hx;omega;exact hv5 x hx) (by omega)) (by rw [finalV_cons]) st9 fun w9 s9 st10=>?_;refine WL.c0 (itoa_calls (n:=((finalV rules[i].final cc ((answers.take q2).map valS)):Int)) (ht.ext (St.cg st10)) (by omega) (by omega)) st10 fun w10 s10 st11=>?_;refine WP .r (PV.build' (us:=[.bool true,.string (itoa ((finalV rules[i].final cc ((answers.take q2).map valS)):Int)),.int .i64 0,.string ⟨#[]⟩]) bt65 rfl rfl rfl)<|?_;refine WL.go rfl (OX.stW sz65 (As.gb st11.g2) rfl rfl rfl rfl rfl fun w11 ss6 _ hs6=>?_);have st12:=st11.p2.updB ss6 hs6;refine nx3 ?_;refine EX.retC agg65 rfl rfl st12.b0 rfl<|?_;rw [hv];exact ⟨rfl,(St.cg st12)⟩
theorem pfturnV_calls {rules:List Rule} {i:Nat} {answers:List ByteArray} {A B C:Nat→Prop} {a a2:Option Addr} {r c r2 e2:Nat} {w:World} (ht:Tab Tryz.prog A w) (hR:rulesOk rules) (hi:i<rules.length) (hr:Rules B w a r c rules) (hl:Strs C w a2 r2 e2 answers) (hsz:∀s∈answers,s.size≤1000):Calls Tryz.prog 95 #[.slice a r c,(ofK rules (i:Int)).val,.slice a2 r2 e2] w fun e w'=>e=.returned (turnV rules (ofK rules (i:Int)) answers).val∧Chg [] w w':=by
 have h24:=hR.len;have hkd:=ofK_kind hi (by omega);refine enter Tryz.func95 rfl Tryz.ntmps95 rfl<|?_;have st0:St w (fun _=>False) (fun _=>False) w []:=St.start (by simp);refine nx2 ?_;refine WL.go rfl (OX.box rfl rfl rfl fun b4 w1 nw4 hb4=>?_);have st1:=st0.newB nw4 hb4;refine WL.al st1 fun b6 w2 nw6 hb6 st2=>?_;refine nx6 ?_;refine WP .r (VA agg35 st2.b1 .r)<|?_;refine WL.c1 (u:=.bool true) (prule_calls (k:=ofK rules (i:Int))) (by rw [show (decide ((ofK rules (i:Int)).kind=31) || decide ((ofK rules (i:Int)).kind=32))=true by (rw [hkd];split <;> simp)]) st2 fun w3 s3 st3=>?_;refine nx3 ?_;refine WC.condT rfl<|nx3 ?_;refine WP .r (VA agg35 st3.b1 .r)<|nx ?_;refine WL.c0 (pturn_calls (ht.ext (St.cg st3)) hR hi (hr.ext (St.cg st3)) (hl.ext (St.cg st3)) hsz) st3 fun w4 s4 st4=>?_;refine WL.go rfl (OX.stW sz65 (As.gb st4.g0) rfl rfl rfl rfl rfl fun w5 ss0 _ hs0=>?_);have st5:=st4.updB ss0 hs0;refine nx5 ?_;refine EX.retC agg65 rfl rfl st5.b0 rfl<|?_;exact ⟨rfl,(St.cg st5)⟩
theorem pleast_calls {k:Key} {w:World} (hk:k.kind=32):Calls Tryz.prog 93 #[k.val] w fun e w'=>e=.returned (.string ⟨#[48]⟩)∧Chg [] w w':=by
 refine enter Tryz.func93 rfl Tryz.ntmps93 rfl<|?_;have st0:St w (fun _=>False) (fun _=>False) w []:=St.start (by simp);refine nx2 ?_;refine WL.go rfl (OX.box rfl rfl rfl fun b1 w1 nw1 hb1=>?_);have st1:=st0.newB nw1 hb1;refine nx8 ?_;refine WP .r (V1 one3 st1.b0 .r)<|nx4 ?_;refine WC.cd (fun g3=>?_) fun g3=>?_
 ·
  skip
  refine nx8 ?_;refine EX.ret1 rfl rfl<|?_;exact ⟨rfl,(St.cg st1)⟩
 exact absurd g3 (by simp [hk])
theorem paskedV_calls {rules:List Rule} {i:Nat} {B:Nat→Prop} {a:Option Addr} {r c:Nat} {w:World} (hi:i<rules.length) (h99:i≤99) (hr:Rules B w a r c rules):Calls Tryz.prog 53 #[.slice a r c,(ofK rules (i:Int)).val] w fun e w'=>e=.returned (.bool true)∧Chg [] w w':=by
 have hkd:=ofK_kind hi h99
 have hkt:(ofK rules (i:Int)).text=itoa i:=by unfold ofK;rw [if_neg (by omega)]
 have hk3:30≤(ofK rules (i:Int)).kind∧(ofK rules (i:Int)).kind≤32:=by rw [hkd];split <;> omega
 refine enter Tryz.func53 rfl Tryz.ntmps53 rfl<|?_;have st0:St w (fun _=>False) (fun _=>False) w []:=St.start (by simp);refine nx2 ?_;refine WL.go rfl (OX.box rfl rfl rfl fun b3 w1 nw3 hb3=>?_);have st1:=st0.newB nw3 hb3;refine nx4 ?_;have hN1:=st1.fplt;refine WC.drawnS (m:=12) (E:=lookE [(1,fun v _=>v=.bool true),(4,fun v _=>v=.bool true),(9,fun v _=>v=.int .i64 (i:Int)),(10,fun v _=>v=(ofK rules (i:Int)).val)]) st1 (lookE_st (⟨fun _ _ _ _ _ _ _ h=>h,⟨fun _ _ _ _ _ _ _ h=>h,⟨fun _ _ _ _ _ _ _ h=>h,⟨fun _ _ _ _ _ _ _ h=>h,trivial⟩⟩⟩⟩)) mixed (by kernel_rfl)<|?_;refine DP .r (fun _ hC=>VA agg35 (Blk.range (As.gb hC.2.g0)) .r)<|?_;refine DW.c0 (fun wx hC hF=>pvalidK_calls (k:=ofK rules (i:Int)) hk3 hkt h99)<|nx ?_;refine DP .r (fun _ hC=>VA agg35 (Blk.range (As.gb hC.2.g0)) .r)<|?_;refine DW.c1 (u:=.bool true) (fun wx hC hF=>prule_calls (k:=ofK rules (i:Int))) (by rw [show (decide ((ofK rules (i:Int)).kind=31) || decide ((ofK rules (i:Int)).kind=32))=true by (rw [hkd];split <;> simp)])<|nx3 ?_;refine DP .r (fun _ hC=>VA agg35 (Blk.range (As.gb hC.2.g0)) .r)<|?_;refine DW.c0 (fun wx hC hF=>pnumber_calls (k:=ofK rules (i:Int)) hk3 hkt h99)<|?_;refine DW.c0 (fun wx hC hF=>pof_calls (n:=(i:Int)) (hr.ext (St.cg hC.2)))<|?_;refine DP .r (fun _ hC=>VA agg35 (Blk.range (As.gb hC.2.g0)) .r)<|DW.nil<|?_;rintro w2 ⟨hsz1,st2⟩ ⟨_,⟨_,⟨_,⟨_,_⟩⟩⟩⟩;refine WP .r (PV.eqK keyt35 (p:=ofK rules (i:Int)) (q:=ofK rules (i:Int)) rfl rfl)<|nx6 ?_;refine EX.ret1 rfl rfl<|?_;exact ⟨by simp,(St.cg st2)⟩
end Go.Rc

