/- Walks over the program, part WK. Conditions: as each theorem says. -/
import Derived.Test.YtgcmaglhocmnlaaGreatDoorFacts
import Derived.Test.YtgcmaglhocmnlaaGreatDoorWI
import Derived.Test.YtgcmaglhocmnlaaGreatDoorWJ
import Derived.Test.YtgcmaglhocmnlaaGreatDoorWF
import Derived.Test.YtgcmaglhocmnlaaGreatDoorBf
set_option linter.unusedVariables false
set_option linter.unusedSimpArgs false
set_option linter.unusedSectionVars false
namespace Go.Rc
open Go Go.Proofs
set_option maxHeartbeats 400000
theorem valS_calls' {rules:List Rule} {x:Bas} {D:SD} {k:Key} {w:World} {M Z:Nat→Prop} (hR:rulesOk rules) (hk:Knd rules k) (hst:St w M Z w [As.solv Tryz.prog 115 rules x D]):Calls Tryz.prog 135 #[.pointer (some ⟨D.s,0,none⟩),k.val] w fun e w'=>e=.returned (.string (valOf rules x.inputs k))∧St w M Z w' [As.solv Tryz.prog 115 rules x D]:=by
 obtain ⟨hne,hb,⟨ml,hm,hkm⟩,hf⟩:=hst.g0;have h2:St w M Z w (As.blk D.s 115 (D.cells x)::As.map Key.val D.m ml::[]):=St.split hst hb hkm (fun y h=>.inl h) (fun y h=>.inr h) (fun y (h1:y=D.s) (h2:y=D.m)=>hne (h1.symm.trans h2));refine (val_calls hR hk _ _ _ _ (St.enter (rest:=[]) h2) hf hm).mono<|?_;rintro e w' ⟨ml',rfl,hm',_,h'⟩;have h3:St w M Z w' (As.blk D.s 115 (D.cells x)::As.map Key.val D.m ml'::[]):=St.leave (rest:=[]) (l0:=[_,_]) h2 h' (Zle.refl _ _);refine ⟨rfl,h3.join ⟨hne,h3.g0,⟨ml',hm',h3.g1⟩,(D.F Tryz.prog rules x).st h'.chg.size (fun y hy hl=>h'.chg.block y hl fun ⟨A,hA,ha⟩=>h2.zfp A hA y ha hy) hf⟩ fun y h=>h⟩
theorem changed_calls {rules:List Rule} {x b:Bas} {D:SD} {k:Key} {a1 a2:Option Addr} {n1 e1 n2 e2:Nat} {w:World} {M Z:Nat→Prop} (hR:rulesOk rules) (hk:Knd rules k) (hst:St w M Z w [As.solv Tryz.prog 115 rules x D]) (hi:Rd RR.inp 4 Z w a1 n1 e1 b.inputs) (hr:Rd RR.rcd 8 Z w a2 n2 e2 b.recs):Calls Tryz.prog 95 #[.pointer (some ⟨D.s,0,none⟩),.agg (b.row a1 n1 e1 a2 n2 e2).toArray,k.val] w fun e w'=>e=.returned (.int .i64 (changedV (valOf rules x.inputs) b k))∧St w M Z w' [As.solv Tryz.prog 115 rules x D]:=by
 refine enter (args:=[.pointer (some ⟨D.s,0,none⟩),.agg (b.row a1 n1 e1 a2 n2 e2).toArray,k.val]) Tryz.func95 rfl Tryz.ntmps95 rfl<|?_;have st0:=hst;have st1:=st0.fact (As.mkro hi) (fun _ hx=>hx);have st2:=st1.fact (As.mkro hr) (fun _ hx=>hx);refine nx2 ?_;refine WL.go rfl (OX.box rfl rfl rfl fun b4 w1 nw4 hb4=>?_);have st3:=st2.newB nw4 hb4;refine WL.go rfl (OX.box rfl rfl rfl fun b5 w2 nw5 hb5=>?_);have st4:=st3.newB nw5 hb5;refine nx6 ?_;refine WP .r (VA agg40 st4.b0 .r)<|?_;refine WL.c0 (input_calls (k:=k)) st4 fun w3 s3 st5=>?_;refine nx2 ?_;refine WC.cd (fun g10=>?_) fun g10=>?_
 ·
  skip
  refine nx2 ?_;refine WP .r (VA agg32 st5.b1 .r)<|WP .r (VA agg40 st5.b0 .r)<|?_;refine WL.c0 (since_calls (k:=k) (As.gr st5.g3) (As.gr st5.g2)) st5 fun w4 s4 st6=>?_;refine nx5 ?_;refine EX.ret1 rfl rfl<|?_;exact ⟨by unfold changedV;rw [if_pos g10],st6.drop.drop.drop.drop⟩
 refine nx5 ?_;refine WP .r (V1 one30 st5.b1 .r)<|WP .r (VA agg40 st5.b0 .r)<|?_;refine WL.go rfl (OX.call cf55 rfl rfl ((findR_calls0 (k:=k) (As.gr st5.g2)).mono ?_));rintro _ w4 ⟨f1,f2,f3,rfl,s4⟩;refine ⟨_,rfl,?_⟩;have st6:=st5.step s4;refine nx3 ?_;refine WL.al st6 fun b7 w5 nw7 hb7 st7=>?_;refine WL.go rfl (OX.stW sz47 (As.gb st7.g0) rfl rfl rfl rfl rfl fun w6 ss0 _ hs0=>?_);have st8:=st7.updB ss0 hs0;refine nx5 ?_;refine WC.cut1S (t:=36) (v:=.bool ((findR b.recs k).isSome && (decide ((recOf b.recs k).verified=b.revision) || decide (valOf rules x.inputs k=(recOf b.recs k).value)))) st8 ?_<|?_
 ·
  have hN4:=st8.fplt;refine WC.drawnS (m:=13) (E:=lookE [(10,fun v _=>v=.string (valOf rules x.inputs k))]) st8 (lookE_st (⟨fun _ _ _ _ _ _ _ h=>h,trivial⟩)) mixed (by kernel_rfl)<|nx2 ?_;refine DW.gsplit (t:=22) rfl (fun g22=>?_) (fun g22=>?_)
  ·
   refine nx ?_;refine DP .r (fun _ hC=>V1 one3 (Blk.range (As.gb hC.2.g0)) .r)<|nx ?_;refine DP .r (fun _ hC=>V1 one3 (Blk.range (As.gb hC.2.g2)) .r)<|nx2 ?_;refine DW.gsplit (t:=28) rfl (fun g28=>?_) (fun g28=>?_)
   ·
    refine nx5 ?_;refine DW.nil<|?_;rintro w7 ⟨hsz4,st9⟩ _;refine nx4 ?_;exact EX.meet1 18 rfl rfl rfl (by simp only [g22,g28];first | rfl | simp) (st9)
   refine nx ?_;refine DP .r (fun _ hC=>VA agg40 (Blk.range (As.gb hC.2.g1)) .r)<|?_;refine DW.e rfl rfl rfl rfl rfl (fun wx hC hF=>OX.call cf135 rfl rfl ((valS_calls' (k:=k) hR hk (hC.2.one (.tail _ (.tail _ (.tail _ (.tail _ (.tail _ (.head _)))))))).mono ?_))<|?_
   ·
    rintro _ wy ⟨rfl,hy⟩;exact ⟨_,rfl,⟨Nat.le_trans hC.1 hy.chg.size,hC.2.sameC M5 hy⟩,hy.chg.mono (fun _ _ hx=>fps_sub M5 hx),_,rfl,rfl⟩
   rintro _ wz _ rfl;refine nx ?_;refine DP .r (fun _ hC=>V1 one9 (Blk.range (As.gb hC.2.g0)) .r)<|DW.nil<|?_;rintro w7 ⟨hsz4,st9⟩ ⟨_,_⟩;refine nx4 ?_;exact EX.meet1 18 rfl rfl rfl (by simp only [g22,g28];first | rfl | simp) (st9)
  refine nx11 ?_;refine DW.nil<|?_;rintro w7 ⟨hsz4,st9⟩ _;refine nx4 ?_;exact EX.meet1 17 rfl rfl rfl (by simp only [g22];first | rfl | simp) (st9)
 intro w7 st9;refine nx ?_;refine WC.cd (fun g36=>?_) fun g36=>?_
 ·
  have hv:changedV (valOf rules x.inputs) b k=(recOf b.recs k).changed:=by unfold changedV;rw [if_neg (by simp [g10]),if_pos g36]
  refine nx3 ?_;refine WP .r (V1 one3 st9.b0 .r)<|nx5 ?_;refine EX.ret1 rfl rfl<|?_;exact ⟨by rw [hv],st9.drop.drop.drop.drop.drop⟩
 have hv:changedV (valOf rules x.inputs) b k=b.revision:=by unfold changedV;rw [if_neg (by simp [g10]),if_neg (by simp [g36])]
 refine nx5 ?_;refine WP .r (V1 one3 st9.b2 .r)<|nx4 ?_;refine EX.ret1 rfl rfl<|?_;exact ⟨by rw [hv],st9.drop.drop.drop.drop.drop⟩
theorem answer_calls {rules:List Rule} {x b:Bas} {D:SD} {k:Key} {a1 a2:Option Addr} {n1 e1 n2 e2:Nat} {w:World} {M Z:Nat→Prop} (hR:rulesOk rules) (hk:Knd rules k) (hst:St w M Z w [As.solv Tryz.prog 115 rules x D]) (hi:Rd RR.inp 4 Z w a1 n1 e1 b.inputs) (hr:Rd RR.rcd 8 Z w a2 n2 e2 b.recs):Calls Tryz.prog 99 #[.pointer (some ⟨D.s,0,none⟩),.agg (b.row a1 n1 e1 a2 n2 e2).toArray,k.val] w fun e w'=>e=.returned (.string (answerV (valOf rules x.inputs) b k))∧St w M Z w' [As.solv Tryz.prog 115 rules x D]:=by
 refine enter (args:=[.pointer (some ⟨D.s,0,none⟩),.agg (b.row a1 n1 e1 a2 n2 e2).toArray,k.val]) Tryz.func99 rfl Tryz.ntmps99 rfl<|?_;have st0:=hst;have st1:=st0.fact (As.mkro hi) (fun _ hx=>hx);have st2:=st1.fact (As.mkro hr) (fun _ hx=>hx);refine nx2 ?_;refine WL.go rfl (OX.box rfl rfl rfl fun b4 w1 nw4 hb4=>?_);have st3:=st2.newB nw4 hb4;refine WL.go rfl (OX.box rfl rfl rfl fun b5 w2 nw5 hb5=>?_);have st4:=st3.newB nw5 hb5;refine nx6 ?_;refine WP .r (VA agg40 st4.b0 .r)<|?_;refine WL.c0 (cyclic_calls (k:=k)) st4 fun w3 s3 st5=>?_;refine nx2 ?_;refine WC.cd (fun g10=>?_) fun g10=>?_
 ·
  have hv:answerV (valOf rules x.inputs) b k=valOf rules x.inputs k:=by unfold answerV;rw [if_pos g10]
  refine nx3 ?_;refine WP .r (VA agg40 st5.b0 .r)<|?_;refine WL.go rfl (OX.call cf135 rfl rfl ((valS_calls' (k:=k) hR hk (st5.one (.tail _ (.tail _ (.tail _ (.tail _ (.head _))))))).mono ?_));rintro _ w4 ⟨rfl,hst4⟩;refine ⟨_,rfl,?_⟩;have st6:=st5.sameC M4 hst4;refine nx5 ?_;refine EX.ret1 rfl rfl<|?_;exact ⟨by rw [hv],st6.drop.drop.drop.drop⟩
 have hv:answerV (valOf rules x.inputs) b k=keptV b k:=by unfold answerV;rw [if_neg (by simp [g10])]
 refine nx4 ?_;refine WP .r (VA agg32 st5.b1 .r)<|WP .r (VA agg40 st5.b0 .r)<|?_;refine WL.c0 (kept_calls (k:=k) (As.gr st5.g3) (As.gr st5.g2)) st5 fun w4 s4 st6=>?_;refine nx12 ?_;refine nx2 ?_;refine EX.ret1 rfl rfl<|?_;exact ⟨by rw [hv];rfl,st6.drop.drop.drop.drop⟩
theorem mark_calls {x:Bas} {group:List Key} {dirty:Bool} {a1 a2 ag:Option Addr} {n1 e1 n2 e2 g eg:Nat} {w:World} {M Z:Nat→Prop} (hst:St w M Z w []) (hi:Rd RR.inp 4 Z w a1 n1 e1 x.inputs) (hr:Rd RR.rcd 8 Z w a2 n2 e2 x.recs) (hg:Rd RR.key 2 Z w ag g eg group) (h6:x.recs.length≤1000000) (h7:x.inputs.length≤1000000):Calls Tryz.prog 93 #[.agg (x.row a1 n1 e1 a2 n2 e2).toArray,.slice ag g eg,.bool dirty] w fun e w'=>∃a1' n1' e1' a2' n2' e2' Z',e=.returned (.agg ((markV x group dirty).row a1' n1' e1' a2' n2' e2').toArray)∧Zle w.heap.size Z Z'∧St w M Z' w' [As.os RR.inp 73 4 a1' n1' e1' (markV x group dirty).inputs,As.os RR.rcd 47 8 a2' n2' e2' (markV x group dirty).recs]:=by
 have hil:=hi.len;have hrl:=hr.len;refine enter (args:=[.agg (x.row a1 n1 e1 a2 n2 e2).toArray,.slice ag g eg,.bool dirty]) Tryz.func93 rfl Tryz.ntmps93 rfl<|?_;have st0:=St.rb hst;have st1:=st0.fact (As.mkro hi) (fun _ hx=>hx);have st2:=st1.fact (As.mkro hr) (fun _ hx=>hx);have st3:=st2.fact (As.mkro hg) (fun _ hx=>hx);refine nx2 ?_;refine WL.go rfl (OX.box rfl rfl rfl fun b3 w1 nw3 hb3=>?_);have st4:=st3.newB nw3 hb3;refine WL.al st4 fun b6 w2 nw6 hb6 st5=>?_;refine nx4 ?_;refine WP .r (VA agg32 st5.b1 .r)<|?_;have st6:=st5;refine WL.go rfl (OX.call cf12 rfl rfl ((copyB_calls st6.e0 (As.gr st6.g4) (As.gr st6.g3) h6 h7).mono ?_));rintro _ w3 ⟨f1,f2,f3,f4,f5,f6,Z1,rfl,hZ1,hst3⟩;refine ⟨_,rfl,?_⟩;have st7:=St.leave (l0:=[]) st6 hst3 hZ1;simp only [CA,NA] at st7;have hZ2:=hZ1.le st6.size;have hrn:=((As.gs st7.g1)).len;refine WL.go rfl (OX.stW sz32 (As.gb st7.g3) rfl rfl rfl rfl rfl fun w4 ss0 _ hs0=>?_);have st8:=st7.p3.updB ss0 hs0;refine nx6 ?_;refine WP .r (V1 one30 st8.b0 .r)<|nx5 ?_;refine WC.loopS1 (σ:=Nat × (List Rec)) (kvs:=fun (i,acc)=>[(1,.slice ag g eg),(2,.bool dirty),(3,.pointer (some ⟨b3,0,none⟩)),(6,.pointer (some ⟨b6,0,none⟩)),(12,.int .i64 (f5:Int)),(13,.int .i64 (i:Int))]) (F:=fun (i,acc)=>[As.os RR.rcd 47 8 f4 f5 f6 acc]) (I:=fun (i,acc)=>(i≤f5)∧(acc=(x.recs.take i).map (markR x.revision group dirty)++x.recs.drop i)∧True) (μ:=fun (i,acc)=>f5 - i) (0,x.recs) (st8.p2) (Sub.k4 rfl rfl rfl rfl<|Sub.cons rfl<|Sub.v<|Sub.nil) (⟨by omega,by simp,trivial⟩)<|?_;rintro ⟨i,acc⟩ w5 st9 ⟨hin,hacc,_⟩;simp only [CA,NA] at st9 hin hacc ⊢
 have hal:acc.length=x.recs.length:=by rw [hacc];simp;omega
 refine nx6 ?_;refine WC.cd (fun g14=>?_) fun g14=>?_
 ·
  simp at g14
  have hi2:i<x.recs.length:=by omega
  have hmt:=markV_take (x:=x) (group:=group) (dirty:=dirty) hi2 (by omega);rw [← hacc] at hmt
  have hxa:acc[i]?=some x.recs[i]:=by rw [hacc,List.getElem?_append_right (by simp;omega)];simp [Nat.min_eq_left (by omega:i≤x.recs.length)]
  refine nx12 ?_;obtain ⟨b_x1,r_x1,ha_x1,hl_x1,hR_x1,hr_x1⟩:=Ow.at (As.gs st9.g0) (by omega) hxa;obtain ⟨q1,q2,q3,rfl,hkq1,hkq2⟩:=hR_x1
  have hset0:∀y,y=markR x.revision group dirty x.recs[i]→acc.set i y=(x.recs.take (i+1)).map (markR x.revision group dirty)++x.recs.drop (i+1):=fun y hy=>by rw [hy];exact hmt
  refine nx3 ?_;refine WP .r (V1 one30 st9.b1 .r)<|nx ?_;refine WP .r (PV.ixS sl30 ha_x1 rfl rfl (by omega))<|nx ?_;refine WP .r (PV.ldM agg40 hr_x1 rfl rfl)<|?_;refine WL.c0 (has_calls (k:=x.recs[i].key) (As.gr st9.g4)) st9 fun w6 s6 st10=>?_;refine nx3 ?_;refine WC.cd (fun g24=>?_) fun g24=>?_
  ·
   simp at g24
   have hsame:acc=(x.recs.take (i+1)).map (markR x.revision group dirty)++x.recs.drop (i+1):=by
    rw [← hmt]
    have:markR x.revision group dirty x.recs[i]=x.recs[i]:=by unfold markR;rw [if_neg g24]
    rw [this]
    apply List.ext_getElem?
    intro j;rw [List.getElem?_set]
    split
    ·
     rename_i e;subst e;rw [hxa];simp;omega
    rfl
   refine nx8 ?_;refine EX.again (i+1,acc) (Sub.k4 rfl rfl rfl rfl<|Sub.cons rfl<|Sub.v<|Sub.nil) ⟨st10,⟨by omega,hsame,trivial⟩⟩ (by first | (simp only [];omega) | omega)
  simp at g24
  refine nx7 ?_;refine WC.cd (fun g25=>?_) fun g25=>?_
  ·
   have g25:dirty=true:=g25;subst g25;have hset:=hset0 {x.recs[i] with dirty:=true} (by unfold markR;rw [if_pos g24];rfl);obtain ⟨b_x2,r_x2,ha_x2,hl_x2,hR_x2,hr_x2⟩:=Ow.at (As.gs st10.g0) (by omega) hxa;refine nx2 ?_;refine WP .r (V1 one30 st10.b1 .r)<|nx ?_;refine WP .r (PV.ixS sl30 ha_x2 rfl rfl (by omega))<|nx ?_;refine WL.go rfl (OX.stOf (i:=i) (f:=7) sz4 (As.gs st10.g0) ha_x2 hxa (by omega) rfl rfl rfl {x.recs[i] with dirty:=true} (fun r _ ⟨a,n,c,h1,h2,h3⟩=>⟨a,n,c,by rw [h1];rfl,h2,h3⟩) fun w7 s7 h7x=>?_);have st11:=st10.updS s7 h7x (fun x h=>.inl h);refine nx7 ?_;refine EX.again (i+1,_) (Sub.k4 rfl rfl rfl rfl<|Sub.cons rfl<|Sub.v<|Sub.nil) ⟨st11,⟨by omega,hset,trivial⟩⟩ (by first | (simp only [];omega) | omega)
  have g25:dirty=false:=g25;subst g25;have hset:=hset0 {x.recs[i] with verified:=x.revision} (by unfold markR;rw [if_pos g24];rfl);obtain ⟨b_x3,r_x3,ha_x3,hl_x3,hR_x3,hr_x3⟩:=Ow.at (As.gs st10.g0) (by omega) hxa;refine nx2 ?_;refine WP .r (V1 one30 st10.b1 .r)<|nx2 ?_;refine WP .r (V1 one3 st10.b1 .r)<|WP .r (PV.ixS sl30 ha_x3 rfl rfl (by omega))<|nx ?_;refine WL.go rfl (OX.stOf (i:=i) (f:=5) sz3 (As.gs st10.g0) ha_x3 hxa (by omega) rfl rfl rfl {x.recs[i] with verified:=x.revision} (fun r _ ⟨a,n,c,h1,h2,h3⟩=>⟨a,n,c,by rw [h1];rfl,h2,h3⟩) fun w7 s8 h8x=>?_);have st11:=st10.updS s8 h8x (fun x h=>.inl h);refine nx7 ?_;refine EX.again (i+1,_) (Sub.k4 rfl rfl rfl rfl<|Sub.cons rfl<|Sub.v<|Sub.nil) ⟨st11,⟨by omega,hset,trivial⟩⟩ (by first | (simp only [];omega) | omega)
 simp at g14
 have hall:acc=(markV x group dirty).recs:=by rw [hacc,List.take_of_length_le (by omega),List.drop_eq_nil_of_le (by omega)];simp [markV]
 subst hall;refine nx7 ?_;refine WP .r (VA agg32 st9.b1 .r)<|?_;refine WL.go rfl (OX.stW sz32 (As.gb st9.g3) rfl rfl rfl rfl rfl fun w6 ss1 _ hs1=>?_);have st10:=st9.p3.updB ss1 hs1;refine nx3 ?_;refine EX.retC agg32 rfl rfl st10.b0 rfl<|?_;exact ⟨_,_,_,_,_,_,_,rfl,hZ2,(St.wk st10.drop.p1.drop.p2.drop.p2.drop.p2.drop.p1)⟩
theorem there_calls {s:ES} {E:EA} {sb bb xb:Nat} {k:Key} {w:World} {Z:Nat→Prop} (hx:Blk w xb 83 (E.cells sb bb s)) (hb:KM Key.val w bb s.busy) (hbt:∀k,mget s.busy k=none∨mget s.busy k=some (.bool true)) (hr:Rd RR.rcd 8 Z w E.a2 E.n2 E.c2 s.b.recs):Calls Tryz.prog 94 #[.pointer (some ⟨xb,0,none⟩),k.val] w fun e w'=>e=.returned (.bool (thereV s k))∧Chg [] w w':=by
 have hbk:(mget s.busy k).getD (.bool false)=.bool (s.on k):=by unfold ES.on;rcases hbt k with h | h <;> rw [h] <;> rfl
 refine enter (args:=[.pointer (some ⟨xb,0,none⟩),k.val]) Tryz.func94 rfl Tryz.ntmps94 rfl<|?_;have st0:St w (fun _=>False) (fun _=>False) w []:=St.start (by simp);refine nx2 ?_;refine WL.go rfl (OX.box rfl rfl rfl fun b3 w1 nw3 hb3=>?_);have st1:=st0.newB nw3 hb3;refine nx5 ?_;refine WC.cut1S (t:=20) (v:=.bool (isInput k || (s.on k && isCyclic k))) st1 ?_<|?_
 ·
  have hN1:=st1.fplt;refine WC.drawnS (m:=8) (E:=lookE [(1,fun v _=>v=.bool (isInput k))]) st1 (lookE_st (⟨fun _ _ _ _ _ _ _ h=>h,trivial⟩)) mixed (by kernel_rfl)<|?_;refine DP .r (fun _ hC=>VA agg40 (Blk.range (As.gb hC.2.g0)) .r)<|?_;refine DW.c0 (fun wx hC hF=>input_calls (k:=k))<|nx ?_;refine DW.gsplit (t:=9) rfl (fun g9=>?_) (fun g9=>?_)
  ·
   refine nx5 ?_;refine DW.nil<|?_;rintro w2 ⟨hsz1,st2⟩ ⟨_,_⟩;refine nx7 ?_;exact EX.meet1 15 rfl rfl rfl (by simp only [g9];first | rfl | simp) (st2)
  refine nx3 ?_;refine DP .r (fun _ hC=>V1 one81 (Blk.range (hx.ext (St.cg hC.2))) .r)<|DP .r (fun _ hC=>VA agg40 (Blk.range (As.gb hC.2.g0)) .r)<|DW.nil<|?_;rintro w2 ⟨hsz1,st2⟩ ⟨_,_⟩;refine WP .r (PV.lookD kk40 und81 zvv4 (hb.ext (St.cg st2)) (hbk) rfl rfl)<|nx ?_;refine WL.gsplit (t:=16) rfl (fun g16=>?_) (fun g16=>?_)
  ·
   refine WP .r (VA agg40 st2.b0 .r)<|?_;refine WL.c0 (cyclic_calls (k:=k)) st2 fun w3 s3 st3=>?_;refine nx3 ?_;exact EX.meet1 16 rfl rfl rfl (by simp only [g9,g16];first | rfl | simp) (st3)
  refine nx5 ?_;exact EX.meet1 16 rfl rfl rfl (by simp only [g9,g16];first | rfl | simp) (st2)
 intro w2 st2;refine nx ?_;refine WC.cd (fun g20=>?_) fun g20=>?_
 ·
  have hv:thereV s k=true:=by unfold thereV;simp only [Bool.or_eq_true,Bool.and_eq_true] at g20 ⊢;rcases g20 with h | h <;> simp [h]
  refine nx7 ?_;refine EX.ret1 rfl rfl<|?_;exact ⟨by rw [hv],(St.cg st2)⟩
 have hv:thereV s k=upNow s.b k:=by unfold thereV;simp only [Bool.or_eq_false_iff] at g20;rw [g20.1,g20.2];rfl
 refine nx3 ?_;have hN3:=st2.fplt;have hzN3:=st2.zlt;have h0N3:=st2.size;refine WC.drawnX (m:=11) [9] (E:=lookE [(6,fun v _=>∃f1 f2 f3,v=.tuple #[.agg ((recOf s.b.recs k).row f1 f2 f3).toArray,.bool (findR s.b.recs k).isSome]),(10,PB w2.heap.size 47 [.int .i64 0,.string ⟨#[]⟩,.string ⟨#[]⟩,.slice none 0 0,.int .i64 0,.int .i64 0,.int .i64 0,.bool false])]) st2 (lookE_st (⟨fun _ _ _ _ _ _ _ h=>h,⟨fun _ _ _ _ _ _ c h=>PB.st hN3 c h,trivial⟩⟩)) mixed (by kernel_rfl) rfl ?_;refine nx4 ?_;refine DP .r (fun _ hC=>PV.ld1 (j:=3) one30 (Blk.range (hx.ext (St.cg hC.2))) rfl rfl)<|DP .r (fun _ hC=>VA agg40 (Blk.range (As.gb hC.2.g0)) .r)<|?_;refine DW.e rfl rfl rfl rfl rfl (fun wx hC hF=>OX.call cf55 rfl rfl ((findR_calls0 (k:=k) (hr.ext (St.cg hC.2))).mono ?_))<|?_
 ·
  rintro _ wy ⟨f1,f2,f3,rfl,hy⟩;exact ⟨_,rfl,⟨Nat.le_trans hC.1 hy.size,hC.2.step hy⟩,hy.p0,_,rfl,⟨f1,f2,f3,rfl⟩⟩
 rintro _ wz _ ⟨f1,f2,f3,rfl⟩;refine nx3 ?_;refine DW.e rfl rfl rfl rfl rfl (fun wx hC hF=>OX.alloc zv47 rfl fun b wy nw hb=>⟨⟨Nat.le_trans hC.1 nw.ext.size,hC.2.step nw.ext⟩,nw.ext.p0,_,rfl,_,rfl,Nat.le_trans hC.1 nw.ge,hb⟩)<|?_;rintro _ wz _ ⟨b5,rfl,_,_⟩;refine DW.nil<|?_;rintro w3 ⟨hsz3,st3⟩ ⟨hF10,⟨_,_⟩⟩;have st4:=st3.addB hF10 hN3 hzN3 h0N3;refine WL.go rfl (OX.stW sz47 (As.gb st4.g0) rfl rfl rfl rfl rfl fun w4 ss0 _ hs0=>?_);have st5:=st4.updB ss0 hs0;refine nx ?_;refine WL.nil (EX.np ?_);refine nx2 ?_;refine WC.cut1Se (t:=4) (v:=.bool (upNow s.b k)) st5 ?_<|?_
 ·
  have hN4:=st5.fplt;refine WC.drawnS (m:=9) (E:=lookE []) st5 (lookE_st (trivial)) mixed (by kernel_rfl)<|nx2 ?_;refine DW.gsplit (t:=32) rfl (fun g32=>?_) (fun g32=>?_)
  ·
   refine nx ?_;refine DP .r (fun _ hC=>V1 one3 (Blk.range (As.gb hC.2.g0)) .r)<|nx4 ?_;refine DP .r (fun _ hC=>PV.ld1 (j:=1) one3 (Blk.range (hx.ext (St.cg hC.2))) rfl rfl)<|DW.nil<|?_;rintro w5 ⟨hsz4,st6⟩ _;refine nx4 ?_;exact EX.meet1e 13 rfl rfl rfl (by unfold upNow;simp only [g32];first | rfl | simp) (st6)
  refine nx7 ?_;refine DW.nil<|?_;rintro w5 ⟨hsz4,st6⟩ _;refine nx4 ?_;exact EX.meet1e 13 rfl rfl rfl (by unfold upNow;simp only [g32];first | rfl | simp) (st6)
 intro w5 st6;refine nx2 ?_;refine EX.ret1 rfl rfl<|?_;exact ⟨by rw [hv],(St.cg st6)⟩
end Go.Rc

