/- Walks over the program, part WUa. Conditions: as each theorem says. -/
import Derived.Test.YthljjmhdkbeghaaGreatDoorIFacts
import Derived.Test.YthljjmhdkbeghaaGreatDoorIWU
import Derived.Test.YthljjmhdkbeghaaGreatDoorIBg
import Derived.Test.YthljjmhdkbeghaaGreatDoorIWB
import Derived.Test.YthljjmhdkbeghaaGreatDoorShelf
import Derived.Test.YthljjmhdkbeghaaGreatDoorIWN
import Derived.Test.YthljjmhdkbeghaaGreatDoorIBf
import Derived.Test.YthljjmhdkbeghaaGreatDoorIBd
import Derived.Test.YthljjmhdkbeghaaGreatDoorIWT
set_option linter.unusedVariables false
set_option linter.unusedSimpArgs false
set_option linter.unusedSectionVars false
namespace Go.Rc
open Go Go.Proofs
set_option maxHeartbeats 400000
theorem pnan_calls {n:Int} {w:World}:Calls Tryz.prog 140 #[.int .i64 n] w fun e w'=>e=.returned (.bool false)∧Chg [] w w':=by
 refine enter Tryz.func140 rfl Tryz.ntmps140 rfl<|?_;have st0:St w (fun _=>False) (fun _=>False) w []:=St.start (by simp);refine nx12 ?_;refine nx2 ?_;refine EX.ret1 rfl rfl<|?_;exact ⟨by simp,(St.cg st0)⟩
theorem pcompI_calls {a b:Int} {w:World}:Calls Tryz.prog 99 #[.int .i64 a,.int .i64 b] w fun e w'=>e=.returned (.int .i64 (cmpI a b))∧Chg [] w w':=by
 refine enter Tryz.func99 rfl Tryz.ntmps99 rfl<|?_;have st0:St w (fun _=>False) (fun _=>False) w []:=St.start (by simp);refine nx8 ?_;refine WL.c0 (pnan_calls) st0 fun w1 s1 st1=>?_;refine nx6 ?_;refine WL.c0 (pnan_calls) st1 fun w2 s2 st2=>?_;refine nx9 ?_;refine WC.condF rfl<|nx8 ?_;refine WC.condF rfl<|nx10 ?_;refine WC.cd (fun g16=>?_) fun g16=>?_
 ·
  simp at g16
  refine nx7 ?_;refine EX.ret1 rfl rfl<|?_;exact ⟨by unfold cmpI;rw [if_pos g16],(St.cg st2)⟩
 simp at g16
 refine nx10 ?_;refine WC.cd (fun g19=>?_) fun g19=>?_
 ·
  simp at g19
  refine nx7 ?_;refine EX.ret1 rfl rfl<|?_;exact ⟨by unfold cmpI;rw [if_neg (by omega),if_pos g19],(St.cg st2)⟩
 simp at g19
 refine nx8 ?_;refine EX.ret1 rfl rfl<|?_;exact ⟨by unfold cmpI;rw [if_neg (by omega),if_neg (by omega)],(St.cg st2)⟩
theorem pcmpOr_calls {l:List Int} {A:Nat→Prop} {a:Option Addr} {n c:Nat} {w:World} (hl:Ints A w a n c l):Calls Tryz.prog 98 #[.slice a n c] w fun e w'=>e=.returned (.int .i64 (orI l))∧Chg [] w w':=by
 have hle:=SR.le hl;have hlen:=SR.len hl;refine enter Tryz.func98 rfl Tryz.ntmps98 rfl<|?_;have st0:St w (fun _=>False) (fun _=>False) w []:=St.start (by simp);refine nx12 ?_;refine nx7 ?_;refine WC.loopS1 (σ:=Nat) (kvs:=fun i=>[(3,.int .i64 0),(6,.slice a n c),(7,.int .i64 (n:Int)),(8,.int .i64 (i:Int))]) (F:=fun i=>[]) (I:=fun i=>(i≤n)∧(∀j x,j<i→l[j]?=some x→x=0)∧True) (μ:=fun i=>n - i) (0) (st0) (Sub.k2 rfl rfl<|Sub.cons rfl<|Sub.v<|Sub.nil) (⟨by omega,fun j x h=>by omega,trivial⟩)<|?_;rintro i w1 st1 ⟨hi,hno,_⟩;simp only [CA,NA] at st1 hi hno ⊢;refine nx6 ?_;refine WC.cd (fun g9=>?_) fun g9=>?_
 ·
  simp at g9
  have hi2:i<l.length:=by omega
  obtain ⟨b_x,o_x,r_x,ha_x,_,rfl,hr_x,_⟩:=(SR.ext hl (St.cg st1)).at (getElem_some hi2);refine nx6 ?_;refine WP .r (PV.ixS sl22 ha_x rfl rfl (by omega))<|WP .r (PV.ld0 one3 hr_x rfl rfl)<|nx10 ?_;refine WC.cd (fun g14=>?_) fun g14=>?_
  ·
   simp at g14
   refine nx12 ?_;refine EX.ret1 rfl rfl<|?_;exact ⟨by rw [orI_at hi2 hno g14],(St.cg st1)⟩
  simp at g14
  refine nx7 ?_;refine EX.again (i+1) (Sub.k2 rfl rfl<|Sub.cons rfl<|Sub.v<|Sub.nil) ⟨st1,⟨by omega,below_succ hi2 hno (by simpa using g14),trivial⟩⟩ (by first | (simp only [];omega) | omega)
 simp at g9
 refine nx12 ?_;refine EX.ret1 rfl rfl<|?_;exact ⟨by rw [orI_all (fun x hx=>by obtain ⟨j,hj,rfl⟩:=List.mem_iff_getElem.1 hx;exact hno j _ (by omega) (getElem_some hj))],(St.cg st1)⟩
theorem pcmp_calls {a b:Key} {w:World}:Calls Tryz.prog 61 #[a.val,b.val] w fun e w'=>e=.returned (.int .i64 (cmpK a b))∧Chg [] w w':=by
 refine enter Tryz.func61 rfl Tryz.ntmps61 rfl<|?_;have st0:St w (fun _=>False) (fun _=>False) w []:=St.start (by simp);refine nx2 ?_;refine WL.go rfl (OX.box rfl rfl rfl fun b2 w1 nw2 hb2=>?_);have st1:=st0.newB nw2 hb2;refine WL.go rfl (OX.box rfl rfl rfl fun b3 w2 nw3 hb3=>?_);have st2:=st1.newB nw3 hb3;refine nx4 ?_;have hN1:=st2.fplt;refine WC.drawnS (m:=9) (E:=lookE [(4,fun v _=>v=.int .i64 (cmpI a.kind b.kind))]) st2 (lookE_st (⟨fun _ _ _ _ _ _ _ h=>h,trivial⟩)) mixed (by kernel_rfl)<|nx ?_;refine DP .r (fun _ hC=>V1 one3 (Blk.range (As.gb hC.2.g1)) .r)<|nx ?_;refine DP .r (fun _ hC=>V1 one3 (Blk.range (As.gb hC.2.g0)) .r)<|?_;refine DW.c0 (fun wx hC hF=>pcompI_calls)<|nx ?_;refine DP .r (fun _ hC=>V1 one9 (Blk.range (As.gb hC.2.g1)) .r)<|nx ?_;refine DP .r (fun _ hC=>V1 one9 (Blk.range (As.gb hC.2.g0)) .r)<|DW.nil<|?_;rintro w3 ⟨hsz1,st3⟩ ⟨_,_⟩;refine WL.c0 (compare_calls a.text b.text w3) st3 fun w4 s4 st4=>?_;refine WL.go rfl (OX.bslice' (us:=[.int .i64 (cmpI a.kind b.kind),.int .i64 (Lib.compareBytes a.text.data.toList b.text.data.toList)]) bs22_2 rfl rfl rfl rfl fun b15 w5 nw15 hb15=>?_);have st5:=st4.newB nw15 hb15;refine WL.c1 (u:=.int .i64 (cmpK a b)) (pcmpOr_calls (l:=[cmpI a.kind b.kind,Lib.compareBytes a.text.data.toList b.text.data.toList]) (SR.blkR (rows:=[[.int .i64 (cmpI a.kind b.kind)],[.int .i64 (Lib.compareBytes a.text.data.toList b.text.data.toList)]]) (As.gb st5.g0) rfl (by simp) (by simp [Value.oneCell']) (by simp) (two_rows rfl rfl))) (by rw [orI_cmp]) st5 fun w6 s6 st6=>?_;refine nx4 ?_;refine EX.ret1 rfl rfl<|?_;exact ⟨rfl,(St.cg st6)⟩
theorem pvalidOdd_calls {rules:List Rule} {k:Key} {w:World} (hk:Knd rules k):Calls Tryz.prog 159 #[k.val] w fun e w'=>e=.returned (.bool false)∧Chg [] w w':=by
 obtain ⟨i,h99,hkt,hk3⟩:=hk.shape;refine enter Tryz.func159 rfl Tryz.ntmps159 rfl<|?_;have st0:St w (fun _=>False) (fun _=>False) w []:=St.start (by simp);refine nx2 ?_;refine WL.go rfl (OX.box rfl rfl rfl fun b1 w1 nw1 hb1=>?_);have st1:=st0.newB nw1 hb1;refine nx5 ?_;refine WP .r (VA agg35 st1.b0 .r)<|?_;refine WL.c0 (pvalidK_calls (k:=k) hk3 hkt h99) st1 fun w2 s2 st2=>?_;refine nx5 ?_;refine EX.ret1 rfl rfl<|?_;exact ⟨rfl,(St.cg st2)⟩
theorem pindexKF_calls {l:List Key} {p:Key→Bool} {f:FuncId} {a:Option Addr} {n c:Nat} {w:World} {Z:Nat→Prop} (hcf:CF Tryz.prog f) (hl:Rd RR.key 2 Z w a n c l) (hp:∀w1,Chg [] w w1→∀x∈l,Calls Tryz.prog f #[x.val] w1 fun e w'=>e=.returned (.bool (p x))∧Chg [] w1 w'):Calls Tryz.prog 182 #[.slice a n c,.func (.func f) #[] #[]] w fun e w'=>∃j:Int,e=.returned (.int .i64 j)∧IdxOf l p j∧Chg [] w w':=by
 have hlen:=hl.len;have hle:=hl.le;refine enter Tryz.func182 rfl Tryz.ntmps182 rfl<|?_;have st0:St w (fun _=>False) (fun _=>False) w []:=St.start (by simp);refine nx12 ?_;refine nx2 ?_;refine WC.loopS1 (σ:=Nat) (kvs:=fun i=>[(0,.slice a n c),(1,.func (.func f) #[] #[]),(7,.int .i64 (n:Int)),(8,.int .i64 (i:Int))]) (F:=fun i=>[]) (I:=fun i=>(i≤n)∧(∀j x,j<i→l[j]?=some x→p x=false)∧True) (μ:=fun i=>n - i) (0) (st0) (Sub.k2 rfl rfl<|Sub.cons rfl<|Sub.v<|Sub.nil) (⟨by omega,fun j x h=>by omega,trivial⟩)<|?_;rintro i w1 st1 ⟨hi,hno,_⟩;simp only [CA,NA] at st1 hi hno ⊢;refine nx6 ?_;refine WC.cd (fun g9=>?_) fun g9=>?_
 ·
  simp at g9
  have hi2:i<l.length:=by omega
  refine nx11 ?_;obtain ⟨b_x1,o_x1,r_x1,ha_x1,hl_x1,hR_x1,hr_x1,hz_x1⟩:=Rd.at hl hi2;have hR_x1:=RR.flat_eq hR_x1;subst hR_x1;refine nx4 ?_;refine WP .r (PV.ixS sl41 ha_x1 rfl rfl (by omega))<|WP .r (VA agg35 (range_chg hr_x1 (St.cg st1) (by simp)) .r)<|?_;refine WL.go rfl (OX.callV hcf rfl rfl rfl ((Calls.cap0 (hp _ (St.cg st1) l[i] (List.getElem_mem hi2))).mono ?_));rintro _ w2 ⟨rfl,s2⟩;refine ⟨_,rfl,?_⟩;have st2:=st1.step s2;refine nx2 ?_;refine WC.cd (fun g16=>?_) fun g16=>?_
  ·
   refine nx12 ?_;refine EX.ret1 rfl rfl<|?_;exact ⟨_,rfl,.inl ⟨i,_,getElem_some hi2,g16,hno,rfl⟩,(St.cg st2)⟩
  have g16:p l[i]=false:=by simpa using g16
  refine nx7 ?_;refine EX.again (i+1) (Sub.k2 rfl rfl<|Sub.cons rfl<|Sub.v<|Sub.nil) ⟨st2,⟨by omega,below_succ hi2 hno (by simpa using g16),trivial⟩⟩ (by first | (simp only [];omega) | omega)
 simp at g9
 have hall:∀x∈l,p x=false:=fun x hx=>by obtain ⟨j,hj,rfl⟩:=List.getElem_of_mem hx;exact hno j _ (by omega) (getElem_some hj)
 refine nx11 ?_;refine EX.ret1 rfl rfl<|?_;exact ⟨_,rfl,.inr ⟨hall,rfl⟩,(St.cg st1)⟩
theorem pcontainsKF_calls {l:List Key} {p:Key→Bool} {f:FuncId} {a:Option Addr} {n c:Nat} {w:World} {Z:Nat→Prop} (hcf:CF Tryz.prog f) (hl:Rd RR.key 2 Z w a n c l) (hp:∀w1,Chg [] w w1→∀x∈l,Calls Tryz.prog f #[x.val] w1 fun e w'=>e=.returned (.bool (p x))∧Chg [] w1 w'):Calls Tryz.prog 160 #[.slice a n c,.func (.func f) #[] #[]] w fun e w'=>e=.returned (.bool (l.any p))∧Chg [] w w':=by
 refine enter Tryz.func160 rfl Tryz.ntmps160 rfl<|?_;have st0:St w (fun _=>False) (fun _=>False) w []:=St.start (by simp);refine nx9 ?_;refine WL.go rfl (OX.call cf182 rfl rfl ((pindexKF_calls (w:=w) hcf (hl.ext (St.cg st0)) (fun w1 h1=>hp w1 (Chg.trans (St.cg st0) h1))).mono ?_));rintro _ w1 ⟨j,rfl,hj,s1⟩;refine ⟨_,rfl,?_⟩;have st1:=st0.step s1;have hj1:=hj.any;refine nx5 ?_;refine EX.ret1 rfl rfl<|?_;exact ⟨by rw [hj1],(St.cg st1)⟩
set_option maxHeartbeats 1600000 in
theorem pvalidRG_calls {rules:List Rule} {x:Rec} {a:Option Addr} {n c:Nat} {w:World} {Z:Nat→Prop} (hk:Rd RR.key 2 Z w a n c x.reads) (hx:GoodR rules x):Calls Tryz.prog 121 #[.agg (x.row a n c).toArray] w fun e w'=>e=.returned (.bool true)∧Chg [] w w':=by
 have hlen:=hk.len;obtain ⟨h1,h2,h3,hv⟩:=hx;obtain ⟨i,h99,hkt,hk3⟩:=h1.shape;have hnl:=h1.notLang;rw [validRec_iff] at hv;obtain ⟨_,_,_,v4,v5,v6,v7,v8,v9,v10,v11⟩:=hv;refine enter Tryz.func121 rfl Tryz.ntmps121 rfl<|?_;have st0:St w (fun _=>False) (fun _=>False) w []:=St.start (by simp);refine nx2 ?_;refine WL.go rfl (OX.box rfl rfl rfl fun b1 w1 nw1 hb1=>?_);have st1:=st0.newB nw1 hb1;refine nx5 ?_;refine WC.cut1S (t:=34) (v:=.bool false) st1 ?_<|?_
 ·
  refine nx2 ?_;refine WP .r (PV.ldM agg35 st1.b0 rfl rfl)<|?_;refine WL.c0 (pvalidK_calls (k:=x.key) hk3 hkt h99) st1 fun w2 s2 st2=>?_;refine nx3 ?_;refine WP .r (PV.ldM agg35 st2.b0 rfl rfl)<|?_;refine WL.c1 (u:=.bool false) (pinput_calls (k:=x.key)) (by rw [h2]) st2 fun w3 s3 st3=>?_;refine nx3 ?_;refine WP .r (V1 one9 st3.b0 .r)<|nx4 ?_;refine WL.gsplit (t:=19) rfl (fun g19=>?_) (fun g19=>?_)
  ·
   refine nx12 ?_;refine nx4 ?_;exact EX.meet1 32 rfl rfl rfl (by first | (simp only [g19];done) | (simp [g19];done) | (have h4:x.key.kind=32:=cyc_kind h1 (by simpa [g19] using v11);simp [g19,h4];done) | (simp at g19 ⊢ <;> omega) | (simp [g19] <;> omega)) (st3)
  refine nx ?_;refine WP .r (V1 one41 st3.b0 .r)<|nx4 ?_;refine WL.gsplit (t:=25) rfl (fun g25=>?_) (fun g25=>?_)
  ·
   refine nx10 ?_;exact EX.meet1 33 rfl rfl rfl (by first | (simp only [g19,g25];done) | (simp [g19,g25];done) | (have h4:x.key.kind=32:=cyc_kind h1 (by simpa [g19,g25] using v11);simp [g19,g25,h4];done) | (simp at g19 g25 ⊢ <;> omega) | (simp [g19,g25] <;> omega)) (st3)
  refine nx ?_;refine WP .r (V1 one4 st3.b0 .r)<|nx ?_;refine WL.gsplit (t:=28) rfl (fun g28=>?_) (fun g28=>?_)
  ·
   refine nx ?_;refine WP .r (PV.ldM agg35 st3.b0 rfl rfl)<|?_;refine WL.c0 (pcyclic_calls (k:=x.key) hnl) st3 fun w4 s4 st4=>?_;refine nx4 ?_;exact EX.meet1 34 rfl rfl rfl (by first | (simp only [g19,g25,g28];done) | (simp [g19,g25,g28];done) | (have h4:x.key.kind=32:=cyc_kind h1 (by simpa [g19,g25,g28] using v11);simp [g19,g25,g28,h4];done) | (simp at g19 g25 g28 ⊢ <;> omega) | (simp [g19,g25,g28] <;> omega)) (st4)
  refine nx7 ?_;exact EX.meet1 34 rfl rfl rfl (by first | (simp only [g19,g25,g28];done) | (simp [g19,g25,g28];done) | (have h4:x.key.kind=32:=cyc_kind h1 (by simpa [g19,g25,g28] using v11);simp [g19,g25,g28,h4];done) | (simp at g19 g25 g28 ⊢ <;> omega) | (simp [g19,g25,g28] <;> omega)) (st3)
 intro w2 st2;refine nx ?_;refine WC.cd (fun g34=>?_) fun g34=>?_
 ·
  exact nope g34
 refine nx8 ?_;refine WC.cut1Se (t:=2) (v:=.bool true) st2 ?_<|?_
 ·
  refine nx2 ?_;refine WP .r (V1 one3 st2.b0 .r)<|nx2 ?_;refine WL.gsplit (t:=38) rfl (fun g38=>?_) (fun g38=>?_)
  ·
   refine nx ?_;refine WP .r (V1 one3 st2.b0 .r)<|nx ?_;refine WP .r (V1 one3 st2.b0 .r)<|nx3 ?_;refine WL.gsplit (t:=45) rfl (fun g45=>?_) (fun g45=>?_)
   ·
    refine nx ?_;refine WP .r (V1 one3 st2.b0 .r)<|nx3 ?_;refine WL.gsplit (t:=50) rfl (fun g50=>?_) (fun g50=>?_)
    ·
     refine nx ?_;refine WP .r (V1 one3 st2.b0 .r)<|nx3 ?_;refine WL.gsplit (t:=55) rfl (fun g55=>?_) (fun g55=>?_)
     ·
      refine nx ?_;refine WP .r (V1 one3 st2.b0 .r)<|nx3 ?_;refine WL.gsplit (t:=60) rfl (fun g60=>?_) (fun g60=>?_)
      ·
       refine nx ?_;refine WP .r (V1 one41 st2.b0 .r)<|nx ?_;refine WL.c1 (u:=.bool false) (pcontainsKF_calls (p:=fun _=>false) cf159 (hk.ext (St.cg st2)) (fun w1 _ y hy=>pvalidOdd_calls (h3 y hy))) (by rw [List.any_eq_false.2 (fun _ _=>by simp)]) st2 fun w3 s3 st3=>?_;refine nx4 ?_;exact EX.meet1e 38 rfl rfl rfl (tG (aj g38<|aj g45<|aj g50<|aj g55 g60)) (st3)
      refine nx8 ?_;exact EX.meet1e 38 rfl rfl rfl (tG (aj g38<|aj g45<|aj g50<|aj g55 g60)) (st2)
     refine nx12 ?_;refine nx ?_;exact EX.meet1e 37 rfl rfl rfl (tG (aj g38<|aj g45<|aj g50 g55)) (st2)
    refine nx12 ?_;refine nx6 ?_;exact EX.meet1e 36 rfl rfl rfl (tG (aj g38<|aj g45 g50)) (st2)
   refine nx12 ?_;refine nx11 ?_;exact EX.meet1e 35 rfl rfl rfl (tG (aj g38 g45)) (st2)
  refine nx12 ?_;refine nx12 ?_;refine nx6 ?_;exact EX.meet1e 34 rfl rfl rfl (tG g38) (st2)
 intro w3 st3;refine nx2 ?_;refine EX.ret1 rfl rfl<|?_;exact ⟨rfl,(St.cg st3)⟩
theorem pvalidListG_calls {rules:List Rule} {l:List Rec} {a:Option Addr} {n c:Nat} {w:World} {Z:Nat→Prop} (hl:Rd RR.rcd 8 Z w a n c l) (hG:∀x∈l,GoodR rules x) (hS:Srt l) (h4:l.length≤4000):Calls Tryz.prog 82 #[.slice a n c] w fun e w'=>e=.returned (.bool true)∧Chg [] w w':=by
 have hlen:=hl.len;have hle:=hl.le;refine enter Tryz.func82 rfl Tryz.ntmps82 rfl<|?_;have st0:St w (fun _=>False) (fun _=>False) w []:=St.start (by simp);refine nx12 ?_;refine nx2 ?_;refine WC.loopS1 (σ:=Nat) (kvs:=fun j=>[(0,.slice a n c),(5,.slice a n c),(6,.int .i64 (n:Int)),(7,.int .i64 (j:Int))]) (F:=fun j=>[]) (I:=fun j=>(j≤n)∧True) (μ:=fun j=>n - j) (0) (st0) (Sub.k2 rfl rfl<|Sub.cons rfl<|Sub.v<|Sub.nil) (⟨by omega,trivial⟩)<|?_;rintro j w1 st1 ⟨hj,_⟩;simp only [CA,NA] at st1 hj ⊢;refine nx6 ?_;refine WC.cd (fun g8=>?_) fun g8=>?_
 ·
  simp at g8
  have hj2:j<l.length:=by omega
  refine nx5 ?_;obtain ⟨b_x1,o_x1,r_x1,ha_x1,hl_x1,hR_x1,hr_x1,hz_x1⟩:=Rd.at hl hj2;obtain ⟨q1,q2,q3,rfl,hkq,hk4⟩:=hR_x1;refine nx2 ?_;refine WP .r (PV.ixS sl29 ha_x1 rfl rfl (by omega))<|WP .r (VA agg116 (range_chg hr_x1 (St.cg st1) (by simp)) .r)<|?_;refine WL.al st1 fun b4 w2 nw4 hb4 st2=>?_;refine nx ?_;refine WL.go rfl (OX.stW sz116 (As.gb st2.g0) rfl rfl rfl rfl rfl fun w3 ss0 _ hs0=>?_);have st3:=st2.updB ss0 hs0;refine nx3 ?_;refine WC.cut1S (t:=30) (v:=.bool false) st3 ?_<|?_
  ·
   have hN4:=st3.fplt;refine WC.drawnS (m:=15) (E:=lookE [(1,fun v _=>v=.bool true)]) st3 (lookE_st (⟨fun _ _ _ _ _ _ _ h=>h,trivial⟩)) mixed (by kernel_rfl)<|?_;refine DP .r (fun _ hC=>VA agg116 (Blk.range (As.gb hC.2.g0)) .r)<|?_;refine DW.c0 (fun wx hC hF=>pvalidRG_calls (hkq.ext (St.cg hC.2)) (hG _ (List.getElem_mem hj2)))<|nx5 ?_;refine DW.gsplit (t:=18) rfl (fun g18=>?_) (fun g18=>?_)
   ·
    have hj0:1≤j:=by have h0:=g18;simp at h0;omega
    have hj3:j - 1<l.length:=by omega
    have hlt:cmpK l[j - 1].key l[j].key<0:=List.pairwise_iff_getElem.1 hS (j - 1) j hj3 hj2 (by simp at g18;omega);obtain ⟨b_x2,o_x2,r_x2,ha_x2,hl_x2,hR_x2,hr_x2,hz_x2⟩:=Rd.at hl hj3;obtain ⟨p1,p2,p3,rfl,_,_⟩:=hR_x2;refine nx3 ?_;refine DP .r (fun _ hC=>PV.ixZ sl29 (j - 1) ha_x2 rfl rfl (by omega) (by omega))<|nx ?_;refine DP .r (fun _ hC=>PV.ldM agg35 (range_chg hr_x2 (St.cg hC.2) (by simp)) rfl rfl)<|nx ?_;refine DP .r (fun _ hC=>PV.ldM agg35 (Blk.range (As.gb hC.2.g0)) rfl rfl)<|DW.nil<|?_;rintro w4 ⟨hsz4,st4⟩ ⟨_,_⟩;refine WL.c0 (pcmp_calls (a:=l[j - 1].key) (b:=l[j].key)) st4 fun w5 s5 st5=>?_;refine nx4 ?_;exact EX.meet1 20 rfl rfl rfl (tG g18) (st5)
   refine nx8 ?_;refine DW.nil<|?_;rintro w4 ⟨hsz4,st4⟩ ⟨_,_⟩;refine nx5 ?_;exact EX.meet1 20 rfl rfl rfl (tG g18) (st4)
  intro w4 st4;refine nx ?_;refine WC.cd (fun g30=>?_) fun g30=>?_
  ·
   exact nope g30
  refine nx7 ?_;refine EX.again (j+1) (Sub.k2 rfl rfl<|Sub.cons rfl<|Sub.v<|Sub.nil) ⟨st4.drop,⟨by omega,trivial⟩⟩ (by first | (simp only [];omega) | omega)
 simp at g8
 refine nx12 ?_;refine nx2 ?_;refine EX.ret1 rfl rfl<|?_;exact ⟨by simp;omega,(St.cg st1)⟩
theorem pinputOk_calls {i:Nat} {k:Key} {w:World} (h99:i≤99) (hk:k=⟨30,itoa i⟩):Calls Tryz.prog 83 #[k.val] w fun e w'=>e=.returned (.bool true)∧Chg [] w w':=by
 subst hk;refine enter Tryz.func83 rfl Tryz.ntmps83 rfl<|?_;have st0:St w (fun _=>False) (fun _=>False) w []:=St.start (by simp);refine nx2 ?_;refine WL.go rfl (OX.box rfl rfl rfl fun b1 w1 nw1 hb1=>?_);have st1:=st0.newB nw1 hb1;refine nx5 ?_;refine WP .r (VA agg35 st1.b0 .r)<|?_;refine WL.c0 (pvalidK_calls (k:=⟨30,itoa i⟩) ⟨(by decide:(30:Int)≤30),(by decide:(30:Int)≤32)⟩ rfl h99) st1 fun w2 s2 st2=>?_;refine nx ?_;refine WP .r (VA agg35 st2.b0 .r)<|?_;refine WL.c1 (u:=.bool true) (pinput_calls (k:=⟨30,itoa i⟩)) (by rw [show isInput ⟨30,itoa i⟩=true from rfl]) st2 fun w3 s3 st3=>?_;refine nx5 ?_;refine EX.ret1 rfl rfl<|?_;exact ⟨rfl,(St.cg st3)⟩
set_option maxHeartbeats 1600000 in
set_option maxRecDepth 100000 in
theorem prevValidG_calls {rules:List Rule} {x:Bas} {a1 a2:Option Addr} {n1 e1 n2 e2:Nat} {w:World} {Z:Nat→Prop} (hi:Rd RR.inp 4 Z w a1 n1 e1 x.inputs) (hr:Rd RR.rcd 8 Z w a2 n2 e2 x.recs) (hx:GoodB rules x):Calls Tryz.prog 52 #[.agg (x.row a1 n1 e1 a2 n2 e2).toArray] w fun e w'=>e=.returned (.bool true)∧Chg [] w w':=by
 obtain ⟨x0,x1,xi,xk,x6,xr,xs,x4,xv⟩:=hx;have hin:=hi.len;have hil:=hi.le;have hrn:=hr.len;refine enter Tryz.func52 rfl Tryz.ntmps52 rfl<|?_;have st0:St w (fun _=>False) (fun _=>False) w []:=St.start (by simp);refine nx2 ?_;refine WL.go rfl (OX.box rfl rfl rfl fun b1 w1 nw1 hb1=>?_);have st1:=st0.newB nw1 hb1;refine nx5 ?_;refine WC.cut1S (t:=24) (v:=.bool false) st1 ?_<|?_
 ·
  refine nx2 ?_;refine WP .r (V1 one3 st1.b0 .r)<|nx2 ?_;refine WL.gsplit (t:=8) rfl (fun g8=>?_) (fun g8=>?_)
  ·
   refine nx12 ?_;refine nx5 ?_;exact EX.meet1 21 rfl rfl rfl (tG g8) (st1)
  refine nx ?_;refine WP .r (V1 one3 st1.b0 .r)<|nx3 ?_;refine WL.gsplit (t:=13) rfl (fun g13=>?_) (fun g13=>?_)
  ·
   refine nx12 ?_;exact EX.meet1 22 rfl rfl rfl (tG (aj g8 g13)) (st1)
  refine nx ?_;refine WP .r (V1 one28 st1.b0 .r)<|nx4 ?_;refine WL.gsplit (t:=19) rfl (fun g19=>?_) (fun g19=>?_)
  ·
   refine nx6 ?_;exact EX.meet1 23 rfl rfl rfl (tG (aj g8<|aj g13 g19)) (st1)
  refine nx ?_;refine WP .r (V1 one29 st1.b0 .r)<|?_;refine WL.c0 (pvalidListG_calls (hr.ext (St.cg st1)) xr xs x4) st1 fun w2 s2 st2=>?_;refine nx3 ?_;exact EX.meet1 23 rfl rfl rfl (tG (aj g8<|aj g13 g19)) (st2)
 intro w2 st2;refine nx ?_;refine WC.cd (fun g24=>?_) fun g24=>?_
 ·
  exact nope g24
 refine nx6 ?_;refine WP .r (V1 one28 st2.b0 .r)<|nx5 ?_;refine WC.loopS1 (σ:=Nat) (kvs:=fun j=>[(1,.pointer (some ⟨b1,0,none⟩)),(26,.slice a1 n1 e1),(27,.int .i64 (n1:Int)),(28,.int .i64 (j:Int))]) (F:=fun j=>[]) (I:=fun j=>(j≤n1)∧True) (μ:=fun j=>n1 - j) (0) (st2) (Sub.cons rfl<|Sub.v<|Sub.v<|Sub.v<|Sub.nil) (⟨by omega,trivial⟩)<|?_;rintro j w3 st3 ⟨hj,_⟩;simp only [CA,NA] at st3 hj ⊢;refine nx6 ?_;refine WC.cd (fun g29=>?_) fun g29=>?_
 ·
  simp at g29
  have hj2:j<x.inputs.length:=by omega
  obtain ⟨y,hy⟩:∃y,x.inputs[j]=y:=⟨_,rfl⟩;obtain ⟨i,h99,hyk⟩:=xk _ (hy ▸ List.getElem_mem hj2);obtain ⟨_,_,hv,hc0,hc1⟩:=xi.2 _ (hy ▸ List.getElem_mem hj2);refine nx5 ?_;obtain ⟨b_x1,o_x1,r_x1,ha_x1,hl_x1,hR_x1,hr_x1,hz_x1⟩:=Rd.at hi hj2;have hR_x1:=RR.flat_eq hR_x1;subst hR_x1;rw [hy] at hr_x1
  have hj3:j - 1<x.inputs.length:=by omega
  obtain ⟨z,hz⟩:∃z,x.inputs[j - 1]=z:=⟨_,rfl⟩;refine nx2 ?_;refine WP .r (PV.ixS sl28 ha_x1 rfl rfl (by omega))<|WP .r (VA agg86 (range_chg hr_x1 (St.cg st3) (by simp)) .r)<|?_;refine WL.al st3 fun b4 w4 nw4 hb4 st4=>?_;refine nx ?_;refine WL.go rfl (OX.stW sz86 (As.gb st4.g0) rfl rfl rfl rfl rfl fun w5 ss0 _ hs0=>?_);have st5:=st4.updB ss0 hs0;refine nx3 ?_;refine WC.cut1S (t:=71) (v:=.bool false) st5 ?_<|?_
  ·
   have hN6:=st5.fplt;refine WC.drawnS (m:=37) (E:=lookE [(2,fun v _=>v=.bool true),(17,fun v _=>v=.int .i64 (cmpK z.key y.key))]) st5 (lookE_st (⟨fun _ _ _ _ _ _ _ h=>h,⟨fun _ _ _ _ _ _ _ h=>h,trivial⟩⟩)) mixed (by kernel_rfl)<|nx ?_;refine DP .r (fun _ hC=>PV.ldM agg35 (Blk.range (As.gb hC.2.g0)) rfl rfl)<|?_;refine DW.c0 (fun wx hC hF=>pinputOk_calls h99 hyk)<|nx5 ?_;refine DW.gsplit (t:=40) rfl (fun g40=>?_) (fun g40=>?_)
   ·
    have hj0:1≤j:=by have h0:=g40;simp at h0;omega
    have hlt:cmpK z.key y.key<0:=by rw [← hy,← hz];exact List.pairwise_iff_getElem.1 xi.1 (j - 1) j hj3 hj2 (by omega)
    obtain ⟨b_x2,o_x2,r_x2,ha_x2,hl_x2,hR_x2,hr_x2,hz_x2⟩:=Rd.at hi hj3;have hR_x2:=RR.flat_eq hR_x2;subst hR_x2;rw [hz] at hr_x2;refine nx ?_;refine DP .r (fun _ hC=>V1 one28 (Blk.range (As.gb hC.2.g1)) .r)<|nx2 ?_;refine DP .r (fun _ hC=>PV.ixZ sl28 (j - 1) ha_x2 rfl rfl (by omega) (by omega))<|nx ?_;refine DP .r (fun _ hC=>PV.ldM agg35 (range_chg hr_x2 (St.cg hC.2) (by simp)) rfl rfl)<|nx ?_;refine DP .r (fun _ hC=>PV.ldM agg35 (Blk.range (As.gb hC.2.g0)) rfl rfl)<|?_;refine DW.c0 (fun wx hC hF=>pcmp_calls (a:=z.key) (b:=y.key))<|nx4 ?_;refine DW.gsplit (t:=54) rfl (fun g54=>?_) (fun g54=>?_)
    ·
     refine nx12 ?_;refine nx3 ?_;refine DW.nil<|?_;rintro w6 ⟨hsz6,st6⟩ ⟨_,⟨_,_⟩⟩;refine nx3 ?_;exact EX.meet1 41 rfl rfl rfl (tG (aj g40 g54)) (st6)
    refine nx ?_;refine DP .r (fun _ hC=>V1 one9 (Blk.range (As.gb hC.2.g0)) .r)<|nx4 ?_;refine DW.gsplit (t:=60) rfl (fun g60=>?_) (fun g60=>?_)
    ·
     refine nx9 ?_;refine DW.nil<|?_;rintro w6 ⟨hsz6,st6⟩ ⟨_,⟨_,_⟩⟩;refine nx3 ?_;exact EX.meet1 42 rfl rfl rfl (tG (aj g40<|aj g54 g60)) (st6)
    refine nx ?_;refine DP .r (fun _ hC=>V1 one3 (Blk.range (As.gb hC.2.g0)) .r)<|nx3 ?_;refine DW.gsplit (t:=65) rfl (fun g65=>?_) (fun g65=>?_)
    ·
     refine nx4 ?_;refine DW.nil<|?_;rintro w6 ⟨hsz6,st6⟩ ⟨_,⟨_,_⟩⟩;refine nx3 ?_;exact EX.meet1 43 rfl rfl rfl (tG (aj g40<|aj g54<|aj g60 g65)) (st6)
    refine nx ?_;refine DP .r (fun _ hC=>V1 one3 (Blk.range (As.gb hC.2.g0)) .r)<|nx ?_;refine DP .r (fun _ hC=>V1 one3 (Blk.range (As.gb hC.2.g1)) .r)<|DW.nil<|?_;rintro w6 ⟨hsz6,st6⟩ ⟨_,⟨_,_⟩⟩;refine nx3 ?_;exact EX.meet1 43 rfl rfl rfl (tG (aj g40<|aj g54<|aj g60 g65)) (st6)
   refine nx12 ?_;refine nx3 ?_;refine DP .r (fun _ hC=>V1 one9 (Blk.range (As.gb hC.2.g0)) .r)<|nx4 ?_;refine DW.gsplit (t:=60) rfl (fun g60=>?_) (fun g60=>?_)
   ·
    refine nx9 ?_;refine DW.nil<|?_;rintro w6 ⟨hsz6,st6⟩ ⟨_,_⟩;refine nx3 ?_;exact EX.meet1 41 rfl rfl rfl (tG (aj g40 g60)) (st6)
   refine nx ?_;refine DP .r (fun _ hC=>V1 one3 (Blk.range (As.gb hC.2.g0)) .r)<|nx3 ?_;refine DW.gsplit (t:=65) rfl (fun g65=>?_) (fun g65=>?_)
   ·
    refine nx4 ?_;refine DW.nil<|?_;rintro w6 ⟨hsz6,st6⟩ ⟨_,_⟩;refine nx3 ?_;exact EX.meet1 42 rfl rfl rfl (tG (aj g40<|aj g60 g65)) (st6)
   refine nx ?_;refine DP .r (fun _ hC=>V1 one3 (Blk.range (As.gb hC.2.g0)) .r)<|nx ?_;refine DP .r (fun _ hC=>V1 one3 (Blk.range (As.gb hC.2.g1)) .r)<|DW.nil<|?_;rintro w6 ⟨hsz6,st6⟩ ⟨_,_⟩;refine nx3 ?_;exact EX.meet1 42 rfl rfl rfl (tG (aj g40<|aj g60 g65)) (st6)
  intro w6 st6;refine nx ?_;refine WC.cd (fun g71=>?_) fun g71=>?_
  ·
   exact nope g71
  refine nx7 ?_;refine EX.again (j+1) (Sub.cons rfl<|Sub.v<|Sub.v<|Sub.v<|Sub.nil) ⟨st6.drop,⟨by omega,trivial⟩⟩ (by first | (simp only [];omega) | omega)
 simp at g29
 refine nx8 ?_;refine WP .r (V1 one29 st3.b0 .r)<|WP .r (PV.func (us:=[]) (vs:=[.pointer (some ⟨b1,0,none⟩)]) rfl rfl)<|?_;refine WL.c0 (pcontainsR_calls (p:=fun r=>decide (x.revision<r.verified)) cf85 (hr.ext (St.cg st3)) (fun wq hq y _ a n c _=>prevValid1_calls ((As.gb st3.g0).ext hq)) (fun y hy=>by have:=xv y hy;simp;omega)) st3 fun w4 s4 st4=>?_;refine nx5 ?_;refine EX.ret1 rfl rfl<|?_;exact ⟨by simp,(St.cg st4)⟩
theorem sortF_calls {l:List Key} {a:Option Addr} {n c:Nat} {w:World} {M Z:Nat→Prop} (hst:St w M Z w [As.os RR.key 35 2 a n c l]) (h0:l≠[]) (hn:l.length≤1000000):Calls Tryz.prog 60 #[.slice a n c,.func (.func 61) #[] #[]] w fun e w'=>e=.returned (.tuple #[])∧∃l',l'.Perm l∧(l'.Pairwise fun x y=>¬cmpK y x<0)∧St w M Z w' [As.os RR.key 35 2 a n c l']:=
 sort_conv (fun blk cap d w hc hH hb hs=>Tryz.slices_SortFunc 2 Tryz.isAgg35 Tryz.sizeOf35 Key.cells (fun _=>rfl) (fun x v hv=>by (simp [Key.cells] at hv;rcases hv with rfl | rfl <;> rfl)) cmpK cmp_swo 61 #[] blk 0 cap d w cf61 hc hH hb hs) (fun x y w=>pcmp_calls) hst h0 hn
set_option maxHeartbeats 400000
set_option maxHeartbeats 1600000 in
theorem request_calls {rules:List Rule} {goals:List Key} {x:Bas} {ar ag a1 a2:Option Addr} {r cr g eg n1 e1 n2 e2 f:Nat} {s':ES} {w:World} {M Z:Nat→Prop} (hR:rulesOk rules) (hst:St w M Z w []) (hu:Rd RR.rule 4 Z w ar r cr rules) (hi:Rd RR.inp 4 Z w a1 n1 e1 x.inputs) (hr:Rd RR.rcd 8 Z w a2 n2 e2 x.recs) (hg:Rd RR.key 2 Z w ag g eg goals) (ht:Tab Tryz.prog Z w) (hce:checkE rules x goals=0) (hgd:Good rules x.inputs ⟨x,[],[],0⟩) (hk:∀k∈goals,Knd rules k) (hil:x.inputs.length≤1000000)
 (hev0:upAllV rules (valOf rules x.inputs) f ⟨x,[],[],0⟩ goals=some s') (hran:s'.ran.length≤1000000):Calls Tryz.prog 50 #[.slice ar r cr,.agg (x.row a1 n1 e1 a2 n2 e2).toArray,.slice ag g eg] w fun e w'=>∃a1' n1' e1' a2' n2' e2' ag' g' eg' Z',e=.returned (.tuple #[.agg ((s'.base x).row a1' n1' e1' a2' n2' e2').toArray,.slice ag' g' eg',.int .i64 s'.e])∧Zle w.heap.size Z Z'∧Rd RR.inp 4 Z' w' a1' n1' e1' (s'.base x).inputs∧Rd RR.rcd 8 Z' w' a2' n2' e2' (s'.base x).recs∧St w M Z' w' [As.os RR.key 35 2 ag' g' eg' s'.list]:=by
 have hgn:=hg.len;have hgl:=hg.le
 have h6:x.recs.length≤1000000:=by have:=hgd.len;simp only at this;omega
 refine enter Tryz.func50 rfl Tryz.ntmps50 rfl<|?_;have st0:=St.rb hst;have st1:=st0.fact (As.mkro hu) (fun _ hx=>hx);have st2:=st1.fact (As.mkro hi) (fun _ hx=>hx);have st3:=st2.fact (As.mkro hr) (fun _ hx=>hx);have st4:=st3.fact (As.mkro hg) (fun _ hx=>hx);have st5:=st4.fact (B:=As.fz (FZ.tab Tryz.prog)) ht (fun _ hx=>hx);refine nx2 ?_;refine WL.go rfl (OX.box rfl rfl rfl fun b4 w1 nw4 hb4=>?_);have st6:=st5.newB nw4 hb4;refine WL.al st6 fun b6 w2 nw6 hb6 st7=>?_;refine nx6 ?_;refine WP .r (VA agg31 st7.b1 .r)<|?_;have st8:=st7;refine WL.go rfl (OX.call cf35 rfl rfl ((copyB_calls st8.e0 (As.gr st8.g5) (As.gr st8.g4) h6 hil).mono ?_));rintro _ w3 ⟨f1,f2,f3,f4,f5,f6,Z1,rfl,hZ1a,hst3⟩;refine ⟨_,rfl,?_⟩;have st9:=St.leave (l0:=[]) st8 hst3 hZ1a;simp only [CA,NA] at st9;have hgi:=St.fresh0 hst3;have hgr:=St.fresh0 hst3.p1;have hsz1:=st8.size;have hZ1:=hZ1a.le hsz1;have hge_ri:=St.fresh st9;have st10:=st9.frzS (by omega);have hge_rc:=St.fresh st10.p1;have st11:=st10.p1.frzS (by omega);have hZ2:=(hZ1.trans (Zle.frz (F:=fun x=>x∈oblk f1) hgi) hsz1).trans (Zle.frz (F:=fun x=>x∈oblk f4) hgr) hsz1;refine WL.go rfl (OX.stW sz31 (As.gb st11.g3) rfl rfl rfl rfl rfl fun w4 ss0 _ hs0=>?_);have st12:=st11.p3.updB ss0 hs0;refine nx6 ?_;refine WP .r (VA agg31 st12.b0 .r)<|nx ?_;refine WL.go rfl (OX.call cf69 rfl rfl ((check30_calls (As.gr st12.g8) (As.gr st12.g2) (As.gr st12.g1) (As.gr st12.g5)).mono ?_));rintro _ w5 ⟨rfl,s5⟩;refine ⟨_,rfl,?_⟩;rw [hce];have st13:=st12.step s5;refine nx9 ?_;refine WC.cd (fun g20=>?_) fun g20=>?_
 ·
  exact absurd g20 (by simp)
 refine nx3 ?_;refine WC.drawnG (m:=6) [] [2,4] [0,1,2,3,4,5] [(5,.map)] st13 (Sub1.k4 M0 M1 M2 M3<|Sub1.k4 M4 M5 M6 M7<|Sub1.cons M8<|Sub1.nil) mixed (by kernel_rfl) (by kernel_rfl) rfl<|?_;refine DG.a<|?_;refine DQ .r (fun wx Zx Rx _ hSx hix=>VA agg31 (Blk.range (As.gb (hSx.sv hix).g0)) .r)<|?_;refine DG.ch rfl rfl rfl rfl rfl rfl (fun w6 R2x hN2x st14 hsd2x=>?_);simp only [CA,NA] at st14;have st15:=st14;refine OX.call cf73 rfl rfl ((newS_calls (x:=x) st15.e0).mono ?_);rintro _ w7 ⟨d1,d2,d3,rfl,hst7⟩;have st16:=St.leave (l0:=[]) st15 hst7 (Zle.refl _ _);simp only [CA,NA] at st16;refine ⟨_,rfl,hst7.chg.size,_,rfl,_,_,_,st16,AppE.k4<|AppE.k4<|AppE.k4<|AppE.nil,Sub1.k4 M3 M4 M5 M6<|Sub1.k4 M7 M8 M9 M10<|Sub1.cons M11<|Sub1.nil,?_⟩;refine DQ .r (fun wx Zx Rx _ hSx hix=>VA agg31 (Blk.range (As.gb (hSx.sv hix).g0)) .r)<|?_;refine DG.ch rfl rfl rfl rfl rfl rfl (fun w8 R4x hN4x st17 hsd4x=>?_);simp only [CA,NA] at st17;have st18:=st17;refine OX.call cf35 rfl rfl ((copyB_calls st18.e0 (As.gr st18.g5) (As.gr st18.g4) h6 hil).mono ?_);rintro _ w9 ⟨q1,q2,q3,q4,q5,q6,Z3,rfl,hZ3a,hst9⟩;have st19:=St.leave (l0:=[]) st18 hst9 hZ3a;simp only [CA,NA] at st19;have hgqi:=St.fresh0 hst9;have hgqr:=St.fresh0 hst9.p1;have hsz3:=st18.size;have hZ3:=hZ2.trans hZ3a hsz3;have hge_qi:=St.fresh st19;have st20:=st19.frzS (by omega);have hge_qc:=St.fresh st20.p1;have st21:=st20.p1.frzS (by omega);have hZ4:=(hZ3.trans (Zle.frz (F:=fun x=>x∈oblk q1) hgqi) hsz3).trans (Zle.frz (F:=fun x=>x∈oblk q4) hgqr) hsz3;refine ⟨_,rfl,hst9.chg.size,_,rfl,_,_,_,st21,AppE.k4<|AppE.k4<|AppE.k4<|AppE.k2<|AppE.nil,Sub1.k4 M5 M6 M7 M8<|Sub1.k4 M9 M10 M11 M12<|Sub1.cons M13<|Sub1.nil,?_⟩;refine DG.side (s:=.map) rfl rfl rfl rfl rfl rfl (fun wx Zx Rx hNx hSx=>OX.makeMap Key.val rfl fun b wy nw hb=>⟨nw.ext.size,_,rfl,⟨b,rfl⟩,hSx.newM nw hb⟩)<|?_;rintro _ ⟨b28,rfl⟩;refine DG.nil<|?_;intro w10 hsz5 st22;simp only [CM,NM,CA,NA,SdK.it] at st22;refine WP .r (PV.build' (us:=(EA.cells ⟨q1,q4,none,q2,q3,q5,q6,0,0⟩ d1 b28 ⟨x,[],[],0⟩)) bt135 rfl rfl rfl)<|?_;refine WL.go rfl (OX.box rfl rfl rfl fun b30 w11 nw30 hb30=>?_);have st23:=st22.newB nw30 hb30;refine nx ?_;refine WL.nil (EX.np ?_);have st24:=st23.p5.p5;have st25:=st24.join (C:=As.solv Tryz.prog 157 rules x ⟨ar,f1,f4,r,cr,f2,f3,f5,f6,d2,d3,d1⟩) ⟨st24.neBM,(As.gb st24.g0),⟨[],MemoOk.nil,(As.gm st24.g1)⟩,⟨(As.gr st24.g15),(As.gr st24.g9),(As.gr st24.g8),(As.gf st24.g11)⟩⟩ (fun y h=>h);have st26:=st25.newN RR.key 35 2;refine nx10 ?_;refine WC.loopS (σ:=Nat × ES × EA × (Nat→Prop)) (kvs:=fun (j,s1,E1,Z5)=>[(4,.pointer (some ⟨b4,0,none⟩)),(6,.pointer (some ⟨b6,0,none⟩)),(10,.pointer (some ⟨b30,0,none⟩)),(31,.slice ag g eg),(32,.int .i64 (g:Int)),(33,.int .i64 (j:Int))]) (F:=fun (j,s1,E1,Z5)=>[As.blk b30 135 (EA.cells E1 d1 b28 s1),As.map Key.val b28 s1.busy,As.os RR.key 35 2 E1.a3 E1.n3 E1.c3 s1.ran,As.ro RR.inp 4 E1.a1 E1.n1 E1.c1 s1.b.inputs,As.ro RR.rcd 8 E1.a2 E1.n2 E1.c2 s1.b.recs]) (I:=fun (j,s1,E1,Z5)=>(upAllV rules (valOf rules x.inputs) f s1 (goals.drop j)=some s')∧(Good rules x.inputs s1)∧(j≤g)∧(Zle w.heap.size Z Z5)∧True) (μ:=fun (j,s1,E1,Z5)=>g - j) (Zf:=fun (j,s1,E1,Z5)=>Z5) (0,⟨x,[],[],0⟩,⟨q1,q4,none,q2,q3,q5,q6,0,0⟩,_) (st26.p4.p5.p2.p5.p5) (Sub.k4 rfl rfl rfl rfl<|Sub.cons rfl<|Sub.v<|Sub.nil) (⟨hev0,hgd,Nat.zero_le _,hZ4,trivial⟩)<|?_;rintro ⟨j,s1,E1,Z5⟩ w12 st27 ⟨hev,hg1,hj,hZ5,_⟩;simp only [CA,NA] at st27 hev hg1 hj hZ5 ⊢;refine nx6 ?_;refine WC.cd (fun g34=>?_) fun g34=>?_
 ·
  simp at g34
  have hj2:j<goals.length:=by omega
  rw [List.drop_eq_getElem_cons hj2] at hev;simp only [upAllV] at hev;obtain ⟨t,hut,hev2⟩:=Option.bind_eq_some_iff.1 hev;have hkj:=hk goals[j] (List.getElem_mem hj2);have hgt:=(engine_good (val:=valOf rules x.inputs) hR f).1 _ _ _ hut hg1 hkj;have hgc:=upAll_good hR hev2 hgt.1 (fun k hk2=>hk k (List.mem_of_mem_drop hk2));refine nx5 ?_;obtain ⟨b_x1,o_x1,r_x1,ha_x1,hl_x1,hR_x1,hr_x1,hz_x1⟩:=Rd.at (As.gr st27.g12) hj2;have hR_x1:=RR.flat_eq hR_x1;subst hR_x1;have st28:=st27.fact (As.mkrg hz_x1 (st27.zlt _ hz_x1) hr_x1) (fun _ hx=>hx);refine nx ?_;refine WP .r (PV.ixS sl41 ha_x1 rfl rfl (by omega))<|WP .r (VA agg35 (As.grg st28.g0) .r)<|?_;refine WL.al st28 fun b12 w13 nw12 hb12 st29=>?_;refine WL.go rfl (OX.stW sz35 (As.gb st29.g0) rfl rfl rfl rfl rfl fun w14 ss1 _ hs1=>?_);have st30:=st29.updB ss1 hs1;refine nx4 ?_;refine WP .r (VA agg35 st30.b0 .r)<|?_;have st31:=st30.p4.p4.p7.p5;refine WL.go rfl (OX.call cf79 rfl rfl ((up_all (D:=⟨ar,f1,f4,r,cr,f2,f3,f5,f6,d2,d3,d1⟩) hR hil f _ _ _ _ _ _ _ st31.e4 (As.gr st31.g6) (As.gr st31.g7) hg1 hkj hut (by have:=hgc.2.ran;omega)).mono ?_));rintro _ w15 ⟨E2,Z6,rfl,hZ6a,hi6,hr6,hst15⟩;refine ⟨_,rfl,?_⟩;have st32:=St.leave (l0:=[_,_,_,_]) st31 hst15 hZ6a;simp only [CA,NA] at st32;have hZ6:=hZ5.trans hZ6a st31.size;have st33:=st32.fact (As.mkro (hi6)) (fun _ hx=>hx);have st34:=st33.fact (As.mkro (hr6)) (fun _ hx=>hx);have st35:=st34.p8.drop;have st36:=st35.p8.drop;refine nx7 ?_;refine EX.again (j+1,t,E2,Z6) (Sub.k4 rfl rfl rfl rfl<|Sub.cons rfl<|Sub.v<|Sub.nil) ⟨st36.p6.drop.p6.drop.p1.p5.p5.p4,⟨hev2,hgt.1,by omega,hZ6,trivial⟩⟩ (by first | (simp only [];omega) | omega)
 simp at g34
 rw [List.drop_eq_nil_of_le (by omega)] at hev;simp only [upAllV,Option.some.injEq] at hev;subst hev;refine nx11 ?_;refine WP .r (V1 one38 st27.b0 .r)<|nx3 ?_;refine WC.cd (fun g45=>?_) fun g45=>?_
 ·
  simp at g45
  have st28:=st27.newN RR.key 35 2;refine nx ?_;refine WC.drawnG (m:=7) [] [5] [0,5,1,2,3,4,6] [] st28 (Sub1.k4 M0 M1 M2 M3<|Sub1.k4 M4 M5 M6 M7<|Sub1.k4 M8 M9 M10 M12<|Sub1.k4 M13 M14 M15 M16<|Sub1.nil) mixed (by kernel_rfl) (by kernel_rfl) rfl<|?_;refine DQ .r (fun wx Zx Rx _ hSx hix=>VA agg31 (Blk.range (As.gb (hSx.sv hix).g8)) .r)<|?_;refine DG.cs rfl rfl rfl rfl rfl (fun w13 R5x hN5x st29 hsd5x=>?_);simp only [CA,NA] at st29;refine OX.stW sz31 (As.gb st29.g11) rfl rfl rfl rfl rfl fun w14 ss2 _ hs2=>?_;have st30:=st29.p11.updB ss2 hs2;refine ⟨ss2.size,rfl,_,_,_,st30,AppE.k4<|AppE.k4<|AppE.k4<|AppE.k4<|AppE.cons<|AppE.nil,Sub1.k4 M1 M2 M3 M4<|Sub1.k4 M5 M6 M7 M8<|Sub1.k4 M9 M10 M11 M12<|Sub1.k4 M13 M14 M15 M16<|Sub1.nil,?_⟩
  iterate 3 refine DG.a ?_
  refine DQ .r (fun wx Zx Rx _ hSx hix=>V1 one38 (Blk.range (As.gb (hSx.sv hix).g1)) .r)<|?_;refine DG.a<|?_;refine DG.nil<|?_;intro w15 hsz12 st31;simp only [CM,NM,CA,NA,SdK.it] at st31;refine nx ?_;refine WL.nil (EX.np ?_);refine nx3 ?_;refine EX.retN rfl (RS.cell agg31 rfl st31.b0 rfl<|RS.tmp rfl<|RS.tmp rfl<|RS.nil) rfl<|?_;have hb:s1.base x=x:=if_neg g45;have hl:s1.list=[]:=if_neg g45;exact ⟨f1,f2,f3,f4,f5,f6,none,0,0,_,by rw [hb],hZ5,by rw [hb];exact (As.gr st31.g11),by rw [hb];exact (As.gr st31.g10),by rw [hl];exact (St.wk st31.p1.k1)⟩
 simp at g45
 refine nx3 ?_;have hrl:=((As.gs st27.g2)).len;have hge_ra:=St.fresh st27.p2;have st28:=st27.p2.frzS (by omega);have hZr:=hZ5.trans (Zle.frz (F:=fun x=>x∈oblk E1.a3) hge_ra) (Nat.le_refl _);refine WC.drawnG (m:=9) [] [8] [4,5,6,7,8,0,1,2,3] [] st28 (Sub1.k4 M0 M1 M2 M3<|Sub1.k4 M4 M5 M6 M7<|Sub1.k4 M8 M9 M10 M11<|Sub1.k4 M12 M13 M14 M15<|Sub1.nil) mixed (by kernel_rfl) (by kernel_rfl) rfl<|?_
 iterate 3 refine DG.a ?_
 refine DQ .r (fun wx Zx Rx _ hSx hix=>V1 one41 (Blk.range (As.gb (hSx.sv hix).g1)) .r)<|?_;refine DG.ch rfl rfl rfl rfl rfl rfl (fun w13 R8x hN8x st29 hsd8x=>?_);simp only [CA,NA] at st29;have st30:=st29;refine OX.call cf80 rfl rfl ((sorted_calls st30.e0 (As.gr st30.g0) (fun _ h _=>h) hran).mono ?_);rintro _ w14 ⟨o1,o2,o3,rfl,hst14⟩;have st31:=St.leave (l0:=[]) st30 hst14 (Zle.refl _ _);simp only [CA,NA] at st31;refine ⟨_,rfl,hst14.chg.size,_,rfl,_,_,_,st31,AppE.k4<|AppE.k4<|AppE.k4<|AppE.k4<|AppE.cons<|AppE.nil,Sub1.k4 M1 M2 M3 M4<|Sub1.k4 M5 M6 M7 M8<|Sub1.k4 M9 M10 M11 M12<|Sub1.k4 M13 M14 M15 M16<|Sub1.nil,?_⟩
 iterate 3 refine DG.a ?_
 refine DQ .r (fun wx Zx Rx _ hSx hix=>PV.ldM agg31 (Blk.range (As.gb (hSx.sv hix).g1)) rfl rfl)<|DG.nil<|?_;intro w15 hsz13 st32;simp only [CM,NM,CA,NA,SdK.it] at st32;refine WL.go rfl (OX.stW sz31 (As.gb st32.g11) rfl rfl rfl rfl rfl fun w16 ss3 _ hs3=>?_);have st33:=st32.p11.updB ss3 hs3;refine nx2 ?_;refine WL.nil (EX.np ?_);refine nx2 ?_;refine EX.retN rfl (RS.cell agg31 rfl st33.b0 rfl<|RS.tmp rfl<|RS.tmp rfl<|RS.nil) rfl<|?_;have hb:s1.base x=s1.b:=if_pos g45;have hl:s1.list=sortK s1.ran:=if_pos g45;exact ⟨E1.a1,E1.n1,E1.c1,E1.a2,E1.n2,E1.c2,o1,o2,o3,_,by rw [hb,g45];rfl,hZr,by rw [hb];exact (As.gr st33.g5),by rw [hb];exact (As.gr st33.g6),by rw [hl];exact (St.wk st33.p1.k1)⟩
set_option maxHeartbeats 400000
set_option maxHeartbeats 400000
theorem of_rule {rules:List Rule} {x:Bas} {D:SD} (hR:rulesOk rules) (hS:∀k,(valOf rules x.inputs k).size≤1000):∀i:Nat,i<rules.length→OfC rules x D (ofK rules (i:Int)):=by
 intro i;have h24:=hR.len;have low:∀n:Nat,n≤15→OfC rules x D (cellK (n:Int)):=fun n hn w M Z ml al hst hf hm _=>pofIn_calls hst hf hm (isInput_cellK (by omega))
 induction i using Nat.strongRecOn with
 | _ i IH=>
  intro hi w M Z ml al hst hf hm hal
  have h99:i≤99:=by omega
  have hal1:AlOk rules i al:=by
   have h:=hal (isInput_ofK hi h99);rw [number_ofK hi h99,Int.toNat_natCast] at h;exact h
  refine pofR_calls hst hf hm hR hi hS hal1 (fun hr w M Z ml al hst hf hm hal=>?_) (fun hr a ha=>?_)
  ·
   rw [number_ofK hi h99,Int.toNat_natCast] at hal;refine prings_calls hst hf hm hR hS hi hr hal fun j hj a ha hc=>?_;have hcy:=ha.cyc hR
   rcases ha with ⟨n,hn,rfl⟩ | ⟨m,hm,rfl,h1,h2,h3,h4⟩
   ·
    exact low n hn
   have hrm:ringAt rules m=false:=by
    rw [hc,ofK_kind hm (by omega)] at hcy
    cases h:ringAt rules m
    ·
     rfl
    rw [h] at hcy;simp at hcy
   have hlo:blockLo rules j≤i:=Nat.le_trans (reach_lo hR hj) (blockLo_le rules i)
   have hmj:m<i:=by
    have:=h4 hrm (reach_ring hi hr hj).2
    omega
   exact IH m hmj hm
  rcases ha with ⟨n,hn,rfl⟩ | ⟨m,hm,rfl,_,h2,_⟩
  ·
   exact low n hn
  exact IH m (h2 hr) hm
theorem of_all {rules:List Rule} {x:Bas} {D:SD} (hR:rulesOk rules) (hS:∀k,(valOf rules x.inputs k).size≤1000) {k:Key} (hk:Knd rules k):OfC rules x D k:=by
 cases hk with
 | cell h=>exact fun w M Z ml al hst hf hm _=>pofIn_calls hst hf hm (isInput_cellK h)
 | rule h _=>exact of_rule hR hS _ h
end Go.Rc

