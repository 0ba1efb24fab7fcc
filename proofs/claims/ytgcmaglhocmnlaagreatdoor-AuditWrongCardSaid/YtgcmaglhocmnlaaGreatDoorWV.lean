/- Walks over the program, part WV. Conditions: as each theorem says. -/
import Derived.Test.YtgcmaglhocmnlaaGreatDoorFacts
import Derived.Test.YtgcmaglhocmnlaaGreatDoorWU
import Derived.Test.YtgcmaglhocmnlaaGreatDoorBg
import Derived.Test.YtgcmaglhocmnlaaGreatDoorBf
set_option linter.unusedVariables false
set_option linter.unusedSimpArgs false
set_option linter.unusedSectionVars false
namespace Go.Rc
open Go Go.Proofs
set_option maxHeartbeats 400000
theorem pnan_calls {n:Int} {w:World}:Calls Tryz.prog 164 #[.int .i64 n] w fun e w'=>e=.returned (.bool false)∧Chg [] w w':=by
 refine enter (args:=[.int .i64 n]) Tryz.func164 rfl Tryz.ntmps164 rfl<|?_;have st0:St w (fun _=>False) (fun _=>False) w []:=St.start (by simp);refine nx12 ?_;refine nx2 ?_;refine EX.ret1 rfl rfl<|?_;exact ⟨by simp,(St.cg st0)⟩
theorem pcompI_calls {a b:Int} {w:World}:Calls Tryz.prog 142 #[.int .i64 a,.int .i64 b] w fun e w'=>e=.returned (.int .i64 (cmpI a b))∧Chg [] w w':=by
 refine enter (args:=[.int .i64 a,.int .i64 b]) Tryz.func142 rfl Tryz.ntmps142 rfl<|?_;have st0:St w (fun _=>False) (fun _=>False) w []:=St.start (by simp);refine nx8 ?_;refine WL.c0 (pnan_calls) st0 fun w1 s1 st1=>?_;refine nx6 ?_;refine WL.c0 (pnan_calls) st1 fun w2 s2 st2=>?_;refine nx9 ?_;refine WC.condF rfl<|nx8 ?_;refine WC.condF rfl<|nx10 ?_;refine WC.cd (fun g16=>?_) fun g16=>?_
 ·
  simp at g16
  refine nx7 ?_;refine EX.ret1 rfl rfl<|?_;exact ⟨by unfold cmpI;rw [if_pos g16],(St.cg st2)⟩
 simp at g16
 refine nx10 ?_;refine WC.cd (fun g19=>?_) fun g19=>?_
 ·
  simp at g19
  refine nx7 ?_;refine EX.ret1 rfl rfl<|?_;exact ⟨by unfold cmpI;rw [if_neg (by omega),if_pos g19],(St.cg st2)⟩
 simp at g19
 refine nx8 ?_;refine EX.ret1 rfl rfl<|?_;exact ⟨by unfold cmpI;rw [if_neg (by omega),if_neg (by omega)],(St.cg st2)⟩
theorem pcmpOr_calls {l:List Int} {A:Nat→Prop} {a:Option Addr} {n c:Nat} {w:World} (hl:Ints A w a n c l):Calls Tryz.prog 141 #[.slice a n c] w fun e w'=>e=.returned (.int .i64 (orI l))∧Chg [] w w':=by
 have hle:=SR.le hl;have hlen:=SR.len hl;refine enter (args:=[.slice a n c]) Tryz.func141 rfl Tryz.ntmps141 rfl<|?_;have st0:St w (fun _=>False) (fun _=>False) w []:=St.start (by simp);refine nx12 ?_;refine nx7 ?_;refine WC.loopS1 (σ:=Nat) (kvs:=fun i=>[(3,.int .i64 0),(6,.slice a n c),(7,.int .i64 (n:Int)),(8,.int .i64 (i:Int))]) (F:=fun i=>[]) (I:=fun i=>(i≤n)∧(∀j x,j<i→l[j]?=some x→x=0)∧True) (μ:=fun i=>n - i) (0) (st0) (Sub.k2 rfl rfl<|Sub.cons rfl<|Sub.v<|Sub.nil) (⟨by omega,fun j x h=>by omega,trivial⟩)<|?_;rintro i w1 st1 ⟨hi,hno,_⟩;simp only [CA,NA] at st1 hi hno ⊢;refine nx6 ?_;refine WC.cd (fun g9=>?_) fun g9=>?_
 ·
  simp at g9
  have hi2:i<l.length:=by omega
  obtain ⟨b_x,o_x,r_x,ha_x,_,rfl,hr_x,_⟩:=(SR.ext hl (St.cg st1)).at (getElem_some hi2);refine nx6 ?_;refine WP .r (PV.ixS sl22 ha_x rfl rfl (by omega))<|WP .r (PV.ld0 one3 hr_x rfl rfl)<|nx10 ?_;refine WC.cd (fun g14=>?_) fun g14=>?_
  ·
   simp at g14
   refine nx12 ?_;refine EX.ret1 rfl rfl<|?_;exact ⟨by rw [orI_at hi2 hno g14],(St.cg st1)⟩
  simp at g14
  refine nx7 ?_;refine EX.again (i+1) (Sub.k2 rfl rfl<|Sub.cons rfl<|Sub.v<|Sub.nil) ⟨st1,⟨by omega,below_succ hi2 hno (by simpa using g14),trivial⟩⟩ (by first | (simp only [];omega) | omega)
 simp at g9
 refine nx12 ?_;refine EX.ret1 rfl rfl<|?_;exact ⟨by rw [orI_all (fun x hx=>by obtain ⟨j,hj,rfl⟩:=List.mem_iff_getElem.1 hx;exact hno j _ (by omega) (getElem_some hj))],(St.cg st1)⟩
theorem pcmp_calls {a b:Key} {w:World}:Calls Tryz.prog 103 #[a.val,b.val] w fun e w'=>e=.returned (.int .i64 (cmpK a b))∧Chg [] w w':=by
 refine enter (args:=[a.val,b.val]) Tryz.func103 rfl Tryz.ntmps103 rfl<|?_;have st0:St w (fun _=>False) (fun _=>False) w []:=St.start (by simp);refine nx2 ?_;refine WL.go rfl (OX.box rfl rfl rfl fun b2 w1 nw2 hb2=>?_);have st1:=st0.newB nw2 hb2;refine WL.go rfl (OX.box rfl rfl rfl fun b3 w2 nw3 hb3=>?_);have st2:=st1.newB nw3 hb3;refine nx4 ?_;have hN1:=st2.fplt;refine WC.drawnS (m:=9) (E:=lookE [(4,fun v _=>v=.int .i64 (cmpI a.kind b.kind))]) st2 (lookE_st (⟨fun _ _ _ _ _ _ _ h=>h,trivial⟩)) mixed (by kernel_rfl)<|nx ?_;refine DP .r (fun _ hC=>V1 one3 (Blk.range (As.gb hC.2.g1)) .r)<|nx ?_;refine DP .r (fun _ hC=>V1 one3 (Blk.range (As.gb hC.2.g0)) .r)<|?_;refine DW.c0 (fun wx hC hF=>pcompI_calls)<|nx ?_;refine DP .r (fun _ hC=>V1 one9 (Blk.range (As.gb hC.2.g1)) .r)<|nx ?_;refine DP .r (fun _ hC=>V1 one9 (Blk.range (As.gb hC.2.g0)) .r)<|DW.nil<|?_;rintro w3 ⟨hsz1,st3⟩ ⟨_,_⟩;refine WL.c0 (compare_calls a.text b.text w3) st3 fun w4 s4 st4=>?_;refine WL.go rfl (OX.bslice' (us:=[.int .i64 (cmpI a.kind b.kind),.int .i64 (Lib.compareBytes a.text.data.toList b.text.data.toList)]) bs22_2 rfl rfl rfl rfl fun b15 w5 nw15 hb15=>?_);have st5:=st4.newB nw15 hb15;refine WL.c1 (u:=.int .i64 (cmpK a b)) (pcmpOr_calls (l:=[cmpI a.kind b.kind,Lib.compareBytes a.text.data.toList b.text.data.toList]) (SR.blkR (rows:=[[.int .i64 (cmpI a.kind b.kind)],[.int .i64 (Lib.compareBytes a.text.data.toList b.text.data.toList)]]) (As.gb st5.g0) rfl (by simp) (by simp [Value.oneCell']) (by simp) (two_rows rfl rfl))) (by rw [orI_cmp]) st5 fun w6 s6 st6=>?_;refine nx4 ?_;refine EX.ret1 rfl rfl<|?_;exact ⟨rfl,(St.cg st6)⟩
theorem pvalidOdd_calls {rules:List Rule} {k:Key} {w:World} (hk:Knd rules k):Calls Tryz.prog 163 #[k.val] w fun e w'=>e=.returned (.bool false)∧Chg [] w w':=by
 obtain ⟨i,h99,hkt,hk3⟩:=hk.shape;refine enter (args:=[k.val]) Tryz.func163 rfl Tryz.ntmps163 rfl<|?_;have st0:St w (fun _=>False) (fun _=>False) w []:=St.start (by simp);refine nx2 ?_;refine WL.go rfl (OX.box rfl rfl rfl fun b1 w1 nw1 hb1=>?_);have st1:=st0.newB nw1 hb1;refine nx5 ?_;refine WP .r (VA agg40 st1.b0 .r)<|?_;refine WL.c0 (pvalidK_calls (k:=k) hk3 hkt h99) st1 fun w2 s2 st2=>?_;refine nx5 ?_;refine EX.ret1 rfl rfl<|?_;exact ⟨rfl,(St.cg st2)⟩
theorem pindexKF_calls {l:List Key} {p:Key→Bool} {f:FuncId} {a:Option Addr} {n c:Nat} {w:World} {Z:Nat→Prop} (hcf:CF Tryz.prog f) (hl:Rd RR.key 2 Z w a n c l) (hp:∀w1,Chg [] w w1→∀x∈l,Calls Tryz.prog f #[x.val] w1 fun e w'=>e=.returned (.bool (p x))∧Chg [] w1 w'):Calls Tryz.prog 106 #[.slice a n c,.func (.func f) #[] #[]] w fun e w'=>∃j:Int,e=.returned (.int .i64 j)∧IdxOf l p j∧Chg [] w w':=by
 have hlen:=hl.len;have hle:=hl.le;refine enter (args:=[.slice a n c,.func (.func f) #[] #[]]) Tryz.func106 rfl Tryz.ntmps106 rfl<|?_;have st0:St w (fun _=>False) (fun _=>False) w []:=St.start (by simp);refine nx12 ?_;refine nx2 ?_;refine WC.loopS1 (σ:=Nat) (kvs:=fun i=>[(0,.slice a n c),(1,.func (.func f) #[] #[]),(7,.int .i64 (n:Int)),(8,.int .i64 (i:Int))]) (F:=fun i=>[]) (I:=fun i=>(i≤n)∧(∀j x,j<i→l[j]?=some x→p x=false)∧True) (μ:=fun i=>n - i) (0) (st0) (Sub.k2 rfl rfl<|Sub.cons rfl<|Sub.v<|Sub.nil) (⟨by omega,fun j x h=>by omega,trivial⟩)<|?_;rintro i w1 st1 ⟨hi,hno,_⟩;simp only [CA,NA] at st1 hi hno ⊢;refine nx6 ?_;refine WC.cd (fun g9=>?_) fun g9=>?_
 ·
  simp at g9
  have hi2:i<l.length:=by omega
  refine nx11 ?_;obtain ⟨b_x1,o_x1,r_x1,ha_x1,hl_x1,hR_x1,hr_x1,hz_x1⟩:=Rd.at hl hi2;have hR_x1:=RR.flat_eq hR_x1;subst hR_x1;refine nx4 ?_;refine WP .r (PV.ixS sl38 ha_x1 rfl rfl (by omega))<|WP .r (VA agg40 (range_chg hr_x1 (St.cg st1) (by simp)) .r)<|?_;refine WL.go rfl (OX.callV hcf rfl rfl rfl ((Calls.cap0 (hp _ (St.cg st1) l[i] (List.getElem_mem hi2))).mono ?_));rintro _ w2 ⟨rfl,s2⟩;refine ⟨_,rfl,?_⟩;have st2:=st1.step s2;refine nx2 ?_;refine WC.cd (fun g16=>?_) fun g16=>?_
  ·
   refine nx12 ?_;refine EX.ret1 rfl rfl<|?_;exact ⟨_,rfl,.inl ⟨i,_,getElem_some hi2,g16,hno,rfl⟩,(St.cg st2)⟩
  have g16:p l[i]=false:=by simpa using g16
  refine nx7 ?_;refine EX.again (i+1) (Sub.k2 rfl rfl<|Sub.cons rfl<|Sub.v<|Sub.nil) ⟨st2,⟨by omega,below_succ hi2 hno (by simpa using g16),trivial⟩⟩ (by first | (simp only [];omega) | omega)
 simp at g9
 have hall:∀x∈l,p x=false:=fun x hx=>by obtain ⟨j,hj,rfl⟩:=List.getElem_of_mem hx;exact hno j _ (by omega) (getElem_some hj)
 refine nx11 ?_;refine EX.ret1 rfl rfl<|?_;exact ⟨_,rfl,.inr ⟨hall,rfl⟩,(St.cg st1)⟩
theorem pcontainsKF_calls {l:List Key} {p:Key→Bool} {f:FuncId} {a:Option Addr} {n c:Nat} {w:World} {Z:Nat→Prop} (hcf:CF Tryz.prog f) (hl:Rd RR.key 2 Z w a n c l) (hp:∀w1,Chg [] w w1→∀x∈l,Calls Tryz.prog f #[x.val] w1 fun e w'=>e=.returned (.bool (p x))∧Chg [] w1 w'):Calls Tryz.prog 62 #[.slice a n c,.func (.func f) #[] #[]] w fun e w'=>e=.returned (.bool (l.any p))∧Chg [] w w':=by
 refine enter (args:=[.slice a n c,.func (.func f) #[] #[]]) Tryz.func62 rfl Tryz.ntmps62 rfl<|?_;have st0:St w (fun _=>False) (fun _=>False) w []:=St.start (by simp);refine nx9 ?_;refine WL.go rfl (OX.call cf106 rfl rfl ((pindexKF_calls (w:=w) hcf (hl.ext (St.cg st0)) (fun w1 h1=>hp w1 (Chg.trans (St.cg st0) h1))).mono ?_));rintro _ w1 ⟨j,rfl,hj,s1⟩;refine ⟨_,rfl,?_⟩;have st1:=st0.step s1;have hj1:=hj.any;refine nx5 ?_;refine EX.ret1 rfl rfl<|?_;exact ⟨by rw [hj1],(St.cg st1)⟩
set_option maxHeartbeats 1600000 in
theorem pvalidRG_calls {rules:List Rule} {x:Rec} {a:Option Addr} {n c:Nat} {w:World} {Z:Nat→Prop} (hk:Rd RR.key 2 Z w a n c x.reads) (hx:GoodR rules x):Calls Tryz.prog 140 #[.agg (x.row a n c).toArray] w fun e w'=>e=.returned (.bool true)∧Chg [] w w':=by
 have hlen:=hk.len;obtain ⟨h1,h2,h3,hv⟩:=hx;obtain ⟨i,h99,hkt,hk3⟩:=h1.shape;have hnl:=h1.notLang;rw [validRec_iff] at hv;obtain ⟨_,_,_,v4,v5,v6,v7,v8,v9,v10,v11⟩:=hv;refine enter (args:=[.agg (x.row a n c).toArray]) Tryz.func140 rfl Tryz.ntmps140 rfl<|?_;have st0:St w (fun _=>False) (fun _=>False) w []:=St.start (by simp);refine nx2 ?_;refine WL.go rfl (OX.box rfl rfl rfl fun b1 w1 nw1 hb1=>?_);have st1:=st0.newB nw1 hb1;refine nx5 ?_;refine WC.cut1S (t:=34) (v:=.bool false) st1 ?_<|?_
 ·
  refine nx2 ?_;refine WP .r (PV.ldM agg40 st1.b0 rfl rfl)<|?_;refine WL.c0 (pvalidK_calls (k:=x.key) hk3 hkt h99) st1 fun w2 s2 st2=>?_;refine nx3 ?_;refine WP .r (PV.ldM agg40 st2.b0 rfl rfl)<|?_;refine WL.c1 (u:=.bool false) (pinput_calls (k:=x.key)) (by rw [h2]) st2 fun w3 s3 st3=>?_;refine nx3 ?_;refine WP .r (V1 one9 st3.b0 .r)<|nx4 ?_;refine WL.gsplit (t:=19) rfl (fun g19=>?_) (fun g19=>?_)
  ·
   refine nx12 ?_;refine nx4 ?_;exact EX.meet1 32 rfl rfl rfl (by first | (simp only [g19];done) | (simp [g19];done) | (have h4:x.key.kind=32:=cyc_kind h1 (by simpa [g19] using v11);simp [g19,h4];done) | (simp at g19 ⊢ <;> omega) | (simp [g19] <;> omega)) (st3)
  refine nx ?_;refine WP .r (V1 one38 st3.b0 .r)<|nx4 ?_;refine WL.gsplit (t:=25) rfl (fun g25=>?_) (fun g25=>?_)
  ·
   refine nx10 ?_;exact EX.meet1 33 rfl rfl rfl (by first | (simp only [g19,g25];done) | (simp [g19,g25];done) | (have h4:x.key.kind=32:=cyc_kind h1 (by simpa [g19,g25] using v11);simp [g19,g25,h4];done) | (simp at g19 g25 ⊢ <;> omega) | (simp [g19,g25] <;> omega)) (st3)
  refine nx ?_;refine WP .r (V1 one4 st3.b0 .r)<|nx ?_;refine WL.gsplit (t:=28) rfl (fun g28=>?_) (fun g28=>?_)
  ·
   refine nx ?_;refine WP .r (PV.ldM agg40 st3.b0 rfl rfl)<|?_;refine WL.c0 (pcyclic_calls (k:=x.key) hnl) st3 fun w4 s4 st4=>?_;refine nx4 ?_;exact EX.meet1 34 rfl rfl rfl (by first | (simp only [g19,g25,g28];done) | (simp [g19,g25,g28];done) | (have h4:x.key.kind=32:=cyc_kind h1 (by simpa [g19,g25,g28] using v11);simp [g19,g25,g28,h4];done) | (simp at g19 g25 g28 ⊢ <;> omega) | (simp [g19,g25,g28] <;> omega)) (st4)
  refine nx7 ?_;exact EX.meet1 34 rfl rfl rfl (by first | (simp only [g19,g25,g28];done) | (simp [g19,g25,g28];done) | (have h4:x.key.kind=32:=cyc_kind h1 (by simpa [g19,g25,g28] using v11);simp [g19,g25,g28,h4];done) | (simp at g19 g25 g28 ⊢ <;> omega) | (simp [g19,g25,g28] <;> omega)) (st3)
 intro w2 st2;refine nx ?_;refine WC.cd (fun g34=>?_) fun g34=>?_
 ·
  exact nope g34
 refine nx8 ?_;refine WC.cut1Se (t:=2) (v:=.bool true) st2 ?_<|?_
 ·
  refine nx2 ?_;refine WP .r (V1 one3 st2.b0 .r)<|nx2 ?_;refine WL.gsplit (t:=38) rfl (fun g38=>?_) (fun g38=>?_)
  ·
   refine nx ?_;refine WP .r (V1 one3 st2.b0 .r)<|nx ?_;refine WP .r (V1 one3 st2.b0 .r)<|nx3 ?_;refine WL.gsplit (t:=45) rfl (fun g45=>?_) (fun g45=>?_)
   ·
    refine nx ?_;refine WP .r (V1 one3 st2.b0 .r)<|nx3 ?_;refine WL.gsplit (t:=50) rfl (fun g50=>?_) (fun g50=>?_)
    ·
     refine nx ?_;refine WP .r (V1 one3 st2.b0 .r)<|nx3 ?_;refine WL.gsplit (t:=55) rfl (fun g55=>?_) (fun g55=>?_)
     ·
      refine nx ?_;refine WP .r (V1 one3 st2.b0 .r)<|nx3 ?_;refine WL.gsplit (t:=60) rfl (fun g60=>?_) (fun g60=>?_)
      ·
       refine nx ?_;refine WP .r (V1 one38 st2.b0 .r)<|nx ?_;refine WL.c1 (u:=.bool false) (pcontainsKF_calls (p:=fun _=>false) cf163 (hk.ext (St.cg st2)) (fun w1 _ y hy=>pvalidOdd_calls (h3 y hy))) (by rw [List.any_eq_false.2 (fun _ _=>by simp)]) st2 fun w3 s3 st3=>?_;refine nx4 ?_;exact EX.meet1e 38 rfl rfl rfl (tG (aj g38<|aj g45<|aj g50<|aj g55 g60)) (st3)
      refine nx8 ?_;exact EX.meet1e 38 rfl rfl rfl (tG (aj g38<|aj g45<|aj g50<|aj g55 g60)) (st2)
     refine nx12 ?_;refine nx ?_;exact EX.meet1e 37 rfl rfl rfl (tG (aj g38<|aj g45<|aj g50 g55)) (st2)
    refine nx12 ?_;refine nx6 ?_;exact EX.meet1e 36 rfl rfl rfl (tG (aj g38<|aj g45 g50)) (st2)
   refine nx12 ?_;refine nx11 ?_;exact EX.meet1e 35 rfl rfl rfl (tG (aj g38 g45)) (st2)
  refine nx12 ?_;refine nx12 ?_;refine nx6 ?_;exact EX.meet1e 34 rfl rfl rfl (tG g38) (st2)
 intro w3 st3;refine nx2 ?_;refine EX.ret1 rfl rfl<|?_;exact ⟨rfl,(St.cg st3)⟩
theorem pvalidListG_calls {rules:List Rule} {l:List Rec} {a:Option Addr} {n c:Nat} {w:World} {Z:Nat→Prop} (hl:Rd RR.rcd 8 Z w a n c l) (hG:∀x∈l,GoodR rules x) (hS:Srt l) (h4:l.length≤4000):Calls Tryz.prog 101 #[.slice a n c] w fun e w'=>e=.returned (.bool true)∧Chg [] w w':=by
 have hlen:=hl.len;have hle:=hl.le;refine enter (args:=[.slice a n c]) Tryz.func101 rfl Tryz.ntmps101 rfl<|?_;have st0:St w (fun _=>False) (fun _=>False) w []:=St.start (by simp);refine nx12 ?_;refine nx2 ?_;refine WC.loopS1 (σ:=Nat) (kvs:=fun j=>[(0,.slice a n c),(5,.slice a n c),(6,.int .i64 (n:Int)),(7,.int .i64 (j:Int))]) (F:=fun j=>[]) (I:=fun j=>(j≤n)∧True) (μ:=fun j=>n - j) (0) (st0) (Sub.k2 rfl rfl<|Sub.cons rfl<|Sub.v<|Sub.nil) (⟨by omega,trivial⟩)<|?_;rintro j w1 st1 ⟨hj,_⟩;simp only [CA,NA] at st1 hj ⊢;refine nx6 ?_;refine WC.cd (fun g8=>?_) fun g8=>?_
 ·
  simp at g8
  have hj2:j<l.length:=by omega
  refine nx5 ?_;obtain ⟨b_x1,o_x1,r_x1,ha_x1,hl_x1,hR_x1,hr_x1,hz_x1⟩:=Rd.at hl hj2;obtain ⟨q1,q2,q3,rfl,hkq,hk4⟩:=hR_x1;refine nx2 ?_;refine WP .r (PV.ixS sl30 ha_x1 rfl rfl (by omega))<|WP .r (VA agg47 (range_chg hr_x1 (St.cg st1) (by simp)) .r)<|?_;refine WL.al st1 fun b4 w2 nw4 hb4 st2=>?_;refine nx ?_;refine WL.go rfl (OX.stW sz47 (As.gb st2.g0) rfl rfl rfl rfl rfl fun w3 ss0 _ hs0=>?_);have st3:=st2.updB ss0 hs0;refine nx3 ?_;refine WC.cut1S (t:=30) (v:=.bool false) st3 ?_<|?_
  ·
   have hN4:=st3.fplt;refine WC.drawnS (m:=15) (E:=lookE [(1,fun v _=>v=.bool true)]) st3 (lookE_st (⟨fun _ _ _ _ _ _ _ h=>h,trivial⟩)) mixed (by kernel_rfl)<|?_;refine DP .r (fun _ hC=>VA agg47 (Blk.range (As.gb hC.2.g0)) .r)<|?_;refine DW.c0 (fun wx hC hF=>pvalidRG_calls (hkq.ext (St.cg hC.2)) (hG _ (List.getElem_mem hj2)))<|nx5 ?_;refine DW.gsplit (t:=18) rfl (fun g18=>?_) (fun g18=>?_)
   ·
    have hj0:1≤j:=by have h0:=g18;simp at h0;omega
    have hj3:j - 1<l.length:=by omega
    have hlt:cmpK l[j - 1].key l[j].key<0:=List.pairwise_iff_getElem.1 hS (j - 1) j hj3 hj2 (by simp at g18;omega);obtain ⟨b_x2,o_x2,r_x2,ha_x2,hl_x2,hR_x2,hr_x2,hz_x2⟩:=Rd.at hl hj3;obtain ⟨p1,p2,p3,rfl,_,_⟩:=hR_x2;refine nx3 ?_;refine DP .r (fun _ hC=>PV.ixZ sl30 (j - 1) ha_x2 rfl rfl (by omega) (by omega))<|nx ?_;refine DP .r (fun _ hC=>PV.ldM agg40 (range_chg hr_x2 (St.cg hC.2) (by simp)) rfl rfl)<|nx ?_;refine DP .r (fun _ hC=>PV.ldM agg40 (Blk.range (As.gb hC.2.g0)) rfl rfl)<|DW.nil<|?_;rintro w4 ⟨hsz4,st4⟩ ⟨_,_⟩;refine WL.c0 (pcmp_calls (a:=l[j - 1].key) (b:=l[j].key)) st4 fun w5 s5 st5=>?_;refine nx4 ?_;exact EX.meet1 20 rfl rfl rfl (tG g18) (st5)
   refine nx8 ?_;refine DW.nil<|?_;rintro w4 ⟨hsz4,st4⟩ ⟨_,_⟩;refine nx5 ?_;exact EX.meet1 20 rfl rfl rfl (tG g18) (st4)
  intro w4 st4;refine nx ?_;refine WC.cd (fun g30=>?_) fun g30=>?_
  ·
   exact nope g30
  refine nx7 ?_;refine EX.again (j+1) (Sub.k2 rfl rfl<|Sub.cons rfl<|Sub.v<|Sub.nil) ⟨st4.drop,⟨by omega,trivial⟩⟩ (by first | (simp only [];omega) | omega)
 simp at g8
 refine nx12 ?_;refine nx2 ?_;refine EX.ret1 rfl rfl<|?_;exact ⟨by simp;omega,(St.cg st1)⟩
theorem pinputOk_calls {i:Nat} {k:Key} {w:World} (h99:i≤99) (hk:k=⟨30,itoa i⟩):Calls Tryz.prog 102 #[k.val] w fun e w'=>e=.returned (.bool true)∧Chg [] w w':=by
 subst hk;refine enter (args:=[(⟨30,itoa i⟩:Key).val]) Tryz.func102 rfl Tryz.ntmps102 rfl<|?_;have st0:St w (fun _=>False) (fun _=>False) w []:=St.start (by simp);refine nx2 ?_;refine WL.go rfl (OX.box rfl rfl rfl fun b1 w1 nw1 hb1=>?_);have st1:=st0.newB nw1 hb1;refine nx5 ?_;refine WP .r (VA agg40 st1.b0 .r)<|?_;refine WL.c0 (pvalidK_calls (k:=⟨30,itoa i⟩) ⟨(by decide:(30:Int)≤30),(by decide:(30:Int)≤32)⟩ rfl h99) st1 fun w2 s2 st2=>?_;refine nx ?_;refine WP .r (VA agg40 st2.b0 .r)<|?_;refine WL.c1 (u:=.bool true) (pinput_calls (k:=⟨30,itoa i⟩)) (by rw [show isInput ⟨30,itoa i⟩=true from rfl]) st2 fun w3 s3 st3=>?_;refine nx5 ?_;refine EX.ret1 rfl rfl<|?_;exact ⟨rfl,(St.cg st3)⟩
set_option maxHeartbeats 1600000 in
set_option maxRecDepth 100000 in
theorem prevValidG_calls {rules:List Rule} {x:Bas} {a1 a2:Option Addr} {n1 e1 n2 e2:Nat} {w:World} {Z:Nat→Prop} (hi:Rd RR.inp 4 Z w a1 n1 e1 x.inputs) (hr:Rd RR.rcd 8 Z w a2 n2 e2 x.recs) (hx:GoodB rules x):Calls Tryz.prog 61 #[.agg (x.row a1 n1 e1 a2 n2 e2).toArray] w fun e w'=>e=.returned (.bool true)∧Chg [] w w':=by
 obtain ⟨x0,x1,xi,xk,x6,xr,xs,x4,xv⟩:=hx;have hin:=hi.len;have hil:=hi.le;have hrn:=hr.len;refine enter (args:=[.agg (x.row a1 n1 e1 a2 n2 e2).toArray]) Tryz.func61 rfl Tryz.ntmps61 rfl<|?_;have st0:St w (fun _=>False) (fun _=>False) w []:=St.start (by simp);refine nx2 ?_;refine WL.go rfl (OX.box rfl rfl rfl fun b1 w1 nw1 hb1=>?_);have st1:=st0.newB nw1 hb1;refine nx5 ?_;refine WC.cut1S (t:=24) (v:=.bool false) st1 ?_<|?_
 ·
  refine nx2 ?_;refine WP .r (V1 one3 st1.b0 .r)<|nx2 ?_;refine WL.gsplit (t:=8) rfl (fun g8=>?_) (fun g8=>?_)
  ·
   refine nx12 ?_;refine nx5 ?_;exact EX.meet1 21 rfl rfl rfl (tG g8) (st1)
  refine nx ?_;refine WP .r (V1 one3 st1.b0 .r)<|nx3 ?_;refine WL.gsplit (t:=13) rfl (fun g13=>?_) (fun g13=>?_)
  ·
   refine nx12 ?_;exact EX.meet1 22 rfl rfl rfl (tG (aj g8 g13)) (st1)
  refine nx ?_;refine WP .r (V1 one29 st1.b0 .r)<|nx4 ?_;refine WL.gsplit (t:=19) rfl (fun g19=>?_) (fun g19=>?_)
  ·
   refine nx6 ?_;exact EX.meet1 23 rfl rfl rfl (tG (aj g8<|aj g13 g19)) (st1)
  refine nx ?_;refine WP .r (V1 one30 st1.b0 .r)<|?_;refine WL.c0 (pvalidListG_calls (hr.ext (St.cg st1)) xr xs x4) st1 fun w2 s2 st2=>?_;refine nx3 ?_;exact EX.meet1 23 rfl rfl rfl (tG (aj g8<|aj g13 g19)) (st2)
 intro w2 st2;refine nx ?_;refine WC.cd (fun g24=>?_) fun g24=>?_
 ·
  exact nope g24
 refine nx6 ?_;refine WP .r (V1 one29 st2.b0 .r)<|nx5 ?_;refine WC.loopS1 (σ:=Nat) (kvs:=fun j=>[(1,.pointer (some ⟨b1,0,none⟩)),(26,.slice a1 n1 e1),(27,.int .i64 (n1:Int)),(28,.int .i64 (j:Int))]) (F:=fun j=>[]) (I:=fun j=>(j≤n1)∧True) (μ:=fun j=>n1 - j) (0) (st2) (Sub.cons rfl<|Sub.v<|Sub.v<|Sub.v<|Sub.nil) (⟨by omega,trivial⟩)<|?_;rintro j w3 st3 ⟨hj,_⟩;simp only [CA,NA] at st3 hj ⊢;refine nx6 ?_;refine WC.cd (fun g29=>?_) fun g29=>?_
 ·
  simp at g29
  have hj2:j<x.inputs.length:=by omega
  obtain ⟨y,hy⟩:∃y,x.inputs[j]=y:=⟨_,rfl⟩;obtain ⟨i,h99,hyk⟩:=xk _ (hy ▸ List.getElem_mem hj2);obtain ⟨_,_,hv,hc0,hc1⟩:=xi.2 _ (hy ▸ List.getElem_mem hj2);refine nx5 ?_;obtain ⟨b_x1,o_x1,r_x1,ha_x1,hl_x1,hR_x1,hr_x1,hz_x1⟩:=Rd.at hi hj2;have hR_x1:=RR.flat_eq hR_x1;subst hR_x1;rw [hy] at hr_x1
  have hj3:j - 1<x.inputs.length:=by omega
  obtain ⟨z,hz⟩:∃z,x.inputs[j - 1]=z:=⟨_,rfl⟩;refine nx2 ?_;refine WP .r (PV.ixS sl29 ha_x1 rfl rfl (by omega))<|WP .r (VA agg73 (range_chg hr_x1 (St.cg st3) (by simp)) .r)<|?_;refine WL.al st3 fun b4 w4 nw4 hb4 st4=>?_;refine nx ?_;refine WL.go rfl (OX.stW sz73 (As.gb st4.g0) rfl rfl rfl rfl rfl fun w5 ss0 _ hs0=>?_);have st5:=st4.updB ss0 hs0;refine nx3 ?_;refine WC.cut1S (t:=71) (v:=.bool false) st5 ?_<|?_
  ·
   have hN6:=st5.fplt;refine WC.drawnS (m:=37) (E:=lookE [(2,fun v _=>v=.bool true),(17,fun v _=>v=.int .i64 (cmpK z.key y.key))]) st5 (lookE_st (⟨fun _ _ _ _ _ _ _ h=>h,⟨fun _ _ _ _ _ _ _ h=>h,trivial⟩⟩)) mixed (by kernel_rfl)<|nx ?_;refine DP .r (fun _ hC=>PV.ldM agg40 (Blk.range (As.gb hC.2.g0)) rfl rfl)<|?_;refine DW.c0 (fun wx hC hF=>pinputOk_calls h99 hyk)<|nx5 ?_;refine DW.gsplit (t:=40) rfl (fun g40=>?_) (fun g40=>?_)
   ·
    have hj0:1≤j:=by have h0:=g40;simp at h0;omega
    have hlt:cmpK z.key y.key<0:=by rw [← hy,← hz];exact List.pairwise_iff_getElem.1 xi.1 (j - 1) j hj3 hj2 (by omega)
    obtain ⟨b_x2,o_x2,r_x2,ha_x2,hl_x2,hR_x2,hr_x2,hz_x2⟩:=Rd.at hi hj3;have hR_x2:=RR.flat_eq hR_x2;subst hR_x2;rw [hz] at hr_x2;refine nx ?_;refine DP .r (fun _ hC=>V1 one29 (Blk.range (As.gb hC.2.g1)) .r)<|nx2 ?_;refine DP .r (fun _ hC=>PV.ixZ sl29 (j - 1) ha_x2 rfl rfl (by omega) (by omega))<|nx ?_;refine DP .r (fun _ hC=>PV.ldM agg40 (range_chg hr_x2 (St.cg hC.2) (by simp)) rfl rfl)<|nx ?_;refine DP .r (fun _ hC=>PV.ldM agg40 (Blk.range (As.gb hC.2.g0)) rfl rfl)<|?_;refine DW.c0 (fun wx hC hF=>pcmp_calls (a:=z.key) (b:=y.key))<|nx4 ?_;refine DW.gsplit (t:=54) rfl (fun g54=>?_) (fun g54=>?_)
    ·
     refine nx12 ?_;refine nx3 ?_;refine DW.nil<|?_;rintro w6 ⟨hsz6,st6⟩ ⟨_,⟨_,_⟩⟩;refine nx3 ?_;exact EX.meet1 41 rfl rfl rfl (tG (aj g40 g54)) (st6)
    refine nx ?_;refine DP .r (fun _ hC=>V1 one9 (Blk.range (As.gb hC.2.g0)) .r)<|nx4 ?_;refine DW.gsplit (t:=60) rfl (fun g60=>?_) (fun g60=>?_)
    ·
     refine nx9 ?_;refine DW.nil<|?_;rintro w6 ⟨hsz6,st6⟩ ⟨_,⟨_,_⟩⟩;refine nx3 ?_;exact EX.meet1 42 rfl rfl rfl (tG (aj g40<|aj g54 g60)) (st6)
    refine nx ?_;refine DP .r (fun _ hC=>V1 one3 (Blk.range (As.gb hC.2.g0)) .r)<|nx3 ?_;refine DW.gsplit (t:=65) rfl (fun g65=>?_) (fun g65=>?_)
    ·
     refine nx4 ?_;refine DW.nil<|?_;rintro w6 ⟨hsz6,st6⟩ ⟨_,⟨_,_⟩⟩;refine nx3 ?_;exact EX.meet1 43 rfl rfl rfl (tG (aj g40<|aj g54<|aj g60 g65)) (st6)
    refine nx ?_;refine DP .r (fun _ hC=>V1 one3 (Blk.range (As.gb hC.2.g0)) .r)<|nx ?_;refine DP .r (fun _ hC=>V1 one3 (Blk.range (As.gb hC.2.g1)) .r)<|DW.nil<|?_;rintro w6 ⟨hsz6,st6⟩ ⟨_,⟨_,_⟩⟩;refine nx3 ?_;exact EX.meet1 43 rfl rfl rfl (tG (aj g40<|aj g54<|aj g60 g65)) (st6)
   refine nx12 ?_;refine nx3 ?_;refine DP .r (fun _ hC=>V1 one9 (Blk.range (As.gb hC.2.g0)) .r)<|nx4 ?_;refine DW.gsplit (t:=60) rfl (fun g60=>?_) (fun g60=>?_)
   ·
    refine nx9 ?_;refine DW.nil<|?_;rintro w6 ⟨hsz6,st6⟩ ⟨_,_⟩;refine nx3 ?_;exact EX.meet1 41 rfl rfl rfl (tG (aj g40 g60)) (st6)
   refine nx ?_;refine DP .r (fun _ hC=>V1 one3 (Blk.range (As.gb hC.2.g0)) .r)<|nx3 ?_;refine DW.gsplit (t:=65) rfl (fun g65=>?_) (fun g65=>?_)
   ·
    refine nx4 ?_;refine DW.nil<|?_;rintro w6 ⟨hsz6,st6⟩ ⟨_,_⟩;refine nx3 ?_;exact EX.meet1 42 rfl rfl rfl (tG (aj g40<|aj g60 g65)) (st6)
   refine nx ?_;refine DP .r (fun _ hC=>V1 one3 (Blk.range (As.gb hC.2.g0)) .r)<|nx ?_;refine DP .r (fun _ hC=>V1 one3 (Blk.range (As.gb hC.2.g1)) .r)<|DW.nil<|?_;rintro w6 ⟨hsz6,st6⟩ ⟨_,_⟩;refine nx3 ?_;exact EX.meet1 42 rfl rfl rfl (tG (aj g40<|aj g60 g65)) (st6)
  intro w6 st6;refine nx ?_;refine WC.cd (fun g71=>?_) fun g71=>?_
  ·
   exact nope g71
  refine nx7 ?_;refine EX.again (j+1) (Sub.cons rfl<|Sub.v<|Sub.v<|Sub.v<|Sub.nil) ⟨st6.drop,⟨by omega,trivial⟩⟩ (by first | (simp only [];omega) | omega)
 simp at g29
 refine nx8 ?_;refine WP .r (V1 one30 st3.b0 .r)<|WP .r (PV.func (us:=[]) (vs:=[.pointer (some ⟨b1,0,none⟩)]) rfl rfl)<|?_;refine WL.c0 (pcontainsR_calls (p:=fun r=>decide (x.revision<r.verified)) cf105 (hr.ext (St.cg st3)) (fun wq hq y _ a n c _=>prevValid1_calls ((As.gb st3.g0).ext hq)) (fun y hy=>by have:=xv y hy;simp;omega)) st3 fun w4 s4 st4=>?_;refine nx5 ?_;refine EX.ret1 rfl rfl<|?_;exact ⟨by simp,(St.cg st4)⟩
end Go.Rc

