/- Walks over the program, part WN. Conditions: as each theorem says. -/
import Derived.Test.YtgcmaglhocmnlaaGreatDoorFacts
import Derived.Test.YtgcmaglhocmnlaaGreatDoorWLib
import Derived.Test.YtgcmaglhocmnlaaGreatDoorWC
import Derived.Test.YtgcmaglhocmnlaaGreatDoorBf
import Derived.Test.YtgcmaglhocmnlaaGreatDoorBd
import Derived.Test.YtgcmaglhocmnlaaGreatDoorBc
set_option linter.unusedVariables false
set_option linter.unusedSimpArgs false
set_option linter.unusedSectionVars false
namespace Go.Rc
open Go Go.Proofs
set_option maxHeartbeats 400000
theorem ptoy_calls {n:Int} {w:World}:Calls Tryz.prog 143 #[.int .i64 n] w fun e w'=>e=.returned (.bool (decide (30≤n) && decide (n≤32)))∧Chg [] w w':=by
 refine enter (args:=[.int .i64 n]) Tryz.func143 rfl Tryz.ntmps143 rfl<|?_;have st0:St w (fun _=>False) (fun _=>False) w []:=St.start (by simp);refine nx6 ?_;refine WC.cut1Se (t:=2) (v:=.bool (decide (30≤n) && decide (n≤32))) st0 ?_<|?_
 ·
  refine nx4 ?_;refine WL.gsplit (t:=5) rfl (fun g5=>?_) (fun g5=>?_)
  ·
   refine nx5 ?_;exact EX.meet1e 8 rfl rfl rfl (by simp only [g5];first | rfl | simp) (st0)
  refine nx5 ?_;exact EX.meet1e 8 rfl rfl rfl (by simp only [g5];first | rfl | simp) (st0)
 intro w1 st1;refine nx2 ?_;refine EX.ret1 rfl rfl<|?_;exact ⟨rfl,(St.cg st1)⟩
theorem plang_calls {n:Int} {w:World}:Calls Tryz.prog 117 #[.int .i64 n] w fun e w'=>e=.returned (.bool (decide (1≤n) && decide (n≤22)))∧Chg [] w w':=by
 refine enter (args:=[.int .i64 n]) Tryz.func117 rfl Tryz.ntmps117 rfl<|?_;have st0:St w (fun _=>False) (fun _=>False) w []:=St.start (by simp);refine nx6 ?_;refine WC.cut1Se (t:=2) (v:=.bool (decide (1≤n) && decide (n≤22))) st0 ?_<|?_
 ·
  refine nx4 ?_;refine WL.gsplit (t:=5) rfl (fun g5=>?_) (fun g5=>?_)
  ·
   refine nx5 ?_;exact EX.meet1e 8 rfl rfl rfl (by simp only [g5];first | rfl | simp) (st0)
  refine nx5 ?_;exact EX.meet1e 8 rfl rfl rfl (by simp only [g5];first | rfl | simp) (st0)
 intro w1 st1;refine nx2 ?_;refine EX.ret1 rfl rfl<|?_;exact ⟨rfl,(St.cg st1)⟩
theorem pinput_calls {k:Key} {w:World}:Calls Tryz.prog 72 #[k.val] w fun e w'=>e=.returned (.bool (isInput k))∧Chg [] w w':=by
 refine enter (args:=[k.val]) Tryz.func72 rfl Tryz.ntmps72 rfl<|?_;have st0:St w (fun _=>False) (fun _=>False) w []:=St.start (by simp);refine nx2 ?_;refine WL.go rfl (OX.box rfl rfl rfl fun b1 w1 nw1 hb1=>?_);have st1:=st0.newB nw1 hb1;refine nx4 ?_;refine WC.cut1Se (t:=2) (v:=.bool (isInput k)) st1 ?_<|?_
 ·
  refine nx2 ?_;refine WP .r (V1 one3 st1.b0 .r)<|nx2 ?_;refine WL.gsplit (t:=6) rfl (fun g6=>?_) (fun g6=>?_)
  ·
   refine nx11 ?_;exact EX.meet1e 15 rfl rfl rfl (by unfold isInput;simp only [g6];first | rfl | simp) (st1)
  refine nx ?_;refine WP .r (V1 one3 st1.b0 .r)<|nx3 ?_;refine WL.gsplit (t:=11) rfl (fun g11=>?_) (fun g11=>?_)
  ·
   refine nx6 ?_;exact EX.meet1e 16 rfl rfl rfl (by unfold isInput;simp only [g6,g11];first | rfl | simp) (st1)
  refine nx ?_;refine WP .r (V1 one3 st1.b0 .r)<|nx4 ?_;exact EX.meet1e 16 rfl rfl rfl (by unfold isInput;simp only [g6,g11];first | rfl | simp) (st1)
 intro w2 st2;refine nx2 ?_;refine EX.ret1 rfl rfl<|?_;exact ⟨rfl,(St.cg st2)⟩
theorem prule_calls {k:Key} {w:World}:Calls Tryz.prog 108 #[k.val] w fun e w'=>e=.returned (.bool (decide (k.kind=31) || decide (k.kind=32)))∧Chg [] w w':=by
 refine enter (args:=[k.val]) Tryz.func108 rfl Tryz.ntmps108 rfl<|?_;have st0:St w (fun _=>False) (fun _=>False) w []:=St.start (by simp);refine nx2 ?_;refine WL.go rfl (OX.box rfl rfl rfl fun b1 w1 nw1 hb1=>?_);have st1:=st0.newB nw1 hb1;refine nx4 ?_;refine WC.cut1Se (t:=2) (v:=.bool (decide (k.kind=31) || decide (k.kind=32))) st1 ?_<|?_
 ·
  refine nx2 ?_;refine WP .r (V1 one3 st1.b0 .r)<|nx2 ?_;refine WL.gsplit (t:=6) rfl (fun g6=>?_) (fun g6=>?_)
  ·
   refine nx6 ?_;exact EX.meet1e 10 rfl rfl rfl (by simp only [g6];first | rfl | simp) (st1)
  refine nx ?_;refine WP .r (V1 one3 st1.b0 .r)<|nx4 ?_;exact EX.meet1e 10 rfl rfl rfl (by simp only [g6];first | rfl | simp) (st1)
 intro w2 st2;refine nx2 ?_;refine EX.ret1 rfl rfl<|?_;exact ⟨rfl,(St.cg st2)⟩
theorem pcyclic_calls {k:Key} {w:World} (hk:notLang k):Calls Tryz.prog 73 #[k.val] w fun e w'=>e=.returned (.bool (decide (k.kind=32)))∧Chg [] w w':=by
 refine enter (args:=[k.val]) Tryz.func73 rfl Tryz.ntmps73 rfl<|?_;have st0:St w (fun _=>False) (fun _=>False) w []:=St.start (by simp);refine nx2 ?_;refine WL.go rfl (OX.box rfl rfl rfl fun b1 w1 nw1 hb1=>?_);have st1:=st0.newB nw1 hb1;refine nx4 ?_;refine WC.cut1Se (t:=2) (v:=.bool (decide (k.kind=32))) st1 ?_<|?_
 ·
  refine nx2 ?_;refine WP .r (V1 one3 st1.b0 .r)<|nx2 ?_;refine WL.gsplit (t:=6) rfl (fun g6=>?_) (fun g6=>?_)
  ·
   refine nx11 ?_;exact EX.meet1e 15 rfl rfl rfl (by simp only [g6];first | done | rfl | simp) (st1)
  refine nx ?_;refine WP .r (V1 one3 st1.b0 .r)<|?_;refine WL.go rfl (OX.call cf117 rfl rfl ((plang_calls (n:=k.kind)).mono ?_));rintro _ w2 ⟨rfl,s2⟩;refine ⟨_,rfl,?_⟩;rw [show (decide (1≤k.kind) && decide (k.kind≤22))=false by (rcases hk with h | h <;> simp <;> omega)];have st2:=st1.step s2;refine nx8 ?_;exact EX.meet1e 15 rfl rfl rfl (by simp only [g6];first | done | rfl | simp) (st2)
 intro w2 st2;refine nx2 ?_;refine EX.ret1 rfl rfl<|?_;exact ⟨rfl,(St.cg st2)⟩
theorem pnumber_calls {k:Key} {n:Nat} {w:World} (hk:30≤k.kind∧k.kind≤32) (ht:k.text=itoa n) (hn:n≤99):Calls Tryz.prog 110 #[k.val] w fun e w'=>e=.returned (.int .i64 (n:Int))∧Chg [] w w':=by
 obtain ⟨kd,tx⟩:=k;simp only at hk ht;subst ht;refine enter (args:=[(⟨kd,itoa n⟩:Key).val]) Tryz.func110 rfl Tryz.ntmps110 rfl<|?_;have st0:St w (fun _=>False) (fun _=>False) w []:=St.start (by simp);refine nx2 ?_;refine WL.go rfl (OX.box rfl rfl rfl fun b1 w1 nw1 hb1=>?_);have st1:=st0.newB nw1 hb1;refine nx7 ?_;refine WP .r (V1 one3 st1.b0 .r)<|?_;refine WL.go rfl (OX.call cf143 rfl rfl ((ptoy_calls (n:=kd)).mono ?_));rintro _ w2 ⟨rfl,s2⟩;refine ⟨_,rfl,?_⟩;rw [show (decide (30≤kd) && decide (kd≤32))=true by (simp;omega)];have st2:=st1.step s2;refine nx3 ?_;refine WC.condF rfl<|nx5 ?_;refine WP .r (V1 one9 st2.b0 .r)<|?_;refine WL.c0 (atoi_small hn w2) st2 fun w3 s3 st3=>?_;refine nx9 ?_;refine WC.cut1S (t:=31) (v:=.bool false) st3 ?_<|?_
 ·
  have hN4:=st3.fplt;refine WC.drawnS (m:=15) (E:=lookE [(12,fun v _=>v=.string (itoa n))]) st3 (lookE_st (⟨fun _ _ _ _ _ _ _ h=>h,trivial⟩)) mixed (by kernel_rfl)<|nx ?_;refine DP .r (fun _ hC=>PV.neIN nif176 rfl)<|nx ?_;refine DW.gsplit (t:=17) rfl (fun g17=>?_) (fun g17=>?_)
  ·
   refine nx12 ?_;refine DW.nil<|?_;rintro w4 ⟨hsz4,st4⟩ _;refine nx3 ?_;exact EX.meet1 18 rfl rfl rfl (tG g17) (st4)
  refine nx4 ?_;refine DW.gsplit (t:=21) rfl (fun g21=>?_) (fun g21=>?_)
  ·
   refine nx8 ?_;refine DW.nil<|?_;rintro w4 ⟨hsz4,st4⟩ _;refine nx3 ?_;exact EX.meet1 19 rfl rfl rfl (tG (aj g17 g21)) (st4)
  refine nx4 ?_;refine DW.gsplit (t:=25) rfl (fun g25=>?_) (fun g25=>?_)
  ·
   refine nx4 ?_;refine DW.nil<|?_;rintro w4 ⟨hsz4,st4⟩ _;refine nx3 ?_;exact EX.meet1 20 rfl rfl rfl (tG (aj g17<|aj g21 g25)) (st4)
  refine nx ?_;refine DW.c0 (fun wx hC hF=>itoa_small (n:=(n:Int)) (by omega) (by omega) wx)<|nx ?_;refine DP .r (fun _ hC=>V1 one9 (Blk.range (As.gb hC.2.g0)) .r)<|DW.nil<|?_;rintro w4 ⟨hsz4,st4⟩ ⟨_,_⟩;refine nx3 ?_;exact EX.meet1 20 rfl rfl rfl (tG (aj g17<|aj g21 g25)) (st4)
 intro w4 st4;refine nx ?_;refine WC.cd (fun g31=>?_) fun g31=>?_
 ·
  exact absurd g31 (by simp)
 ·
  refine nx9 ?_;refine EX.ret1 rfl rfl<|?_;exact ⟨rfl,(St.cg st4)⟩
 -- UNUSED ANNOTATIONS C8.T
theorem pvalidK_calls {k:Key} {n:Nat} {w:World} (hk:30≤k.kind∧k.kind≤32) (ht:k.text=itoa n) (hn:n≤99):Calls Tryz.prog 107 #[k.val] w fun e w'=>e=.returned (.bool true)∧Chg [] w w':=by
 refine enter (args:=[k.val]) Tryz.func107 rfl Tryz.ntmps107 rfl<|?_;have st0:St w (fun _=>False) (fun _=>False) w []:=St.start (by simp);refine nx2 ?_;refine WL.go rfl (OX.box rfl rfl rfl fun b1 w1 nw1 hb1=>?_);have st1:=st0.newB nw1 hb1;refine nx7 ?_;refine WP .r (V1 one3 st1.b0 .r)<|?_;refine WL.go rfl (OX.call cf143 rfl rfl ((ptoy_calls (n:=k.kind)).mono ?_));rintro _ w2 ⟨rfl,s2⟩;refine ⟨_,rfl,?_⟩;rw [show (decide (30≤k.kind) && decide (k.kind≤32))=true by (simp;omega)];have st2:=st1.step s2;refine nx2 ?_;refine WC.condT rfl<|nx2 ?_;refine WP .r (VA agg40 st2.b0 .r)<|?_;refine WL.c0 (pnumber_calls (k:=k) hk ht hn) st2 fun w3 s3 st3=>?_;refine nx6 ?_;refine EX.ret1 rfl rfl<|?_;exact ⟨by simp,(St.cg st3)⟩
theorem pof_calls {rules:List Rule} {A:Nat→Prop} {a:Option Addr} {r c:Nat} {n:Int} {w:World} (hr:Rules A w a r c rules):Calls Tryz.prog 109 #[.slice a r c,.int .i64 n] w fun e w'=>e=.returned (ofK rules n).val∧Chg [] w w':=by
 have hle:=hr.le;have hlen:=hr.len;refine enter (args:=[.slice a r c,.int .i64 n]) Tryz.func109 rfl Tryz.ntmps109 rfl<|?_;have st0:St w (fun _=>False) (fun _=>False) w []:=St.start (by simp);refine nx2 ?_;refine WL.al st0 fun b4 w1 nw4 hb4 st1=>?_;refine nx4 ?_;refine WC.cut1S (t:=17) (v:=.bool (decide (n<0) || (decide ((r:Int)≤n) || decide (99<n)))) st1 ?_<|?_
 ·
  refine nx4 ?_;refine WL.gsplit (t:=8) rfl (fun g8=>?_) (fun g8=>?_)
  ·
   refine nx10 ?_;exact EX.meet1 13 rfl rfl rfl (by simp only [g8];first | rfl | simp) (st1)
  refine nx6 ?_;refine WL.gsplit (t:=14) rfl (fun g14=>?_) (fun g14=>?_)
  ·
   refine nx4 ?_;exact EX.meet1 14 rfl rfl rfl (by simp only [g8,g14];first | rfl | simp) (st1)
  refine nx4 ?_;exact EX.meet1 14 rfl rfl rfl (by simp only [g8,g14];first | rfl | simp) (st1)
 intro w2 st2;refine nx ?_;refine WC.cd (fun g17=>?_) fun g17=>?_
 ·
  have hk:ofK rules n=noKey:=by unfold ofK;rw [if_pos (by simp at g17;omega)]
  refine nx3 ?_;refine WL.go rfl (OX.stW sz40 (As.gb st2.g0) rfl rfl rfl rfl rfl fun w3 ss0 _ hs0=>?_);have st3:=st2.updB ss0 hs0;refine nx4 ?_;refine EX.retC agg40 rfl rfl st3.b0 rfl<|?_;rw [hk];exact ⟨rfl,(St.cg st3)⟩
 simp at g17
 obtain ⟨i,rfl⟩:∃i:Nat,n=i:=⟨n.toNat,by omega⟩
 have hi:i<rules.length:=by omega
 have hk:ofK rules i=⟨if ringAt rules i then 32 else 31,itoa i⟩:=by unfold ofK;rw [if_neg (by omega)];rfl
 have hri:=ringAt_get hi;refine nx9 ?_;obtain ⟨b_x,o_x,r_x,ha_x,_,⟨q1,q2,q3,rfl,_⟩,hr_x,_⟩:=(hr.ext (St.cg st2)).at (getElem_some hi);refine nx3 ?_;refine WP .r (PV.ixS sl27 ha_x rfl rfl (by omega))<|nx ?_;refine WP .r (PV.ld1 (j:=0) one4 hr_x rfl rfl)<|nx2 ?_;refine WC.cd (fun g23=>?_) fun g23=>?_
 ·
  have hk2:ofK rules i=⟨32,itoa i⟩:=by rw [hk,hri,g23];rfl
  refine nx8 ?_;refine WL.c0 (itoa_small (n:=(i:Int)) (by omega) (by omega) w2) st2 fun w3 s3 st3=>?_;refine WP .r (PV.build' (us:=_) bt40 rfl rfl rfl)<|?_;refine WL.go rfl (OX.stW sz40 (As.gb st3.g0) rfl rfl rfl rfl rfl fun w4 ss1 _ hs1=>?_);have st4:=st3.updB ss1 hs1;refine nx3 ?_;refine EX.retC agg40 rfl rfl st4.b0 rfl<|?_;rw [hk2];exact ⟨rfl,(St.cg st4)⟩
 have hk2:ofK rules i=⟨31,itoa i⟩:=by rw [hk,hri,g23];rfl
 refine nx6 ?_;refine WL.c0 (itoa_small (n:=(i:Int)) (by omega) (by omega) w2) st2 fun w3 s3 st3=>?_;refine WP .r (PV.build' (us:=_) bt40 rfl rfl rfl)<|?_;refine WL.go rfl (OX.stW sz40 (As.gb st3.g0) rfl rfl rfl rfl rfl fun w4 ss2 _ hs2=>?_);have st4:=st3.updB ss2 hs2;refine nx3 ?_;refine EX.retC agg40 rfl rfl st4.b0 rfl<|?_;rw [hk2];exact ⟨rfl,(St.cg st4)⟩
theorem pfinal_calls {k:Int} {l:List Int} {A:Nat→Prop} {a:Option Addr} {r c:Nat} {w:World} (hl:Ints A w a r c l) (h0:∀x∈l,0≤x∧x≤65535) (hr:r≤1000) (hk:k=1):Calls Tryz.prog 211 #[.int .i64 k,.slice a r c] w fun e w'=>e=.returned (.int .i64 (l.sum % 1000))∧Chg [] w w':=by
 have hle:=SR.le hl;have hlen:=SR.len hl
 have hsum:∀i,0≤(l.take i).sum∧(l.take i).sum≤65535*(l.take i).length:=by
  intro i
  have:∀l:List Int,(∀x∈l,0≤x∧x≤65535)→0≤l.sum∧l.sum≤65535*l.length:=by
   intro l
   induction l with
   | nil=>simp
   | cons y t ih=>intro h;have h1:=ih (fun x hx=>h x (by simp [hx]));have h2:=h y (by simp);simp only [List.sum_cons,List.length_cons];omega
  exact this _ (fun x hx=>h0 x (List.mem_of_mem_take hx))
 refine enter (args:=[.int .i64 k,.slice a r c]) Tryz.func211 rfl Tryz.ntmps211 rfl<|?_;have st0:St w (fun _=>False) (fun _=>False) w []:=St.start (by simp);refine nx12 ?_;refine nx9 ?_;refine WC.loopS1 (σ:=Nat × Nat × Nat) (kvs:=fun (i,m,bb)=>[(0,.int .i64 k),(5,.int .i64 (l.take i).sum),(6,.int .i64 (m:Int)),(7,.int .i64 (bb:Int)),(10,.slice a r c),(11,.int .i64 (r:Int)),(12,.int .i64 (i:Int))]) (F:=fun (i,m,bb)=>[]) (I:=fun (i,m,bb)=>(i≤r)∧(m≤65535)∧(bb<65536)∧True) (μ:=fun (i,m,bb)=>r - i) (0,0,0) (st0) (Sub.cons rfl<|Sub.v<|Sub.v<|Sub.v<|Sub.k2 rfl rfl<|Sub.v<|Sub.nil) (⟨by omega,by omega,by omega,trivial⟩)<|?_;rintro ⟨i,m,bb⟩ w1 st1 ⟨hi,hm,hb,_⟩;simp only [CA,NA] at st1 hi hm hb ⊢;refine nx6 ?_;refine WC.cd (fun g13=>?_) fun g13=>?_
 ·
  simp at g13
  have hi2:i<l.length:=by omega
  obtain ⟨u,hu⟩:∃u:Nat,l[i]=u:=⟨l[i].toNat,by have:=h0 l[i] (List.getElem_mem hi2);omega⟩
  have hu5:u≤65535:=by have:=h0 l[i] (List.getElem_mem hi2);omega
  have hs1:=hsum i
  have hlt:(l.take i).length≤1000:=by rw [List.length_take];omega
  have hst:(l.take (i+1)).sum=(l.take i).sum+u:=by rw [List.take_succ_eq_append_getElem hi2,List.sum_append,hu];simp
  refine nx5 ?_;obtain ⟨b_x,o_x,r_x,ha_x,_,rfl,hr_x,_⟩:=(SR.ext hl (St.cg st1)).at (getElem_some hi2);rw [hu] at hr_x;refine nx ?_;refine WP .r (PV.ixS sl22 ha_x rfl rfl (by omega))<|WP .r (PV.ld0 one3 hr_x rfl rfl)<|nx9 ?_;refine WP .r (PV.maxI rfl rfl)<|nx2 ?_;refine WP .r (PV.orN rfl rfl (by omega) (by omega))<|nx10 ?_;refine EX.again (i+1,max m u,bb ||| u) (Sub.cons rfl<|Sub.v<|Sub.v<|Sub.v<|Sub.k2 rfl rfl<|Sub.v<|Sub.nil) ⟨st1,⟨by omega,by show max m u≤65535;omega,by show bb ||| u<2 ^ 16;exact Nat.or_lt_two_pow hb (by omega),trivial⟩⟩ (by first | (simp only [];omega) | omega)
 simp at g13
 have hall:l.take i=l:=List.take_of_length_le (by omega);rw [hall];have hs1:=hsum i;rw [hall] at hs1;subst hk;refine nx12 ?_;refine nx6 ?_;refine WC.cd (fun g27=>?_) fun g27=>?_
 ·
  refine nx10 ?_;refine EX.ret1 rfl rfl<|?_;exact ⟨by rw [Int.tmod_eq_emod_of_nonneg (by omega)],(St.cg st1)⟩
 exact nope g27
theorem ptoyValid_calls {rules:List Rule} {A:Nat→Prop} {a:Option Addr} {r c:Nat} {w:World} (hr:Rules A w a r c rules) (hs:∀x∈rules,SimR x) (h24:rules.length≤24):Calls Tryz.prog 60 #[.slice a r c] w fun e w'=>e=.returned (.bool true)∧Chg [] w w':=by
 have hle:=hr.le;have hlen:=hr.len;refine enter (args:=[.slice a r c]) Tryz.func60 rfl Tryz.ntmps60 rfl<|?_;have st0:St w (fun _=>False) (fun _=>False) w []:=St.start (by simp);refine nx12 ?_;refine nx ?_;refine WC.cd (fun g12=>?_) fun g12=>?_
 ·
  exact nope g12
 refine nx11 ?_;refine WC.loopS1 (σ:=Nat) (kvs:=fun i=>[(0,.slice a r c),(13,.slice a r c),(14,.int .i64 (r:Int)),(15,.int .i64 (i:Int))]) (F:=fun i=>[]) (I:=fun i=>(i≤r)∧True) (μ:=fun i=>r - i) (0) (st0) (Sub.k2 rfl rfl<|Sub.cons rfl<|Sub.v<|Sub.nil) (⟨by omega,trivial⟩)<|?_;rintro i w1 st1 ⟨hi,_⟩;simp only [CA,NA] at st1 hi ⊢;refine nx6 ?_;refine WC.cd (fun g16=>?_) fun g16=>?_
 ·
  simp at g16
  have hi2:i<rules.length:=by omega
  obtain ⟨s1,s2,s3,s4,s5⟩:=hs rules[i] (List.getElem_mem hi2);obtain ⟨b_x,o_x,r_x,ha_x,_,⟨q1,q2,q3,rfl,hasks⟩,hr_x,_⟩:=(hr.ext (St.cg st1)).at (getElem_some hi2);have hal:=hasks.len
  have hq:q2=0:=by rw [hal,s2];rfl
  rw [s1,s3] at hr_x;refine nx7 ?_;refine WP .r (PV.ixS sl27 ha_x rfl rfl (by omega))<|WP .r (VA agg56 hr_x .r)<|?_;refine WL.al st1 fun b4 w2 nw4 hb4 st2=>?_;refine nx ?_;refine WL.go rfl (OX.stW sz56 (As.gb st2.g0) rfl rfl rfl rfl rfl fun w3 ss0 _ hs0=>?_);have st3:=st2.updB ss0 hs0;refine nx12 ?_;refine nx ?_;refine WP .r (V1 one4 st3.b0 .r)<|nx2 ?_;refine WC.cd (fun g21=>?_) fun g21=>?_
  ·
   exact nope g21
  refine nx4 ?_;refine WC.cut1S (t:=48) (v:=.bool false) st3 ?_<|?_
  ·
   refine nx2 ?_;refine WP .r (V1 one54 st3.b0 .r)<|nx3 ?_;refine WL.gsplit (t:=26) rfl (fun g26=>?_) (fun g26=>?_)
   ·
    refine nx12 ?_;refine nx11 ?_;exact EX.meet1 28 rfl rfl rfl (tG g26) (st3)
   refine nx ?_;refine WP .r (V1 one3 st3.b0 .r)<|nx4 ?_;refine WL.gsplit (t:=32) rfl (fun g32=>?_) (fun g32=>?_)
   ·
    refine nx12 ?_;refine nx5 ?_;exact EX.meet1 29 rfl rfl rfl (tG (aj g26 g32)) (st3)
   refine nx ?_;refine WP .r (V1 one3 st3.b0 .r)<|nx4 ?_;refine WL.gsplit (t:=38) rfl (fun g38=>?_) (fun g38=>?_)
   ·
    refine nx11 ?_;exact EX.meet1 30 rfl rfl rfl (tG (aj g26<|aj g32 g38)) (st3)
   refine nx ?_;refine WP .r (V1 one3 st3.b0 .r)<|nx3 ?_;refine WL.gsplit (t:=43) rfl (fun g43=>?_) (fun g43=>?_)
   ·
    refine nx6 ?_;exact EX.meet1 31 rfl rfl rfl (tG (aj g26<|aj g32<|aj g38 g43)) (st3)
   refine nx ?_;refine WP .r (V1 one3 st3.b0 .r)<|nx4 ?_;exact EX.meet1 31 rfl rfl rfl (tG (aj g26<|aj g32<|aj g38 g43)) (st3)
  intro w4 st4;refine nx ?_;refine WC.cd (fun g48=>?_) fun g48=>?_
  ·
   exact nope g48
  refine nx5 ?_;refine WP .r (V1 one54 st4.b0 .r)<|nx5 ?_;refine WC.loopS1 (σ:=Nat) (kvs:=fun k=>[(0,.slice a r c),(3,.int .i64 (i:Int)),(13,.slice a r c),(14,.int .i64 (r:Int)),(15,.int .i64 (i:Int)),(50,.slice q1 q2 q3),(51,.int .i64 (q2:Int)),(52,.int .i64 (k:Int))]) (F:=fun k=>[]) (I:=fun k=>True) (μ:=fun k=>0) (0) (st4) (Sub.k4 rfl rfl rfl rfl<|Sub.cons rfl<|Sub.v<|Sub.v<|Sub.v<|Sub.nil) (trivial)<|?_;rintro k w5 st5 _;simp only [CA,NA] at st5 ⊢;refine nx6 ?_;refine WC.cd (fun g53=>?_) fun g53=>?_
  ·
   exact nope g53
  refine nx10 ?_;refine EX.again (i+1) (Sub.k2 rfl rfl<|Sub.cons rfl<|Sub.v<|Sub.nil) ⟨st5.drop,⟨by omega,trivial⟩⟩ (by first | (simp only [];omega) | omega)
 refine nx11 ?_;refine EX.ret1 rfl rfl<|?_;exact ⟨rfl,(St.cg st1)⟩
theorem ptoyTurn_calls {rules:List Rule} {i:Nat} {A:Nat→Prop} {a:Option Addr} {r c:Nat} {w:World} (hi:i<rules.length) (h99:i≤99) (hs:SimR rules[i]) (hr:Rules A w a r c rules):Calls Tryz.prog 167 #[.slice a r c,(⟨31,itoa i⟩:Key).val,.slice none 0 0] w fun e w'=>e=.returned (⟨true,itoa rules[i].c,noKey⟩:Turn).val∧Chg [] w w':=by
 have hle:=hr.le;have hlen:=hr.len;have hk:=hs.key hi h99;obtain ⟨s1,s2,s3,s4,s5⟩:=hs;obtain ⟨b_x,o_x,r_x,ha_x,_,⟨q1,q2,q3,rfl,hasks⟩,hr_x,_⟩:=hr.at (getElem_some hi)
 have hq:q2=0:=by rw [hasks.len,s2];rfl
 subst hq;rw [s1,s3] at hr_x;refine enter (args:=[.slice a r c,(⟨31,itoa i⟩:Key).val,.slice none 0 0]) Tryz.func167 rfl Tryz.ntmps167 rfl<|?_;have st0:St w (fun _=>False) (fun _=>False) w []:=St.start (by simp);refine nx2 ?_;refine WL.go rfl (OX.box rfl rfl rfl fun b4 w1 nw4 hb4=>?_);have st1:=st0.newB nw4 hb4;refine WL.al st1 fun b6 w2 nw6 hb6 st2=>?_;refine nx4 ?_;refine WP .r (VA agg40 st2.b1 .r)<|?_;refine WL.c0 (pnumber_calls (k:=⟨31,itoa i⟩) ⟨(by decide:(30:Int)≤31),(by decide:(31:Int)≤32)⟩ rfl h99) st2 fun w3 s3 st3=>?_;refine nx5 ?_;refine WC.cut1S (t:=30) (v:=.bool false) st3 ?_<|?_
 ·
  have hN2:=st3.fplt;refine WC.drawnS (m:=12) (E:=lookE [(10,fun v _=>v=(ofK rules (i:Int)).val)]) st3 (lookE_st (⟨fun _ _ _ _ _ _ _ h=>h,trivial⟩)) mixed (by kernel_rfl)<|nx3 ?_;refine DW.gsplit (t:=19) rfl (fun g19=>?_) (fun g19=>?_)
  ·
   refine nx9 ?_;refine DW.nil<|?_;rintro w4 ⟨hsz2,st4⟩ _;refine nx3 ?_;exact EX.meet1 15 rfl rfl rfl (by first | rfl | (simp [g19,hk];done) | (simp only [g19];done) | (simp only [g19];rfl) | (simp [g19];done) | (simp;done) | (simp at g19 ⊢ <;> omega) | (simp <;> omega) | (simp [g19] <;> omega) | (simp at g19 <;> omega)) (st4)
  refine nx ?_;refine DP .r (fun _ hC=>V1 one3 (Blk.range (As.gb hC.2.g1)) .r)<|nx3 ?_;refine DW.gsplit (t:=24) rfl (fun g24=>?_) (fun g24=>?_)
  ·
   refine nx4 ?_;refine DW.nil<|?_;rintro w4 ⟨hsz2,st4⟩ _;refine nx3 ?_;exact EX.meet1 16 rfl rfl rfl (by first | rfl | (simp [g19,g24,hk];done) | (simp only [g19,g24];done) | (simp only [g19,g24];rfl) | (simp [g19,g24];done) | (simp;done) | (simp at g19 g24 ⊢ <;> omega) | (simp <;> omega) | (simp [g19,g24] <;> omega) | (simp at g19 g24 <;> omega)) (st4)
  refine nx2 ?_;refine DW.c0 (fun wx hC hF=>pof_calls (n:=(i:Int)) (hr.ext (St.cg hC.2)))<|?_;refine DP .r (fun _ hC=>VA agg40 (Blk.range (As.gb hC.2.g1)) .r)<|DW.nil<|?_;rintro w4 ⟨hsz2,st4⟩ ⟨_,_⟩;refine WP .r (PV.neK keyt40 (p:=ofK rules (i:Int)) (q:=⟨31,itoa i⟩) rfl rfl)<|nx2 ?_;exact EX.meet1 16 rfl rfl rfl (by first | rfl | (simp [g19,g24,hk];done) | (simp only [g19,g24];done) | (simp only [g19,g24];rfl) | (simp [g19,g24];done) | (simp;done) | (simp at g19 g24 ⊢ <;> omega) | (simp <;> omega) | (simp [g19,g24] <;> omega) | (simp at g19 g24 <;> omega)) (st4)
 intro w4 st4;refine nx ?_;refine WC.cd (fun g30=>?_) fun g30=>?_
 ·
  exact nope g30
 refine nx6 ?_;refine WP .r (PV.ixZ sl27 (i:=i) ha_x rfl rfl (by omega) (by omega))<|WP .r (VA agg56 (range_chg hr_x (St.cg st4) (by simp)) .r)<|?_;refine WL.al st4 fun b8 w5 nw8 hb8 st5=>?_;refine WL.go rfl (OX.stW sz56 (As.gb st5.g0) rfl rfl rfl rfl rfl fun w6 ss0 _ hs0=>?_);have st6:=st5.updB ss0 hs0;refine nx12 ?_;refine nx2 ?_;refine WP .r (V1 one54 st6.b0 .r)<|nx4 ?_;refine WC.cd (fun g42=>?_) fun g42=>?_
 ·
  exact nope g42
 refine nx5 ?_;refine WP .r (V1 one3 st6.b0 .r)<|?_;refine WL.go rfl (OX.bslice' (us:=[.int .i64 rules[i].c]) bs22_1 rfl rfl rfl rfl fun b79 w7 nw79 hb79=>?_);have st7:=st6.newB nw79 hb79;refine nx8 ?_;refine WP .r (V1 one54 st7.b1 .r)<|nx ?_;refine WP .r (PV.sliceH sl137 (SR.nil (fun _=>True) w7 1 (fun (s:ByteArray) r=>r=[.string s])) rfl rfl (by omega))<|nx5 ?_;refine WC.loopS1 (σ:=Nat) (kvs:=fun k=>[(6,.pointer (some ⟨b6,0,none⟩)),(8,.pointer (some ⟨b8,0,none⟩)),(12,.slice (some ⟨b79,0,none⟩) 1 1),(84,.slice none 0 0),(85,.int .i64 ((0:Nat):Int)),(86,.int .i64 (k:Int))]) (F:=fun k=>[]) (I:=fun k=>True) (μ:=fun k=>0) (0) (st7) (Sub.k2 rfl rfl<|Sub.v<|Sub.v<|Sub.v<|Sub.v<|Sub.nil) (trivial)<|?_;rintro k w8 st8 _;simp only [CA,NA] at st8 ⊢;refine nx6 ?_;refine WC.cd (fun g87=>?_) fun g87=>?_
 ·
  exact nope g87
 refine nx8 ?_;refine WP .r (V1 one3 st8.b1 .r)<|nx ?_;refine WL.c1 (u:=.int .i64 rules[i].c) (pfinal_calls (SR.blk1 (A:=fun _=>True) (x:=rules[i].c) (As.gb st8.g0) trivial rfl (by simp [Value.oneCell']) rfl) (by simp;omega) (by omega) rfl) (by rw [show [rules[i].c].sum % 1000=rules[i].c by (simp;omega)]) st8 fun w9 s9 st9=>?_;refine WL.c0 (itoa_small (n:=rules[i].c) (by omega) (by omega) w9) st9 fun w10 s10 st10=>?_;refine WP .r (PV.build' (us:=_) bt146 rfl rfl rfl)<|?_;refine WL.go rfl (OX.stW sz146 (As.gb st10.g2) rfl rfl rfl rfl rfl fun w11 ss1 _ hs1=>?_);have st11:=st10.p2.updB ss1 hs1;refine nx3 ?_;refine EX.retC agg146 rfl rfl st11.b0 rfl<|?_;exact ⟨rfl,(St.cg st11)⟩
theorem pfturn_calls {rules:List Rule} {i:Nat} {A:Nat→Prop} {a:Option Addr} {r c:Nat} {w:World} (hi:i<rules.length) (h99:i≤99) (hs:SimR rules[i]) (hr:Rules A w a r c rules):Calls Tryz.prog 145 #[.slice a r c,(⟨31,itoa i⟩:Key).val,.slice none 0 0] w fun e w'=>e=.returned (⟨true,itoa rules[i].c,noKey⟩:Turn).val∧Chg [] w w':=by
 refine enter (args:=[.slice a r c,(⟨31,itoa i⟩:Key).val,.slice none 0 0]) Tryz.func145 rfl Tryz.ntmps145 rfl<|?_;have st0:St w (fun _=>False) (fun _=>False) w []:=St.start (by simp);refine nx2 ?_;refine WL.go rfl (OX.box rfl rfl rfl fun b4 w1 nw4 hb4=>?_);have st1:=st0.newB nw4 hb4;refine WL.al st1 fun b6 w2 nw6 hb6 st2=>?_;refine nx6 ?_;refine WP .r (VA agg40 st2.b1 .r)<|?_;refine WL.c0 (prule_calls (k:=⟨31,itoa i⟩)) st2 fun w3 s3 st3=>?_;refine nx3 ?_;refine WC.condT rfl<|nx3 ?_;refine WP .r (VA agg40 st3.b1 .r)<|nx ?_;refine WL.c0 (ptoyTurn_calls hi h99 hs (hr.ext (St.cg st3))) st3 fun w4 s4 st4=>?_;refine WL.go rfl (OX.stW sz146 (As.gb st4.g0) rfl rfl rfl rfl rfl fun w5 ss0 _ hs0=>?_);have st5:=st4.updB ss0 hs0;refine nx5 ?_;refine EX.retC agg146 rfl rfl st5.b0 rfl<|?_;exact ⟨rfl,(St.cg st5)⟩
theorem pasked_calls {rules:List Rule} {i:Nat} {A:Nat→Prop} {a:Option Addr} {r c:Nat} {w:World} (hi:i<rules.length) (h99:i≤99) (hs:SimR rules[i]) (hr:Rules A w a r c rules):Calls Tryz.prog 64 #[.slice a r c,(⟨31,itoa i⟩:Key).val] w fun e w'=>e=.returned (.bool true)∧Chg [] w w':=by
 have hk:=hs.key hi h99;refine enter (args:=[.slice a r c,(⟨31,itoa i⟩:Key).val]) Tryz.func64 rfl Tryz.ntmps64 rfl<|?_;have st0:St w (fun _=>False) (fun _=>False) w []:=St.start (by simp);refine nx2 ?_;refine WL.go rfl (OX.box rfl rfl rfl fun b3 w1 nw3 hb3=>?_);have st1:=st0.newB nw3 hb3;refine nx4 ?_;have hN1:=st1.fplt;refine WC.drawnS (m:=12) (E:=lookE [(1,fun v _=>v=.bool true),(4,fun v _=>v=.bool true),(9,fun v _=>v=.int .i64 (i:Int)),(10,fun v _=>v=(ofK rules (i:Int)).val)]) st1 (lookE_st (⟨fun _ _ _ _ _ _ _ h=>h,⟨fun _ _ _ _ _ _ _ h=>h,⟨fun _ _ _ _ _ _ _ h=>h,⟨fun _ _ _ _ _ _ _ h=>h,trivial⟩⟩⟩⟩)) mixed (by kernel_rfl)<|?_;refine DP .r (fun _ hC=>VA agg40 (Blk.range (As.gb hC.2.g0)) .r)<|?_;refine DW.c0 (fun wx hC hF=>pvalidK_calls (k:=⟨31,itoa i⟩) ⟨(by decide:(30:Int)≤31),(by decide:(31:Int)≤32)⟩ rfl h99)<|nx ?_;refine DP .r (fun _ hC=>VA agg40 (Blk.range (As.gb hC.2.g0)) .r)<|?_;refine DW.c0 (fun wx hC hF=>prule_calls (k:=⟨31,itoa i⟩))<|nx3 ?_;refine DP .r (fun _ hC=>VA agg40 (Blk.range (As.gb hC.2.g0)) .r)<|?_;refine DW.c0 (fun wx hC hF=>pnumber_calls (k:=⟨31,itoa i⟩) ⟨(by decide:(30:Int)≤31),(by decide:(31:Int)≤32)⟩ rfl h99)<|?_;refine DW.c0 (fun wx hC hF=>pof_calls (n:=(i:Int)) (hr.ext (St.cg hC.2)))<|?_;refine DP .r (fun _ hC=>VA agg40 (Blk.range (As.gb hC.2.g0)) .r)<|DW.nil<|?_;rintro w2 ⟨hsz1,st2⟩ ⟨_,⟨_,⟨_,⟨_,_⟩⟩⟩⟩;refine WP .r (PV.eqK keyt40 (p:=ofK rules (i:Int)) (q:=⟨31,itoa i⟩) rfl rfl)<|nx6 ?_;refine EX.ret1 rfl rfl<|?_;exact ⟨by simp [hk],(St.cg st2)⟩
end Go.Rc

