/- Walks over the program, part WO. Conditions: as each theorem says. -/
import Derived.Test.YtgcmaglhocmnlaaGreatDoorFacts
import Derived.Test.YtgcmaglhocmnlaaGreatDoorWN
import Derived.Test.YtgcmaglhocmnlaaGreatDoorWE
import Derived.Test.YtgcmaglhocmnlaaGreatDoorBe
set_option linter.unusedVariables false
set_option linter.unusedSimpArgs false
set_option linter.unusedSectionVars false
namespace Go.Rc
open Go Go.Proofs
set_option maxHeartbeats 400000
theorem pcloneK_calls {xs:List Key} {a:Option Addr} {n c:Nat} {w:World} {M Z:Nat→Prop} (hst:St w M Z w []) (hl:Rd RR.key 2 Z w a n c xs) (h6:xs.length≤1000000):Calls Tryz.prog 146 #[.slice a n c] w fun e w'=>∃a' n' c',e=.returned (.slice a' n' c')∧St w M Z w' [As.os RR.key 40 2 a' n' c' xs]:=by
 have hlen:=hl.len;refine enter (args:=[.slice a n c]) Tryz.func146 rfl Tryz.ntmps146 rfl<|?_;have st0:=hst;have st1:=st0.fact (As.mkro hl) (fun _ hx=>hx);refine nx12 ?_;refine WC.cd (fun g4=>?_) fun g4=>?_
 ·
  simp at g4
  subst g4;have hx:=hl.none_nil;subst hx;have st2:=st1.newN RR.key 40 2;refine nx7 ?_;refine EX.ret1 rfl rfl<|?_;exact ⟨none,0,0,rfl,st2.p1.drop⟩
 refine nx4 ?_;refine WL.go rfl (OX.bslice0 und38 so40 rfl fun b5 w1 nw5 hb5=>?_);have st2:=St.newS (R:=RR.key) (E:=40) (k:=2) (a:=some ⟨b5,0,none⟩) (n:=0) (c:=0) (xs:=[]) st1 nw5.ext (OR.blk0 hb5 (Nat.zero_le _)) (fun x hx=>by simp [oblk] at hx;subst hx;exact nw5.ge);refine nx ?_;refine WL.ap rfl rfl st2 ((As.gr st2.g1)) fun a7 c'7 w2 hf7 hn7 st3=>?_;refine nx4 ?_;refine EX.ret1 rfl rfl<|?_;exact ⟨_,_,_,rfl,st3.p1.drop⟩
theorem pcloneR_calls {xs:List Rec} {a:Option Addr} {n c:Nat} {w:World} {M Z:Nat→Prop} (hst:St w M Z w []) (hl:Rd RR.rcd 8 Z w a n c xs) (h6:xs.length≤1000000):Calls Tryz.prog 82 #[.slice a n c] w fun e w'=>∃a' n' c',e=.returned (.slice a' n' c')∧St w M Z w' [As.os RR.rcd 47 8 a' n' c' xs]:=by
 have hlen:=hl.len;refine enter (args:=[.slice a n c]) Tryz.func82 rfl Tryz.ntmps82 rfl<|?_;have st0:=hst;have st1:=st0.fact (As.mkro hl) (fun _ hx=>hx);refine nx12 ?_;refine WC.cd (fun g4=>?_) fun g4=>?_
 ·
  simp at g4
  subst g4;have hx:=hl.none_nil;subst hx;have st2:=st1.newN RR.rcd 47 8;refine nx7 ?_;refine EX.ret1 rfl rfl<|?_;exact ⟨none,0,0,rfl,st2.p1.drop⟩
 refine nx4 ?_;refine WL.go rfl (OX.bslice0 und30 so47 rfl fun b5 w1 nw5 hb5=>?_);have st2:=St.newS (R:=RR.rcd) (E:=47) (k:=8) (a:=some ⟨b5,0,none⟩) (n:=0) (c:=0) (xs:=[]) st1 nw5.ext (OR.blk0 hb5 (Nat.zero_le _)) (fun x hx=>by simp [oblk] at hx;subst hx;exact nw5.ge);refine nx ?_;refine WL.ap rfl rfl st2 ((As.gr st2.g1)) fun a7 c'7 w2 hf7 hn7 st3=>?_;refine nx4 ?_;refine EX.ret1 rfl rfl<|?_;exact ⟨_,_,_,rfl,st3.p1.drop⟩
theorem pcloneI_calls {xs:List Inp} {a:Option Addr} {n c:Nat} {w:World} {M Z:Nat→Prop} (hst:St w M Z w []) (hl:Rd RR.inp 4 Z w a n c xs) (h6:xs.length≤1000000):Calls Tryz.prog 111 #[.slice a n c] w fun e w'=>∃a' n' c',e=.returned (.slice a' n' c')∧St w M Z w' [As.os RR.inp 73 4 a' n' c' xs]:=by
 have hlen:=hl.len;refine enter (args:=[.slice a n c]) Tryz.func111 rfl Tryz.ntmps111 rfl<|?_;have st0:=hst;have st1:=st0.fact (As.mkro hl) (fun _ hx=>hx);refine nx12 ?_;refine WC.cd (fun g4=>?_) fun g4=>?_
 ·
  simp at g4
  subst g4;have hx:=hl.none_nil;subst hx;have st2:=st1.newN RR.inp 73 4;refine nx7 ?_;refine EX.ret1 rfl rfl<|?_;exact ⟨none,0,0,rfl,st2.p1.drop⟩
 refine nx4 ?_;refine WL.go rfl (OX.bslice0 und29 so73 rfl fun b5 w1 nw5 hb5=>?_);have st2:=St.newS (R:=RR.inp) (E:=73) (k:=4) (a:=some ⟨b5,0,none⟩) (n:=0) (c:=0) (xs:=[]) st1 nw5.ext (OR.blk0 hb5 (Nat.zero_le _)) (fun x hx=>by simp [oblk] at hx;subst hx;exact nw5.ge);refine nx ?_;refine WL.ap rfl rfl st2 ((As.gr st2.g1)) fun a7 c'7 w2 hf7 hn7 st3=>?_;refine nx4 ?_;refine EX.ret1 rfl rfl<|?_;exact ⟨_,_,_,rfl,st3.p1.drop⟩
theorem pown_calls {x:Rec} {a:Option Addr} {n c:Nat} {w:World} {M Z:Nat→Prop} (hst:St w M Z w []) (hk:Rd RR.key 2 Z w a n c x.reads) (h4:x.reads.length≤4000):Calls Tryz.prog 116 #[.agg (x.row a n c).toArray] w fun e w'=>∃a' n' c',e=.returned (.agg (x.row a' n' c').toArray)∧St w M Z w' [As.os RR.key 40 2 a' n' c' x.reads]:=by
 refine enter (args:=[.agg (x.row a n c).toArray]) Tryz.func116 rfl Tryz.ntmps116 rfl<|?_;have st0:=hst;have st1:=st0.fact (As.mkro hk) (fun _ hx=>hx);refine nx2 ?_;refine WL.go rfl (OX.box rfl rfl rfl fun b1 w1 nw1 hb1=>?_);have st2:=st1.newB nw1 hb1;refine WL.al st2 fun b2 w2 nw2 hb2 st3=>?_;refine nx5 ?_;refine WP .r (V1 one38 st3.b1 .r)<|?_;have st4:=st3;refine WL.go rfl (OX.call cf146 rfl rfl ((pcloneK_calls st4.e0 (As.gr st4.g2) (by omega)).mono ?_));rintro _ w3 ⟨f1,f2,f3,rfl,hst3⟩;refine ⟨_,rfl,?_⟩;have st5:=St.leave (l0:=[]) st4 hst3 (Zle.refl _ _);simp only [CA,NA] at st5;refine nx ?_;refine WL.s1 st5.p2 fun w4 _ st6=>?_;refine nx4 ?_;refine WP .r (VA agg47 st6.b0 .r)<|?_;refine WL.go rfl (OX.stW sz47 (As.gb st6.g2) rfl rfl rfl rfl rfl fun w5 ss0 _ hs0=>?_);have st7:=st6.p2.updB ss0 hs0;refine nx3 ?_;refine EX.retC agg47 rfl rfl st7.b0 rfl<|?_;exact ⟨_,_,_,rfl,st7.drop.drop.p1.drop⟩
theorem pindexR_calls {l:List Rec} {p:Rec→Bool} {f:FuncId} {cap:Value} {a:Option Addr} {n c:Nat} {w:World} {Z:Nat→Prop} (hcf:CF Tryz.prog f) (hl:Rd RR.rcd 8 Z w a n c l) (hp:∀w1,Chg [] w w1→∀x∈l,∀a n c,Rd RR.key 2 Z w1 a n c x.reads→Calls Tryz.prog f #[.agg (x.row a n c).toArray,cap] w1 fun e w'=>e=.returned (.bool (p x))∧Chg [] w1 w'):Calls Tryz.prog 114 #[.slice a n c,.func (.func f) #[] #[cap]] w fun e w'=>∃j:Int,e=.returned (.int .i64 j)∧IdxOf l p j∧Chg [] w w':=by
 have hlen:=hl.len;have hle:=hl.le;refine enter (args:=[.slice a n c,.func (.func f) #[] #[cap]]) Tryz.func114 rfl Tryz.ntmps114 rfl<|?_;have st0:St w (fun _=>False) (fun _=>False) w []:=St.start (by simp);refine nx12 ?_;refine nx2 ?_;refine WC.loopS1 (σ:=Nat) (kvs:=fun i=>[(0,.slice a n c),(1,.func (.func f) #[] #[cap]),(7,.int .i64 (n:Int)),(8,.int .i64 (i:Int))]) (F:=fun i=>[]) (I:=fun i=>(i≤n)∧(∀j x,j<i→l[j]?=some x→p x=false)∧True) (μ:=fun i=>n - i) (0) (st0) (Sub.k2 rfl rfl<|Sub.cons rfl<|Sub.v<|Sub.nil) (⟨by omega,fun j x h=>by omega,trivial⟩)<|?_;rintro i w1 st1 ⟨hi,hno,_⟩;simp only [CA,NA] at st1 hi hno ⊢;refine nx6 ?_;refine WC.cd (fun g9=>?_) fun g9=>?_
 ·
  simp at g9
  have hi2:i<l.length:=by omega
  refine nx11 ?_;obtain ⟨b_x1,o_x1,r_x1,ha_x1,hl_x1,hR_x1,hr_x1,hz_x1⟩:=Rd.at hl hi2;obtain ⟨q1,q2,q3,rfl,hkq,hk4⟩:=hR_x1;refine nx4 ?_;refine WP .r (PV.ixS sl30 ha_x1 rfl rfl (by omega))<|WP .r (VA agg47 (range_chg hr_x1 (St.cg st1) (by simp)) .r)<|?_;refine WL.go rfl (OX.callV hcf rfl rfl rfl ((Calls.cap (hp _ (St.cg st1) l[i] (List.getElem_mem hi2) _ _ _ (hkq.ext (St.cg st1)))).mono ?_));rintro _ w2 ⟨rfl,s2⟩;refine ⟨_,rfl,?_⟩;have st2:=st1.step s2;refine nx2 ?_;refine WC.cd (fun g16=>?_) fun g16=>?_
  ·
   refine nx12 ?_;refine EX.ret1 rfl rfl<|?_;exact ⟨_,rfl,.inl ⟨i,_,getElem_some hi2,g16,hno,rfl⟩,(St.cg st2)⟩
  have g16:p l[i]=false:=by simpa using g16
  refine nx7 ?_;refine EX.again (i+1) (Sub.k2 rfl rfl<|Sub.cons rfl<|Sub.v<|Sub.nil) ⟨st2,⟨by omega,below_succ hi2 hno (by simpa using g16),trivial⟩⟩ (by first | (simp only [];omega) | omega)
 simp at g9
 have hall:∀x∈l,p x=false:=fun x hx=>by obtain ⟨j,hj,rfl⟩:=List.getElem_of_mem hx;exact hno j _ (by omega) (getElem_some hj)
 refine nx11 ?_;refine EX.ret1 rfl rfl<|?_;exact ⟨_,rfl,.inr ⟨hall,rfl⟩,(St.cg st1)⟩
theorem pcontainsR_calls {l:List Rec} {p:Rec→Bool} {f:FuncId} {cap:Value} {a:Option Addr} {n c:Nat} {w:World} {Z:Nat→Prop} (hcf:CF Tryz.prog f) (hl:Rd RR.rcd 8 Z w a n c l) (hp:∀w1,Chg [] w w1→∀x∈l,∀a n c,Rd RR.key 2 Z w1 a n c x.reads→Calls Tryz.prog f #[.agg (x.row a n c).toArray,cap] w1 fun e w'=>e=.returned (.bool (p x))∧Chg [] w1 w') (hno:∀x∈l,p x=false):Calls Tryz.prog 104 #[.slice a n c,.func (.func f) #[] #[cap]] w fun e w'=>e=.returned (.bool false)∧Chg [] w w':=by
 refine enter (args:=[.slice a n c,.func (.func f) #[] #[cap]]) Tryz.func104 rfl Tryz.ntmps104 rfl<|?_;have st0:St w (fun _=>False) (fun _=>False) w []:=St.start (by simp);refine nx9 ?_;refine WL.go rfl (OX.call cf114 rfl rfl ((pindexR_calls (w:=w) hcf (hl.ext (St.cg st0)) (fun w1 h1=>hp w1 (Chg.trans (St.cg st0) h1))).mono ?_));rintro _ w1 ⟨j,rfl,hj,s1⟩;refine ⟨_,rfl,?_⟩;have st1:=st0.step s1
 have hj1:j = -1:=by rcases hj with ⟨i,x,h1,h2,_⟩ | ⟨_,h2⟩;exact absurd h2 (by simp [hno x (List.mem_of_getElem? h1)]);exact h2
 subst hj1;refine nx5 ?_;refine EX.ret1 rfl rfl<|?_;exact ⟨by simp,(St.cg st1)⟩
theorem pindexK0_calls {fv:Value} {a:Option Addr} {c:Nat} {w:World}:Calls Tryz.prog 106 #[.slice a 0 c,fv] w fun e w'=>e=.returned (.int .i64 (-1))∧Chg [] w w':=by
 refine enter (args:=[.slice a 0 c,fv]) Tryz.func106 rfl Tryz.ntmps106 rfl<|?_;have st0:St w (fun _=>False) (fun _=>False) w []:=St.start (by simp);refine nx12 ?_;refine nx2 ?_;refine WC.loopS1 (σ:=Nat) (kvs:=fun i=>[(0,.slice a 0 c),(1,fv),(7,.int .i64 ((0:Nat):Int)),(8,.int .i64 (i:Int))]) (F:=fun i=>[]) (I:=fun i=>True) (μ:=fun i=>0) (0) (st0) (Sub.k2 rfl rfl<|Sub.v<|Sub.v<|Sub.nil) (trivial)<|?_;rintro i w1 st1 _;simp only [CA,NA] at st1 ⊢;refine nx6 ?_;refine WC.cd (fun g9=>?_) fun g9=>?_
 ·
  exact nope g9
 refine nx11 ?_;refine EX.ret1 rfl rfl<|?_;exact ⟨rfl,(St.cg st1)⟩
theorem pcontainsK0_calls {fv:Value} {a:Option Addr} {c:Nat} {w:World}:Calls Tryz.prog 62 #[.slice a 0 c,fv] w fun e w'=>e=.returned (.bool false)∧Chg [] w w':=by
 refine enter (args:=[.slice a 0 c,fv]) Tryz.func62 rfl Tryz.ntmps62 rfl<|?_;have st0:St w (fun _=>False) (fun _=>False) w []:=St.start (by simp);refine nx9 ?_;refine WL.c0 (pindexK0_calls) st0 fun w1 s1 st1=>?_;refine nx5 ?_;refine EX.ret1 rfl rfl<|?_;exact ⟨by simp,(St.cg st1)⟩
theorem pequalK0_calls {a b:Option Addr} {c d:Nat} {w:World}:Calls Tryz.prog 68 #[.slice a 0 c,.slice b 0 d] w fun e w'=>e=.returned (.bool true)∧Chg [] w w':=by
 refine enter (args:=[.slice a 0 c,.slice b 0 d]) Tryz.func68 rfl Tryz.ntmps68 rfl<|?_;have st0:St w (fun _=>False) (fun _=>False) w []:=St.start (by simp);refine nx12 ?_;refine nx3 ?_;refine WC.cd (fun g10=>?_) fun g10=>?_
 ·
  exact nope g10
 refine nx11 ?_;refine WC.loopS1 (σ:=Nat) (kvs:=fun i=>[(0,.slice a 0 c),(1,.slice b 0 d),(12,.int .i64 ((0:Nat):Int)),(13,.int .i64 (i:Int))]) (F:=fun i=>[]) (I:=fun i=>True) (μ:=fun i=>0) (0) (st0) (Sub.k2 rfl rfl<|Sub.v<|Sub.v<|Sub.nil) (trivial)<|?_;rintro i w1 st1 _;simp only [CA,NA] at st1 ⊢;refine nx6 ?_;refine WC.cd (fun g14=>?_) fun g14=>?_
 ·
  exact nope g14
 refine nx11 ?_;refine EX.ret1 rfl rfl<|?_;exact ⟨rfl,(St.cg st1)⟩
theorem pequalR0_calls {a b:Option Addr} {c d:Nat} {fv:Value} {w:World}:Calls Tryz.prog 44 #[.slice a 0 c,.slice b 0 d,fv] w fun e w'=>e=.returned (.bool true)∧Chg [] w w':=by
 refine enter (args:=[.slice a 0 c,.slice b 0 d,fv]) Tryz.func44 rfl Tryz.ntmps44 rfl<|?_;have st0:St w (fun _=>False) (fun _=>False) w []:=St.start (by simp);refine nx12 ?_;refine nx3 ?_;refine WC.cd (fun g14=>?_) fun g14=>?_
 ·
  exact nope g14
 refine nx11 ?_;refine WC.loopS1 (σ:=Nat) (kvs:=fun i=>[(1,.slice b 0 d),(2,fv),(15,.slice a 0 c),(16,.int .i64 ((0:Nat):Int)),(17,.int .i64 (i:Int))]) (F:=fun i=>[]) (I:=fun i=>True) (μ:=fun i=>0) (0) (st0) (Sub.k2 rfl rfl<|Sub.cons rfl<|Sub.v<|Sub.v<|Sub.nil) (trivial)<|?_;rintro i w1 st1 _;simp only [CA,NA] at st1 ⊢;refine nx6 ?_;refine WC.cd (fun g18=>?_) fun g18=>?_
 ·
  exact nope g18
 refine nx11 ?_;refine EX.ret1 rfl rfl<|?_;exact ⟨rfl,(St.cg st1)⟩
theorem pindexK_calls {l:List Key} {k:Key} {a:Option Addr} {n c:Nat} {w:World} {Z:Nat→Prop} (hl:Rd RR.key 2 Z w a n c l):Calls Tryz.prog 125 #[.slice a n c,k.val] w fun e w'=>((k∈l∧∃i:Nat,e=.returned (.int .i64 (i:Int)))∨(k∉l∧e=.returned (.int .i64 (-1))))∧Chg [] w w':=by
 have hlen:=hl.len;have hle:=hl.le;refine enter (args:=[.slice a n c,k.val]) Tryz.func125 rfl Tryz.ntmps125 rfl<|?_;have st0:St w (fun _=>False) (fun _=>False) w []:=St.start (by simp);refine nx2 ?_;refine WL.go rfl (OX.box rfl rfl rfl fun b3 w1 nw3 hb3=>?_);have st1:=st0.newB nw3 hb3;refine nx12 ?_;refine WC.loopS1 (σ:=Nat) (kvs:=fun i=>[(0,.slice a n c),(3,.pointer (some ⟨b3,0,none⟩)),(7,.int .i64 (n:Int)),(8,.int .i64 (i:Int))]) (F:=fun i=>[]) (I:=fun i=>(i≤n)∧(∀j x,j<i→l[j]?=some x→x≠k)∧True) (μ:=fun i=>n - i) (0) (st1) (Sub.k2 rfl rfl<|Sub.cons rfl<|Sub.v<|Sub.nil) (⟨by omega,fun j x h=>by omega,trivial⟩)<|?_;rintro i w2 st2 ⟨hi,hno,_⟩;simp only [CA,NA] at st2 hi hno ⊢;refine nx6 ?_;refine WC.cd (fun g9=>?_) fun g9=>?_
 ·
  simp at g9
  have hi2:i<l.length:=by omega
  refine nx11 ?_;obtain ⟨b_x1,o_x1,r_x1,ha_x1,hl_x1,hR_x1,hr_x1,hz_x1⟩:=Rd.at hl hi2;have hR_x1:=RR.flat_eq hR_x1;subst hR_x1;have hN4:=st2.fplt;refine WC.drawnS (m:=5) (E:=lookE []) st2 (lookE_st (trivial)) mixed (by kernel_rfl)<|?_;refine DP .r (fun _ hC=>VA agg40 (Blk.range (As.gb hC.2.g0)) .r)<|nx2 ?_;refine DP .r (fun _ hC=>PV.ixS sl38 ha_x1 rfl rfl (by omega))<|DP .r (fun _ hC=>VA agg40 (range_chg hr_x1 (St.cg hC.2) (by simp)) .r)<|DW.nil<|?_;rintro w3 ⟨hsz4,st3⟩ _;refine WP .r (PV.eqK keyt40 (p:=k) (q:=l[i]) rfl rfl)<|nx2 ?_;refine WC.cd (fun g16=>?_) fun g16=>?_
  ·
   simp at g16
   refine nx12 ?_;refine EX.ret1 rfl rfl<|?_;exact ⟨.inl ⟨g16 ▸ List.getElem_mem hi2,i,rfl⟩,(St.cg st3)⟩
  simp at g16
  refine nx7 ?_;refine EX.again (i+1) (Sub.k2 rfl rfl<|Sub.cons rfl<|Sub.v<|Sub.nil) ⟨st3,⟨by omega,below_succ hi2 hno (fun e=>g16 e.symm),trivial⟩⟩ (by first | (simp only [];omega) | omega)
 simp at g9
 have hall:k∉l:=fun hm=>by obtain ⟨j,hj,h⟩:=List.getElem_of_mem hm;exact hno j _ (by omega) (getElem_some hj) h
 refine nx11 ?_;refine EX.ret1 rfl rfl<|?_;exact ⟨.inr ⟨hall,rfl⟩,(St.cg st2)⟩
theorem pcontainsK_calls {l:List Key} {k:Key} {a:Option Addr} {n c:Nat} {w:World} {Z:Nat→Prop} (hl:Rd RR.key 2 Z w a n c l):Calls Tryz.prog 84 #[.slice a n c,k.val] w fun e w'=>e=.returned (.bool (decide (k∈l)))∧Chg [] w w':=by
 refine enter (args:=[.slice a n c,k.val]) Tryz.func84 rfl Tryz.ntmps84 rfl<|?_;have st0:St w (fun _=>False) (fun _=>False) w []:=St.start (by simp);refine nx2 ?_;refine WL.go rfl (OX.box rfl rfl rfl fun b3 w1 nw3 hb3=>?_);have st1:=st0.newB nw3 hb3;refine nx6 ?_;refine WP .r (VA agg40 st1.b0 .r)<|?_;refine WL.go rfl (OX.call cf125 rfl rfl (((pindexK_calls (k:=k) (w:=w1) (hl.ext (St.cg st1))).mono (fun e wq h=>show ∃j:Int,e=.returned (.int .i64 j)∧decide (0≤j)=decide (k∈l)∧Chg [] w1 wq from by rcases h.1 with ⟨h1,i,h2⟩ | ⟨h1,h2⟩;exact ⟨i,h2,by simp [h1],h.2⟩;exact ⟨-1,h2,by simp [h1],h.2⟩)).mono ?_));rintro _ w2 ⟨j,rfl,hj,s2⟩;refine ⟨_,rfl,?_⟩;have st2:=st1.step s2;refine nx5 ?_;refine EX.ret1 rfl rfl<|?_;exact ⟨by rw [hj],(St.cg st2)⟩
theorem pfind1_calls {x:Rec} {k:Key} {a:Option Addr} {n c bk:Nat} {w:World} (hb:Blk w bk 40 k.cells):Calls Tryz.prog 115 #[.agg (x.row a n c).toArray,.pointer (some ⟨bk,0,none⟩)] w fun e w'=>e=.returned (.bool (decide (x.key=k)))∧Chg [] w w':=by
 refine enter (args:=[.agg (x.row a n c).toArray,.pointer (some ⟨bk,0,none⟩)]) Tryz.func115 rfl Tryz.ntmps115 rfl<|?_;have st0:St w (fun _=>False) (fun _=>False) w []:=St.start (by simp);refine nx2 ?_;refine WL.go rfl (OX.box rfl rfl rfl fun b2 w1 nw2 hb2=>?_);have st1:=st0.newB nw2 hb2;refine nx6 ?_;refine WP .r (PV.ldM agg40 st1.b0 rfl rfl)<|WP .r (VA agg40 (Blk.range (hb.ext (St.cg st1))) .r)<|WP .r (PV.eqK keyt40 (p:=x.key) (q:=k) rfl rfl)<|nx4 ?_;refine EX.ret1 rfl rfl<|?_;exact ⟨rfl,(St.cg st1)⟩
theorem pfindR_calls {l:List Rec} {k:Key} {a:Option Addr} {n c:Nat} {w:World} {M Z:Nat→Prop} (hst:St w M Z w []) (hl:Rd RR.rcd 8 Z w a n c l):Calls Tryz.prog 71 #[.slice a n c,k.val] w fun e w'=>∃a' n' c',e=.returned (.tuple #[.agg ((recOf l k).row a' n' c').toArray,.bool (findR l k).isSome])∧(recOf l k).reads.length≤4000∧St w M Z w' [As.os RR.key 40 2 a' n' c' (recOf l k).reads]:=by
 have hlen:=hl.len;have hle:=hl.le;refine enter (args:=[.slice a n c,k.val]) Tryz.func71 rfl Tryz.ntmps71 rfl<|?_;have st0:=hst;have st1:=st0.fact (As.mkro hl) (fun _ hx=>hx);refine nx2 ?_;refine WL.go rfl (OX.box rfl rfl rfl fun b3 w1 nw3 hb3=>?_);have st2:=st1.newB nw3 hb3;refine WL.al st2 fun b4 w2 nw4 hb4 st3=>?_;refine nx6 ?_;refine WP .r (PV.func (us:=[]) (vs:=[.pointer (some ⟨b3,0,none⟩)]) rfl rfl)<|?_;refine WL.go rfl (OX.call cf114 rfl rfl ((pindexR_calls (p:=fun x=>decide (x.key=k)) cf115 (As.gr st3.g2) (fun w1 h1 x _ a n c _=>pfind1_calls ((As.gb st3.g1).ext h1))).mono ?_));rintro _ w3 ⟨j,rfl,hj,s3⟩;refine ⟨_,rfl,?_⟩;have st4:=st3.step s3;refine nx10 ?_;refine WC.cd (fun g11=>?_) fun g11=>?_
 ·
  simp at g11
  have hall:∀x∈l,(decide (x.key=k))=false:=by rcases hj with ⟨i,x,_,_,_,h⟩ | ⟨h,_⟩;omega;exact h
  have hf:findR l k=none:=find_all (i:=l.length) (Nat.le_refl _) (fun j x _ hx=>by simpa using hall x (List.mem_of_getElem? hx))
  have hrf:recOf l k=noRec:=by unfold recOf;rw [hf];rfl
  have st5:=st4.newN RR.key 40 2;refine nx3 ?_;refine WL.go rfl (OX.stW sz47 (As.gb st5.g1) rfl rfl rfl rfl rfl fun w4 ss0 _ hs0=>?_);have st6:=st5.p1.updB ss0 hs0;refine nx5 ?_;refine EX.retN rfl (RS.cell agg47 rfl st6.b0 rfl<|RS.tmp rfl<|RS.nil) rfl<|?_;exact ⟨none,0,0,by rw [hf,hrf];rfl,by rw [hrf];simp [noRec],by rw [hrf];exact st6.drop.p1.drop.p1.drop⟩
 simp at g11
 obtain ⟨i,x,hx,hp,hno,rfl⟩:∃i:Nat,∃x,l[i]?=some x∧decide (x.key=k)=true∧(∀j x,j<i→l[j]?=some x→(x.key == k)=false)∧j=i:=by
  rcases hj with ⟨i,x,h1,h2,h3,h4⟩ | ⟨_,h⟩
  ·
   exact ⟨i,x,h1,h2,fun j x hj hx=>by simpa using h3 j x hj hx,h4⟩
  omega
 obtain ⟨hi2,rfl⟩:=List.getElem?_eq_some_iff.1 hx;have hf:findR l k=some l[i]:=find_before hi2 hno (by simpa using hp)
 have hrf:recOf l k=l[i]:=by unfold recOf;rw [hf];rfl
 refine nx3 ?_;obtain ⟨b_x1,o_x1,r_x1,ha_x1,hl_x1,hR_x1,hr_x1,hz_x1⟩:=Rd.at (As.gr st4.g2) hi2;obtain ⟨q1,q2,q3,rfl,hkq,hk4⟩:=hR_x1;have st5:=st4.fact (As.mkrg hz_x1 (st4.zlt _ hz_x1) hr_x1) (fun _ hx=>hx);have st6:=st5.fact (As.mkro hkq) (fun _ hx=>hx);refine nx3 ?_;refine WP .r (PV.ixS sl30 ha_x1 rfl rfl (by omega))<|WP .r (VA agg47 (As.grg st6.g1) .r)<|?_;have st7:=st6;refine WL.go rfl (OX.call cf116 rfl rfl ((pown_calls st7.e0 (As.gr st7.g0) hk4).mono ?_));rintro _ w4 ⟨e1,e2,e3,rfl,hst4⟩;refine ⟨_,rfl,?_⟩;have st8:=St.leave (l0:=[]) st7 hst4 (Zle.refl _ _);simp only [CA,NA] at st8;refine WL.go rfl (OX.stW sz47 (As.gb st8.g3) rfl rfl rfl rfl rfl fun w5 ss1 _ hs1=>?_);have st9:=st8.p3.updB ss1 hs1;refine nx4 ?_;refine EX.retN rfl (RS.cell agg47 rfl st9.b0 rfl<|RS.tmp rfl<|RS.nil) rfl<|?_;exact ⟨e1,e2,e3,by rw [hf,hrf];rfl,by rw [hrf];exact hk4,by rw [hrf];exact st9.drop.p1.drop.p1.drop.p1.drop.p1.drop⟩
theorem pcopyR_calls {l:List Rec} {a:Option Addr} {n c:Nat} {w:World} {M Z:Nat→Prop} (hst:St w M Z w []) (hl:Rd RR.rcd 8 Z w a n c l) (h6:l.length≤1000000):Calls Tryz.prog 112 #[.slice a n c] w fun e w'=>∃a' n' c' Z',e=.returned (.slice a' n' c')∧Zle w.heap.size Z Z'∧St w M Z' w' [As.os RR.rcd 47 8 a' n' c' l]:=by
 have hlen:=hl.len;have hle:=hl.le;refine enter (args:=[.slice a n c]) Tryz.func112 rfl Tryz.ntmps112 rfl<|?_;have st0:=hst;have st1:=st0.fact (As.mkro hl) (fun _ hx=>hx);refine nx8 ?_;have st2:=st1;refine WL.go rfl (OX.call cf82 rfl rfl ((pcloneR_calls st2.e0 (As.gr st2.g0) h6).mono ?_));rintro _ w1 ⟨f1,f2,f3,rfl,hst1⟩;refine ⟨_,rfl,?_⟩;have st3:=St.leave (l0:=[]) st2 hst1 (Zle.refl _ _);simp only [CA,NA] at st3;have hrn:=((As.gs st3.g0)).len;refine nx12 ?_;refine WC.loopS (σ:=Nat × (Nat→Prop)) (kvs:=fun (i,Z1)=>[(3,.slice f1 f2 f3),(8,.slice f1 f2 f3),(9,.int .i64 (f2:Int)),(10,.int .i64 (i:Int))]) (F:=fun (i,Z1)=>[As.os RR.rcd 47 8 f1 f2 f3 l]) (I:=fun (i,Z1)=>(i≤f2)∧(Zle w.heap.size Z Z1)∧True) (μ:=fun (i,Z1)=>f2 - i) (Zf:=fun (i,Z1)=>Z1) (0,Z) (st3) (Sub.v<|Sub.v<|Sub.v<|Sub.v<|Sub.nil) (⟨by omega,Zle.refl _ _,trivial⟩)<|?_;rintro ⟨i,Z1⟩ w2 st4 ⟨hi,hZ,_⟩;simp only [CA,NA] at st4 hi hZ ⊢;refine nx6 ?_;refine WC.cd (fun g11=>?_) fun g11=>?_
 ·
  simp at g11
  have hi2:i<l.length:=by omega
  refine nx5 ?_;obtain ⟨b_x1,r_x1,ha_x1,hl_x1,hR_x1,hr_x1⟩:=Ow.at (As.gs st4.g0) (by omega) (getElem_some hi2);obtain ⟨q1,q2,q3,rfl,hkq,hk4⟩:=hR_x1;have st5:=st4.fact (As.mkro (hkq)) (fun _ hx=>hx);refine nx2 ?_;refine WP .r (PV.ixS sl30 ha_x1 rfl rfl (by omega))<|WP .r (VA agg47 hr_x1 .r)<|?_;refine WL.al st5 fun b5 w3 nw5 hb5 st6=>?_;refine nx ?_;refine WL.go rfl (OX.stW sz47 (As.gb st6.g0) rfl rfl rfl rfl rfl fun w4 ss0 _ hs0=>?_);have st7:=st6.updB ss0 hs0;refine nx5 ?_;refine WP .r (VA agg47 st7.b0 .r)<|?_;have st8:=st7;refine WL.go rfl (OX.call cf116 rfl rfl ((pown_calls st8.e0 (As.gr st8.g1) hk4).mono ?_));rintro _ w5 ⟨e1,e2,e3,rfl,hst5⟩;refine ⟨_,rfl,?_⟩;have st9:=St.leave (l0:=[]) st8 hst5 (Zle.refl _ _);simp only [CA,NA] at st9;have hge:=St.fresh0 hst5;have hsz:=st8.size;have st10:=st9.frzS (by omega);have hZ2:=hZ.trans (Zle.frz (F:=fun x=>x∈oblk e1) hge) hsz;refine WP .r (PV.ixS sl30 ha_x1 rfl rfl (by omega))<|?_;refine WL.go rfl (OX.stOr (i:=i) sz47 (As.gs st10.g3) ha_x1 hi2 rfl rfl rfl (Rec.one _ _ _ _) l[i] ⟨e1,e2,e3,rfl,(As.gr st10.g0),hk4⟩ fun w6 s8 h8=>?_);have st11:=st10.p3.updS s8 h8 (fun x h=>.inl h);have st12:=st11.eqS (List.set_getElem_self hi2);refine nx7 ?_;refine EX.again (i+1,_) (Sub.v<|Sub.v<|Sub.v<|Sub.v<|Sub.nil) ⟨st12.p1.drop.p1.drop.p1.drop,⟨by omega,hZ2,trivial⟩⟩ (by first | (simp only [];omega) | omega)
 refine nx12 ?_;refine EX.ret1 rfl rfl<|?_;exact ⟨_,_,_,_,rfl,hZ,st4.p1.drop⟩
theorem prevCopy_calls {x:Bas} {a1 a2:Option Addr} {n1 e1 n2 e2:Nat} {w:World} {M Z:Nat→Prop} (hst:St w M Z w []) (hi:Rd RR.inp 4 Z w a1 n1 e1 x.inputs) (hr:Rd RR.rcd 8 Z w a2 n2 e2 x.recs) (h6:x.recs.length≤1000000) (h7:x.inputs.length≤1000000):Calls Tryz.prog 65 #[.agg (x.row a1 n1 e1 a2 n2 e2).toArray] w fun e w'=>∃a1' n1' e1' a2' n2' e2' Z',e=.returned (.agg (x.row a1' n1' e1' a2' n2' e2').toArray)∧Zle w.heap.size Z Z'∧St w M Z' w' [As.os RR.inp 73 4 a1' n1' e1' x.inputs,As.os RR.rcd 47 8 a2' n2' e2' x.recs]:=by
 refine enter (args:=[.agg (x.row a1 n1 e1 a2 n2 e2).toArray]) Tryz.func65 rfl Tryz.ntmps65 rfl<|?_;have st0:=hst;have st1:=st0.fact (As.mkro hi) (fun _ hx=>hx);have st2:=st1.fact (As.mkro hr) (fun _ hx=>hx);refine nx2 ?_;refine WL.go rfl (OX.box rfl rfl rfl fun b1 w1 nw1 hb1=>?_);have st3:=st2.newB nw1 hb1;refine WL.al st3 fun b2 w2 nw2 hb2 st4=>?_;refine nx3 ?_;have hN1:∀x:Nat,w2.heap.size≤x→w2.heap.size≤x:=fun _ h=>h;refine WC.drawnG (m:=7) [] [2,5] [0,1,2,3,4,5,6] [] st4 (Sub1.k4 M0 M1 M2 M3<|Sub1.nil) mixed (by kernel_rfl) (by kernel_rfl) rfl<|?_;refine DG.a<|?_;refine DQ .r (fun wx Zx Rx _ hSx hix=>V1 one29 (Blk.range (As.gb (hSx.sv hix).g1)) .r)<|?_;refine DG.ch rfl rfl rfl rfl rfl rfl (fun w3 R2x hN2x st5 hsd2x=>?_);simp only [CA,NA] at st5;have st6:=st5;refine OX.call cf111 rfl rfl ((pcloneI_calls st6.e0 (As.gr st6.g3) h7).mono ?_);rintro _ w4 ⟨f1,f2,f3,rfl,hst4⟩;have st7:=St.leave (l0:=[]) st6 hst4 (Zle.refl _ _);simp only [CA,NA] at st7;refine ⟨_,rfl,hst4.chg.size,_,rfl,_,_,_,st7,AppE.k4<|AppE.cons<|AppE.nil,Sub1.k4 M1 M2 M3 M4<|Sub1.nil,?_⟩;refine DG.a<|?_;refine DQ .r (fun wx Zx Rx _ hSx hix=>V1 one30 (Blk.range (As.gb (hSx.sv hix).g1)) .r)<|?_;refine DG.ch rfl rfl rfl rfl rfl rfl (fun w5 R5x hN5x st8 hsd5x=>?_);simp only [CA,NA] at st8;have st9:=st8;refine OX.call cf112 rfl rfl ((pcopyR_calls st9.e0 (As.gr st9.g3) h6).mono ?_);rintro _ w6 ⟨f4,f5,f6,Z1,rfl,hZ1a,hst6⟩;have st10:=St.leave (l0:=[]) st9 hst6 hZ1a;simp only [CA,NA] at st10;have hZ1:=hZ1a.le st9.size;refine ⟨_,rfl,hst6.chg.size,_,rfl,_,_,_,st10,AppE.k4<|AppE.k2<|AppE.nil,Sub1.k4 M2 M3 M4 M5<|Sub1.nil,?_⟩;refine DG.a<|?_;refine DG.nil<|?_;intro w7 hsz1 st11;simp only [CM,NM,CA,NA,SdK.it] at st11;refine WL.s1 st11.p3 fun w8 _ st12=>?_;refine nx ?_;refine WL.s1 st12 fun w9 _ st13=>?_;refine WL.nil (EX.np ?_);refine nx3 ?_;refine WP .r (VA agg32 st13.b0 .r)<|?_;refine WL.go rfl (OX.stW sz32 (As.gb st13.g3) rfl rfl rfl rfl rfl fun w10 ss0 _ hs0=>?_);have st14:=st13.p3.updB ss0 hs0;refine nx3 ?_;refine EX.retC agg32 rfl rfl st14.b0 rfl<|?_;exact ⟨_,_,_,_,_,_,_,rfl,hZ1,st14.drop.drop.p2.drop.p2.drop.p1⟩
theorem pvalidR_calls {i:Nat} {v:ByteArray} {a:Option Addr} {c:Nat} {w:World} (h99:i≤99) (hv:v.size≤1000):Calls Tryz.prog 140 #[.agg [Value.int .i64 31,.string (itoa i),.string v,.slice a 0 c,.int .i64 0,.int .i64 0,.int .i64 1,.bool false].toArray] w fun e w'=>e=.returned (.bool true)∧Chg [] w w':=by
 refine enter (args:=[.agg [Value.int .i64 31,.string (itoa i),.string v,.slice a 0 c,.int .i64 0,.int .i64 0,.int .i64 1,.bool false].toArray]) Tryz.func140 rfl Tryz.ntmps140 rfl<|?_;have st0:St w (fun _=>False) (fun _=>False) w []:=St.start (by simp);refine nx2 ?_;refine WL.go rfl (OX.box rfl rfl rfl fun b1 w1 nw1 hb1=>?_);have st1:=st0.newB nw1 hb1;refine nx5 ?_;refine WC.cut1S (t:=34) (v:=.bool false) st1 ?_<|?_
 ·
  refine nx2 ?_;refine WP .r (PV.ldM agg40 st1.b0 rfl rfl)<|?_;refine WL.c0 (pvalidK_calls (k:=⟨31,itoa i⟩) ⟨(by decide:(30:Int)≤31),(by decide:(31:Int)≤32)⟩ rfl h99) st1 fun w2 s2 st2=>?_;refine nx3 ?_;refine WP .r (PV.ldM agg40 st2.b0 rfl rfl)<|?_;refine WL.c1 (u:=.bool false) (pinput_calls (k:=⟨31,itoa i⟩)) (by rw [show isInput ⟨31,itoa i⟩=false from rfl]) st2 fun w3 s3 st3=>?_;refine nx3 ?_;refine WP .r (V1 one9 st3.b0 .r)<|nx4 ?_;refine WL.gsplit (t:=19) rfl (fun g19=>?_) (fun g19=>?_)
  ·
   refine nx12 ?_;refine nx4 ?_;exact EX.meet1 32 rfl rfl rfl (tG g19) (st3)
  refine nx ?_;refine WP .r (V1 one38 st3.b0 .r)<|nx4 ?_;refine WL.gsplit (t:=25) rfl (fun g25=>?_) (fun g25=>?_)
  ·
   refine nx10 ?_;exact EX.meet1 33 rfl rfl rfl (tG (aj g19 g25)) (st3)
  refine nx ?_;refine WP .r (V1 one4 st3.b0 .r)<|nx ?_;refine WL.gsplit (t:=28) rfl (fun g28=>?_) (fun g28=>?_)
  ·
   exact nope g28
  refine nx7 ?_;exact EX.meet1 34 rfl rfl rfl (tG (aj g19<|aj g25 g28)) (st3)
 intro w2 st2;refine nx ?_;refine WC.cd (fun g34=>?_) fun g34=>?_
 ·
  exact nope g34
 refine nx8 ?_;refine WC.cut1Se (t:=2) (v:=.bool true) st2 ?_<|?_
 ·
  refine nx2 ?_;refine WP .r (V1 one3 st2.b0 .r)<|nx2 ?_;refine WL.gsplit (t:=38) rfl (fun g38=>?_) (fun g38=>?_)
  ·
   refine nx ?_;refine WP .r (V1 one3 st2.b0 .r)<|nx ?_;refine WP .r (V1 one3 st2.b0 .r)<|nx3 ?_;refine WL.gsplit (t:=45) rfl (fun g45=>?_) (fun g45=>?_)
   ·
    refine nx ?_;refine WP .r (V1 one3 st2.b0 .r)<|nx3 ?_;refine WL.gsplit (t:=50) rfl (fun g50=>?_) (fun g50=>?_)
    ·
     refine nx ?_;refine WP .r (V1 one3 st2.b0 .r)<|nx3 ?_;refine WL.gsplit (t:=55) rfl (fun g55=>?_) (fun g55=>?_)
     ·
      refine nx ?_;refine WP .r (V1 one3 st2.b0 .r)<|nx3 ?_;refine WL.gsplit (t:=60) rfl (fun g60=>?_) (fun g60=>?_)
      ·
       refine nx ?_;refine WP .r (V1 one38 st2.b0 .r)<|nx ?_;refine WL.c0 (pcontainsK0_calls) st2 fun w3 s3 st3=>?_;refine nx4 ?_;exact EX.meet1e 38 rfl rfl rfl (tG (aj g38<|aj g45<|aj g50<|aj g55 g60)) (st3)
      refine nx8 ?_;exact EX.meet1e 38 rfl rfl rfl (tG (aj g38<|aj g45<|aj g50<|aj g55 g60)) (st2)
     refine nx12 ?_;refine nx ?_;exact EX.meet1e 37 rfl rfl rfl (tG (aj g38<|aj g45<|aj g50 g55)) (st2)
    refine nx12 ?_;refine nx6 ?_;exact EX.meet1e 36 rfl rfl rfl (tG (aj g38<|aj g45 g50)) (st2)
   refine nx12 ?_;refine nx11 ?_;exact EX.meet1e 35 rfl rfl rfl (tG (aj g38 g45)) (st2)
  refine nx12 ?_;refine nx12 ?_;refine nx6 ?_;exact EX.meet1e 34 rfl rfl rfl (tG g38) (st2)
 intro w3 st3;refine nx2 ?_;refine EX.ret1 rfl rfl<|?_;exact ⟨rfl,(St.cg st3)⟩
theorem pvalidList_calls {l:List Rec} {i:Nat} {a:Option Addr} {n c:Nat} {w:World} {Z:Nat→Prop} (h99:i≤99) (hl:Rd RR.rcd 8 Z w a n c l) (h1:l.length≤1) (hs:∀y∈l,∃v:ByteArray,y=rec1 i v∧v.size≤1000):Calls Tryz.prog 101 #[.slice a n c] w fun e w'=>e=.returned (.bool true)∧Chg [] w w':=by
 have hlen:=hl.len;have hle:=hl.le;refine enter (args:=[.slice a n c]) Tryz.func101 rfl Tryz.ntmps101 rfl<|?_;have st0:St w (fun _=>False) (fun _=>False) w []:=St.start (by simp);refine nx12 ?_;refine nx2 ?_;refine WC.loopS1 (σ:=Nat) (kvs:=fun j=>[(0,.slice a n c),(5,.slice a n c),(6,.int .i64 (n:Int)),(7,.int .i64 (j:Int))]) (F:=fun j=>[]) (I:=fun j=>(j≤n)∧True) (μ:=fun j=>n - j) (0) (st0) (Sub.k2 rfl rfl<|Sub.cons rfl<|Sub.v<|Sub.nil) (⟨by omega,trivial⟩)<|?_;rintro j w1 st1 ⟨hj,_⟩;simp only [CA,NA] at st1 hj ⊢;refine nx6 ?_;refine WC.cd (fun g8=>?_) fun g8=>?_
 ·
  simp at g8
  have hj2:j<l.length:=by omega
  obtain ⟨v,hv,hv2⟩:=hs l[j] (List.getElem_mem hj2);refine nx5 ?_;obtain ⟨b_x1,o_x1,r_x1,ha_x1,hl_x1,hR_x1,hr_x1,hz_x1⟩:=Rd.at hl hj2;obtain ⟨q1,q2,q3,rfl,hkq,hk4⟩:=hR_x1;rw [hv] at hkq;have hq0:q2=0:=hkq.len;subst hq0;rw [hv] at hr_x1;refine nx2 ?_;refine WP .r (PV.ixS sl30 ha_x1 rfl rfl (by omega))<|WP .r (VA agg47 (range_chg hr_x1 (St.cg st1) (by simp)) .r)<|?_;refine WL.al st1 fun b4 w2 nw4 hb4 st2=>?_;refine nx ?_;refine WL.go rfl (OX.stW sz47 (As.gb st2.g0) rfl rfl rfl rfl rfl fun w3 ss0 _ hs0=>?_);have st3:=st2.updB ss0 hs0;refine nx3 ?_;refine WC.cut1S (t:=30) (v:=.bool false) st3 ?_<|?_
  ·
   have hN4:=st3.fplt;refine WC.drawnS (m:=15) (E:=lookE [(1,fun v _=>v=.bool true)]) st3 (lookE_st (⟨fun _ _ _ _ _ _ _ h=>h,trivial⟩)) mixed (by kernel_rfl)<|?_;refine DP .r (fun _ hC=>VA agg47 (Blk.range (As.gb hC.2.g0)) .r)<|?_;refine DW.c0 (fun wx hC hF=>pvalidR_calls h99 hv2)<|nx5 ?_;refine DW.gsplit (t:=18) rfl (fun g18=>?_) (fun g18=>?_)
   ·
    exact nope g18
   refine nx8 ?_;refine DW.nil<|?_;rintro w4 ⟨hsz4,st4⟩ ⟨_,_⟩;refine nx5 ?_;exact EX.meet1 20 rfl rfl rfl (tG g18) (st4)
  intro w4 st4;refine nx ?_;refine WC.cd (fun g30=>?_) fun g30=>?_
  ·
   exact nope g30
  refine nx7 ?_;refine EX.again (j+1) (Sub.k2 rfl rfl<|Sub.cons rfl<|Sub.v<|Sub.nil) ⟨st4.drop,⟨by omega,trivial⟩⟩ (by first | (simp only [];omega) | omega)
 simp at g8
 refine nx12 ?_;refine nx2 ?_;refine EX.ret1 rfl rfl<|?_;exact ⟨by simp;omega,(St.cg st1)⟩
theorem prevValid1_calls {r:Rec} {x:Bas} {a a1 a2:Option Addr} {n c bb n1 e1 n2 e2:Nat} {w:World} (hb:Blk w bb 32 (x.row a1 n1 e1 a2 n2 e2)):Calls Tryz.prog 105 #[.agg (r.row a n c).toArray,.pointer (some ⟨bb,0,none⟩)] w fun e w'=>e=.returned (.bool (decide (x.revision<r.verified)))∧Chg [] w w':=by
 refine enter (args:=[.agg (r.row a n c).toArray,.pointer (some ⟨bb,0,none⟩)]) Tryz.func105 rfl Tryz.ntmps105 rfl<|?_;have st0:St w (fun _=>False) (fun _=>False) w []:=St.start (by simp);refine nx2 ?_;refine WL.go rfl (OX.box rfl rfl rfl fun b2 w1 nw2 hb2=>?_);have st1:=st0.newB nw2 hb2;refine nx6 ?_;refine WP .r (V1 one3 st1.b0 .r)<|nx ?_;refine WP .r (V1 one3 (Blk.range (hb.ext (St.cg st1))) .r)<|nx5 ?_;refine EX.ret1 rfl rfl<|?_;exact ⟨rfl,(St.cg st1)⟩
theorem prevValid_calls {x:Bas} {i:Nat} {a1 a2:Option Addr} {n1 e1 n2 e2:Nat} {w:World} {Z:Nat→Prop} (h99:i≤99) (hi:Rd RR.inp 4 Z w a1 n1 e1 x.inputs) (hr:Rd RR.rcd 8 Z w a2 n2 e2 x.recs) (hx:SimB i x):Calls Tryz.prog 61 #[.agg (x.row a1 n1 e1 a2 n2 e2).toArray] w fun e w'=>e=.returned (.bool true)∧Chg [] w w':=by
 obtain ⟨x0,x1,x2,x3⟩:=hx
 have hn1:n1=0:=by rw [hi.len,x1];rfl
 subst hn1;have hrn:=hr.len;refine enter (args:=[.agg (x.row a1 0 e1 a2 n2 e2).toArray]) Tryz.func61 rfl Tryz.ntmps61 rfl<|?_;have st0:St w (fun _=>False) (fun _=>False) w []:=St.start (by simp);refine nx2 ?_;refine WL.go rfl (OX.box rfl rfl rfl fun b1 w1 nw1 hb1=>?_);have st1:=st0.newB nw1 hb1;refine nx5 ?_;refine WC.cut1S (t:=24) (v:=.bool false) st1 ?_<|?_
 ·
  refine nx2 ?_;refine WP .r (V1 one3 st1.b0 .r)<|nx2 ?_;refine WL.gsplit (t:=8) rfl (fun g8=>?_) (fun g8=>?_)
  ·
   refine nx12 ?_;refine nx5 ?_;exact EX.meet1 21 rfl rfl rfl (tG g8) (st1)
  refine nx ?_;refine WP .r (V1 one3 st1.b0 .r)<|nx3 ?_;refine WL.gsplit (t:=13) rfl (fun g13=>?_) (fun g13=>?_)
  ·
   refine nx12 ?_;exact EX.meet1 22 rfl rfl rfl (tG (aj g8 g13)) (st1)
  refine nx ?_;refine WP .r (V1 one29 st1.b0 .r)<|nx4 ?_;refine WL.gsplit (t:=19) rfl (fun g19=>?_) (fun g19=>?_)
  ·
   refine nx6 ?_;exact EX.meet1 23 rfl rfl rfl (tG (aj g8<|aj g13 g19)) (st1)
  refine nx ?_;refine WP .r (V1 one30 st1.b0 .r)<|?_;refine WL.c0 (pvalidList_calls h99 (hr.ext (St.cg st1)) x2 x3) st1 fun w2 s2 st2=>?_;refine nx3 ?_;exact EX.meet1 23 rfl rfl rfl (tG (aj g8<|aj g13 g19)) (st2)
 intro w2 st2;refine nx ?_;refine WC.cd (fun g24=>?_) fun g24=>?_
 ·
  exact nope g24
 refine nx6 ?_;refine WP .r (V1 one29 st2.b0 .r)<|nx5 ?_;refine WC.loopS1 (σ:=Nat) (kvs:=fun j=>[(1,.pointer (some ⟨b1,0,none⟩)),(26,.slice a1 0 e1),(27,.int .i64 ((0:Nat):Int)),(28,.int .i64 (j:Int))]) (F:=fun j=>[]) (I:=fun j=>True) (μ:=fun j=>0) (0) (st2) (Sub.cons rfl<|Sub.v<|Sub.v<|Sub.v<|Sub.nil) (trivial)<|?_;rintro j w3 st3 _;simp only [CA,NA] at st3 ⊢;refine nx6 ?_;refine WC.cd (fun g29=>?_) fun g29=>?_
 ·
  exact nope g29
 refine nx8 ?_;refine WP .r (V1 one30 st3.b0 .r)<|WP .r (PV.func (us:=[]) (vs:=[.pointer (some ⟨b1,0,none⟩)]) rfl rfl)<|?_;refine WL.c0 (pcontainsR_calls (p:=fun r=>decide (x.revision<r.verified)) cf105 (hr.ext (St.cg st3)) (fun wq hq y _ a n c _=>prevValid1_calls ((As.gb st3.g0).ext hq)) (fun y hy=>by obtain ⟨v,rfl,_⟩:=x3 y hy;rw [x0];rfl)) st3 fun w4 s4 st4=>?_;refine nx5 ?_;refine EX.ret1 rfl rfl<|?_;exact ⟨by simp,(St.cg st4)⟩
end Go.Rc

