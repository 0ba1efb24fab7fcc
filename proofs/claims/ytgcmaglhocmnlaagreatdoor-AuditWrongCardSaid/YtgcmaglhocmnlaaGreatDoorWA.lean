/- Walks over the program, part WA. Conditions: as each theorem says. -/
import Derived.Test.YtgcmaglhocmnlaaGreatDoorFacts
import Derived.Test.YtgcmaglhocmnlaaGreatDoorBc
set_option linter.unusedVariables false
set_option linter.unusedSimpArgs false
set_option linter.unusedSectionVars false
namespace Go.Rc
open Go Go.Proofs
set_option maxHeartbeats 400000
theorem mod_calls {n m:Int} {w:World} (h4:m≤4611686018427387904):Calls Tryz.prog 13 #[.int .i64 n,.int .i64 m] w fun e w'=>e=.returned (.int .i64 (if m<1 then 0 else n % m))∧Chg [] w w':=by
 refine enter (args:=[.int .i64 n,.int .i64 m]) Tryz.func13 rfl Tryz.ntmps13 rfl<|?_;have c0:Chg [] w w:=Chg.refl _ _;refine nx12 ?_;refine WC.cd (fun g6=>?_) fun g6=>?_
 ·
  simp at g6
  refine nx7 ?_;refine EX.ret1 rfl rfl<|?_;exact ⟨by rw [if_pos (by omega)],c0⟩
 simp at g6
 have k1:=Int.tmod_lt_of_pos n (show 0<m by omega);have k2:=Int.lt_tmod_of_pos n (show 0<m by omega);refine nx6 ?_;refine WP .r (PV.rem rfl rfl (by omega))<|nx3 ?_;refine WP .r (PV.rem rfl rfl (by omega))<|nx4 ?_;refine EX.ret1 rfl rfl<|?_;refine ⟨?_,c0⟩;rw [if_neg (by omega)]
 congr 2
 rw [Int.tmod_eq_emod_of_nonneg (by omega),Int.add_emod_right,tmod_emod]
theorem block_calls {rules:List Rule} {A:Nat→Prop} {a:Option Addr} {r c:Nat} {n:Int} {w:World} (hr:Rules A w a r c rules):Calls Tryz.prog 20 #[.slice a r c,.int .i64 n] w fun e w'=>e=.returned (.tuple #[.int .i64 (block rules n).1,.int .i64 (block rules n).2])∧Chg [] w w':=by
 have hle:=hr.le;have hlen:=hr.len;refine enter (args:=[.slice a r c,.int .i64 n]) Tryz.func20 rfl Tryz.ntmps20 rfl<|?_;have c0:Chg [] w w:=Chg.refl _ _;refine nx8 ?_;refine WC.cut1 (t:=15) (v:=.bool (decide (n<0) || decide ((r:Int)≤n))) (fun wx=>w=wx) ?_ ?_
 ·
  refine nx4 ?_;refine WL.gsplit (t:=10) rfl (fun g10=>?_) (fun g10=>?_)
  ·
   refine nx6 ?_;exact EX.meet1 9 rfl rfl rfl (by simp only [g10];first | done | rfl | simp) rfl
  refine nx2 ?_;refine WP .r (PV.len' sl27 rfl)<|nx3 ?_;exact EX.meet1 9 rfl rfl rfl (by simp only [g10];first | done | rfl | simp) rfl
 rintro _ rfl;refine nx ?_;refine WC.cd (fun g15=>?_) fun g15=>?_
 ·
  have hb:=block_out rules n (by simp at g15;omega);refine nx8 ?_;refine EX.ret2 rfl rfl rfl<|?_;exact ⟨by rw [hb],c0⟩
 obtain ⟨nn,rfl⟩:∃i:Nat,n=i:=⟨n.toNat,by simp at g15;omega⟩
 have hnl:nn<rules.length:=by simp at g15;omega
 have hbl:block rules nn=if ringAt rules nn then ((blockLo rules nn:Int),(hiFrom rules (nn+1):Int)) else ((nn:Int),(nn:Int)+1):=by
  unfold block;rw [if_neg (by omega)];rfl
 refine nx12 ?_;refine nx ?_;refine WC.loop (σ:=Nat) (kvs:=fun k=>[(0,.slice a r c),(1,.int .i64 (nn:Int)),(6,.int .i64 (k:Int)),(7,.int .i64 ((nn:Int)+1))]) (I:=fun k w'=>Chg [] w w'∧k≤nn∧blockLo rules k=blockLo rules nn∧(ringAt rules nn=false→k=nn)) (μ:=fun k=>k) nn (Sub.k4 rfl rfl rfl rfl<|Sub.nil) ⟨c0,Nat.le_refl _,rfl,fun _=>rfl⟩ ?_;rintro k w1 ⟨c1,hk,hlo,hnr⟩;refine nx2 ?_;obtain ⟨b1,o1,r1,ha1,_,⟨q1,q2,q3,rfl,_⟩,hr1,_⟩:=(hr.ext c1).at (getElem_some hnl);refine WC.cut1 (t:=35) (v:=.bool (rules[nn].ring && (decide ((0:Int)<k) && ringAt rules (k - 1)))) (fun wx=>w1=wx) ?_ ?_
 ·
  refine nx3 ?_;refine WP .r (PV.ixS sl27 ha1 rfl rfl (by omega))<|WP .r (PV.fa fa56_0 rfl)<|WP .r (V1 one4 hr1 .r)<|nx ?_;refine WL.gsplit (t:=24) rfl (fun g24=>?_) (fun g24=>?_)
  ·
   refine nx4 ?_;refine WL.gsplit (t:=28) rfl (fun g28=>?_) (fun g28=>?_)
   ·
    obtain ⟨b2,o2,r2,ha2,_,⟨q4,q5,q6,rfl,_⟩,hr2,_⟩:=(hr.ext c1).at (getElem_some (show k - 1<rules.length by omega))
    simp at g28
    have hk1:rules[k-1].ring=ringAt rules (k-1):=(ringAt_get (by omega)).symm;refine nx3 ?_;refine WP .r (PV.ixZ sl27 (k - 1) ha2 rfl rfl (by omega) (by omega))<|WP .r (PV.fa fa56_0 rfl)<|WP .r (V1 one4 hr2 .r)<|nx2 ?_;exact EX.meet1 19 rfl rfl rfl (by simp [*]) rfl
   simp at g28
   have hk0:¬(0<k):=by omega
   refine nx8 ?_;exact EX.meet1 19 rfl rfl rfl (by simp [*]) rfl
  refine nx12 ?_;exact EX.meet1 18 rfl rfl rfl (by simp [*]) rfl
 rintro _ rfl;refine nx ?_;refine WC.cd (fun g35=>?_) fun g35=>?_
 ·
  simp at g35
  obtain ⟨g1,g2,g3⟩:=g35;obtain ⟨j,rfl⟩:∃j,k=j+1:=⟨k - 1,by omega⟩;refine nx9 ?_;refine EX.again j (Sub.k2 rfl rfl<|Sub.consI rfl (by omega)<|Sub.cons rfl<|Sub.nil) ⟨c1,by omega,by rw [← hlo,blockLo_step (by simpa using g3)],fun h=>absurd (ringAt_get hnl) (by simp [h,g1])⟩ (by omega)
 simp at g35
 have hfst:(block rules nn).1=k:=by
  rw [hbl]
  by_cases hr1:ringAt rules nn=true
  ·
   rw [if_pos hr1]
   show (blockLo rules nn:Int)=k
   rw [← hlo,blockLo_end]
   by_cases h0:k=0
   ·
    exact .inl h0
   exact .inr (g35 (by rw [← ringAt_get hnl];exact hr1) (by omega))
  rw [if_neg hr1,hnr (by simpa using hr1)]
 refine nx7 ?_;refine WC.loop (σ:=Nat) (kvs:=fun m=>[(0,.slice a r c),(1,.int .i64 (nn:Int)),(6,.int .i64 (k:Int)),(7,.int .i64 (m:Int))]) (I:=fun m w'=>Chg [] w w'∧nn+1≤m∧m≤r∧hiFrom rules m=hiFrom rules (nn+1)∧(ringAt rules nn=false→m=nn+1)) (μ:=fun m=>r - m) (nn+1) (Sub.k4 rfl rfl rfl rfl<|Sub.nil) ⟨c1,Nat.le_refl _,by omega,rfl,fun _=>rfl⟩ ?_;rintro m w2 ⟨c2,hm1,hm2,hhi,hnr2⟩;refine nx2 ?_;obtain ⟨b1,o1,r1,ha1,_,⟨q1,q2,q3,rfl,_⟩,hr1,_⟩:=(hr.ext c2).at (getElem_some hnl);refine WC.cut1 (t:=55) (v:=.bool (rules[nn].ring && (decide ((m:Int)<r) && ringAt rules m))) (fun wx=>w2=wx) ?_ ?_
 ·
  refine nx3 ?_;refine WP .r (PV.ixS sl27 ha1 rfl rfl (by omega))<|WP .r (PV.fa fa56_0 rfl)<|WP .r (V1 one4 hr1 .r)<|nx ?_;refine WL.gsplit (t:=43) rfl (fun g43=>?_) (fun g43=>?_)
  ·
   refine nx2 ?_;refine WP .r (PV.len' sl27 rfl)<|nx3 ?_;refine WL.gsplit (t:=49) rfl (fun g49=>?_) (fun g49=>?_)
   ·
    simp at g49
    obtain ⟨b2,o2,r2,ha2,_,⟨q4,q5,q6,rfl,_⟩,hr2,_⟩:=(hr.ext c2).at (getElem_some (show m<rules.length by omega));have hk1:rules[m].ring=ringAt rules m:=(ringAt_get (by omega)).symm
    have hdec:decide ((m:Int)<r)=true:=by simp;omega
    refine nx2 ?_;refine WP .r (PV.ixS sl27 ha2 rfl rfl (by omega))<|WP .r (PV.fa fa56_0 rfl)<|WP .r (V1 one4 hr2 .r)<|nx2 ?_;exact EX.meet1 20 rfl rfl rfl (by first | (rw [hk1,g43,hdec];rfl) | simp [*]) rfl
   simp at g49
   have hk0:¬(m<rules.length):=by omega
   refine nx7 ?_;exact EX.meet1 20 rfl rfl rfl (by first | (rw [hk1,g43,hdec];rfl) | simp [*]) rfl
  refine nx12 ?_;refine nx ?_;exact EX.meet1 19 rfl rfl rfl (by first | (rw [hk1,g43,hdec];rfl) | simp [*]) rfl
 rintro _ rfl;refine nx ?_;refine WC.cd (fun g55=>?_) fun g55=>?_
 ·
  simp at g55
  obtain ⟨g1,g2,g3⟩:=g55;refine nx9 ?_;refine EX.again (m+1) (Sub.k2 rfl rfl<|Sub.cons rfl<|Sub.consI rfl (by omega)<|Sub.nil) ⟨c2,by omega,by omega,by rw [← hhi,← hiFrom_step g3],fun h=>absurd (ringAt_get hnl) (by simp [h,g1])⟩ (by omega)
 simp at g55
 have hsnd:(block rules nn).2=m:=by
  rw [hbl]
  by_cases hr1:ringAt rules nn=true
  ·
   rw [if_pos hr1]
   show (hiFrom rules (nn+1):Int)=m
   rw [← hhi,hiFrom_end]
   rcases Nat.lt_or_ge m r with h0 | h0
   ·
    exact g55 (by rw [← ringAt_get hnl];exact hr1) (by omega)
   exact ringAt_out (by omega)
  rw [if_neg hr1,hnr2 (by simpa using hr1)];rfl
 refine nx12 ?_;refine nx2 ?_;refine EX.ret2 rfl rfl rfl<|?_;exact ⟨by rw [hfst,hsnd],c2⟩
end Go.Rc

