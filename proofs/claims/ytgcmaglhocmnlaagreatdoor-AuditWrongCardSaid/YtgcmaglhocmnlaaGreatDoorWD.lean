/- Walks over the program, part WD. Conditions: as each theorem says. -/
import Derived.Test.YtgcmaglhocmnlaaGreatDoorFacts
import Derived.Test.YtgcmaglhocmnlaaGreatDoorWLib
import Derived.Test.YtgcmaglhocmnlaaGreatDoorWA
import Derived.Test.YtgcmaglhocmnlaaGreatDoorWB
import Derived.Test.YtgcmaglhocmnlaaGreatDoorWC
import Derived.Test.YtgcmaglhocmnlaaGreatDoorBc
set_option linter.unusedVariables false
set_option linter.unusedSimpArgs false
set_option linter.unusedSectionVars false
namespace Go.Rc
open Go Go.Proofs
set_option maxHeartbeats 400000
theorem light_calls {a:Option Addr} {n c:Nat} {w:World}:Calls Tryz.prog 4 #[.slice a n c] w fun e w'=>e=.returned (.bool (decide (n≤400)))∧Chg [] w w':=by
 refine enter (args:=[.slice a n c]) Tryz.func4 rfl Tryz.ntmps4 rfl<|?_;have c0:Chg [] w w:=Chg.refl _ _;refine nx8 ?_;refine WP .r (PV.len' sl22 rfl)<|nx5 ?_;refine EX.ret1 rfl rfl<|?_;exact ⟨by congr 2;exact decide_eq_decide.2 (by omega),c0⟩
theorem roll_calls {l:List Int} {A:Nat→Prop} {a:Option Addr} {n c:Nat} {w:World} (hl:Ints A w a n c l) (h4:n≤400):Calls Tryz.prog 6 #[.slice a n c] w fun e w'=>∃d,e=.returned (.pointer (some ⟨d,0,none⟩))∧w.heap.size≤d∧Dice A w' 61 d∧Chg [] w w':=by
 refine enter (args:=[.slice a n c]) Tryz.func6 rfl Tryz.ntmps6 rfl<|?_;have c0:Chg [] w w:=Chg.refl _ _;refine nx8 ?_;refine WP .r (PV.build' (us:=[.slice a n c,.int .i64 0]) bt61 rfl rfl rfl)<|?_;refine WL.go rfl (OX.box rfl rfl rfl fun b5 w1 nw5 hb5=>?_);have s1:=nw5.ext;have ge_hb5:=nw5.ge' c0;have c1:=c0.trans s1;refine nx4 ?_;refine EX.ret1 rfl rfl<|?_;exact ⟨_,rfl,ge_hb5,⟨l,a,n,c,0,hb5,SR.ext hl c1,h4,by omega⟩,c1⟩
theorem next_calls {m:Int} {A:Nat→Prop} {d:Nat} {w:World} (hd:Dice A w 61 d) (hA:¬A d) (hm:m≤4611686018427387904):Calls Tryz.prog 19 #[.pointer (some ⟨d,0,none⟩),.int .i64 m] w fun e w'=>∃z:Int,e=.returned (.int .i64 z)∧0≤z∧(1≤m→z<m)∧Chg [d] w w'∧Dice A w' 61 d:=by
 obtain ⟨l,a,n,c,t,hb,hl,h4,ht4⟩:=hd;have hlen:=SR.len hl;refine enter (args:=[.pointer (some ⟨d,0,none⟩),.int .i64 m]) Tryz.func19 rfl Tryz.ntmps19 rfl<|?_;have c0:Chg [d] w w:=Chg.refl _ _;refine nx7 ?_;refine WC.drawn (m:=9) (C:=Chg [] w) (T:=fun _=>Chg []) (E:=lookE []) (lookE_st (trivial)) mixed (by kernel_rfl) (Chg.drew _ _)<|nx2 ?_;refine DP .r (fun _ hC=>PV.fa fa61_1 rfl)<|DP .r (fun _ hC=>PV.ld1 one3 (hb.ext hC).range rfl rfl)<|nx2 ?_;refine DP .r (fun _ hC=>PV.fa fa61_0 rfl)<|DP .r (fun _ hC=>PV.ld1 one22 (hb.ext hC).range rfl rfl)<|DP .r (fun _ hC=>PV.len' sl22 rfl)<|DW.nil<|?_;rintro w1 s1 _;have c1:=c0.trans s1.nil;have hb:=hb.ext s1;refine nx3 ?_;refine WC.cd (fun g14=>?_) fun g14=>?_
 ·
  skip
  refine nx7 ?_;refine EX.ret1 rfl rfl<|?_;exact ⟨0,rfl,by omega,fun h=>by omega,c1,l,a,n,c,t,hb,SR.chg hl c1 (by simpa using hA) (fun _ _ h=>h),h4,ht4⟩
 simp at g14
 obtain ⟨bx1,ox1,rx1,ha1,_,hrx,hr1,hAb⟩:=SR.at hl (getElem_some (show t<l.length by omega));subst hrx;refine nx6 ?_;refine WP .r (PV.fa fa61_1 rfl)<|WP .r (V1 one3 hb.range .r)<|nx2 ?_;refine WP .r (PV.fa fa61_1 rfl)<|?_;refine WL.go rfl (OX.st sz3 hb rfl rfl (by first | (simp [nth];done) | exact nns rfl) rfl rfl fun w2 s2 _ hb=>?_);have c2:=c1.trans s2;refine nx3 ?_;have hr1:=range_chg hr1 c2 (by simp;rintro rfl;exact hA hAb);refine WC.drawn (m:=12) (C:=Chg [] w2) (T:=fun _=>Chg []) (E:=lookE []) (lookE_st (trivial)) mixed (by kernel_rfl) (Chg.drew _ _)<|nx2 ?_;refine DP .r (fun _ hC=>PV.fa fa61_0 rfl)<|DP .r (fun _ hC=>PV.ld1 one22 (hb.ext hC).range rfl rfl)<|nx2 ?_;refine DP .r (fun _ hC=>PV.fa fa61_1 rfl)<|DP .r (fun _ hC=>PV.ld1 one3 (hb.ext hC).range rfl rfl)<|nx ?_;refine DP .r (fun _ hC=>PV.ixZ sl22 (t) ha1 rfl rfl (by omega) (by omega))<|DP .r (fun _ hC=>PV.ld0 one3 (range_chg hr1 hC (by simp)) rfl rfl)<|nx ?_;refine DW.nil<|?_;rintro w3 s3 _;have c3:=c2.trans s3.nil;have hb:=hb.ext s3;refine WL.go rfl (OX.call cf13 rfl rfl ((mod_calls (n:=l[t]) (m:=m) (by omega)).mono ?_));rintro _ w4 ⟨rfl,s4⟩;refine ⟨_,rfl,?_⟩;have c4:=c3.trans s4.nil;have hb:=hb.ext s4;refine nx4 ?_;refine EX.ret1 rfl rfl<|?_;refine ⟨_,rfl,?_,?_,c4,l,a,n,c,t+1,?_,SR.chg hl c4 (by simpa using hA) (fun _ _ h=>h),h4,by omega⟩
 ·
  split
  ·
   omega
  exact Int.emod_nonneg _ (by omega)
 ·
  intro h;rw [if_neg (by omega)];exact Int.emod_lt_of_pos _ (by omega)
 exact hb
def words:List ByteArray:=[⟨#[48]⟩,⟨#[49]⟩,⟨#[50]⟩,⟨#[51]⟩,⟨#[55]⟩,⟨#[49,48,48]⟩,⟨#[]⟩,⟨#[120]⟩,⟨#[49,54]⟩,⟨#[49]⟩]
theorem words_le:∀s∈words,s.size≤100:=by decide
end Go.Rc

