/- Walks over the program, part WSb. Conditions: as each theorem says. -/
import Derived.Test.YtgcmaglhocmnlaaGreatDoorFacts
import Derived.Test.YtgcmaglhocmnlaaGreatDoorWO
import Derived.Test.YtgcmaglhocmnlaaGreatDoorBg
set_option linter.unusedVariables false
set_option linter.unusedSimpArgs false
set_option linter.unusedSectionVars false
namespace Go.Rc
open Go Go.Proofs
set_option maxHeartbeats 400000
theorem pindexI_calls {l:List Inp} {p:Inp→Bool} {f:FuncId} {cap:Value} {a:Option Addr} {n c:Nat} {w:World} {Z:Nat→Prop} (hcf:CF Tryz.prog f) (hl:Rd RR.inp 4 Z w a n c l) (hp:∀w1,Chg [] w w1→∀x∈l,Calls Tryz.prog f #[.agg x.cells.toArray,cap] w1 fun e w'=>e=.returned (.bool (p x))∧Chg [] w1 w'):Calls Tryz.prog 147 #[.slice a n c,.func (.func f) #[] #[cap]] w fun e w'=>∃j:Int,e=.returned (.int .i64 j)∧IdxOf l p j∧Chg [] w w':=by
 have hlen:=hl.len;have hle:=hl.le;refine enter (args:=[.slice a n c,.func (.func f) #[] #[cap]]) Tryz.func147 rfl Tryz.ntmps147 rfl<|?_;have st0:St w (fun _=>False) (fun _=>False) w []:=St.start (by simp);refine nx12 ?_;refine nx2 ?_;refine WC.loopS1 (σ:=Nat) (kvs:=fun i=>[(0,.slice a n c),(1,.func (.func f) #[] #[cap]),(7,.int .i64 (n:Int)),(8,.int .i64 (i:Int))]) (F:=fun i=>[]) (I:=fun i=>(i≤n)∧(∀j x,j<i→l[j]?=some x→p x=false)∧True) (μ:=fun i=>n - i) (0) (st0) (Sub.k2 rfl rfl<|Sub.cons rfl<|Sub.v<|Sub.nil) (⟨by omega,fun j x h=>by omega,trivial⟩)<|?_;rintro i w1 st1 ⟨hi,hno,_⟩;simp only [CA,NA] at st1 hi hno ⊢;refine nx6 ?_;refine WC.cd (fun g9=>?_) fun g9=>?_
 ·
  simp at g9
  have hi2:i<l.length:=by omega
  refine nx11 ?_;obtain ⟨b_x1,o_x1,r_x1,ha_x1,hl_x1,hR_x1,hr_x1,hz_x1⟩:=Rd.at hl hi2;have hR_x1:=RR.flat_eq hR_x1;subst hR_x1;refine nx4 ?_;refine WP .r (PV.ixS sl29 ha_x1 rfl rfl (by omega))<|WP .r (VA agg73 (range_chg hr_x1 (St.cg st1) (by simp)) .r)<|?_;refine WL.go rfl (OX.callV hcf rfl rfl rfl ((Calls.cap (hp _ (St.cg st1) l[i] (List.getElem_mem hi2))).mono ?_));rintro _ w2 ⟨rfl,s2⟩;refine ⟨_,rfl,?_⟩;have st2:=st1.step s2;refine nx2 ?_;refine WC.cd (fun g16=>?_) fun g16=>?_
  ·
   refine nx12 ?_;refine EX.ret1 rfl rfl<|?_;exact ⟨_,rfl,.inl ⟨i,_,getElem_some hi2,g16,hno,rfl⟩,(St.cg st2)⟩
  have g16:p l[i]=false:=by simpa using g16
  refine nx7 ?_;refine EX.again (i+1) (Sub.k2 rfl rfl<|Sub.cons rfl<|Sub.v<|Sub.nil) ⟨st2,⟨by omega,below_succ hi2 hno (by simpa using g16),trivial⟩⟩ (by first | (simp only [];omega) | omega)
 simp at g9
 have hall:∀x∈l,p x=false:=fun x hx=>by obtain ⟨j,hj,rfl⟩:=List.getElem_of_mem hx;exact hno j _ (by omega) (getElem_some hj)
 refine nx11 ?_;refine EX.ret1 rfl rfl<|?_;exact ⟨_,rfl,.inr ⟨hall,rfl⟩,(St.cg st1)⟩
theorem pfindI1_calls {x:Inp} {k:Key} {bk:Nat} {w:World} (hb:Blk w bk 40 k.cells):Calls Tryz.prog 148 #[.agg x.cells.toArray,.pointer (some ⟨bk,0,none⟩)] w fun e w'=>e=.returned (.bool (decide (x.key=k)))∧Chg [] w w':=by
 refine enter (args:=[.agg x.cells.toArray,.pointer (some ⟨bk,0,none⟩)]) Tryz.func148 rfl Tryz.ntmps148 rfl<|?_;have st0:St w (fun _=>False) (fun _=>False) w []:=St.start (by simp);refine nx2 ?_;refine WL.go rfl (OX.box rfl rfl rfl fun b2 w1 nw2 hb2=>?_);have st1:=st0.newB nw2 hb2;refine nx6 ?_;refine WP .r (PV.ldM agg40 st1.b0 rfl rfl)<|WP .r (VA agg40 (Blk.range (hb.ext (St.cg st1))) .r)<|WP .r (PV.eqK keyt40 (p:=x.key) (q:=k) rfl rfl)<|nx4 ?_;refine EX.ret1 rfl rfl<|?_;exact ⟨rfl,(St.cg st1)⟩
theorem pfindI_calls {x:Bas} {k:Key} {a1 a2:Option Addr} {n1 e1 n2 e2:Nat} {w:World} {Z:Nat→Prop} (hi:Rd RR.inp 4 Z w a1 n1 e1 x.inputs):Calls Tryz.prog 119 #[.agg (x.row a1 n1 e1 a2 n2 e2).toArray,k.val] w fun e w'=>∃y:Inp,e=.returned (.agg y.cells.toArray)∧y.value=(findI x.inputs k).value∧y.changed=(findI x.inputs k).changed∧Chg [] w w':=by
 have hlen:=hi.len;have hle:=hi.le;refine enter (args:=[.agg (x.row a1 n1 e1 a2 n2 e2).toArray,k.val]) Tryz.func119 rfl Tryz.ntmps119 rfl<|?_;have st0:St w (fun _=>False) (fun _=>False) w []:=St.start (by simp);refine nx2 ?_;refine WL.go rfl (OX.box rfl rfl rfl fun b2 w1 nw2 hb2=>?_);have st1:=st0.newB nw2 hb2;refine WL.go rfl (OX.box rfl rfl rfl fun b3 w2 nw3 hb3=>?_);have st2:=st1.newB nw3 hb3;refine WL.al st2 fun b4 w3 nw4 hb4 st3=>?_;refine nx5 ?_;refine WP .r (V1 one29 st3.b2 .r)<|WP .r (PV.func (us:=[]) (vs:=[.pointer (some ⟨b3,0,none⟩)]) rfl rfl)<|?_;refine WL.go rfl (OX.call cf147 rfl rfl ((pindexI_calls (p:=fun x=>decide (x.key=k)) cf148 (hi.ext (St.cg st3)) (fun w1 h1 y _=>pfindI1_calls ((As.gb st3.g1).ext h1))).mono ?_));rintro _ w4 ⟨j,rfl,hj,s4⟩;refine ⟨_,rfl,?_⟩;have st4:=st3.step s4;refine nx10 ?_;refine WC.cd (fun g11=>?_) fun g11=>?_
 ·
  simp at g11
  have hall:∀y∈x.inputs,(decide (y.key=k))=false:=by rcases hj with ⟨i,y,_,_,_,h⟩ | ⟨h,_⟩;omega;exact h
  have hf:x.inputs.find? (fun x=>x.key == k)=none:=find_all (i:=x.inputs.length) (Nat.le_refl _) (fun j x _ hx=>by simpa using hall x (List.mem_of_getElem? hx));refine nx3 ?_;refine WL.go rfl (OX.stW sz73 (As.gb st4.g0) rfl rfl rfl rfl rfl fun w5 ss0 _ hs0=>?_);have st5:=st4.updB ss0 hs0;refine nx4 ?_;refine EX.retC agg73 rfl rfl st5.b0 rfl<|?_;exact ⟨⟨noKey,⟨#[]⟩,0⟩,rfl,by unfold findI;rw [hf];rfl,by unfold findI;rw [hf];rfl,(St.cg st5)⟩
 simp at g11
 obtain ⟨i,y,hx,hp,hno,rfl⟩:∃i:Nat,∃y,x.inputs[i]?=some y∧decide (y.key=k)=true∧(∀j y,j<i→x.inputs[j]?=some y→(y.key == k)=false)∧j=i:=by
  rcases hj with ⟨i,y,h1,h2,h3,h4⟩ | ⟨_,h⟩
  ·
   exact ⟨i,y,h1,h2,fun j y hj hx=>by simpa using h3 j y hj hx,h4⟩
  omega
 obtain ⟨hi2,rfl⟩:=List.getElem?_eq_some_iff.1 hx;have hf:x.inputs.find? (fun x=>x.key == k)=some x.inputs[i]:=find_before hi2 hno (by simpa using hp);refine nx3 ?_;obtain ⟨b_x1,o_x1,r_x1,ha_x1,hl_x1,hR_x1,hr_x1,hz_x1⟩:=Rd.at hi hi2;have hR_x1:=RR.flat_eq hR_x1;subst hR_x1;refine nx2 ?_;refine WP .r (V1 one29 st4.b2 .r)<|nx ?_;refine WP .r (PV.ixS sl29 ha_x1 rfl rfl (by omega))<|WP .r (VA agg73 (range_chg hr_x1 (St.cg st4) (by simp)) .r)<|?_;refine WL.go rfl (OX.stW sz73 (As.gb st4.g0) rfl rfl rfl rfl rfl fun w5 ss1 _ hs1=>?_);have st5:=st4.updB ss1 hs1;refine nx3 ?_;refine EX.retC agg73 rfl rfl st5.b0 rfl<|?_;exact ⟨x.inputs[i],rfl,by unfold findI;rw [hf];rfl,by unfold findI;rw [hf];rfl,(St.cg st5)⟩
theorem pgetV_calls {x:Bas} {k:Key} {a1 a2:Option Addr} {n1 e1 n2 e2:Nat} {w:World} {Z:Nat→Prop} (hi:Rd RR.inp 4 Z w a1 n1 e1 x.inputs) (hr:Rd RR.rcd 8 Z w a2 n2 e2 x.recs):Calls Tryz.prog 74 #[.agg (x.row a1 n1 e1 a2 n2 e2).toArray,k.val] w fun e w'=>e=.returned (.string (findI x.inputs k).value)∧Chg [] w w':=by
 refine enter (args:=[.agg (x.row a1 n1 e1 a2 n2 e2).toArray,k.val]) Tryz.func74 rfl Tryz.ntmps74 rfl<|?_;have st0:St w (fun _=>False) (fun _=>False) w []:=St.start (by simp);refine nx2 ?_;refine WL.go rfl (OX.box rfl rfl rfl fun b2 w1 nw2 hb2=>?_);have st1:=st0.newB nw2 hb2;refine WL.go rfl (OX.box rfl rfl rfl fun b3 w2 nw3 hb3=>?_);have st2:=st1.newB nw3 hb3;refine nx5 ?_;refine WP .r (VA agg32 st2.b1 .r)<|WP .r (VA agg40 st2.b0 .r)<|?_;refine WL.go rfl (OX.call cf119 rfl rfl ((pfindI_calls (k:=k) (hi.ext (St.cg st2))).mono ?_));rintro _ w3 ⟨y,rfl,hy,_,s3⟩;refine ⟨_,rfl,?_⟩;have st3:=st2.step s3;refine WP .r (PV.fieldL (fs:=[_,_,_]) (f:=1) (off:=2) (T:=73) Tryz.underlying73 rfl rfl (show ∀w,(isAgg 9).run _ w=.ok false w from Tryz.isAgg9) rfl rfl)<|nx4 ?_;refine EX.ret1 rfl rfl<|?_;exact ⟨by rw [← hy],(St.cg st3)⟩
end Go.Rc

