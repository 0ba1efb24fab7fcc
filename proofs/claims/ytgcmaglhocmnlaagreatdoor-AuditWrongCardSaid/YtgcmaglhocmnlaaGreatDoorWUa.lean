/- Walks over the program, part WUa. Conditions: as each theorem says. -/
import Derived.Test.YtgcmaglhocmnlaaGreatDoorFacts
import Derived.Test.YtgcmaglhocmnlaaGreatDoorWU
set_option linter.unusedVariables false
set_option linter.unusedSimpArgs false
set_option linter.unusedSectionVars false
namespace Go.Rc
open Go Go.Proofs
set_option maxHeartbeats 400000
theorem of_rule {rules:List Rule} {x:Bas} {D:SD} (hR:rulesOk rules) (hS:∀k,(valOf rules x.inputs k).size≤1000):∀i:Nat,i<rules.length→OfC rules x D (ofK rules (i:Int)):=by
 intro i;have h24:=hR.len;have low:∀n:Nat,n≤15→OfC rules x D (cellK (n:Int)):=fun n hn w M Z ml al hst hf hm _=>pofIn_calls hst hf hm (isInput_cellK (by omega))
 induction i using Nat.strongRecOn with
 | _ i IH=>
  intro hi w M Z ml al hst hf hm hal
  have h99:i≤99:=by omega
  have hal1:AlOk rules i al:=by
   have h:=hal (isInput_ofK hi h99);rw [number_ofK hi h99,Int.toNat_natCast] at h;exact h
  refine pofR_calls hst hf hm hR hi hS hal1 (fun hr w M Z ml al hst hf hm hal=>?_) (fun hr a ha=>?_)
  ·
   rw [number_ofK hi h99,Int.toNat_natCast] at hal;refine prings_calls hst hf hm hR hS hi hr hal fun j hj a ha hc=>?_;have hcy:=ha.cyc hR
   rcases ha with ⟨n,hn,rfl⟩ | ⟨m,hm,rfl,h1,h2,h3,h4⟩
   ·
    exact low n hn
   have hrm:ringAt rules m=false:=by
    rw [hc,ofK_kind hm (by omega)] at hcy
    cases h:ringAt rules m
    ·
     rfl
    rw [h] at hcy;simp at hcy
   have hlo:blockLo rules j≤i:=Nat.le_trans (reach_lo hR hj) (blockLo_le rules i)
   have hmj:m<i:=by
    have:=h4 hrm (reach_ring hi hr hj).2
    omega
   exact IH m hmj hm
  rcases ha with ⟨n,hn,rfl⟩ | ⟨m,hm,rfl,_,h2,_⟩
  ·
   exact low n hn
  exact IH m (h2 hr) hm
theorem of_all {rules:List Rule} {x:Bas} {D:SD} (hR:rulesOk rules) (hS:∀k,(valOf rules x.inputs k).size≤1000) {k:Key} (hk:Knd rules k):OfC rules x D k:=by
 cases hk with
 | cell h=>exact fun w M Z ml al hst hf hm _=>pofIn_calls hst hf hm (isInput_cellK h)
 | rule h _=>exact of_rule hR hS _ h
end Go.Rc

