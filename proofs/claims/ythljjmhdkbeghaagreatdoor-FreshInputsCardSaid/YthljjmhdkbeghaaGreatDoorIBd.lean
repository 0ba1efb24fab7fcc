/- Base of the proof: frames, memory, ownership, and the plain meaning of rule systems. Conditions: as each lemma says. -/
import Derived.Test.YthljjmhdkbeghaaGreatDoorIBc
import Derived.Lib.SliceRun
set_option linter.unusedVariables false
set_option linter.unusedSimpArgs false
set_option linter.unusedSectionVars false
namespace Go.Rc
open Go
def NP (Q:Exit→Act→World→Prop) (e:Exit) (a:Act) (w:World):Prop:=(∀c,e≠.panic c)∧Q e a w
theorem EX.np {Q:Exit→Act→World→Prop} {n:Nat} {kv:KV} {w:World} (h:EX Q .normal n kv w):EX (NP Q) .normal n kv w:=fun a hF=>⟨fun c=>by simp,h a hF⟩
def isMv:Op→Bool
 | .move _ | .assign _ | .pick .. | .extract ..=>true
 | _=>false
theorem mv_any {P:Program} {o:Oper} {lk:Operand→Value} {v:Value} {w:World} (h:isMv o.op=true) (hr:(execOp lk o).run P w=.ok (.value v) w) (w':World):(execOp lk o).run P w'=.ok (.value v) w':=by
 cases ho:o.op with
 | move x=>simp only [execOp,ho] at hr ⊢;cases hr;rfl
 | assign x=>simp only [execOp,ho] at hr ⊢;cases hr;rfl
 | pick c x y=>
  simp only [execOp,ho] at hr ⊢
  generalize lk c=u at hr ⊢
  cases u <;> first | (cases hr;rfl) | (cases hr;done)
 | extract t i=>
  simp only [execOp,ho,Instr.extract] at hr ⊢
  generalize lk t=u at hr ⊢
  cases u <;> first | (cases hr;done) | skip
  rename_i vs
  simp only at hr ⊢
  generalize vs[i]?=u at hr ⊢
  cases u <;> first | (cases hr;rfl) | (cases hr;done)
 | _=>rw [ho] at h;simp [isMv] at h
structure RegX (ops:Array Oper) (m:Nat) (X:List Nat):Prop extends RegB ops m where
 nosels:∀(i:Nat) o,ops[i]?=some o→isSelect o.op=false
 xlt:∀x∈X,x<m
 xmv:∀x∈X,∀o,ops[x]?=some o→isMv o.op=true
 xap:∀x∈X,∀o,ops[x]?=some o→∀(j:Nat) p,ops[j]?=some p→j≠x→x∈deps p∨j∈deps o∨o.apart ops p=true
 tail:∀k,m≤k→k<ops.size→∀(D:Nat→Prop),(∀(j:Nat) o,D j→ops[j]?=some o→∀d∈deps o,D d)→(∀(x:Nat) o,x∈X→ops[x]?=some o→(∀d∈deps o,D d)→D x)→(∀o,ops[k]?=some o→∀d∈deps o,D d)→∀j,j<k→D j
def dmask:List Nat→Nat
 | []=>0
 | d::r=>(2 ^ d) ||| dmask r
theorem dmask_bit:∀{ds:List Nat} {d:Nat},d∈ds→(dmask ds).testBit d=true
 | a::r,d,h=>by
  simp only [dmask,Nat.testBit_or,Bool.or_eq_true]
  rcases List.mem_cons.1 h with rfl | h
  ·
   left;simp [Nat.testBit_two_pow]
  right;exact dmask_bit h
def satX (ops:List Oper):List Nat→Nat→Nat
 | [],s=>s
 | x::r,s=>satX ops r (match ops[x]? with | some o=>(match Nat.beq (Nat.land (dmask (deps o)) s) (dmask (deps o)) with | true=>s ||| 2 ^ x | false=>s) | none=>s)
theorem satX_spec {ops:List Oper} {D:Nat→Prop}:∀{X:List Nat} {s:Nat},(∀(x:Nat) o,x∈X→ops[x]?=some o→(∀d∈deps o,D d)→D x)→(∀j,s.testBit j=true→D j)→∀j,(satX ops X s).testBit j=true→D j
 | [],_,_,h=>h
 | x::r,s,hX,h=>by
  simp only [satX];refine satX_spec (fun y o hy=>hX y o (by simp [hy])) ?_
  cases ho:ops[x]? with
  | none=>exact h
  | some o=>
   simp only
   cases hb:Nat.beq (Nat.land (dmask (deps o)) s) (dmask (deps o)) with
   | false=>exact h
   | true=>
    have he:(dmask (deps o)) &&& s=dmask (deps o):=Nat.eq_of_beq_eq_true hb;intro j hj;simp only [Nat.testBit_or,Bool.or_eq_true,Nat.testBit_two_pow,decide_eq_true_eq] at hj
    rcases hj with hj | rfl
    ·
     exact h j hj
    refine hX x o (by simp) ho fun d hd=>h d ?_;have h1:=dmask_bit hd;rw [← he,Nat.testBit_and] at h1;simp only [Bool.and_eq_true] at h1;exact h1.2
def regX (ops:List Oper) (m:Nat) (X:List Nat):Bool:=
 regB ops m && ops.all (fun o=>!isSelect o.op) && X.all (fun x=>Nat.blt x m && (match ops[x]? with
  | some o=>isMv o.op && ops.zipIdx.all (fun (p,j)=>Nat.beq j x || elemN x (deps p) || elemN j (deps o) || o.apart ops.toArray p)
  | none=>true)) &&
 (let ms:=masks ops [];(List.range ops.length).all fun k=>Nat.blt k m || (satX ops X (ms.getD k 0)) % 2 ^ k == 2 ^ k - 1)
theorem regX_spec {l:List Oper} {m:Nat} {X:List Nat} (h:regX l m X=true):RegX l.toArray m X:=by
 simp only [regX,Bool.and_eq_true] at h;obtain ⟨⟨⟨h1,h2⟩,h3⟩,h5⟩:=h;have hB:=regB_spec h1;have hback:∀(i:Nat) o,l[i]?=some o→∀k∈deps o,k<i:=fun i o ho=>hB.back i o (by simpa using ho)
 have hx:∀x∈X,x<m∧∀o,l[x]?=some o→isMv o.op=true∧∀(j:Nat) p,l[j]?=some p→j≠x→x∈deps p∨j∈deps o∨o.apart l.toArray p=true:=by
  intro x hx;have h4:=List.all_eq_true.1 h3 x hx;simp only [Bool.and_eq_true] at h4;refine ⟨by have:=h4.1;simp only [Nat.blt] at this;have:=Nat.le_of_ble_eq_true this;omega,fun o ho=>?_⟩;have h6:=h4.2;rw [ho] at h6;simp only [Bool.and_eq_true] at h6;refine ⟨h6.1,fun j p hp hne=>?_⟩;have h7:=List.all_eq_true.1 h6.2 (p,j) (by rw [List.mem_zipIdx_iff_getElem?];exact hp);simp only [Bool.or_eq_true] at h7
  rcases h7 with ((h7 | h7) | h7) | h7
  ·
   exact absurd (Nat.eq_of_beq_eq_true h7) hne
  ·
   exact .inl (elemN_iff.1 h7)
  ·
   exact .inr (.inl (elemN_iff.1 h7))
  exact .inr (.inr h7)
 refine {hB with nosels:=fun i o ho=>?_,xlt:=fun x h=>(hx x h).1,xmv:=fun x h o ho=>((hx x h).2 o (by simpa using ho)).1,xap:=fun x h o ho j p hp=>((hx x h).2 o (by simpa using ho)).2 j p (by simpa using hp),tail:=?_}
 ·
  have:=List.all_eq_true.1 h2 o (List.mem_of_getElem? (by simpa using ho:l[i]?=some o))
  simpa using this
 intro k hmk hkn D hD hDX hk j hj
 have:=List.all_eq_true.1 h5 k (by simpa using hkn)
 simp only [Bool.or_eq_true,beq_iff_eq] at this
 rcases this with h | h
 ·
  simp only [Nat.blt] at h;have:=Nat.le_of_ble_eq_true h;omega
 have hkn':k<l.length:=by simpa using hkn
 refine satX_spec (ops:=l) (X:=X) (s:=(masks l []).getD k 0) (fun x o hx ho hd=>hDX x o hx (by simpa using ho) hd) (fun j hj=>masks_spec D l [] [] rfl (fun j o hj ho=>hD j o hj (by simpa using ho)) (fun k o ho=>by simp at ho) (fun k o ho=>hback k o (by simpa using ho)) k l[k] (by simp [hkn']) (hk l[k] (by simp [hkn'])) j hj) j ?_
 have hb:(satX l X ((masks l []).getD k 0) % 2 ^ k).testBit j=true:=by rw [h,Nat.testBit_two_pow_sub_one];simpa using hj
 rw [Nat.testBit_mod_two_pow] at hb;simp only [Bool.and_eq_true] at hb;exact hb.2
section
variable {P:Program} {ops:Array Oper} {Q:Exit→Act→World→Prop} {n m:Nat} {X:List Nat} {C:World→Prop} {T:Nat→World→World→Prop} {E:Nat→Option (Value→World→Prop)}
variable (hS:∀i S,E i=some S→∀j S',E j=some S'→j≠i→j∉depsAt ops i→∀v w w',C w→C w'→T j w w'→S v w→S v w')
include hS
omit hS in
theorem phase2X (hok:RegX ops m X):∀(fuel k:Nat) (listed:Array Bool) (a:Act) (w:World),m≤k→k≤ops.size→(∀j,j<ops.size→listed[j]?=some (decide (j<k)))→listed.size=ops.size→
  ops.size - k≤fuel→wpList P ops Q (ops.toList.drop k) a w→wpAny P .any ops Q fuel listed a w:=by
 intro fuel
 induction fuel with
 | zero=>
  intro k listed a w hmk hk hlist hsz hf h
  have hk':k=ops.size:=by omega
  subst hk';rw [List.drop_eq_nil_of_le (by simp)] at h;refine ⟨?_,h⟩;refine List.eq_nil_iff_forall_not_mem.2 fun i hi=>?_;obtain ⟨h0,o,ho,_⟩:=mem_ready.1 hi;have hlt:i<ops.size:=(Array.getElem?_eq_some_iff.1 ho).1
  have:=hlist i hlt
  simp [this,hlt] at h0
 | succ fuel ih=>
  intro k listed a w hmk hk hlist hsz hf h
  have hready:∀i,i∈Region.ready .any ops listed→i=k∧k<ops.size:=by
   intro i hi;obtain ⟨h0,o,ho,hdo⟩:=mem_ready.1 hi;have hlt:i<ops.size:=(Array.getElem?_eq_some_iff.1 ho).1;have hl:=hlist i hlt
   have hge:¬i<k:=by
    intro hik
    simp [hl,hik] at h0
   refine ⟨?_,by omega⟩
   rcases Nat.lt_or_ge k i with hki | hki
   ·
    exfalso
    have hD:=hok.tail i (by omega) hlt (fun j=>j<k) (fun j p hj hp d hd=>by have:=hok.back j p hp d hd;omega) (fun x p hx _ _=>by have:=hok.xlt x hx;omega) (fun p hp d hd=>by
     rw [ho] at hp;simp at hp;subst hp
     unfold deps at hd
     obtain ⟨e,he,rfl⟩:=List.mem_map.1 hd;obtain ⟨he1,he2⟩:=List.mem_filter.1 he;have hb:=hdo e (by simpa using he1) he2
     have hes:e.on<ops.size:=by have:=hok.back i o ho e.on (List.mem_map.2 ⟨e,he,rfl⟩);omega
     simp [hlist e.on hes] at hb
     exact hb) k hki
    omega
   omega
  refine ⟨fun hnil=>?_,fun i hi=>?_⟩
  ·
   rcases Nat.lt_or_ge k ops.size with hlt | hge
   ·
    exfalso
    have:k∈Region.ready .any ops listed:=by
     refine mem_ready.2 ⟨by simp [hlist k hlt],ops[k],by simp [hlt],fun e he hb=>?_⟩;have hek:e.on<k:=hok.back k ops[k] (by simp [hlt]) e.on (List.mem_map.2 ⟨e,List.mem_filter.2 ⟨by simpa using he,hb⟩,rfl⟩)
     simp [hlist e.on (by omega),hek]
    rw [hnil] at this
    cases this
   rw [List.drop_eq_nil_of_le (by simpa using hge)] at h;exact h
  obtain ⟨rfl,hlt⟩:=hready i hi
  have hcons:ops.toList.drop i=ops[i]::ops.toList.drop (i+1):=by
   rw [List.drop_eq_getElem_cons (by simpa using hlt)];simp
  rw [hcons] at h
  have hset:∀j,j<ops.size→(listed.setIfInBounds i true)[j]?=some (decide (j<i+1)):=fun j hj=>by
   by_cases e:i=j
   ·
    subst e;simp [hsz,hlt]
   rw [Array.getElem?_setIfInBounds_ne e,hlist j hj]
   congr 1
   simp only [decide_eq_decide]
   omega
  have next:=fun a w=>ih (i+1) (listed.setIfInBounds i true) a w (by omega) (by omega) hset (by simpa using hsz) (by omega)
  unfold wpOp
  rw [show ops[i]?=some ops[i] by simp [hlt]]
  simp only
  unfold wpList at h
  by_cases hw:Region.wanted ops[i] (yielded ops a.tmps)=true
  ·
   rw [if_pos hw] at h;rw [if_pos hw];exact h.imp (Oper.wp_mono next) id
  rw [if_neg hw] at h;rw [if_neg hw];exact next _ _ h
theorem phase1X (hE:∀x∈X,E x=none) {a0:Act} {kv0:KV} (hok:RegX ops m X) (h0:Fr n a0 kv0)
  (hdw:DW P ops n C T E (fun kv w=>WL P ops (NP Q) (ops.toList.drop m) n kv w) 0 (ops.toList.take m) kv0 []) :
  ∀(fuel:Nat) (listed:Array Bool) (vals:Nat→Value) (a:Act) (w:World),listed.size=ops.size→left (fun j=>listed.getD j false) ops.size≤fuel→(∀j,m≤j→listed.getD j false=false)→
  Inv P ops n m C E a0 (fun j=>listed.getD j false) vals a w→wpAny P .any ops (NP Q) fuel listed a w:=by
 -- when all of the first part has come up
 have fin:∀(listed:Array Bool) (vals:Nat→Value) (a:Act) (w:World),(∀j,j<m→listed.getD j false=true)→Inv P ops n m C E a0 (fun j=>listed.getD j false) vals a w→wpList P ops (NP Q) (ops.toList.drop m) a w:=by
  intro listed vals a w hall hI;obtain ⟨vals',F,wh,hv,hnode,hC,_,hF,hFw⟩:=path hS hok.toRegB h0 hI hdw m (Nat.le_refl _);have hnil:(ops.toList.take m).drop m=[]:=List.drop_eq_nil_of_le (by simp;omega);rw [hnil] at hnode;refine hnode w hI.c (allF_iff.2 fun p hp=>(hFw p hp).2.2 (hall p.1 (hFw p hp).1)) a ⟨hI.size,hI.nod,fun t v hl=>?_⟩
  rcases look_kvOf m hl with ⟨j,hj,hjt,rfl⟩ | ⟨hno,hl0⟩
  ·
   rw [hv j (hall j hj)];exact hI.here j hj (hall j hj) t hjt
  rw [hI.old t fun j hj _=>hno j hj];exact h0.val t v hl0
 intro fuel
 induction fuel with
 | zero=>
  intro listed vals a w hsz hleft htail hI;have hall:=left_zero (Nat.le_zero.1 hleft)
  have hm:m=ops.size:=by
   rcases Nat.lt_or_ge m ops.size with h | h
   ·
    have h1:=hall m h;have h2:=htail m (Nat.le_refl _);rw [h2] at h1;cases h1
   have:=hok.le;omega
  have h:=fin listed vals a w (fun j hj=>hall j (by omega)) hI;rw [List.drop_eq_nil_of_le (by simp;omega)] at h;refine ⟨List.eq_nil_iff_forall_not_mem.2 fun i hi=>?_,h⟩;obtain ⟨h0,o,ho,_⟩:=mem_ready.1 hi;have hlt:i<ops.size:=(Array.getElem?_eq_some_iff.1 ho).1;have h1:=hall i hlt;simp only [Array.getD_eq_getD_getElem?] at h0 h1
  cases hx:listed[i]? with
  | none=>rw [hx] at h0;simp at h0
  | some b=>rw [hx] at h0 h1;simp at h0 h1;rw [h0] at h1;cases h1
 | succ fuel ih=>
  intro listed vals a w hsz hleft htail hI
  have hlistB:∀j,j<ops.size→∀b,listed.getD j b=listed.getD j false:=fun j hj b=>by
   simp [Array.getD,show j<listed.size by omega]
  -- the least operation that has not come up may come up
  have least:Region.ready .any ops listed=[]→∀j,j<ops.size→listed.getD j false=true:=by
   intro hnil j
   induction j using Nat.strongRecOn with
   | _ j ihj=>
    intro hj
    cases hb:listed.getD j false with
    | true=>rfl
    | false=>
     exfalso
     have:j∈Region.ready .any ops listed:=by
      refine mem_ready.2 ⟨by rw [hlistB j hj true,hb],ops[j],by simp [hj],fun e he hbd=>?_⟩;have hek:e.on<j:=hok.back j ops[j] (by simp [hj]) e.on (List.mem_map.2 ⟨e,List.mem_filter.2 ⟨by simpa using he,hbd⟩,rfl⟩);exact ihj e.on hek (by omega)
     rw [hnil] at this
     cases this
  by_cases hx:∃i,i∈X∧i∈Region.ready .any ops listed
  ·
   obtain ⟨i,hiX,hi⟩:=hx;obtain ⟨hli,o,ho,hdo⟩:=mem_ready.1 hi;have hlt:i<ops.size:=(Array.getElem?_eq_some_iff.1 ho).1
   have hLi:listed.getD i false=false:=by rw [← hlistB i hlt true];exact hli
   have hd:∀k∈deps o,listed.getD k false=true:=fun k hk=>by
    unfold deps at hk
    obtain ⟨e,he,rfl⟩:=List.mem_map.1 hk;obtain ⟨he1,he2⟩:=List.mem_filter.1 he;exact hdo e (by simpa using he1) he2
   have him:=hok.xlt i hiX;obtain ⟨vals',F,wh,hv,hnode,hC,_,hF,hFw⟩:=path hS hok.toRegB h0 hI hdw i (by omega)
   have hlen:i<(ops.toList.take m).length:=by simp;omega
   have hcons:(ops.toList.take m).drop i=o::(ops.toList.take m).drop (i+1):=by
    rw [List.drop_eq_getElem_cons hlen]
    congr 1
    have:(ops.toList.take m)[i]?=some o:=by rw [List.getElem?_take,if_pos him];simpa using ho
    rw [List.getElem?_eq_getElem hlen] at this
    simpa using this
   rw [hcons] at hnode;obtain ⟨hsel,hdok,hcase⟩:=hnode;have hag:=agree_of (vals':=vals') hok.toRegB h0 hI hv him ho hd
   have hL':∀j,(listed.setIfInBounds i true).getD j false=if j=i then true else listed.getD j false:=fun j=>by
    by_cases e:j=i
    ·
     subst e;simp [hsz,hlt]
    rw [if_neg e]
    simp [Array.getElem?_setIfInBounds_ne (fun h=>e h.symm)]
   have next:∀v w',Inv P ops n m C E a0 (fun j=>if j=i then true else listed.getD j false) (fun j=>if j=i then v else vals j) (a.put o.dst v) w'→wpAny P .any ops (NP Q) fuel (listed.setIfInBounds i true) (a.put o.dst v) w':=fun v w' hI'=>by
    refine ih _ _ _ _ (by simpa using hsz) ?_ (fun j hj=>by rw [hL',if_neg (by omega)];exact htail j hj) (by have e:(fun j=>(listed.setIfInBounds i true).getD j false)=(fun j=>if j=i then true else listed.getD j false):=funext hL';rw [e];exact hI')
    have:=(left_set (L:=fun j=>listed.getD j false) (L':=fun j=>(listed.setIfInBounds i true).getD j false) hLi hL' (k:=ops.size)).2 hlt
    omega
   have first:∀v,Yields P ops o v a→Inv P ops n m C E a0 (fun j=>if j=i then true else listed.getD j false) (fun j=>if j=i then v else vals j) (a.put o.dst v) w→wpAny P .any ops (NP Q) (fuel+1) listed a w:=fun v hy hI'=>
    wpAny_first ho (fun j p cs b hp e=>by have:=hok.nosels j p hp;rw [e] at this;simp [isSelect] at this) (fun c _ _ h=>absurd rfl (h.1 c)) fuel listed a w
     (fun j p hp hne hun hno=>by
      rcases hok.xap i hiX o ho j p hp hne with h | h | h
      ·
       obtain ⟨e,he,hei⟩:=List.mem_map.1 h;obtain ⟨he1,he2⟩:=List.mem_filter.1 he;exact absurd hei (hno e (by simpa using he1) he2)
      ·
       have h1:=hd j h;have h2:j<ops.size:=(Array.getElem?_eq_some_iff.1 hp).1;rw [hlistB j h2 true,h1] at hun;cases hun
      exact h) hi hy (next v w hI')
   rcases hcase with ⟨hg,_⟩ | ⟨hg,hk,hE',e,hrun,_⟩ | ⟨hg,hk,S,hE',heff,_⟩
   ·
    have hw:=hag.wanted hg
    exact first undef (.inr ⟨hw,rfl⟩) (hI.put hok.toRegB him ho hLi hd hdok hI.c (fun _ _ _ _ _ _ h=>h) (fun _=>rfl) (fun h=>by rw [hw] at h;cases h) (fun S h=>by rw [hw] at h;cases h))
   ·
    have hw:=hag.wanted hg;have hr:=hrun w hI.c;rw [← hag.exec hsel hk] at hr
    exact first e (.inl ⟨hw,fun w'=>mv_any (hok.xmv i hiX o ho) hr w'⟩) (hI.put hok.toRegB him ho hLi hd hdok hI.c (fun _ _ _ _ _ _ h=>h) (fun h=>by rw [hw] at h;cases h) (fun _ _=>⟨w,hI.c,hr⟩) (fun S _ h=>by rw [hE'] at h;cases h))
   rw [hE i hiX] at hE';cases hE'
  refine ⟨fun hnil=>?_,fun i hi=>?_⟩
  ·
   have hall:=least hnil
   have hm:m=ops.size:=by
    rcases Nat.lt_or_ge m ops.size with h | h
    ·
     have h1:=hall m h;have h2:=htail m (Nat.le_refl _);rw [h2] at h1;cases h1
    have:=hok.le;omega
   have h:=fin listed vals a w (fun j hj=>hall j (by omega)) hI;rw [List.drop_eq_nil_of_le (by simp;omega)] at h;exact h
  obtain ⟨hli,o,ho,hdo⟩:=mem_ready.1 hi;have hlt:i<ops.size:=(Array.getElem?_eq_some_iff.1 ho).1
  have hLi:listed.getD i false=false:=by rw [← hlistB i hlt true];exact hli
  have hd:∀k∈deps o,listed.getD k false=true:=fun k hk=>by
   unfold deps at hk
   obtain ⟨e,he,rfl⟩:=List.mem_map.1 hk;obtain ⟨he1,he2⟩:=List.mem_filter.1 he;exact hdo e (by simpa using he1) he2
  rcases Nat.lt_or_ge i m with him | him
  ·
   -- one of the first part
   obtain ⟨vals',F,wh,hv,hnode,hC,_,hF,hFw⟩:=path hS hok.toRegB h0 hI hdw i (by omega)
   have hlen:i<(ops.toList.take m).length:=by simp;omega
   have hcons:(ops.toList.take m).drop i=o::(ops.toList.take m).drop (i+1):=by
    rw [List.drop_eq_getElem_cons hlen]
    congr 1
    have:(ops.toList.take m)[i]?=some o:=by rw [List.getElem?_take,if_pos him];simpa using ho
    rw [List.getElem?_eq_getElem hlen] at this
    simpa using this
   rw [hcons] at hnode;obtain ⟨hsel,hdok,hcase⟩:=hnode;have hag:=agree_of (vals':=vals') hok.toRegB h0 hI hv him ho hd
   have hL':∀j,(listed.setIfInBounds i true).getD j false=if j=i then true else listed.getD j false:=fun j=>by
    by_cases e:j=i
    ·
     subst e;simp [hsz,hlt]
    rw [if_neg e]
    simp [Array.getElem?_setIfInBounds_ne (fun h=>e h.symm)]
   have next:∀v w',Inv P ops n m C E a0 (fun j=>if j=i then true else listed.getD j false) (fun j=>if j=i then v else vals j) (a.put o.dst v) w'→wpAny P .any ops (NP Q) fuel (listed.setIfInBounds i true) (a.put o.dst v) w':=fun v w' hI'=>by
    refine ih _ _ _ _ (by simpa using hsz) ?_ (fun j hj=>by rw [hL',if_neg (by omega)];exact htail j hj) (by have e:(fun j=>(listed.setIfInBounds i true).getD j false)=(fun j=>if j=i then true else listed.getD j false):=funext hL';rw [e];exact hI')
    have:=(left_set (L:=fun j=>listed.getD j false) (L':=fun j=>(listed.setIfInBounds i true).getD j false) hLi hL' (k:=ops.size)).2 hlt
    omega
   unfold wpOp
   rw [ho]
   simp only
   rcases hcase with ⟨hg,_⟩ | ⟨hg,hk,hE,e,hrun,_⟩ | ⟨hg,hk,S,hE,heff,_⟩
   ·
    have hw:=hag.wanted hg;rw [if_neg (by rw [hw];simp)];exact next undef w (hI.put hok.toRegB him ho hLi hd hdok hI.c (fun _ _ _ _ _ _ h=>h) (fun _=>rfl) (fun h=>by rw [hw] at h;cases h) (fun S h=>by rw [hw] at h;cases h))
   ·
    have hw:=hag.wanted hg;rw [if_pos hw];refine .inl ?_;have hr:=hrun w hI.c;rw [← hag.exec hsel hk] at hr
    unfold Oper.wp
    rw [hr];exact next e w (hI.put hok.toRegB him ho hLi hd hdok hI.c (fun _ _ _ _ _ _ h=>h) (fun h=>by rw [hw] at h;cases h) (fun _ _=>⟨w,hI.c,hr⟩) (fun S _ h=>by rw [hE] at h;cases h))
   have hw:=hag.wanted hg;rw [if_pos hw];refine .inl ?_
   unfold Oper.wp
   rw [hag.exec hsel hk];refine outc_upon (heff w hI.c (depF_of fun p hp hm=>(hFw p hp).2.2 (hd p.1 hm))) fun v w' ⟨hC',hT,hSv⟩=>?_
   exact next v w' (hI.put hok.toRegB him ho hLi hd hdok hC' (fun j S' u hjm hLj hE' h=>hS j S' hE' i S hE (fun e=>by subst e;rw [hLi] at hLj;cases hLj) (fun hm=>by
    obtain ⟨p,hp⟩:∃p,ops[j]?=some p:=⟨ops[j]'(by have:=hok.le;omega),by simp⟩;simp only [depsAt,hp] at hm;have h3:=hI.closed j p hjm hLj hp i hm;simp only [hLi] at h3
    cases h3) u w w' hI.c hC' hT h) (fun h=>by rw [hw] at h;cases h) (fun _ h=>by rw [hE] at h;cases h) (fun S' _ h=>by rw [hE] at h;simp at h;subst h;exact hSv))
  -- the first of the rest: all before it has come up
  have hD:=hok.tail i him hlt (fun j=>listed.getD j false=true) (fun j p hj hp d hdm=>by
   have hjm:j<m:=by
    rcases Nat.lt_or_ge j m with h | h
    ·
     exact h
    have:=htail j h;rw [this] at hj;cases hj
   exact hI.closed j p hjm hj hp d hdm) (fun x p hxX hp hdx=>by
   have hxlt:x<ops.size:=(Array.getElem?_eq_some_iff.1 hp).1
   cases hb:listed.getD x false with
   | true=>rfl
   | false=>exact absurd ⟨x,hxX,mem_ready.2 ⟨by rw [hlistB x hxlt true,hb],p,hp,fun e he hbd=>hdx e.on (List.mem_map.2 ⟨e,List.mem_filter.2 ⟨by simpa using he,hbd⟩,rfl⟩)⟩⟩ hx) (fun p hp d hdm=>by rw [ho] at hp;simp at hp;subst hp;exact hd d hdm)
  have him':i=m:=by
   rcases Nat.lt_or_ge m i with h | h
   ·
    have h1:=hD m h;have h2:=htail m (Nat.le_refl _);rw [h2] at h1;cases h1
   omega
  subst him';have hall:∀j,j<i→listed.getD j false=true:=hD;have h:=fin listed vals a w hall hI
  have hlist:∀j,j<ops.size→listed[j]?=some (decide (j<i)):=fun j hj=>by
   have hjs:j<listed.size:=by omega
   rcases Nat.lt_or_ge j i with hji | hji
   ·
    have:=hall j hji
    simp [Array.getD,hjs] at this
    simp [hjs,this,hji]
   have:=htail j hji
   simp [Array.getD,hjs] at this
   simp [hjs,this,show ¬j<i by omega]
  have h2:=phase2X (P:=P) (Q:=NP Q) hok (fuel+1) i listed a w (Nat.le_refl _) (by omega) hlist hsz (by
   have hl:∀k,k≤ops.size→left (fun j=>listed.getD j false) k≥k - i:=by
    intro k
    induction k with
    | zero=>intro _;simp
    | succ k ihk=>
     intro hk
     have:=ihk (by omega)
     simp only [left]
     rcases Nat.lt_or_ge k i with h | h
     ·
      omega
     have h9:=htail k h;simp only [h9,Bool.not_false,Bool.toNat_true]
     omega
   have:=hl ops.size (Nat.le_refl _)
   omega) h
  exact h2.2 i hi
omit hS in
theorem WC.drawnX0 (hEX:(X.all fun x=>(E x).isNone)=true) {kv:KV} {w:World} {id:Nat} {l:List Oper}
  (hS:∀i S,E i=some S→∀j S',E j=some S'→j≠i→j∉depsAt l.toArray i→∀v w w',C w→C w'→T j w w'→S v w→S v w') (hm:P.follows .mixedOrders=true) (hok:regX l m X=true) (hC:C {w with drawn:=w.drawn+1})
  (hdw:DW P l.toArray n C T E (fun kv w=>WL P l.toArray (NP Q) (l.drop m) n kv w) 0 (l.take m) kv []):WC P (.region id l.toArray true) Q n kv w:=by
 intro a hF
 refine wp_mono (Q:=NP Q) ?_ fun _ _ _ h=>h.2
 refine wp_region_any hm ?_
 have hE:∀x∈X,E x=none:=fun x hx=>by have:=List.all_eq_true.1 hEX x hx;simpa using this
 have hok':=regX_spec hok
 have hfalse:∀j,(Array.replicate l.toArray.size false).getD j false=false:=fun j=>by
  by_cases h:j<l.length <;> simp [Array.getD,h]
 refine phase1X (hE:=hE) (m:=m) (vals:=fun _=>undef) hS hok' hF (by simpa using hdw) l.toArray.size _ a _ (by simp) ?_ (fun j _=>hfalse j) ⟨hC,hF.size,hF.nod,?_,fun _ _=>rfl,?_,?_,?_,?_⟩
 ·
  have:∀k (L:Nat→Bool),left L k≤k:=by
   intro k L
   induction k with
   | zero=>simp [left]
   | succ k ih=>simp only [left];cases L k <;> simp <;> omega
  exact this _ _
 all_goals (intro j;intros;rename_i h _ ;first | (have:=hfalse j;simp_all;done) | skip)
end
section
variable {P:Program} {Q:Exit→Act→World→Prop} {n:Nat} {kv:KV} {w0 w:World} {M Z:Nat→Prop}
theorem OX.stA' {x y:Operand} {k b o N:Nat} {T:TypeId} {ty:TypeId} {pos:String} {af:Array Edge} {g:Option (Nat × Bool)} {K:KV→World→Prop} {e:TypeId} {l us l':List Value} (hT:(P.info? T).map (·.size)=some k) (hb:Blk w b e l) (hx:ev kv x=some (.pointer (some ⟨b,0+o,none⟩))) (hy:ev kv y=some (.agg us.toArray))
  (hk:us.length=k) (h1:(Nat.ble (o+us.length) l.length && us.all (·.oneCell'))=true) (hl:l.take o++us++l.drop (o+us.length)=l')
  (h:∀w',Chg [b] w w'→Blk w' b e l'→K kv w') :
  OX P ⟨none,.store T x y,ty,pos,af,g⟩ N kv w K:=by
 simp only [Bool.and_eq_true] at h1
 exact OX.stA hT hb (by rw [hx,Nat.zero_add]) hy hk (Nat.le_of_ble_eq_true h1.1) (fun v hv=>List.all_eq_true.1 h1.2 v hv) hl fun w' a _ c=>h w' a c
theorem St.eqA {A B:As} {l:List As} (h:St w0 M Z w (A::l)) (e:A=B):St w0 M Z w (B::l):=by subst e;exact h
def PS (N T len:Nat) (cs:List Value) (v:Value) (w:World):Prop:=∃b,v=.slice (some ⟨b,0,none⟩) len len∧N≤b∧Blk w b T cs
theorem PS.st {N T len:Nat} {cs:List Value} {F:Nat→Prop} (hN:∀x,F x→x<N) {v:Value} {w w':World} (c:ChgP F w w') (h:PS N T len cs v w):PS N T len cs v w':=by
 obtain ⟨b,h1,h2,h3⟩:=h;exact ⟨b,h1,h2,by have h4:_=_:=h3;show _=_;rw [c.block b h3.lt fun hf=>by have:=hN b hf;omega];exact h4⟩
theorem PS.pb {N T len b:Nat} {cs:List Value} {w:World} (h:PS N T len cs (.slice (some ⟨b,0,none⟩) len len) w):PB N T cs (.pointer (some ⟨b,0,none⟩)) w:=by
 obtain ⟨b',h1,h2,h3⟩:=h
 simp at h1;subst h1;exact ⟨_,rfl,h2,h3⟩
theorem St.swap {A B:As} {l:List As} {N:Nat} (h:St w0 M Z w (A::l)) (hB:B.ok Z w) (hfp:∀x,B.fp x→A.fp x∨N≤x) (hl:∀x,fps (A::l) x→x<N) (hz:∀x,Z x→x<N) (h0:w0.heap.size≤N):St w0 M Z w (B::l) where
 chg:=h.chg
 zlt:=h.zlt
 zfp D hD x hx hzx:=by
  rcases List.mem_cons.1 hD with rfl | hD
  ·
   rcases hfp x hx with h1 | h1
   ·
    exact h.zfp A (by simp) x h1 hzx
   have:=hz x hzx;omega
  exact h.zfp D (by simp [hD]) x hx hzx
 org D hD x hx:=by
  rcases List.mem_cons.1 hD with rfl | hD
  ·
   rcases hfp x hx with h1 | h1
   ·
    exact h.org A (by simp) x h1
   exact .inr (Nat.le_trans h0 h1)
  exact h.org D (by simp [hD]) x hx
 dis:=List.pairwise_cons.2 ⟨fun D hD x hx hd=>by
  rcases hfp x hx with h1 | h1
  ·
   exact (List.pairwise_cons.1 h.dis).1 D hD x h1 hd
  have:=hl x ⟨D,by simp [hD],hd⟩;omega,(List.pairwise_cons.1 h.dis).2⟩
 ok D hD:=by
  rcases List.mem_cons.1 hD with rfl | hD
  ·
   exact hB
  exact h.ok D (by simp [hD])
theorem run_appK {α:Type} {R:RR α} {E k n c:Nat} {a:Option Addr} {xs:List α} {T bytes:Nat} (hT:AP P T E k bytes) {ty:TypeId} (hown:Ow R E k Z w a n c xs) (hzd:∀x∈oblk a,¬Z x) {a2:Option Addr} {m c2:Nat} {A:Nat→Prop} {ys:List α} (hx:SR A w k (R.r Z w) a2 m c2 ys)
  (hbytes:(n+m)*bytes≤140737488355328) (hnm:n+m≤140737488355328) :
  ∃a' c' w',(Builtin.append_ #[T,T] ty #[.slice a n c,.slice a2 m c2]).run P w=.ok (.slice a' (n+m) c') w'∧Ow R E k Z w' a' (n+m) c' (xs++ys)∧Ow R E k Z w' a n c xs∧Chg (oblk a) w w'∧(∀x∈oblk a',x∈oblk a∨w.heap.size≤x):=by
 obtain ⟨hn,rows,hl,hk,h1,hR⟩:=hown;obtain ⟨hn2,rows2,hl2,hk2,h2,hR2⟩:=hx;obtain ⟨a',c',w',hr,ho,hc,hf,_,h0,hin⟩:=run_app hT (ty:=ty) h1 h2 hbytes hnm (Nat.zero_le _)
 have hst:∀x,Z x→x<w.heap.size→w'.heap[x]?=w.heap[x]?:=fun x hx hlx=>hc.block x hlx fun hm=>hzd x hm hx
 refine ⟨a',c',w',hr,⟨by rw [List.length_append];omega,rows++rows2,by simp [hl,hl2],?_,by simpa using ho,?_⟩,⟨hn,rows,hl,hk,⟨h1.1,h1.2.1,?_⟩,fun i x r h2 h3=>R.st hc.size hst (hR i x r h2 h3)⟩,hc,hf⟩
 ·
  intro r hr
  rcases List.mem_append.1 hr with h | h
  ·
   exact hk r h
  exact hk2 r h
 ·
  intro i x r hi hr
  rcases Nat.lt_or_ge i xs.length with hlt | hge2
  ·
   rw [List.getElem?_append_left hlt] at hi;rw [List.getElem?_append_left (by omega)] at hr;exact R.st hc.size hst (hR i x r hi hr)
  rw [List.getElem?_append_right hge2] at hi;rw [List.getElem?_append_right (by omega)] at hr;exact R.st hc.size hst (hR2 (i - xs.length) x r hi (by rw [← hl];exact hr))
 rcases h1.cases with ⟨h2,h3,h4,h5⟩ | ⟨g,cur,h2,h3,h4,h5,h6,h7,h8⟩
 ·
  exact .inl ⟨by rw [h2,h3,h4],h3⟩
 have hg:g<w.heap.size:=(Array.getElem?_eq_some_iff.1 h4).1
 rcases hin with hin | ⟨hroom,g',cu,cu',h9,h10,h11,h12,_,h13⟩
 ·
  exact .inr ⟨g,c,cur,by rw [h2],h3,by rw [hin.block g hg (by simp)];exact h4,h5,h6,h7,h8⟩
 rw [h2] at h9
 simp at h9
 subst h9;rw [h4] at h10
 simp at h10
 subst h10;exact .inr ⟨g,c,cu',by rw [h2],h3,h11,h5,h6,by rw [h12];exact h7,by rw [h13];exact h8⟩
theorem OX.appK {α:Type} {R:RR α} {E k c j:Nat} {a:Option Addr} {xs:List α} {T bytes mm:Nat} {K:KV→World→Prop} {d:Tmp} {ty:TypeId} {pos:String} {af:Array Edge} {g:Option (Nat × Bool)} (hT:AP P T E k bytes) {s x:Operand} {a2:Option Addr} {m c2:Nat} {A:Nat→Prop} {ys:List α} (hd:Nat.blt d mm=true) (hs:ev kv s=some (.slice a j c)) (hx:ev kv x=some (.slice a2 m c2))
  (hown:Ow R E k Z w a j c xs) (hzd:∀x∈oblk a,¬Z x) (hsrc:SR A w k (R.r Z w) a2 m c2 ys) (hbytes:(j+m)*bytes≤140737488355328) (hnm:j+m≤140737488355328)
  (h:∀a' c' w',Ow R E k Z w' a' (j+m) c' (xs++ys)→Ow R E k Z w' a j c xs→Chg (oblk a) w w'→(∀x∈oblk a',x∈oblk a∨w.heap.size≤x)→K ((d,.slice a' (j+m) c')::kv) w') :
  OX P ⟨some d,.call {callee:=.builtin .append,args:=#[s,x],argTypes:=#[T,T]},ty,pos,af,g⟩ mm kv w K:=by
 refine ⟨rfl,hd,by simp [known,opers,hs,hx],?_⟩;obtain ⟨a',c',w',hr,h1,h2,h3,h4⟩:=run_appK hT (ty:=ty) hown hzd hsrc hbytes hnm
 have hr':(execOp (lkO kv) ⟨some d,.call {callee:=.builtin .append,args:=#[s,x],argTypes:=#[T,T]},ty,pos,af,g⟩).run P w=.ok (.value (.slice a' (j+m) c')) w':=by
  simp only [execOp,resolve,invoke,builtin,Sem.run_bind,Sem.run_pure,Result.andThen_ok,List.map_toArray,List.map_cons,List.map_nil,lkO_of hs,lkO_of hx,hr]
 rw [hr'];exact h _ _ _ h1 h2 h3 h4
theorem WC.drawnXT {id m:Nat} {l:List Oper} {ls:List As} (X:List Nat) (T:Nat→World→World→Prop) {E:Nat→Option (Value→World→Prop)} (hst:St w0 M Z w ls)
  (hS:∀i S,E i=some S→∀j S',E j=some S'→j≠i→j∉depsAt l.toArray i→∀v w1 w2,(w.heap.size≤w1.heap.size∧St w0 M Z w1 ls)→(w.heap.size≤w2.heap.size∧St w0 M Z w2 ls)→T j w1 w2→S v w1→S v w2) (hm:P.follows .mixedOrders=true) (hok:regX l m X=true) (hEX:(X.all fun x=>(E x).isNone)=true)
  (hdw:DW P l.toArray n (fun wx=>w.heap.size≤wx.heap.size∧St w0 M Z wx ls) T E (fun kv w=>WL P l.toArray (NP Q) (l.drop m) n kv w) 0 (l.take m) kv []):WC P (.region id l.toArray true) Q n kv w:=
 WC.drawnX0 (C:=fun wx=>w.heap.size≤wx.heap.size∧St w0 M Z wx ls) (T:=T) hEX hS hm hok ⟨Nat.le_refl _,hst.step (Chg.drew [] w)⟩ hdw
theorem WC.drawnX {id m:Nat} {l:List Oper} {ls:List As} (X:List Nat) {E:Nat→Option (Value→World→Prop)} (hst:St w0 M Z w ls)
  (hS:∀i S,E i=some S→∀j S',E j=some S'→j≠i→j∉depsAt l.toArray i→∀v w1 w2,(w.heap.size≤w1.heap.size∧St w0 M Z w1 ls)→(w.heap.size≤w2.heap.size∧St w0 M Z w2 ls)→ChgP (fps ls) w1 w2→S v w1→S v w2) (hm:P.follows .mixedOrders=true) (hok:regX l m X=true) (hEX:(X.all fun x=>(E x).isNone)=true)
  (hdw:DW P l.toArray n (fun wx=>w.heap.size≤wx.heap.size∧St w0 M Z wx ls) (fun _=>ChgP (fps ls)) E (fun kv w=>WL P l.toArray (NP Q) (l.drop m) n kv w) 0 (l.take m) kv []):WC P (.region id l.toArray true) Q n kv w:=
 WC.drawnX0 (C:=fun wx=>w.heap.size≤wx.heap.size∧St w0 M Z wx ls) (T:=fun _=>ChgP (fps ls)) hEX hS hm hok ⟨Nat.le_refl _,hst.step (Chg.drew [] w)⟩ hdw
end
end Go.Rc

namespace Go.Rc
open Go
inductive Kd where
 | pure
 | side (sh:Value→Prop) (it:Value→As)
 | chain
def Kd.E:Kd→Option (Value→World→Prop)
 | .pure=>none
 | .side sh _=>some fun v _=>sh v
 | .chain=>some fun _ _=>True
def kvS (ops:Array Oper) (vals:Nat→Value):List Nat→KV→KV
 | [],kv=>kv
 | j::r,kv=>kvS ops vals r (upd kv (dstAt ops j) (vals j))
theorem kvS_app (ops:Array Oper) (vals:Nat→Value):∀(a b:List Nat) (kv:KV),kvS ops vals (a++b) kv=kvS ops vals b (kvS ops vals a kv)
 | [],_,_=>rfl
 | _::r,b,_=>kvS_app ops vals r b _
theorem kvS_congr {ops:Array Oper} {vals vals':Nat→Value}:∀{l:List Nat} {kv:KV},(∀j∈l,vals j=vals' j)→kvS ops vals l kv=kvS ops vals' l kv
 | [],_,_=>rfl
 | j::r,kv,h=>by simp only [kvS];rw [h j (by simp),kvS_congr fun x hx=>h x (by simp [hx])]
theorem look_kvS {ops:Array Oper} {vals:Nat→Value} {t:Nat} {u:Value}:∀{l:List Nat} {kv:KV},look (kvS ops vals l kv) t=some u→
  (∃j∈l,dstAt ops j=some t∧u=vals j)∨((∀j∈l,dstAt ops j≠some t)∧look kv t=some u)
 | [],_,h=>.inr ⟨by simp,h⟩
 | j::r,kv,h=>by
  rcases look_kvS (l:=r) h with ⟨x,hx,h1,h2⟩ | ⟨h1,h2⟩
  ·
   exact .inl ⟨x,by simp [hx],h1,h2⟩
  rcases look_upd h2 with ⟨h3,h4⟩ | ⟨h3,h4⟩
  ·
   exact .inl ⟨j,by simp,h3,h4⟩
  refine .inr ⟨fun x hx=>?_,h4⟩
  rcases List.mem_cons.1 hx with rfl | hx
  ·
   exact h3
  exact h1 x hx
def CG (w0:World) (M:Nat→Prop) (N:Nat) (ls1:List As) (w:World):Prop:=N≤w.heap.size∧∃Z R,St w0 M Z w R∧∀A∈ls1,A∈R
section
variable (P:Program) (ops:Array Oper) (n:Nat) (w0:World) (M:Nat→Prop) (N:Nat) (ls1:List As) (K:Nat→Kd) (Fin:KV→World→Prop)
def DG:List Nat→KV→List (Nat × As)→(Nat→Prop)→List As→Prop
 | [],kv,sd,Z,ls=>∀w,N≤w.heap.size→St w0 M Z w (sd.map (·.2)++ls)→Fin kv w
 | i::l,kv,sd,Z,ls=>∃o,ops[i]?=some o∧isSelect o.op=false∧dstOk n o.dst=true∧
  ((gd ops kv o=some false∧DG l (upd kv o.dst undef) sd Z ls)∨
   (gd ops kv o=some true∧known kv o.op=true∧
   ((K i=.pure∧∃e,(∀w,CG w0 M N ls1 w→(execOp (lkO kv) o).run P w=.ok (.value e) w)∧DG l (upd kv o.dst e) sd Z ls)∨
    (∃sh it,K i=.side sh it∧(∀w Zx R,N≤w.heap.size→St w0 M Zx w R→outc P ((execOp (lkO kv) o).run P w) fun v w'=>w.heap.size≤w'.heap.size∧sh v∧St w0 M Zx w' (it v::R))∧
    (∀v,sh v→DG l (upd kv o.dst v) ((i,it v)::sd) Z ls))∨
    (K i=.chain∧∀w R,N≤w.heap.size→St w0 M Z w (ls++R)→(∀p∈sd,p.2∈R)→outc P ((execOp (lkO kv) o).run P w) fun v w'=>w.heap.size≤w'.heap.size∧∃Z' ls',St w0 M Z' w' (ls'++R)∧(∀A∈ls1,A∈ls')∧
    DG l (upd kv o.dst v) sd Z' ls'))))
end
structure SigOk (ops:Array Oper) (m:Nat) (K:Nat→Kd) (σ:List Nat):Prop where
 lt:∀i∈σ,i<m
 all:∀i,i<m→i∈σ
 nd:σ.Nodup
 topo:∀a i b,σ=a++i::b→∀o,ops[i]?=some o→∀d∈deps o,d∈a
 clo:∀a i b,σ=a++i::b→K i=.chain→∀(D:Nat→Prop),(∀(j:Nat) o,D j→ops[j]?=some o→∀d∈deps o,D d)→(∀o,ops[i]?=some o→∀d∈deps o,D d)→∀j∈a,D j
theorem sub_perm:∀{l SL:List (Nat × As)},(SL.map (·.1)).Nodup→(l.map (·.1)).Nodup→(∀q∈l,q∈SL)→∃ex,List.Perm SL (l++ex)
 | [],SL,_,_,_=>⟨SL,.refl _⟩
 | q::l,SL,h1,h2,h3=>by
  obtain ⟨s,t,rfl⟩:=List.append_of_mem (h3 q (by simp));have hp:List.Perm (s++q::t) (q::(s++t)):=List.perm_middle;have h4:=(hp.map (·.1)).nodup_iff.1 h1;simp only [List.map_cons,List.nodup_cons] at h2 h4
  obtain ⟨ex,he⟩:=sub_perm h4.2 h2.2 fun x hx=>by
   have:=h3 x (by simp [hx])
   rcases List.mem_append.1 this with h | h
   ·
    exact List.mem_append_left _ h
   rcases List.mem_cons.1 h with rfl | h
   ·
    exact absurd (List.mem_map.2 ⟨x,hx,rfl⟩) h2.1
   exact List.mem_append_right _ h
  exact ⟨ex,hp.trans (.cons q he)⟩
theorem St.dropR {w0 w:World} {M Z:Nat→Prop}:∀{ex l:List As},St w0 M Z w (l++ex)→St w0 M Z w l
 | [],l,h=>by simpa using h
 | A::ex,l,h=>by
  have h1:St w0 M Z w (A::(l++ex)):=h.perm (List.perm_middle.symm);exact St.dropR h1.drop
section
variable {P:Program} {ops:Array Oper} {Q:Exit→Act→World→Prop} {n m N:Nat} {X σ:List Nat} {w0:World} {M:Nat→Prop} {ls1:List As} {K:Nat→Kd} {Fin:KV→World→Prop}
theorem agreeS {a0 a:Act} {kv0:KV} {C:World→Prop} {E:Nat→Option (Value→World→Prop)} (hok:RegB ops m) (h0:Fr n a0 kv0) {L:Nat→Bool} {vals vals':Nat→Value} {w:World} (hI:Inv P ops n m C E a0 L vals a w)
  (hv:∀j,L j=true→vals' j=vals j) {i:Nat} {o:Oper} {τ:List Nat} (hτ:∀j∈τ,j<m) (hi:i<m) (ho:ops[i]?=some o) (hd:∀k∈deps o,L k=true) (hdt:∀k∈deps o,k∈τ):Agree ops o a (kvS ops vals' τ kv0):=by
 intro t v ht hl
 rcases look_kvS hl with ⟨j,hj,hjt,rfl⟩ | ⟨hno,hl0⟩
 ·
  have hjd:=hok.waits i o hi ho t ht j (hτ j hj) hjt;have hLj:=hd j hjd;rw [hv j hLj];exact hI.here j (hτ j hj) hLj t hjt
 rw [hI.old t fun j hj hLj hjt=>?_]
 ·
  exact h0.val t v hl0
 exact hno j (hdt j (hok.waits i o hi ho t ht j hj hjt)) hjt
abbrev IG (P:Program) (ops:Array Oper) (n m N:Nat) (w0:World) (M:Nat→Prop) (ls1:List As) (K:Nat→Kd):=Inv P ops n m (CG w0 M N ls1) (fun j=>(K j).E)
structure FG (P:Program) (ops:Array Oper) (n m N:Nat) (w0:World) (M:Nat→Prop) (ls1:List As) (K:Nat→Kd) (Fin:KV→World→Prop) (kv0:KV) (L:Nat→Bool) (vals:Nat→Value) (w:World) (τ ρ:List Nat) (sd SL:List (Nat × As)) (Z:Nat→Prop) (ls:List As):Prop where
 tau:∀j∈τ,L j=true
 rho:∀j∈ρ,K j=.chain→L j=false
 node:DG P ops n w0 M N ls1 K Fin ρ (kvS ops vals τ kv0) sd Z ls
 st:St w0 M Z w (SL.map (·.2)++ls)
 sub:∀A∈ls1,A∈ls
 nd:(SL.map (·.1)).Nodup
 key:∀q∈SL,L q.1=true
 sds:∀q∈sd,q∈SL
 sdn:(sd.map (·.1)).Nodup
 sdt:∀q∈sd,q.1∈τ
 own:∀j sh it,j<m→L j=true→K j=.side sh it→sh (vals j)→(j,it (vals j))∈SL
theorem pathG {a0 a:Act} {kv0:KV} (hok:RegB ops m) (h0:Fr n a0 kv0) {L:Nat→Bool} {vals:Nat→Value} {w:World} (hI:IG P ops n m N w0 M ls1 K a0 L vals a w)
  {SL:List As} (hown:∀j sh it,j<m→L j=true→K j=.side sh it→sh (vals j)→it (vals j)∈SL) :
  ∀(ρ1:List Nat) (τ:List Nat) (ρ:List Nat) (vals':Nat→Value) (sd:List (Nat × As)) (Z:Nat→Prop) (ls R:List As) (wh:World),(∀j,L j=true→vals' j=vals j)→(∀j∈τ++ρ1,j<m)→(τ++ρ1).Nodup→
   (∀x i y,ρ1=x++i::y→∀o,ops[i]?=some o→∀d∈deps o,d∈τ++x)→(∀j∈ρ1,K j=.chain→L j=false)→
   DG P ops n w0 M N ls1 K Fin (ρ1++ρ) (kvS ops vals' τ kv0) sd Z ls→N≤wh.heap.size→St w0 M Z wh (ls++R)→(∀A∈SL,A∈R)→(∀p∈sd,p.2∈R)→
   ∃vals' sd Z ls,(∀j,L j=true→vals' j=vals j)∧DG P ops n w0 M N ls1 K Fin ρ (kvS ops vals' (τ++ρ1) kv0) sd Z ls:=by
 intro ρ1
 induction ρ1 with
 | nil=>intro τ ρ vals' sd Z ls R wh hv _ _ _ _ hD _ _ _ _;exact ⟨vals',sd,Z,ls,hv,by simpa using hD⟩
 | cons i ρ1 ih=>
  intro τ ρ vals' sd Z ls R wh hv hlt hnd htopo hch hD hN hst hSL hsd;obtain ⟨o,ho,hsel,hdok,hcase⟩:=hD;have him:i<m:=hlt i (by simp)
  have hdst:dstAt ops i=o.dst:=by simp [dstAt,ho]
  have hdt:∀d∈deps o,d∈τ:=fun d hd=>by simpa using htopo [] i ρ1 rfl o ho d hd
  have hni:i∉τ:=fun h=>by
   have:=(List.nodup_append.1 hnd).2.2 i h i (by simp)
   exact this rfl
  have hlt':∀j∈(τ++[i])++ρ1,j<m:=fun j hj=>hlt j (by simpa using hj)
  have hnd':((τ++[i])++ρ1).Nodup:=by simpa using hnd
  have htopo':∀x k y,ρ1=x++k::y→∀o,ops[k]?=some o→∀d∈deps o,d∈(τ++[i])++x:=fun x k y e o ho d hd=>by
   have:=htopo (i::x) k y (by rw [e];rfl) o ho d hd
   simpa using this
  have next:∀u,kvS ops (fun j=>if j=i then u else vals' j) (τ++[i]) kv0=upd (kvS ops vals' τ kv0) o.dst u:=fun u=>by
   rw [kvS_app,kvS_congr (vals':=vals') (l:=τ) fun j hj=>by rw [if_neg fun e=>hni (by rw [← e];exact hj)]];simp only [kvS,hdst,if_true]
  have hv':∀u,(L i=true→u=vals i)→∀j,L j=true→(if j=i then u else vals' j)=vals j:=fun u hu j hj=>by
   by_cases e:j=i
   ·
    subst e;rw [if_pos rfl];exact hu hj
   rw [if_neg e];exact hv j hj
  have fin:∀u sd' Z' ls' R' wh',(L i=true→u=vals i)→DG P ops n w0 M N ls1 K Fin (ρ1++ρ) (upd (kvS ops vals' τ kv0) o.dst u) sd' Z' ls'→N≤wh'.heap.size→St w0 M Z' wh' (ls'++R')→(∀A∈SL,A∈R')→(∀p∈sd',p.2∈R')→
    ∃vals' sd Z ls,(∀j,L j=true→vals' j=vals j)∧DG P ops n w0 M N ls1 K Fin ρ (kvS ops vals' (τ++i::ρ1) kv0) sd Z ls:=fun u sd' Z' ls' R' wh' hu hD hN hst hSL hsd=>by
   have:=ih (τ++[i]) ρ (fun j=>if j=i then u else vals' j) sd' Z' ls' R' wh' (hv' u hu) hlt' hnd' htopo' (fun j hj=>hch j (by simp [hj])) (by rw [next];exact hD) hN hst hSL hsd
   simpa using this
  have hag:L i=true→Agree ops o a (kvS ops vals' τ kv0):=fun hLi=>agreeS hok h0 hI hv (fun j hj=>hlt j (by simp [hj])) him ho (hI.closed i o him hLi ho) hdt
  rcases hcase with ⟨hg,hrest⟩ | ⟨hg,hk,hcase⟩
  ·
   exact fin undef sd Z ls R wh (fun hLi=>(hI.no i o him hLi ho ((hag hLi).wanted hg)).symm) hrest hN hst hSL hsd
  rcases hcase with ⟨hK,e,hrun,hrest⟩ | ⟨sh,it,hK,hout,hrest⟩ | ⟨hK,hout⟩
  ·
   refine fin e sd Z ls R wh (fun hLi=>?_) hrest hN hst hSL hsd;obtain ⟨wj,hCj,hrj⟩:=hI.det i o him hLi ho ((hag hLi).wanted hg) (by show (K i).E=none;rw [hK];rfl);rw [(hag hLi).exec hsel hk,hrun wj hCj] at hrj
   simpa using hrj
  ·
   by_cases hLi:L i=true
   ·
    have hs:sh (vals i):=hI.eff i o (fun v _=>sh v) him hLi ho ((hag hLi).wanted hg) (by show (K i).E=_;rw [hK];rfl)
    exact fin (vals i) _ Z ls R wh (fun _=>rfl) (hrest _ hs) hN hst hSL (fun p hp=>by
     rcases List.mem_cons.1 hp with rfl | hp
     ·
      exact hSL _ (hown i sh it him hLi hK hs)
     exact hsd p hp)
   obtain ⟨v,wh',hs1,hs,hs2⟩:=(hout wh Z _ hN hst).exists
   exact fin v _ Z ls (it v::R) wh' (fun h=>absurd h hLi) (hrest v hs) (Nat.le_trans hN hs1) (hs2.perm List.perm_middle) (fun A hA=>by simp [hSL A hA]) (fun p hp=>by
    rcases List.mem_cons.1 hp with rfl | hp
    ·
     simp
    simp [hsd p hp])
  obtain ⟨v,wh',hs1,Z',ls',hs2,_,hs4⟩:=(hout wh R hN hst hsd).exists;exact fin v sd Z' ls' R wh' (fun h=>by rw [hch i (by simp) hK] at h;cases h) hs4 (Nat.le_trans hN hs1) hs2 hSL hsd
theorem pathL {a0 a:Act} {kv0:KV} (hok:RegB ops m) (h0:Fr n a0 kv0) {L:Nat→Bool} {vals:Nat→Value} {w:World} (hI:IG P ops n m N w0 M ls1 K a0 L vals a w)
  {SL:List (Nat × As)} (hown:∀j sh it,j<m→L j=true→K j=.side sh it→sh (vals j)→(j,it (vals j))∈SL) {Z:Nat→Prop} {ls:List As} :
  ∀(ρ1:List Nat) (τ:List Nat) (ρ:List Nat) (sd:List (Nat × As)),(∀j∈τ++ρ1,j<m)→(τ++ρ1).Nodup→
   (∀x i y,ρ1=x++i::y→∀o,ops[i]?=some o→∀d∈deps o,d∈τ++x)→(∀j∈ρ1,L j=true)→(∀j∈ρ1,K j=.chain→L j=false)→
   DG P ops n w0 M N ls1 K Fin (ρ1++ρ) (kvS ops vals τ kv0) sd Z ls→(∀q∈sd,q∈SL)→(sd.map (·.1)).Nodup→(∀q∈sd,q.1∈τ)→
   ∃sd',DG P ops n w0 M N ls1 K Fin ρ (kvS ops vals (τ++ρ1) kv0) sd' Z ls∧(∀q∈sd',q∈SL)∧(sd'.map (·.1)).Nodup∧(∀q∈sd',q.1∈τ++ρ1):=by
 intro ρ1
 induction ρ1 with
 | nil=>intro τ ρ sd _ _ _ _ _ hD h1 h2 h3;exact ⟨sd,by simpa using hD,h1,h2,by simpa using h3⟩
 | cons i ρ1 ih=>
  intro τ ρ sd hlt hnd htopo hall hch hD h1 h2 h3;obtain ⟨o,ho,hsel,hdok,hcase⟩:=hD;have him:i<m:=hlt i (by simp)
  have hdst:dstAt ops i=o.dst:=by simp [dstAt,ho]
  have hdt:∀d∈deps o,d∈τ:=fun d hd=>by simpa using htopo [] i ρ1 rfl o ho d hd
  have hni:i∉τ:=fun h=>by
   have:=(List.nodup_append.1 hnd).2.2 i h i (by simp)
   exact this rfl
  have hLi:=hall i (by simp)
  have next:kvS ops vals (τ++[i]) kv0=upd (kvS ops vals τ kv0) o.dst (vals i):=by rw [kvS_app];simp only [kvS,hdst]
  have fin:∀sd',DG P ops n w0 M N ls1 K Fin (ρ1++ρ) (upd (kvS ops vals τ kv0) o.dst (vals i)) sd' Z ls→(∀q∈sd',q∈SL)→(sd'.map (·.1)).Nodup→(∀q∈sd',q.1∈τ++[i])→
    ∃sd',DG P ops n w0 M N ls1 K Fin ρ (kvS ops vals (τ++i::ρ1) kv0) sd' Z ls∧(∀q∈sd',q∈SL)∧(sd'.map (·.1)).Nodup∧(∀q∈sd',q.1∈τ++i::ρ1):=fun sd' hD g1 g2 g3=>by
   have:=ih (τ++[i]) ρ sd' (fun j hj=>hlt j (by simpa using hj)) (by simpa using hnd) (fun x k y e o ho d hd=>by
    have:=htopo (i::x) k y (by rw [e];rfl) o ho d hd
    simpa using this) (fun j hj=>hall j (by simp [hj])) (fun j hj=>hch j (by simp [hj])) (by rw [next];exact hD) g1 g2 g3
   simpa using this
  have hag:Agree ops o a (kvS ops vals τ kv0):=agreeS hok h0 hI (fun _ _=>rfl) (fun j hj=>hlt j (by simp [hj])) him ho (hI.closed i o him hLi ho) hdt
  rcases hcase with ⟨hg,hrest⟩ | ⟨hg,hk,hcase⟩
  ·
   have:=hI.no i o him hLi ho (hag.wanted hg)
   exact fin sd (by rw [this];exact hrest) h1 h2 (fun q hq=>by simp [h3 q hq])
  rcases hcase with ⟨hK,e,hrun,hrest⟩ | ⟨sh,it,hK,hout,hrest⟩ | ⟨hK,hout⟩
  ·
   obtain ⟨wj,hCj,hrj⟩:=hI.det i o him hLi ho (hag.wanted hg) (by show (K i).E=none;rw [hK];rfl);rw [hag.exec hsel hk,hrun wj hCj] at hrj
   have he:e=vals i:=by simpa using hrj
   exact fin sd (by rw [← he];exact hrest) h1 h2 (fun q hq=>by simp [h3 q hq])
  ·
   have hs:sh (vals i):=hI.eff i o (fun v _=>sh v) him hLi ho (hag.wanted hg) (by show (K i).E=_;rw [hK];rfl);refine fin _ (hrest _ hs) (fun q hq=>?_) ?_ (fun q hq=>?_)
   ·
    rcases List.mem_cons.1 hq with rfl | hq
    ·
     exact hown i sh it him hLi hK hs
    exact h1 q hq
   ·
    simp only [List.map_cons,List.nodup_cons];exact ⟨fun h=>by obtain ⟨q,hq,e⟩:=List.mem_map.1 h;exact hni (by rw [← e];exact h3 q hq),h2⟩
   rcases List.mem_cons.1 hq with rfl | hq
   ·
    simp
   simp [h3 q hq]
  rw [hch i (by simp) hK] at hLi;cases hLi
theorem FG.pass {kv0:KV} {L:Nat→Bool} {vals:Nat→Value} {w:World} {τ ρ:List Nat} {sd SL:List (Nat × As)} {Z:Nat→Prop} {ls:List As} (h:FG P ops n m N w0 M ls1 K Fin kv0 L vals w τ ρ sd SL Z ls) {i:Nat} {v:Value} (hL:L i=false) (hK:K i≠.chain) (hv:∀sh it,K i=.side sh it→¬sh v) :
  FG P ops n m N w0 M ls1 K Fin kv0 (fun j=>if j=i then true else L j) (fun j=>if j=i then v else vals j) w τ ρ sd SL Z ls:=by
 have hit:i∉τ:=fun h1=>by have:=h.tau i h1;rw [hL] at this;cases this
 refine ⟨fun j hj=>?_,fun j hj hc=>?_,?_,h.st,h.sub,h.nd,fun q hq=>?_,h.sds,h.sdn,h.sdt,fun j sh it hj hLj hKj hs=>?_⟩
 ·
  by_cases e:j=i <;> simp [e];exact h.tau j hj
 ·
  rw [if_neg fun e=>hK (by rw [← e];exact hc)];exact h.rho j hj hc
 ·
  rw [kvS_congr (vals':=vals) fun j hj=>by rw [if_neg fun e=>hit (by rw [← e];exact hj)]];exact h.node
 ·
  by_cases e:q.1=i <;> simp [e];exact h.key q hq
 by_cases e:j=i
 ·
  subst e;simp only [if_true] at hs;exact absurd hs (hv sh it hKj)
 simp only [if_neg e] at hLj hs ⊢;exact h.own j sh it hj hLj hKj hs
theorem FG.side {kv0:KV} {L:Nat→Bool} {vals:Nat→Value} {w w':World} {τ ρ:List Nat} {sd SL:List (Nat × As)} {Z:Nat→Prop} {ls:List As} (h:FG P ops n m N w0 M ls1 K Fin kv0 L vals w τ ρ sd SL Z ls) {i:Nat} {v:Value} {sh:Value→Prop} {it:Value→As} (hL:L i=false) (hK:K i=.side sh it)
  (hst:St w0 M Z w' (it v::(SL.map (·.2)++ls))) :
  FG P ops n m N w0 M ls1 K Fin kv0 (fun j=>if j=i then true else L j) (fun j=>if j=i then v else vals j) w' τ ρ sd ((i,it v)::SL) Z ls:=by
 have hit:i∉τ:=fun h1=>by have:=h.tau i h1;rw [hL] at this;cases this
 refine ⟨fun j hj=>?_,fun j hj hc=>?_,?_,hst,h.sub,?_,fun q hq=>?_,fun q hq=>by simp [h.sds q hq],h.sdn,h.sdt,fun j sh' it' hj hLj hKj hs=>?_⟩
 ·
  by_cases e:j=i <;> simp [e];exact h.tau j hj
 ·
  rw [if_neg fun e=>by rw [← e,hc] at hK;cases hK];exact h.rho j hj hc
 ·
  rw [kvS_congr (vals':=vals) fun j hj=>by rw [if_neg fun e=>hit (by rw [← e];exact hj)]];exact h.node
 ·
  simp only [List.map_cons,List.nodup_cons];exact ⟨fun hm=>by (obtain ⟨q,hq,e⟩:=List.mem_map.1 hm;have:=h.key q hq;rw [e,hL] at this;exact Bool.noConfusion this),h.nd⟩
 ·
  rcases List.mem_cons.1 hq with rfl | hq
  ·
   simp
  by_cases e:q.1=i <;> simp [e];exact h.key q hq
 by_cases e:j=i
 ·
  subst e;rw [hK] at hKj;simp only [Kd.side.injEq] at hKj;obtain ⟨rfl,rfl⟩:=hKj
  simp
 simp only [if_neg e] at hLj hs ⊢;exact List.mem_cons_of_mem _ (h.own j sh' it' hj hLj hKj hs)
theorem phaseG {a0:Act} {kv0:KV} (hXp:∀x∈X,K x=.pure) (hok:RegX ops m X) (hsig:SigOk ops m K σ) (hsh:∀j sh it,K j=.side sh it→¬sh undef) (h0:Fr n a0 kv0) :
  ∀(fuel:Nat) (listed:Array Bool) (vals:Nat→Value) (a:Act) (w:World) (τ ρ:List Nat) (sd SL:List (Nat × As)) (Z:Nat→Prop) (ls:List As),σ=τ++ρ→listed.size=ops.size→left (fun j=>listed.getD j false) ops.size≤fuel→(∀j,m≤j→listed.getD j false=false)→
  IG P ops n m N w0 M ls1 K a0 (fun j=>listed.getD j false) vals a w→FG P ops n m N w0 M ls1 K (fun kv w=>WL P ops (NP Q) (ops.toList.drop m) n kv w) kv0 (fun j=>listed.getD j false) vals w τ ρ sd SL Z ls→wpAny P .any ops (NP Q) fuel listed a w:=by
 have hltp:∀{τ ρ:List Nat},σ=τ++ρ→∀j∈τ++ρ,j<m:=fun e j hj=>hsig.lt j (by rw [e];exact hj)
 -- when all of the first part has come up
 have fin:∀(listed:Array Bool) (vals:Nat→Value) (a:Act) (w:World) (τ ρ:List Nat) (sd SL:List (Nat × As)) (Z:Nat→Prop) (ls:List As),σ=τ++ρ→(∀j,j<m→listed.getD j false=true)→IG P ops n m N w0 M ls1 K a0 (fun j=>listed.getD j false) vals a w→
   FG P ops n m N w0 M ls1 K (fun kv w=>WL P ops (NP Q) (ops.toList.drop m) n kv w) kv0 (fun j=>listed.getD j false) vals w τ ρ sd SL Z ls→wpList P ops (NP Q) (ops.toList.drop m) a w:=by
  intro listed vals a w τ ρ sd SL Z ls hs hall hI hF;obtain ⟨sd',hD,h1,h2,_⟩:=pathL (ρ:=[]) hok.toRegB h0 hI (fun j sh it hj hLj hKj hs=>hF.own j sh it hj hLj hKj hs) ρ τ sd (hltp hs) (by rw [← hs];exact hsig.nd) (fun x i y e=>hsig.topo (τ++x) i y (by rw [hs,e,List.append_assoc])) (fun j hj=>hall j (hltp hs j (List.mem_append_right _ hj))) hF.rho (by simpa using hF.node) hF.sds hF.sdn hF.sdt;obtain ⟨ex,hp⟩:=sub_perm hF.nd h2 h1
  have hp2:List.Perm ((sd'.map (·.2)++ls)++ex.map (·.2)) (SL.map (·.2)++ls):=by
   have h3:List.Perm (SL.map (·.2)) (sd'.map (·.2)++ex.map (·.2)):=by simpa using hp.map (·.2)
   refine List.Perm.trans ?_ (h3.symm.append_right ls);rw [List.append_assoc,List.append_assoc];exact List.Perm.append_left _ List.perm_append_comm
  refine hD w hI.c.1 ((hF.st.perm hp2).dropR) a ⟨hI.size,hI.nod,fun t v hl=>?_⟩;rw [← hs] at hl
  rcases look_kvS hl with ⟨j,hj,hjt,rfl⟩ | ⟨hno,hl0⟩
  ·
   exact hI.here j (hsig.lt j hj) (hall j (hsig.lt j hj)) t hjt
  rw [hI.old t fun j hj _=>hno j (hsig.all j hj)];exact h0.val t v hl0
 intro fuel
 induction fuel with
 | zero=>
  intro listed vals a w τ ρ sd SL Z ls hs hsz hleft htail hI hF;have hall:=left_zero (Nat.le_zero.1 hleft)
  have hm:m=ops.size:=by
   rcases Nat.lt_or_ge m ops.size with h | h
   ·
    have h1:=hall m h;have h2:=htail m (Nat.le_refl _);rw [h2] at h1;cases h1
   have:=hok.le;omega
  have h:=fin listed vals a w τ ρ sd SL Z ls hs (fun j hj=>hall j (by omega)) hI hF;rw [List.drop_eq_nil_of_le (by simp;omega)] at h;refine ⟨List.eq_nil_iff_forall_not_mem.2 fun i hi=>?_,h⟩;obtain ⟨h0,o,ho,_⟩:=mem_ready.1 hi;have hlt:i<ops.size:=(Array.getElem?_eq_some_iff.1 ho).1;have h1:=hall i hlt;simp only [Array.getD_eq_getD_getElem?] at h0 h1
  cases hx:listed[i]? with
  | none=>rw [hx] at h0;simp at h0
  | some b=>rw [hx] at h0 h1;simp at h0 h1;rw [h0] at h1;cases h1
 | succ fuel ih=>
  intro listed vals a w τ ρ sd SL Z ls hs hsz hleft htail hI hF
  have hlistB:∀j,j<ops.size→∀b,listed.getD j b=listed.getD j false:=fun j hj b=>by
   simp [Array.getD,show j<listed.size by omega]
  have least:Region.ready .any ops listed=[]→∀j,j<ops.size→listed.getD j false=true:=by
   intro hnil j
   induction j using Nat.strongRecOn with
   | _ j ihj=>
    intro hj
    cases hb:listed.getD j false with
    | true=>rfl
    | false=>
     exfalso
     have:j∈Region.ready .any ops listed:=by
      refine mem_ready.2 ⟨by rw [hlistB j hj true,hb],ops[j],by simp [hj],fun e he hbd=>?_⟩;have hek:e.on<j:=hok.back j ops[j] (by simp [hj]) e.on (List.mem_map.2 ⟨e,List.mem_filter.2 ⟨by simpa using he,hbd⟩,rfl⟩);exact ihj e.on hek (by omega)
     rw [hnil] at this
     cases this
  -- what is known of an operation of the first part that may come up
  have at_:∀i,i∈Region.ready .any ops listed→i<m→∃o ρ1 ρ2,ops[i]?=some o∧ρ=ρ1++i::ρ2∧listed.getD i false=false∧i<ops.size∧(∀k∈deps o,listed.getD k false=true)∧(∀k∈deps o,k∈τ++ρ1):=by
   intro i hi him;obtain ⟨hli,o,ho,hdo⟩:=mem_ready.1 hi;have hlt:i<ops.size:=(Array.getElem?_eq_some_iff.1 ho).1
   have hLi:listed.getD i false=false:=by rw [← hlistB i hlt true];exact hli
   have hmem:i∈τ++ρ:=by rw [← hs];exact hsig.all i him
   have hir:i∈ρ:=by
    rcases List.mem_append.1 hmem with h | h
    ·
     have:=hF.tau i h;simp only [hLi] at this;cases this
    exact h
   obtain ⟨ρ1,ρ2,hr⟩:=List.append_of_mem hir;refine ⟨o,ρ1,ρ2,ho,hr,hLi,hlt,fun k hk=>?_,hsig.topo (τ++ρ1) i ρ2 (by rw [hs,hr,List.append_assoc]) o ho⟩
   unfold deps at hk
   obtain ⟨e,he,rfl⟩:=List.mem_map.1 hk;obtain ⟨he1,he2⟩:=List.mem_filter.1 he;exact hdo e (by simpa using he1) he2
  have hL':∀i,i<ops.size→∀j,(listed.setIfInBounds i true).getD j false=if j=i then true else listed.getD j false:=fun i hlt j=>by
   by_cases e:j=i
   ·
    subst e;simp [hsz,hlt]
   rw [if_neg e]
   simp [Array.getElem?_setIfInBounds_ne (fun h=>e h.symm)]
  have next:∀i o v w' τ' ρ' sd' SL' Z' ls',i<m→i<ops.size→listed.getD i false=false→σ=τ'++ρ'→IG P ops n m N w0 M ls1 K a0 (fun j=>if j=i then true else listed.getD j false) (fun j=>if j=i then v else vals j) (a.put o v) w'→
    FG P ops n m N w0 M ls1 K (fun kv w=>WL P ops (NP Q) (ops.toList.drop m) n kv w) kv0 (fun j=>if j=i then true else listed.getD j false) (fun j=>if j=i then v else vals j) w' τ' ρ' sd' SL' Z' ls'→wpAny P .any ops (NP Q) fuel (listed.setIfInBounds i true) (a.put o v) w':=by
   intro i o v w' τ' ρ' sd' SL' Z' ls' him hlt hLi hs' hI' hF';have e:(fun j=>(listed.setIfInBounds i true).getD j false)=(fun j=>if j=i then true else listed.getD j false):=funext (hL' i hlt);refine ih _ _ _ _ τ' ρ' sd' SL' Z' ls' hs' (by simpa using hsz) ?_ (fun j hj=>by rw [hL' i hlt,if_neg (by omega)];exact htail j hj) (by rw [e];exact hI') (by rw [e];exact hF')
   have:=(left_set (L:=fun j=>listed.getD j false) (L':=fun j=>(listed.setIfInBounds i true).getD j false) hLi (hL' i hlt) (k:=ops.size)).2 hlt
   omega
  -- a node for it
  have nodeAt:∀i o ρ1 ρ2,i<m→ops[i]?=some o→ρ=ρ1++i::ρ2→(∀k∈deps o,listed.getD k false=true)→(∀k∈deps o,k∈τ++ρ1)→∃kv sd' Z' ls',Agree ops o a kv∧DG P ops n w0 M N ls1 K (fun kv w=>WL P ops (NP Q) (ops.toList.drop m) n kv w) (i::ρ2) kv sd' Z' ls':=by
   intro i o ρ1 ρ2 him ho hr hd hdt;have hlt1:∀j∈τ++ρ1,j<m:=fun j hj=>hltp hs j (by rw [hr];rcases List.mem_append.1 hj with h | h <;> simp [h])
   have hnd1:(τ++ρ1).Nodup:=by
    have:=hsig.nd
    rw [hs,hr,← List.append_assoc] at this;exact (List.nodup_append.1 this).1
   obtain ⟨vals',sd',Z',ls',hv,hD⟩:=pathG hok.toRegB h0 hI (SL:=SL.map (·.2)) (fun j sh it hj hLj hKj hs=>List.mem_map.2 ⟨_,hF.own j sh it hj hLj hKj hs,rfl⟩) ρ1 τ (i::ρ2) vals sd Z ls (SL.map (·.2)) w (fun _ _=>rfl) hlt1 hnd1
    (fun x j y e=>hsig.topo (τ++x) j (y++i::ρ2) (by rw [hs,hr,e];simp)) (fun j hj=>hF.rho j (by rw [hr];simp [hj])) (by rw [← hr];exact hF.node) hI.c.1 (hF.st.perm List.perm_append_comm) (fun A h=>h) (fun p hp=>List.mem_map.2 ⟨p,hF.sds p hp,rfl⟩)
   exact ⟨_,sd',Z',ls',agreeS hok.toRegB h0 hI hv hlt1 him ho hd hdt,hD⟩
  by_cases hx:∃i,i∈X∧i∈Region.ready .any ops listed
  ·
   obtain ⟨i,hiX,hi⟩:=hx;have him:=hok.xlt i hiX;obtain ⟨o,ρ1,ρ2,ho,hr,hLi,hlt,hd,hdt⟩:=at_ i hi him;obtain ⟨kv,sd',Z',ls',hag,o',ho',hsel,hdok,hcase⟩:=nodeAt i o ρ1 ρ2 him ho hr hd hdt
   have eo:o'=o:=by rw [ho] at ho';exact (Option.some.inj ho').symm
   subst eo;have hKp:=hXp i hiX
   have first:∀v,Yields P ops o' v a→IG P ops n m N w0 M ls1 K a0 (fun j=>if j=i then true else listed.getD j false) (fun j=>if j=i then v else vals j) (a.put o'.dst v) w→wpAny P .any ops (NP Q) (fuel+1) listed a w:=fun v hy hI'=>
    wpAny_first ho (fun j p cs b hp e=>by have:=hok.nosels j p hp;rw [e] at this;simp [isSelect] at this) (fun c _ _ h=>absurd rfl (h.1 c)) fuel listed a w
     (fun j p hp hne hun hno=>by
      rcases hok.xap i hiX o' ho j p hp hne with h | h | h
      ·
       obtain ⟨e,he,hei⟩:=List.mem_map.1 h;obtain ⟨he1,he2⟩:=List.mem_filter.1 he;exact absurd hei (hno e (by simpa using he1) he2)
      ·
       have h1:=hd j h;have h2:j<ops.size:=(Array.getElem?_eq_some_iff.1 hp).1;rw [hlistB j h2 true,h1] at hun;cases hun
      exact h) hi hy (next i o'.dst v w τ ρ sd SL Z ls him hlt hLi hs hI' (hF.pass hLi (by rw [hKp];simp) (fun sh it h=>by rw [hKp] at h;cases h)))
   rcases hcase with ⟨hg,_⟩ | ⟨hg,hk,hcase⟩
   ·
    have hw:=hag.wanted hg
    exact first undef (.inr ⟨hw,rfl⟩) (hI.put hok.toRegB him ho hLi hd hdok hI.c (fun _ _ _ _ _ _ h=>h) (fun _=>rfl) (fun h=>by rw [hw] at h;cases h) (fun S h=>by rw [hw] at h;cases h))
   have hw:=hag.wanted hg
   rcases hcase with ⟨_,e,hrun,_⟩ | ⟨sh,it,hK,_⟩ | ⟨hK,_⟩
   ·
    have hr:=hrun w hI.c;rw [← hag.exec hsel hk] at hr
    exact first e (.inl ⟨hw,fun w'=>mv_any (hok.xmv i hiX o' ho) hr w'⟩) (hI.put hok.toRegB him ho hLi hd hdok hI.c (fun _ _ _ _ _ _ h=>h) (fun h=>by rw [hw] at h;cases h) (fun _ _=>⟨w,hI.c,hr⟩) (fun S _ h=>by simp only [hKp,Kd.E] at h;cases h))
   ·
    rw [hKp] at hK;cases hK
   rw [hKp] at hK;cases hK
  refine ⟨fun hnil=>?_,fun i hi=>?_⟩
  ·
   have hall:=least hnil
   have hm:m=ops.size:=by
    rcases Nat.lt_or_ge m ops.size with h | h
    ·
     have h1:=hall m h;have h2:=htail m (Nat.le_refl _);rw [h2] at h1;cases h1
    have:=hok.le;omega
   have h:=fin listed vals a w τ ρ sd SL Z ls hs (fun j hj=>hall j (by omega)) hI hF;rw [List.drop_eq_nil_of_le (by simp;omega)] at h;exact h
  rcases Nat.lt_or_ge i m with him | him
  ·
   obtain ⟨o,ρ1,ρ2,ho,hr,hLi,hlt,hd,hdt⟩:=at_ i hi him
   have hclosed:∀(j:Nat) o,listed.getD j false=true→ops[j]?=some o→∀d∈deps o,listed.getD d false=true:=fun j p hj hp d hdm=>by
    have hjm:j<m:=by
     rcases Nat.lt_or_ge j m with h | h
     ·
      exact h
     have:=htail j h;rw [this] at hj;cases hj
    exact hI.closed j p hjm hj hp d hdm
   unfold wpOp
   rw [ho]
   simp only
   by_cases hKc:K i=.chain
   ·
    -- one of those in order
    have hallt:∀j∈τ++ρ1,listed.getD j false=true:=hsig.clo (τ++ρ1) i ρ2 (by rw [hs,hr,List.append_assoc]) hKc (fun j=>listed.getD j false=true) hclosed (fun p hp=>by rw [ho] at hp;simp at hp;subst hp;exact hd);have hlt1:∀j∈τ++ρ1,j<m:=fun j hj=>hltp hs j (by rw [hr];rcases List.mem_append.1 hj with h | h <;> simp [h])
    have hnd2:((τ++ρ1)++i::ρ2).Nodup:=by have:=hsig.nd;rw [hs,hr,← List.append_assoc] at this;exact this
    have hni:i∉τ++ρ1:=fun h=>(List.nodup_append.1 hnd2).2.2 i h i (by simp) rfl
    have hni2:i∉ρ2:=by have:=(List.nodup_append.1 hnd2).2.1;simp only [List.nodup_cons] at this;exact this.1
    obtain ⟨sd',hD,h1,h2,h3⟩:=pathL (ρ:=i::ρ2) hok.toRegB h0 hI (fun j sh it hj hLj hKj hs=>hF.own j sh it hj hLj hKj hs) ρ1 τ sd hlt1 (List.nodup_append.1 hnd2).1 (fun x j y e=>hsig.topo (τ++x) j (y++i::ρ2) (by rw [hs,hr,e];simp)) (fun j hj=>hallt j (by simp [hj])) (fun j hj=>hF.rho j (by rw [hr];simp [hj])) (by rw [← hr];exact hF.node) hF.sds hF.sdn hF.sdt;have hag:Agree ops o a (kvS ops vals (τ++ρ1) kv0):=agreeS hok.toRegB h0 hI (fun _ _=>rfl) hlt1 him ho hd hdt;obtain ⟨o',ho',hsel,hdok,hcase⟩:=hD
    have eo:o'=o:=by rw [ho] at ho';exact (Option.some.inj ho').symm
    subst eo
    have hdst:dstAt ops i=o'.dst:=by simp [dstAt,ho]
    have adv:∀v w' Z' ls',St w0 M Z' w' (ls'++SL.map (·.2))→(∀A∈ls1,A∈ls')→DG P ops n w0 M N ls1 K (fun kv w=>WL P ops (NP Q) (ops.toList.drop m) n kv w) ρ2 (upd (kvS ops vals (τ++ρ1) kv0) o'.dst v) sd' Z' ls'→
      FG P ops n m N w0 M ls1 K (fun kv w=>WL P ops (NP Q) (ops.toList.drop m) n kv w) kv0 (fun j=>if j=i then true else listed.getD j false) (fun j=>if j=i then v else vals j) w' ((τ++ρ1)++[i]) ρ2 sd' SL Z' ls':=fun v w' Z' ls' hst hsub hD=>by
     refine ⟨fun j hj=>?_,fun j hj hc=>?_,?_,hst.perm List.perm_append_comm,hsub,hF.nd,fun q hq=>?_,h1,h2,fun q hq=>by simp only [List.mem_append];exact .inl (List.mem_append.1 (h3 q hq)),fun j sh it hj hLj hKj hs=>?_⟩
     ·
      rcases List.mem_append.1 hj with hj | hj
      ·
       show (if j=i then true else listed.getD j false)=true
       split
       ·
        rfl
       exact hallt j hj
      simp at hj;simp [hj]
     ·
      rw [if_neg fun e=>hni2 (by rw [← e];exact hj)];exact hF.rho j (by rw [hr];simp [hj]) hc
     ·
      rw [kvS_app,kvS_congr (vals':=vals) (l:=τ++ρ1) fun j hj=>by rw [if_neg fun e=>hni (by rw [← e];exact hj)]];simp only [kvS,hdst,if_true];exact hD
     ·
      show (if q.1=i then true else listed.getD q.1 false)=true
      split
      ·
       rfl
      exact hF.key q hq
     by_cases e:j=i
     ·
      subst e;rw [hKc] at hKj;cases hKj
     simp only [if_neg e] at hLj hs ⊢;exact hF.own j sh it hj hLj hKj hs
    have hσ':σ=((τ++ρ1)++[i])++ρ2:=by rw [hs,hr];simp
    rcases hcase with ⟨hg,hrest⟩ | ⟨hg,hk,hcase⟩
    ·
     have hw:=hag.wanted hg;rw [if_neg (by rw [hw];simp)];exact next i o'.dst undef w _ ρ2 sd' SL Z ls him hlt hLi hσ' (hI.put hok.toRegB him ho hLi hd hdok hI.c (fun _ _ _ _ _ _ h=>h) (fun _=>rfl) (fun h=>by rw [hw] at h;cases h) (fun S h=>by rw [hw] at h;cases h)) (adv undef w Z ls (hF.st.perm List.perm_append_comm) hF.sub hrest)
    rcases hcase with ⟨hK,_⟩ | ⟨sh,it,hK,_⟩ | ⟨_,hout⟩
    ·
     rw [hKc] at hK;cases hK
    ·
     rw [hKc] at hK;cases hK
    have hw:=hag.wanted hg;rw [if_pos hw];refine .inl ?_
    unfold Oper.wp
    rw [hag.exec hsel hk];refine outc_upon (hout w (SL.map (·.2)) hI.c.1 (hF.st.perm List.perm_append_comm) (fun p hp=>List.mem_map.2 ⟨p,h1 p hp,rfl⟩)) fun v w' ⟨hsz',Z',ls',hst,hsub,hD⟩=>?_;have hC':CG w0 M N ls1 w':=⟨Nat.le_trans hI.c.1 hsz',Z',_,hst,fun A hA=>List.mem_append_left _ (hsub A hA)⟩
    exact next i o'.dst v w' _ ρ2 sd' SL Z' ls' him hlt hLi hσ' (hI.put hok.toRegB him ho hLi hd hdok hC' (fun j S u hjm hLj hE' h=>by
     have hE':(K j).E=some S:=hE'
     cases hKj:K j with
     | pure=>simp only [hKj,Kd.E] at hE';cases hE'
     | side sh it=>simp only [hKj,Kd.E,Option.some.injEq] at hE';subst hE';exact h
     | chain=>simp only [hKj,Kd.E,Option.some.injEq] at hE';subst hE';trivial) (fun h=>by rw [hw] at h;cases h) (fun _ h=>by simp only [hKc,Kd.E] at h;cases h) (fun S' _ h=>by simp only [hKc,Kd.E,Option.some.injEq] at h;subst h;trivial)) (adv v w' Z' ls' hst hsub hD)
   obtain ⟨kv,sd',Z',ls',hag,o',ho',hsel,hdok,hcase⟩:=nodeAt i o ρ1 ρ2 him ho hr hd hdt
   have eo:o'=o:=by rw [ho] at ho';exact (Option.some.inj ho').symm
   subst eo
   rcases hcase with ⟨hg,_⟩ | ⟨hg,hk,hcase⟩
   ·
    have hw:=hag.wanted hg;rw [if_neg (by rw [hw];simp)];exact next i o'.dst undef w τ ρ sd SL Z ls him hlt hLi hs (hI.put hok.toRegB him ho hLi hd hdok hI.c (fun _ _ _ _ _ _ h=>h) (fun _=>rfl) (fun h=>by rw [hw] at h;cases h) (fun S h=>by rw [hw] at h;cases h)) (hF.pass hLi hKc (fun sh it h=>hsh i sh it h))
   have hw:=hag.wanted hg;rw [if_pos hw];refine .inl ?_
   rcases hcase with ⟨hK,e,hrun,_⟩ | ⟨sh,it,hK,hout,_⟩ | ⟨hK,_⟩
   ·
    have hr:=hrun w hI.c;rw [← hag.exec hsel hk] at hr
    unfold Oper.wp
    rw [hr];exact next i o'.dst e w τ ρ sd SL Z ls him hlt hLi hs (hI.put hok.toRegB him ho hLi hd hdok hI.c (fun _ _ _ _ _ _ h=>h) (fun h=>by rw [hw] at h;cases h) (fun _ _=>⟨w,hI.c,hr⟩) (fun S _ h=>by simp only [hK,Kd.E] at h;cases h)) (hF.pass hLi hKc (fun sh it h=>by rw [hK] at h;cases h))
   ·
    unfold Oper.wp
    rw [hag.exec hsel hk];refine outc_upon (hout w Z _ hI.c.1 hF.st) fun v w' ⟨hsz',hs',hst⟩=>?_;have hC':CG w0 M N ls1 w':=⟨Nat.le_trans hI.c.1 hsz',Z,_,hst,fun A hA=>by simp [hF.sub A hA]⟩
    exact next i o'.dst v w' τ ρ sd ((i,it v)::SL) Z ls him hlt hLi hs (hI.put hok.toRegB him ho hLi hd hdok hC' (fun j S u hjm hLj hE' h=>by
     have hE':(K j).E=some S:=hE'
     cases hKj:K j with
     | pure=>simp only [hKj,Kd.E] at hE';cases hE'
     | side sh it=>simp only [hKj,Kd.E,Option.some.injEq] at hE';subst hE';exact h
     | chain=>simp only [hKj,Kd.E,Option.some.injEq] at hE';subst hE';trivial) (fun h=>by rw [hw] at h;cases h) (fun _ h=>by simp only [hK,Kd.E] at h;cases h) (fun S' _ h=>by simp only [hK,Kd.E,Option.some.injEq] at h;subst h;exact hs')) (hF.side hLi hK hst)
   exact absurd hK hKc
  -- the first of the rest: all before it has come up
  obtain ⟨hli,o,ho,hdo⟩:=mem_ready.1 hi;have hlt:i<ops.size:=(Array.getElem?_eq_some_iff.1 ho).1
  have hD:=hok.tail i him hlt (fun j=>listed.getD j false=true) (fun j p hj hp d hdm=>by
   have hjm:j<m:=by
    rcases Nat.lt_or_ge j m with h | h
    ·
     exact h
    have:=htail j h;rw [this] at hj;cases hj
   exact hI.closed j p hjm hj hp d hdm) (fun x p hxX hp hdx=>by
   have hxlt:x<ops.size:=(Array.getElem?_eq_some_iff.1 hp).1
   cases hb:listed.getD x false with
   | true=>rfl
   | false=>exact absurd ⟨x,hxX,mem_ready.2 ⟨by rw [hlistB x hxlt true,hb],p,hp,fun e he hbd=>hdx e.on (List.mem_map.2 ⟨e,List.mem_filter.2 ⟨by simpa using he,hbd⟩,rfl⟩)⟩⟩ hx) (fun p hp d hdm=>by
   rw [ho] at hp;simp at hp;subst hp
   unfold deps at hdm
   obtain ⟨e,he,rfl⟩:=List.mem_map.1 hdm;obtain ⟨he1,he2⟩:=List.mem_filter.1 he;exact hdo e (by simpa using he1) he2)
  have him':i=m:=by
   rcases Nat.lt_or_ge m i with h | h
   ·
    have h1:=hD m h;have h2:=htail m (Nat.le_refl _);rw [h2] at h1;cases h1
   omega
  subst him';have h:=fin listed vals a w τ ρ sd SL Z ls hs hD hI hF
  have hlist:∀j,j<ops.size→listed[j]?=some (decide (j<i)):=fun j hj=>by
   have hjs:j<listed.size:=by omega
   rcases Nat.lt_or_ge j i with hji | hji
   ·
    have:=hD j hji
    simp [Array.getD,hjs] at this
    simp [hjs,this,hji]
   have:=htail j hji
   simp [Array.getD,hjs] at this
   simp [hjs,this,show ¬j<i by omega]
  have h2:=phase2X (P:=P) (Q:=NP Q) hok (fuel+1) i listed a w (Nat.le_refl _) (by omega) hlist hsz (by
   have hl:∀k,k≤ops.size→left (fun j=>listed.getD j false) k≥k - i:=by
    intro k
    induction k with
    | zero=>intro _;simp
    | succ k ihk=>
     intro hk
     have:=ihk (by omega)
     simp only [left]
     rcases Nat.lt_or_ge k i with h | h
     ·
      omega
     have h9:=htail k h;simp only [h9,Bool.not_false,Bool.toNat_true]
     omega
   have:=hl ops.size (Nat.le_refl _)
   omega) h
  exact h2.2 i hi
end
/-! ### the checks, and the walk -/
def nthO:List Oper→Nat→Option Oper
 | [],_=>none
 | o::_,0=>some o
 | _::r,i+1=>nthO r i
theorem nthO_eq:∀(l:List Oper) (i:Nat),nthO l i=l[i]?
 | [],_=>rfl
 | _::_,0=>rfl
 | _::r,i+1=>by simp [nthO,nthO_eq r i]
def sigGo (l:List Oper) (ms chs:List Nat):Nat→List Nat→Bool
 | _,[]=>true
 | k,i::r=>(match nthO l i with | some o=>Nat.beq (Nat.land (dmask (deps o)) k) (dmask (deps o)) | none=>true) &&
  (match elemN i chs with | true=>Nat.beq (Nat.land k (ms.getD i 0)) k | false=>true) && sigGo l ms chs (k ||| 2 ^ i) r
def sigOk (l:List Oper) (m:Nat) (chs σ:List Nat):Bool:=
 σ.all (fun i=>Nat.blt i m) && (List.range m).all (fun i=>elemN i σ) && decide σ.Nodup && sigGo l (masks l []) chs 0 σ
theorem sigGo_spec {l:List Oper} {ms chs:List Nat}:∀{σ:List Nat} {k:Nat} {a:List Nat},(∀d,k.testBit d=true↔d∈a)→sigGo l ms chs k σ=true→∀x i y,σ=x++i::y→
  (∀o,l[i]?=some o→∀d∈deps o,d∈a++x)∧(elemN i chs=true→∀j∈a++x,(ms.getD i 0).testBit j=true)
 | [],_,_,_,_,x,i,y,e=>by simp at e
 | i0::r,k,a,hk,h,x,i,y,e=>by
  simp only [sigGo,Bool.and_eq_true] at h
  cases x with
  | nil=>
   simp only [List.nil_append,List.cons.injEq] at e;obtain ⟨rfl,rfl⟩:=e;refine ⟨fun o ho d hd=>?_,fun hc j hj=>?_⟩
   ·
    have h1:=h.1.1;rw [nthO_eq,ho] at h1;have he:(dmask (deps o)) &&& k=dmask (deps o):=Nat.eq_of_beq_eq_true h1;have h2:=dmask_bit hd;rw [← he,Nat.testBit_and] at h2;simp only [Bool.and_eq_true] at h2
    simpa using (hk d).1 h2.2
   have h1:=h.1.2;rw [hc] at h1;have he:k &&& (ms.getD i0 0)=k:=Nat.eq_of_beq_eq_true h1;have h2:=(hk j).2 (by simpa using hj);rw [← he,Nat.testBit_and] at h2;simp only [Bool.and_eq_true] at h2;exact h2.2
  | cons z x=>
   simp only [List.cons_append,List.cons.injEq] at e;obtain ⟨rfl,e⟩:=e
   have:=sigGo_spec (a:=a++[i0]) (fun d=>by
    simp only [Nat.testBit_or,Bool.or_eq_true,hk,Nat.testBit_two_pow,decide_eq_true_eq,List.mem_append,List.mem_singleton];exact or_congr_right eq_comm) h.2 x i y e
   simpa using this
inductive SdK where
 | blk (T:TypeId) (cs:List Value)
 | map
 | sl (T:TypeId) (len:Nat) (cs:List Value)
 | val (p:Value→Prop)
def As.nil:As where
 fp _:=False
 ok _ _:=True
 lt _ _ hx:=hx.elim
 mono _ h:=h
 st _ _ h:=h
def SdK.sh:SdK→Value→Prop
 | .blk _ _,v=>∃b,v=.pointer (some ⟨b,0,none⟩)
 | .map,v=>∃b,v=.map (some b)
 | .sl _ len _,v=>∃b,v=.slice (some ⟨b,0,none⟩) len len
 | .val p,v=>v≠undef∧p v
def SdK.it:SdK→Value→As
 | .blk T cs,.pointer (some ⟨b,_,_⟩)=>As.blk b T cs
 | .map,.map (some b)=>As.map Key.val b []
 | .sl T _ cs,.slice (some ⟨b,_,_⟩) _ _=>As.blk b T cs
 | _,_=>As.nil
def lookK:List (Nat × SdK)→Nat→Kd
 | [],_=>.pure
 | (j,s)::r,i=>match Nat.beq j i with
  | true=>.side s.sh s.it
  | false=>lookK r i
def kdOf (chs:List Nat) (sides:List (Nat × SdK)) (i:Nat):Kd:=match elemN i chs with
 | true=>.chain
 | false=>lookK sides i
def Kd.isPure:Kd→Bool
 | .pure=>true
 | _=>false
theorem Kd.pure_of:∀{k:Kd},k.isPure=true→k=.pure
 | .pure,_=>rfl
 | .side _ _,h=>by cases h
 | .chain,h=>by cases h
theorem lookK_side {i:Nat} {sh:Value→Prop} {it:Value→As}:∀{l:List (Nat × SdK)},lookK l i=.side sh it→∃s:SdK,sh=s.sh
 | [],h=>by simp [lookK] at h
 | (j,s)::r,h=>by
  simp only [lookK] at h
  split at h
  ·
   simp only [Kd.side.injEq] at h;exact ⟨s,h.1.symm⟩
  exact lookK_side h
theorem lookK_chain {i:Nat}:∀{l:List (Nat × SdK)},lookK l i≠.chain
 | [],h=>by simp [lookK] at h
 | (j,s)::r,h=>by
  simp only [lookK] at h
  split at h
  ·
   cases h
  exact lookK_chain h
section
variable {P:Program} {Q:Exit→Act→World→Prop} {n m N:Nat} {w0 w:World} {M Z:Nat→Prop} {ls ls1:List As} {Fin:KV→World→Prop}
theorem WC.drawnG {id:Nat} {kv:KV} {l:List Oper} (X chs σ:List Nat) (sides:List (Nat × SdK)) (hst:St w0 M Z w ls) (h1:∀A∈ls1,A∈ls) (hm:P.follows .mixedOrders=true) (hok:regX l m X=true) (hsg:sigOk l m chs σ=true) (hX:(X.all fun x=>(kdOf chs sides x).isPure)=true)
  (hdg:DG P l.toArray n w0 M w.heap.size ls1 (kdOf chs sides) (fun kv w=>WL P l.toArray (NP Q) (l.drop m) n kv w) σ kv [] Z ls):WC P (.region id l.toArray true) Q n kv w:=by
 intro a hF
 refine wp_mono (Q:=NP Q) ?_ fun _ _ _ h=>h.2
 refine wp_region_any hm ?_;have hok':=regX_spec hok;simp only [sigOk,Bool.and_eq_true] at hsg
 have hsig:SigOk l.toArray m (kdOf chs sides) σ:=by
  have hgo:=sigGo_spec (a:=[]) (fun d=>by simp) hsg.2;refine ⟨fun i hi=>?_,fun i hi=>elemN_iff.1 (List.all_eq_true.1 hsg.1.1.2 i (by simpa using hi)),by simpa using hsg.1.2,fun x i y e o ho d hd=>by simpa using (hgo x i y e).1 o (by simpa using ho) d hd,fun x i y e hc D hD hk j hj=>?_⟩
  ·
   have:=List.all_eq_true.1 hsg.1.1.1 i hi
   simp only [Nat.blt] at this
   have:=Nat.le_of_ble_eq_true this
   omega
  have hel:elemN i chs=true:=by
   unfold kdOf at hc
   cases he:elemN i chs with
   | true=>rfl
   | false=>rw [he] at hc;exact absurd hc lookK_chain
  have hb:=(hgo x i y e).2 hel j (by simpa using hj)
  cases hoi:l[i]? with
  | none=>
   exfalso
   have h3:∀(l:List Oper) (acc:List Nat),(masks l acc).length=acc.length+l.length:=by
    intro l
    induction l with
    | nil=>intro acc;rfl
    | cons p r ih=>intro acc;simp only [masks];rw [ih];simp;omega
   have h2:(masks l [])[i]?=none:=List.getElem?_eq_none (by rw [h3];simpa using List.getElem?_eq_none_iff.1 hoi);rw [List.getD_eq_getElem?_getD,h2] at hb
   simp at hb
  | some o=>
   exact masks_spec D l [] [] rfl (fun j o hj ho=>hD j o hj (by simpa using ho)) (fun k o ho=>by simp at ho) (fun k o ho=>hok'.back k o (by simpa using ho)) i o (by simpa using hoi) (hk o (by simpa using hoi)) j hb
 have hfalse:∀j,(Array.replicate l.toArray.size false).getD j false=false:=fun j=>by
  by_cases h:j<l.length <;> simp [Array.getD,h]
 have hst':St w0 M Z {w with drawn:=w.drawn+1} ls:=hst.step (Chg.drew [] w);refine phaseG (X:=X) (K:=kdOf chs sides) (vals:=fun _=>undef) (fun x hx=>?_) hok' hsig (fun j sh it h=>?_) hF l.toArray.size _ a _ [] σ [] [] Z ls rfl (by simp) ?_ (fun j _=>hfalse j) ⟨⟨Nat.le_refl _,Z,ls,hst',h1⟩,hF.size,hF.nod,?_,fun _ _=>rfl,?_,?_,?_,?_⟩
  ⟨by simp,fun j _ _=>hfalse j,by simpa [kvS] using hdg,by simpa using hst',h1,by simp,by simp,by simp,by simp,by simp,fun j _ _ _ h=>by rw [hfalse j] at h;cases h⟩
 ·
  have:=List.all_eq_true.1 hX x hx
  cases hk:kdOf chs sides x with
  | pure=>rfl
  | side=>rw [hk] at this;cases this
  | chain=>rw [hk] at this;cases this
 ·
  unfold kdOf at h
  split at h
  ·
   cases h
  obtain ⟨s,rfl⟩:=lookK_side h;intro hu
  cases s <;> (simp only [SdK.sh] at hu;first | (obtain ⟨b,hb⟩:=hu;cases hb;done) | exact hu.1 rfl)
 ·
  have:∀k (L:Nat→Bool),left L k≤k:=by
   intro k L
   induction k with
   | zero=>simp [left]
   | succ k ih=>simp only [left];cases L k <;> simp <;> omega
  exact this _ _
 all_goals (intro j;intros;rename_i h _ ;first | (have:=hfalse j;simp_all;done) | skip)
variable {l:List Oper} {i:Nat} {σ':List Nat} {kv:KV} {sd:List (Nat × As)} {K:Nat→Kd} {d:Tmp} {op:Op} {ty:TypeId} {pos:String} {af:Array Edge} {g:Option (Nat × Bool)}
theorem DG.no (ho:nthO l i=some ⟨some d,op,ty,pos,af,g⟩) (hg:gd l.toArray kv ⟨some d,op,ty,pos,af,g⟩=some false) (hs:isSelect op=false) (hd:Nat.blt d n=true)
  (next:DG P l.toArray n w0 M N ls1 K Fin σ' ((d,undef)::kv) sd Z ls):DG P l.toArray n w0 M N ls1 K Fin (i::σ') kv sd Z ls:=
 ⟨⟨some d,op,ty,pos,af,g⟩,by (rw [nthO_eq] at ho;simpa using ho),hs,hd,.inl ⟨hg,next⟩⟩
theorem DG.p {v:Value} (ho:nthO l i=some ⟨some d,op,ty,pos,af,g⟩) (hg:gd l.toArray kv ⟨some d,op,ty,pos,af,g⟩=some true) (hs:isSelect op=false) (hk:known kv op=true) (hd:Nat.blt d n=true) (hK:(K i).isPure=true)
  (h:∀w Zx R,N≤w.heap.size→St w0 M Zx w R→(∀A∈ls1,A∈R)→PV P op ty kv w v)
  (next:DG P l.toArray n w0 M N ls1 K Fin σ' ((d,v)::kv) sd Z ls):DG P l.toArray n w0 M N ls1 K Fin (i::σ') kv sd Z ls:=
 ⟨⟨some d,op,ty,pos,af,g⟩,by (rw [nthO_eq] at ho;simpa using ho),hs,hd,.inr ⟨hg,hk,.inl ⟨Kd.pure_of hK,v,fun w ⟨h1,Zx,R,h2,h3⟩=>(h w Zx R h1 h2 h3).2.2 _ _ _ _,next⟩⟩⟩
theorem DG.side (s:SdK) (ho:nthO l i=some ⟨some d,op,ty,pos,af,g⟩) (hg:gd l.toArray kv ⟨some d,op,ty,pos,af,g⟩=some true) (hs:isSelect op=false) (hk:known kv op=true) (hd:Nat.blt d n=true) (hK:K i=.side s.sh s.it)
  (h:∀w Zx R,N≤w.heap.size→St w0 M Zx w R→OX P ⟨some d,op,ty,pos,af,g⟩ n kv w fun kv' w'=>w.heap.size≤w'.heap.size∧∃v,kv'=(d,v)::kv∧s.sh v∧St w0 M Zx w' (s.it v::R))
  (next:∀v,s.sh v→DG P l.toArray n w0 M N ls1 K Fin σ' ((d,v)::kv) ((i,s.it v)::sd) Z ls):DG P l.toArray n w0 M N ls1 K Fin (i::σ') kv sd Z ls:=
 ⟨⟨some d,op,ty,pos,af,g⟩,by (rw [nthO_eq] at ho;simpa using ho),hs,hd,.inr ⟨hg,hk,.inr (.inl ⟨s.sh,s.it,hK,fun w Zx R h1 h2=>(h w Zx R h1 h2).2.2.2.mono fun v w' ⟨a,u,e,b,c⟩=>by
  simp only [upd,List.cons.injEq,Prod.mk.injEq,true_and,and_true] at e;subst e;exact ⟨a,b,c⟩,next⟩)⟩⟩
theorem DG.c (ho:nthO l i=some ⟨some d,op,ty,pos,af,g⟩) (hg:gd l.toArray kv ⟨some d,op,ty,pos,af,g⟩=some true) (hs:isSelect op=false) (hk:known kv op=true) (hd:Nat.blt d n=true) (hK:K i=.chain)
  (h:∀w R,N≤w.heap.size→St w0 M Z w (ls++R)→(∀p∈sd,p.2∈R)→OX P ⟨some d,op,ty,pos,af,g⟩ n kv w fun kv' w'=>w.heap.size≤w'.heap.size∧∃v,kv'=(d,v)::kv∧∃Z' ls',St w0 M Z' w' (ls'++R)∧(∀A∈ls1,A∈ls')∧
   DG P l.toArray n w0 M N ls1 K Fin σ' ((d,v)::kv) sd Z' ls'):DG P l.toArray n w0 M N ls1 K Fin (i::σ') kv sd Z ls:=
 ⟨⟨some d,op,ty,pos,af,g⟩,by (rw [nthO_eq] at ho;simpa using ho),hs,hd,.inr ⟨hg,hk,.inr (.inr ⟨hK,fun w R h1 h2 h3=>(h w R h1 h2 h3).2.2.2.mono fun v w' ⟨a,u,e,b⟩=>by
  simp only [upd,List.cons.injEq,Prod.mk.injEq,true_and,and_true] at e;subst e;exact ⟨a,b⟩⟩)⟩⟩
theorem DG.nil (h:∀w,N≤w.heap.size→St w0 M Z w (sd.map (·.2)++ls)→Fin kv w):DG P l.toArray n w0 M N ls1 K Fin [] kv sd Z ls:=h
end
end Go.Rc

namespace Go.Rc
open Go
structure SV (w0:World) (M Z:Nat→Prop) (w:World) (l:List As):Prop where
 chg:ChgP M w0 w
 zlt:∀x,Z x→x<w.heap.size
 ok:∀A∈l,A.ok Z w
section
variable {w0 w:World} {M Z:Nat→Prop} {l R ls:List As} {A0 A1 A2 A3 A4 A5 A6 A7 A8 A9 A10 A11 A12:As}
theorem St.sv (h:St w0 M Z w R) (hi:∀A∈l,A∈R):SV w0 M Z w l:=⟨h.chg,h.zlt,fun A hA=>h.ok A (hi A hA)⟩
theorem SV.g0 (h:SV w0 M Z w (A0::l)):A0.ok Z w:=h.ok _ M0
theorem SV.tl (h:SV w0 M Z w (A0::l)):SV w0 M Z w l:=⟨h.chg,h.zlt,fun A hA=>h.ok A (.tail _ hA)⟩
theorem SV.g1 (h:SV w0 M Z w (A0::A1::l)):A1.ok Z w:=h.tl.g0
theorem SV.g2 (h:SV w0 M Z w (A0::A1::A2::l)):A2.ok Z w:=h.tl.g1
theorem SV.g3 (h:SV w0 M Z w (A0::A1::A2::A3::l)):A3.ok Z w:=h.tl.g2
theorem SV.g4 (h:SV w0 M Z w (A0::A1::A2::A3::A4::l)):A4.ok Z w:=h.tl.g3
theorem SV.g5 (h:SV w0 M Z w (A0::A1::A2::A3::A4::A5::l)):A5.ok Z w:=h.tl.g4
theorem SV.g6 (h:SV w0 M Z w (A0::A1::A2::A3::A4::A5::A6::l)):A6.ok Z w:=h.tl.g5
theorem SV.g7 (h:SV w0 M Z w (A0::A1::A2::A3::A4::A5::A6::A7::l)):A7.ok Z w:=h.tl.g6
theorem SV.g8 (h:SV w0 M Z w (A0::A1::A2::A3::A4::A5::A6::A7::A8::l)):A8.ok Z w:=h.tl.g7
theorem SV.g9 (h:SV w0 M Z w (A0::A1::A2::A3::A4::A5::A6::A7::A8::A9::l)):A9.ok Z w:=h.tl.g8
theorem SV.g10 (h:SV w0 M Z w (A0::A1::A2::A3::A4::A5::A6::A7::A8::A9::A10::l)):A10.ok Z w:=h.tl.g9
theorem SV.g11 (h:SV w0 M Z w (A0::A1::A2::A3::A4::A5::A6::A7::A8::A9::A10::A11::l)):A11.ok Z w:=h.tl.g10
theorem Sub1.nil:∀A∈([]:List As),A∈ls:=by simp
theorem Sub1.cons (h:A0∈ls) (t:∀A∈l,A∈ls):∀A∈A0::l,A∈ls:=List.forall_mem_cons.2 ⟨h,t⟩
theorem AppE.nil:R=[]++R:=rfl
theorem AppE.cons {L:List As} (h:L=l++R):A0::L=(A0::l)++R:=by rw [h];rfl
end
section
variable {P:Program} {n m N:Nat} {w0 w:World} {M Z:Nat→Prop} {ls ls1:List As} {Fin:KV→World→Prop}
variable {l:List Oper} {i:Nat} {σ':List Nat} {kv:KV} {sd:List (Nat × As)} {K:Nat→Kd} {d:Tmp} {op:Op} {ty:TypeId} {pos:String} {af:Array Edge} {g:Option (Nat × Bool)}
theorem DG.ch (ho:nthO l i=some ⟨some d,op,ty,pos,af,g⟩) (hg:gd l.toArray kv ⟨some d,op,ty,pos,af,g⟩=some true) (hs:isSelect op=false) (hk:known kv op=true) (hd:Nat.blt d n=true) (hK:K i=.chain)
  (h:∀w R,N≤w.heap.size→St w0 M Z w (ls++R)→(∀p∈sd,p.2∈R)→OX P ⟨some d,op,ty,pos,af,g⟩ n kv w fun kv' w'=>w.heap.size≤w'.heap.size∧∃v,kv'=(d,v)::kv∧∃Z' L ls',St w0 M Z' w' L∧L=ls'++R∧(∀A∈ls1,A∈ls')∧
   DG P l.toArray n w0 M N ls1 K Fin σ' ((d,v)::kv) sd Z' ls'):DG P l.toArray n w0 M N ls1 K Fin (i::σ') kv sd Z ls:=
 DG.c ho hg hs hk hd hK fun w R h1 h2 h3=>by
  obtain ⟨a,b,c,e⟩:=h w R h1 h2 h3;refine ⟨a,b,c,e.mono fun kv' w' ⟨x1,v,x2,Z',L,ls',x3,x4,x5,x6⟩=>⟨x1,v,x2,Z',ls',?_,x5,x6⟩⟩;rw [← x4];exact x3
theorem DG.cs (ho:nthO l i=some ⟨none,op,ty,pos,af,g⟩) (hg:gd l.toArray kv ⟨none,op,ty,pos,af,g⟩=some true) (hs:isSelect op=false) (hk:known kv op=true) (hK:K i=.chain)
  (h:∀w R,N≤w.heap.size→St w0 M Z w (ls++R)→(∀p∈sd,p.2∈R)→OX P ⟨none,op,ty,pos,af,g⟩ n kv w fun kv' w'=>w.heap.size≤w'.heap.size∧kv'=kv∧∃Z' L ls',St w0 M Z' w' L∧L=ls'++R∧(∀A∈ls1,A∈ls')∧
   DG P l.toArray n w0 M N ls1 K Fin σ' kv sd Z' ls'):DG P l.toArray n w0 M N ls1 K Fin (i::σ') kv sd Z ls:=
 ⟨⟨none,op,ty,pos,af,g⟩,by (rw [nthO_eq] at ho;simpa using ho),hs,rfl,.inr ⟨hg,hk,.inr (.inr ⟨hK,fun w R h1 h2 h3=>(h w R h1 h2 h3).2.2.2.mono fun v w' ⟨a,_,Z',L,ls',x3,x4,x5,x6⟩=>⟨a,Z',ls',by rw [← x4];exact x3,x5,x6⟩⟩)⟩⟩
end
/-! ### loops of a known number of rounds -/
section
variable {P:Program} {c:Code} {Q:Exit→Act→World→Prop} {n m:Nat} {kv:KV} {w:World}
end
end Go.Rc

namespace Go.Rc
open Go
section
variable {P:Program} {kv:KV} {w:World} {T U ty:TypeId} {x y:Operand}
theorem run_eqPtrNil {e:TypeId} (hT:P.underlying T=some (.pointer e)) (a:Option Addr):(Op.equalIn 10000 T (.pointer a) (.pointer none)).run P w=.ok (decide (a=none)) w:=by
 rw [show (10000:Nat)=9999+1 from rfl]
 unfold Op.equalIn
 cases a <;> simp [run_underlying hT]
theorem run_eqSlNil {e:TypeId} (hT:P.underlying T=some (.slice e)) (a:Option Addr) (n c:Nat):(Op.equalIn 10000 T (.slice a n c) (.slice none 0 0)).run P w=.ok (decide (a=none)) w:=by
 rw [show (10000:Nat)=9999+1 from rfl]
 unfold Op.equalIn
 cases a <;> simp [run_underlying hT]
theorem run_eqIfNil {e:Array String} (hT:∃ms,P.underlying T=some (.interface ms)):(Op.equalIn 10000 T .nilIface .nilIface).run P w=.ok true w:=by
 obtain ⟨ms,hT⟩:=hT;rw [show (10000:Nat)=9999+1 from rfl]
 unfold Op.equalIn
 simp [run_underlying hT]
theorem PV.eqPN {e:TypeId} {a:Option Addr} (hT:P.underlying T=some (.pointer e)) (hx:ev kv x=some (.pointer a)) (hy:ev kv y=some (.pointer none)):PV P (.binOp .eql T x y U) ty kv w (.bool (decide (a=none))):=
 ⟨rfl,by simp [known,opers,hx,hy],fun _ _ _ _=>by
  simp only [execOp,lkO_of hx,lkO_of hy]
  simp [eqGuard,binOp,Op.equal,Op.maxDepth,run_eqPtrNil hT]⟩
theorem PV.nePN {e:TypeId} {a:Option Addr} (hT:P.underlying T=some (.pointer e)) (hx:ev kv x=some (.pointer a)) (hy:ev kv y=some (.pointer none)):PV P (.binOp .neq T x y U) ty kv w (.bool (decide (a≠none))):=
 ⟨rfl,by simp [known,opers,hx,hy],fun _ _ _ _=>by
  simp only [execOp,lkO_of hx,lkO_of hy]
  simp [eqGuard,binOp,Op.equal,Op.maxDepth,run_eqPtrNil hT]⟩
theorem PV.eqSN {e:TypeId} {a:Option Addr} {n c:Nat} (hT:P.underlying T=some (.slice e)) (hx:ev kv x=some (.slice a n c)) (hy:ev kv y=some (.slice none 0 0)):PV P (.binOp .eql T x y U) ty kv w (.bool (decide (a=none))):=
 ⟨rfl,by simp [known,opers,hx,hy],fun _ _ _ _=>by
  simp only [execOp,lkO_of hx,lkO_of hy]
  simp [eqGuard,binOp,Op.equal,Op.maxDepth,run_eqSlNil hT]⟩
theorem PV.neIN (hT:∃ms,P.underlying T=some (.interface ms)) (hx:ev kv x=some .nilIface):PV P (.binOp .neq T x (.const .nilIface) U) ty kv w (.bool false):=by
 have hy:ev kv (.const .nilIface)=some .nilIface:=rfl;refine ⟨rfl,by simp [known,opers,hx,hy],fun _ _ _ _=>?_⟩;simp only [execOp,lkO_of hx,lkO_of hy]
 simp [eqGuard,binOp,Op.equal,Op.maxDepth,run_eqIfNil (e:=#[]) hT]
end
section
variable {α:Type} {R:RR α} {P:Program} {E k c b:Nat} {a:Option Addr} {u u':α} {Z:Nat→Prop} {w:World}
variable {N:Nat} {kv:KV} {K:KV→World→Prop} {ty:TypeId} {pos:String} {af:Array Edge} {g:Option (Nat × Bool)} {T:TypeId}
theorem OX.bslice0 {d:Tmp} {n:Nat} {E k:Nat} (hT:P.underlying T=some (.slice E)) (hs:∀w,(sizeOf E).run P w=.ok k w) (hd:Nat.blt d n=true)
  (h:∀b w',New w w' b→Blk w' b E []→K ((d,.slice (some ⟨b,0,none⟩) 0 0)::kv) w'):OX P ⟨some d,.buildSlice T 0 #[],ty,pos,af,g⟩ n kv w K:=by
 refine ⟨rfl,hd,rfl,?_⟩
 have hr:(execOp (lkO kv) ⟨some d,.buildSlice T 0 #[],ty,pos,af,g⟩).run P w=.ok (.value (.slice (some ⟨w.heap.size,0,none⟩) 0 0)) (w.alloc (.cells #[] E)):=by
  simp only [execOp,Instr.buildSlice,Sem.run_bind,run_underlying hT,Result.andThen_ok,hs w,Nat.zero_mul];rw [if_neg (by omega)];simp only [if_true,Sem.run_bind,Sem.run_pure,Result.andThen_ok]
  have hf:Instr.fill (fun i=>some (i*k,k)) (Array.map (fun x=>(#[]:Array Value)[x % (#[]:Array Value).size]!) (Array.range 0)) (Array.map (fun x:Nat × Operand=>(x.fst,lkO kv x.snd)) #[]).toList=some #[]:=by simp [Instr.fill]
  rw [hf]
  rfl
 rw [hr];exact h _ _ ⟨chg_alloc _ _,Nat.le_refl _,by simp⟩ (alloc_get _ _)
theorem OR.blk0 {α:Type} {R:α→List Value→Prop} {base b E k:Nat} {w:World} (h:Blk w b E []) (hb:base≤b):OR base w E k R (some ⟨b,0,none⟩) 0 0 []:=
 ⟨rfl,[],rfl,by simp,by simpa using OL.blk (k:=k) h hb (m:=0) (by simp) (by simp) (by omega),fun i y r h1 h2=>by simp at h1⟩
theorem Rd.none_nil {α:Type} {R:RR α} {k n c:Nat} {Z:Nat→Prop} {w:World} {xs:List α} (h:Rd R k Z w none n c xs):xs=[]:=by
 obtain ⟨hn,rows,hl,hk,h1,hx⟩:=h
 rcases h1.at_ with ⟨_,h2,_⟩ | ⟨b,o,h2,_⟩
 ·
  subst h2;exact List.length_eq_zero_iff.1 hn.symm
 cases h2
end
theorem Calls.cap {P:Program} {f:FuncId} {r c:Value} {w:World} {Q:Ending→World→Prop} (h:Calls P f #[r,c] w Q):Calls P f (#[]++[r].toArray++#[c]) w Q:=by
 have e:(#[]++[r].toArray++#[c]:Array Value)=#[r,c]:=by simp
 rw [e];exact h
theorem Calls.recv {P:Program} {f:FuncId} {v r:Value} {w:World} {Q:Ending→World→Prop} (h:Calls P f #[v,r] w Q):Calls P f (#[v]++[r].toArray++#[]) w Q:=by
 have e:(#[v]++[r].toArray++#[]:Array Value)=#[v,r]:=by simp
 rw [e];exact h
end Go.Rc

