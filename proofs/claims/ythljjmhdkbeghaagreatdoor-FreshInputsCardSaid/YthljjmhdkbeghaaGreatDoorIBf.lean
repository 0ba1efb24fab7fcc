/- Base of the proof: frames, memory, ownership, and the plain meaning of rule systems. Conditions: as each lemma says. -/
import Derived.Test.YthljjmhdkbeghaaGreatDoorIBe
import Derived.Test.YthljjmhdkbeghaaGreatDoorIBd
set_option linter.unusedVariables false
set_option linter.unusedSimpArgs false
set_option linter.unusedSectionVars false
namespace Go.Rc
open Go
structure FZ where
 p:(Nat→Prop)→World→Prop
 mono:∀{Z Z':Nat→Prop} {w},(∀x,Z x→Z' x)→p Z w→p Z' w
 st:∀{Z:Nat→Prop} {w w':World},w.heap.size≤w'.heap.size→(∀x,Z x→x<w.heap.size→w'.heap[x]?=w.heap[x]?)→p Z w→p Z w'
def FZ.rd {α:Type} (R:RR α) (k:Nat) (a:Option Addr) (n c:Nat) (xs:List α):FZ:=⟨fun Z w=>Rd R k Z w a n c xs,fun h=>Rd.mono h,fun h1 h2=>Rd.st h1 h2⟩
def FZ.and (F G:FZ):FZ:=⟨fun Z w=>F.p Z w∧G.p Z w,fun h ⟨a,b⟩=>⟨F.mono h a,G.mono h b⟩,fun h1 h2 ⟨a,b⟩=>⟨F.st h1 h2 a,G.st h1 h2 b⟩⟩
def FZ.tab (P:Program):FZ where
 p Z w:=Tab P Z w
 mono h:=fun h1=>h1.of h (Nat.le_refl _) fun _ _ _=>rfl
 st h1 h2:=fun h=>h.of (fun _ h=>h) h1 h2
def As.fz (F:FZ):As where
 fp _:=False
 ok Z w:=F.p Z w
 lt _ _ hx:=hx.elim
 mono h:=F.mono h
 st h1 h2:=F.st h1 fun x hx=>h2 x (.inr hx)
theorem As.gf {F:FZ} {Z:Nat→Prop} {w:World} (h:(As.fz F).ok Z w):F.p Z w:=h
structure SD where
 (ar a1 a2:Option Addr) (r cr n1 c1 n2 c2 m q s:Nat)
def SD.F (D:SD) (P:Program) (rules:List Rule) (x:Bas):FZ:=
 .and (.rd RR.rule 4 D.ar D.r D.cr rules) (.and (.rd RR.inp 4 D.a1 D.n1 D.c1 x.inputs) (.and (.rd RR.rcd 8 D.a2 D.n2 D.c2 x.recs) (.tab P)))
def SD.cells (D:SD) (x:Bas):List Value:=
 [.slice D.ar D.r D.cr,.int .i64 x.revision,.slice D.a1 D.n1 D.c1,.slice D.a2 D.n2 D.c2,.map (some D.m),.map (some D.q)]
section
variable {D:SD} {P:Program} {rules:List Rule} {x:Bas} {Z:Nat→Prop} {w:World}
theorem SD.hu (h:(D.F P rules x).p Z w):Rd RR.rule 4 Z w D.ar D.r D.cr rules:=h.1
theorem SD.hi (h:(D.F P rules x).p Z w):Rd RR.inp 4 Z w D.a1 D.n1 D.c1 x.inputs:=h.2.1
theorem SD.hr (h:(D.F P rules x).p Z w):Rd RR.rcd 8 Z w D.a2 D.n2 D.c2 x.recs:=h.2.2.1
theorem SD.ht (h:(D.F P rules x).p Z w):Tab P Z w:=h.2.2.2
end
def MemoOk (rules:List Rule) (inp:List Inp) (ml:List (Key × Value)):Prop:=∀k v,mget ml k=some v→v=.string (valOf rules inp k)
section
variable {rules:List Rule} {inp:List Inp}
theorem MemoOk.nil:MemoOk rules inp []:=fun k v h=>by simp [mget] at h
theorem MemoOk.put {ml:List (Key × Value)} (h:MemoOk rules inp ml) (k:Key):MemoOk rules inp (mput ml k (.string (valOf rules inp k))):=fun k' v hv=>by
 rw [mget_put] at hv
 split at hv
 ·
  rename_i e;simp at hv;rw [← hv,← e]
 exact h k' v hv
def sub16 (m n:Nat):Prop:=∀b,m.testBit b=true→n.testBit b=true
theorem sub16.le {m n:Nat} (h:sub16 m n):m≤n:=by
 have e:m ||| n=n:=Nat.eq_of_testBit_eq fun b=>by
  rw [Nat.testBit_or]
  cases hm:m.testBit b
  ·
   simp
  simp [h b hm]
 rw [← e];exact Nat.left_le_or
noncomputable def ansR (rules:List Rule) (inp:List Inp) (v:Nat→Nat) (k:Key):ByteArray:=if isCyclic k then itoa (v (number k).toNat:Int) else valOf rules inp k
noncomputable def FF (rules:List Rule) (inp:List Inp) (v:Nat→Nat) (j:Nat):Nat:=bitsV ((rules[j]?.map (·.c.toNat)).getD 0) (ringAns rules (ansR rules inp v) j)
theorem askKey_out (hR:rulesOk rules) {i:Nat} (hi:i<rules.length) (hr:ringAt rules i=true) {x:Ask} (hx:x∈rules[i].asks) (ho:outside rules x=true):isCyclic (askKey rules x)=false:=by
 have h24:=hR.len;have hm:=ring_asks hR hi hr hx;obtain ⟨m,h1,h2⟩:=mayOk_key hi hR.len hm
 unfold outside at ho
 unfold askKey
 cases hc:x.cell
 ·
  rw [hc] at h2 ho;simp only [Bool.false_eq_true,if_false] at h2 ⊢;rw [h1] at ho ⊢;rw [isCyclic_ofK h2.1 (by omega)]
  simpa using ho
 rw [hc] at h2;simp only [if_true] at h2 ⊢;rw [h1,isCyclic_cellK (by omega)]
theorem FF_bit (hR:rulesOk rules) {v:Nat→Nat} (hv:∀j,v j≤65535) {i:Nat} (hi:i<rules.length) (hr:ringAt rules i=true) (b:Nat) :
  (FF rules inp v i).testBit b=true↔(baseV rules (valOf rules inp) i).testBit b=true∨∃j,ringAsk rules i j∧(v j).testBit b=true:=by
 have h24:=hR.len
 unfold FF
 rw [getElem_some hi];simp only [Option.map_some,Option.getD_some];rw [ringAns_bit hi];refine or_congr ?_ ?_
 ·
  rw [baseV_bit hi,baseV_bit hi];refine or_congr_right (exists_congr fun x=>and_congr_right fun hx=>and_congr_right fun ho=>?_)
  unfold ansR
  rw [if_neg (by rw [askKey_out hR hi hr hx ho];simp)]
 constructor
 ·
  rintro ⟨x,h1,h2,h3⟩;obtain ⟨j,h4,h5,h6⟩:=inside_ask hR hi hr h1 h2;refine ⟨j,h4,?_⟩
  unfold ansR at h3
  rw [h5,if_pos (by rw [isCyclic_ofK h6 (by omega)];exact h4.lt.2.2.2),number_ofK h6 (by omega),Int.toNat_natCast,valS_itoa (hv j)] at h3;exact h3
 rintro ⟨j,h4,h5⟩;obtain ⟨x,h1,h2,h3⟩:=ask_inside hi h4;refine ⟨x,h1,h2,?_⟩
 unfold ansR
 rw [h3,if_pos (by rw [isCyclic_ofK h4.lt.2.1 (by have:=h4.lt.2.1;omega)];exact h4.lt.2.2.2),number_ofK h4.lt.2.1 (by have:=h4.lt.2.1;omega),Int.toNat_natCast,valS_itoa (hv j)];exact h5
theorem rv_le (i:Nat):rv rules inp i≤65535:=ringB_le i
theorem rv_bit (hR:rulesOk rules) {i:Nat} (hi:i<rules.length) (hr:ringAt rules i=true) (b:Nat) :
  (rv rules inp i).testBit b=true↔(baseV rules (valOf rules inp) i).testBit b=true∨∃j,ringAsk rules i j∧(rv rules inp j).testBit b=true:=by
 unfold rv
 rw [ringB_bit hR hi hr]
 constructor
 ·
  rintro ⟨k,h1,h2⟩
  rcases h1.cases with rfl | ⟨j,h3,h4⟩
  ·
   exact .inl h2
  exact .inr ⟨j,h3,(ringB_bit hR h3.lt.2.1 h3.lt.2.2.2 b).2 ⟨k,h4,h2⟩⟩
 rintro (h | ⟨j,h3,h4⟩)
 ·
  exact ⟨i,.refl,h⟩
 obtain ⟨k,h5,h6⟩:=(ringB_bit hR h3.lt.2.1 h3.lt.2.2.2 b).1 h4;exact ⟨k,.head h3 h5,h6⟩
theorem FF_mono (hR:rulesOk rules) {v v':Nat→Nat} (hv:∀j,v j≤65535) (hv':∀j,v' j≤65535) (h:∀j,sub16 (v j) (v' j)) {i:Nat} (hi:i<rules.length) (hr:ringAt rules i=true):sub16 (FF rules inp v i) (FF rules inp v' i):=fun b hb=>by
 rw [FF_bit hR hv hi hr] at hb;rw [FF_bit hR hv' hi hr]
 rcases hb with hb | ⟨j,h1,h2⟩
 ·
  exact .inl hb
 exact .inr ⟨j,h1,h j b h2⟩
structure Rounds (rules:List Rule) (inp:List Inp) (i0:Nat) (L:List Nat) (u:Nat→Nat):Prop where
 nodup:L.Nodup
 first:i0∈L
 ring:∀j∈L,j<rules.length∧ringAt rules j=true
 out:∀j,j∉L→u j=0
 le:∀j,u j≤65535
 low:∀j,sub16 (u j) (rv rules inp j)
 reach:∀j∈L,RReach rules i0 j
noncomputable def eff (rules:List Rule) (inp:List Inp) (u:Nat→Nat) (ml:List (Key × Value)) (k:Nat):Nat:=if (mget ml (ofK rules (k:Int))).isSome then rv rules inp k else u k
def MLe (ml ml':List (Key × Value)):Prop:=∀k v,mget ml k=some v→mget ml' k=some v
def UpOk (rules:List Rule) (inp:List Inp) (L:List Nat) (u:Nat→Nat) (ml:List (Key × Value)):Prop:=∀j∈L,sub16 (u j) (FF rules inp (eff rules inp u ml) j)
def Settled (rules:List Rule) (inp:List Inp) (L:List Nat) (u:Nat→Nat) (j:Nat):Prop:=
 sub16 (baseV rules (valOf rules inp) j) (u j)∧∀k,ringAsk rules j k→(k∈L→sub16 (u k) (u j))∧(k∉L→sub16 (rv rules inp k) (u j))
def potA (n:Nat) (v:Nat→Nat):Nat:=((List.range n).map fun j=>65535 - v j).sum
def pot (rules:List Rule) (L:List Nat) (v:Nat→Nat):Nat:=potA rules.length v+(rules.length - L.length)
theorem MLe.refl (ml:List (Key × Value)):MLe ml ml:=fun _ _ h=>h
theorem MLe.trans {a b c:List (Key × Value)} (h:MLe a b) (k:MLe b c):MLe a c:=fun x v e=>k x v (h x v e)
theorem MLe.put {ml:List (Key × Value)} (hm:MemoOk rules inp ml) (k:Key):MLe ml (mput ml k (.string (valOf rules inp k))):=fun x v h=>by
 rw [mget_put]
 split
 ·
  rename_i e;subst e;rw [hm _ _ h]
 exact h
theorem eff_le {u:Nat→Nat} {ml:List (Key × Value)} (h:∀j,u j≤65535) (k:Nat):eff rules inp u ml k≤65535:=by unfold eff;split;exact rv_le k;exact h k
theorem eff_low {u:Nat→Nat} {ml:List (Key × Value)} (h:∀j,sub16 (u j) (rv rules inp j)) (k:Nat):sub16 (eff rules inp u ml k) (rv rules inp k):=by unfold eff;split;exact fun _ h=>h;exact h k
theorem eff_mono {u u':Nat→Nat} {ml ml':List (Key × Value)} (h:∀j,sub16 (u j) (rv rules inp j)) (hu:∀j,sub16 (u j) (u' j)) (hm:MLe ml ml') (k:Nat):sub16 (eff rules inp u ml k) (eff rules inp u' ml' k):=by
 unfold eff
 cases h1:mget ml (ofK rules (k:Int)) with
 | some v=>rw [hm _ _ h1];simp;exact fun _ h=>h
 | none=>
  simp only [Option.isSome_none,Bool.false_eq_true,if_false]
  split
  ·
   exact h k
  exact hu k
theorem UpOk.mono (hR:rulesOk rules) {i0:Nat} {L:List Nat} {u:Nat→Nat} {ml ml':List (Key × Value)} (hr:Rounds rules inp i0 L u) (h:UpOk rules inp L u ml) (hm:MLe ml ml'):UpOk rules inp L u ml':=fun j hj b hb=>
 FF_mono hR (eff_le hr.le) (eff_le hr.le) (eff_mono hr.low (fun _ _ h=>h) hm) (hr.ring j hj).1 (hr.ring j hj).2 b (h j hj b hb)
theorem Rounds.start {i0:Nat} (hi:i0<rules.length) (hr:ringAt rules i0=true):Rounds rules inp i0 [i0] fun _=>0 where
 nodup:=by simp
 first:=by simp
 ring j hj:=by simp at hj;subst hj;exact ⟨hi,hr⟩
 out _ _:=rfl
 le _:=by omega
 low _ b h:=by simp at h
 reach j hj:=by simp at hj;subst hj;exact .refl
theorem UpOk.start {i0:Nat} {ml:List (Key × Value)}:UpOk rules inp [i0] (fun _=>0) ml:=fun _ _ b h=>by simp at h
theorem nodup_le:∀{n:Nat} {L:List Nat},L.Nodup→(∀j∈L,j<n)→L.length≤n:=by
 intro n
 induction n with
 | zero=>intro L _ hl;cases L with
  | nil=>simp
  | cons a r=>exact absurd (hl a (by simp)) (by omega)
 | succ n ih=>
  intro L h hl
  have h1:=ih (h.erase n) fun j hj=>by
   rw [h.mem_erase_iff] at hj
   have:=hl j hj.2
   have:=hj.1
   omega
  rw [List.length_erase] at h1
  split at h1 <;> omega
theorem Rounds.len {i0:Nat} {L:List Nat} {v:Nat→Nat} (h:Rounds rules inp i0 L v):L.length≤rules.length:=nodup_le h.nodup fun j hj=>(h.ring j hj).1
theorem Rounds.meet {i0:Nat} {L:List Nat} {v:Nat→Nat} (h:Rounds rules inp i0 L v) {j:Nat} (hj:j<rules.length) (hr:ringAt rules j=true) (hn:j∉L) (hre:RReach rules i0 j):Rounds rules inp i0 (L++[j]) v where
 nodup:=by rw [List.nodup_append];exact ⟨h.nodup,by simp,by intro a ha b hb;simp at hb;subst hb;rintro rfl;exact hn ha⟩
 first:=by simp [h.first]
 ring k hk:=by
  rcases List.mem_append.1 hk with hk | hk
  ·
   exact h.ring k hk
  simp at hk;subst hk;exact ⟨hj,hr⟩
 out k hk:=h.out k fun hm=>hk (by simp [hm])
 le:=h.le
 low:=h.low
 reach k hk:=by
  rcases List.mem_append.1 hk with hk | hk
  ·
   exact h.reach k hk
  simp at hk;subst hk;exact hre
theorem UpOk.meet {L:List Nat} {u:Nat→Nat} {ml:List (Key × Value)} (h:UpOk rules inp L u ml) {j:Nat} (hu:u j=0):UpOk rules inp (L++[j]) u ml:=fun k hk=>by
 rcases List.mem_append.1 hk with hk | hk
 ·
  exact h k hk
 simp at hk;subst hk;rw [hu];intro b hb;simp at hb
theorem Rounds.meet_lt {i0:Nat} {L:List Nat} {v:Nat→Nat} (h:Rounds rules inp i0 L v) {j:Nat} (hj:j<rules.length) (hr:ringAt rules j=true) (hn:j∉L) (hre:RReach rules i0 j):L.length<rules.length:=by
 have:=(h.meet hj hr hn hre).len
 rw [List.length_append] at this;simp at this;omega
theorem pot_meet {L:List Nat} {v:Nat→Nat} {j:Nat} (hl:L.length<rules.length):pot rules (L++[j]) v<pot rules L v:=by
 unfold pot;rw [List.length_append];simp;omega
def setV (v:Nat→Nat) (j u:Nat):Nat→Nat:=fun k=>if k=j then u else v k
theorem potA_set:∀n (v:Nat→Nat) (j u:Nat),v j≤u→potA n (setV v j u)≤potA n v∧(j<n→v j<u→u≤65535→potA n (setV v j u)<potA n v):=by
 intro n
 induction n with
 | zero=>intro v j u _;simp [potA]
 | succ n ih=>
  intro v j u h;obtain ⟨h1,h2⟩:=ih v j u h
  unfold potA at h1 h2 ⊢
  simp only [List.range_succ,List.map_append,List.map_cons,List.map_nil,List.sum_append,List.sum_cons,List.sum_nil]
  have h3:65535 - setV v j u n≤65535 - v n:=by
   unfold setV;split
   ·
    rename_i e;subst e;omega
   omega
  refine ⟨by omega,fun h4 h5 h6=>?_⟩
  by_cases e:j=n
  ·
   have:65535 - setV v j u n<65535 - v n:=by unfold setV;rw [if_pos e.symm];subst e;omega
   omega
  have:=h2 (by omega) h5 h6
  omega
theorem setV_mono {u:Nat→Nat} {j x:Nat} (h:sub16 (u j) x):∀k,sub16 (u k) (setV u j x k):=fun k b hb=>by
 unfold setV;split
 ·
  rename_i e;subst e;exact h b hb
 exact hb
theorem Rounds.set {i0:Nat} {L:List Nat} {u:Nat→Nat} (h:Rounds rules inp i0 L u) {j x:Nat} (hj:j∈L) (hx:x≤65535) (h2:sub16 x (rv rules inp j)):Rounds rules inp i0 L (setV u j x) where
 nodup:=h.nodup
 first:=h.first
 ring:=h.ring
 out k hk:=by unfold setV;rw [if_neg (fun e=>hk (by rw [e];exact hj))];exact h.out k hk
 le k:=by unfold setV;split;exact hx;exact h.le k
 low k b hb:=by
  unfold setV at hb;split at hb
  ·
   rename_i e;subst e;exact h2 b hb
  exact h.low k b hb
 reach:=h.reach
theorem UpOk.set (hR:rulesOk rules) {i0:Nat} {L:List Nat} {u:Nat→Nat} {ml:List (Key × Value)} (hr:Rounds rules inp i0 L u) (h:UpOk rules inp L u ml) {j x:Nat} (hj:j∈L) (hx:x≤65535) (h2:sub16 x (rv rules inp j)) (h3:sub16 (u j) x) (h4:sub16 x (FF rules inp (eff rules inp u ml) j)) :
  UpOk rules inp L (setV u j x) ml:=fun k hk=>by
 have hr2:=hr.set hj hx h2;have hm:=FF_mono (inp:=inp) hR (eff_le (inp:=inp) (rules:=rules) (ml:=ml) hr.le) (eff_le hr2.le) (eff_mono hr.low (setV_mono h3) (MLe.refl ml)) (hr.ring k hk).1 (hr.ring k hk).2;intro b hb;refine hm b ?_
 unfold setV at hb;split at hb
 ·
  rename_i e;subst e;exact h4 b hb
 exact h k hk b hb
theorem pot_set {i0:Nat} {L:List Nat} {u:Nat→Nat} (h:Rounds rules inp i0 L u) {j x:Nat} (hj:j∈L) (hx:x≤65535) (h3:sub16 (u j) x) (hne:u j≠x):pot rules L (setV u j x)<pot rules L u:=by
 have h1:=h3.le
 have:=(potA_set rules.length u j x h1).2 (h.ring j hj).1 (by omega) hx
 unfold pot;omega
theorem Rounds.done (hR:rulesOk rules) {i0:Nat} {L:List Nat} {u:Nat→Nat} (h:Rounds rules inp i0 L u) (hs:∀j∈L,Settled rules inp L u j):∀j∈L,u j=rv rules inp j:=by
 intro j hj;obtain ⟨hjl,hjr⟩:=h.ring j hj;refine Nat.le_antisymm (h.low j).le (sub16.le fun b hb=>?_);have key:=rv_least hR hjl hjr (fun k=>if k∈L then u k else rv rules inp k) (fun k b hk hb=>?_) (fun k m b hk hkm hb=>?_) b hb
 ·
  simpa [hj] using key
 ·
  have hkr:=reach_ring hjl hjr hk
  by_cases hm:k∈L
  ·
   simp only [if_pos hm];exact (hs k hm).1 b hb
  simp only [if_neg hm];exact (rv_bit hR hkr.1 hkr.2 b).2 (.inl hb)
 have hkr:=reach_ring hjl hjr hk
 by_cases hk2:k∈L
 ·
  simp only [if_pos hk2]
  by_cases hm:m∈L
  ·
   simp only [if_pos hm] at hb;exact ((hs k hk2).2 m hkm).1 hm b hb
  simp only [if_neg hm] at hb;exact ((hs k hk2).2 m hkm).2 hm b hb
 simp only [if_neg hk2];refine (rv_bit hR hkr.1 hkr.2 b).2 (.inr ⟨m,hkm,?_⟩)
 by_cases hm:m∈L
 ·
  simp only [if_pos hm] at hb;exact h.low m b hb
 simp only [if_neg hm] at hb;exact hb
structure Ev (rules:List Rule) (inp:List Inp) (u:Nat→Nat) (L:List Nat) (ml0 ml:List (Key × Value)) (qs:List Ask) (n:Nat) (acc:List ByteArray):Prop where
 len:acc.length=n
 out:∀m (h:m<qs.length),m<n→outside rules qs[m]=true→acc[m]?=some (valOf rules inp (askKey rules qs[m]))
 ins:∀m (h:m<qs.length),m<n→outside rules qs[m]=false→∀k:Nat,qs[m].n=k→
  (acc[m]?=some (itoa (rv rules inp k:Int))∧(mget ml (ofK rules (k:Int))).isSome=true)∨(acc[m]?=some (itoa (u k:Int))∧k∈L∧mget ml0 (ofK rules (k:Int))=none)
theorem Ev.start {u:Nat→Nat} {L:List Nat} {ml:List (Key × Value)} {qs:List Ask}:Ev rules inp u L ml ml qs 0 []:=⟨rfl,fun _ _ h=>by omega,fun _ _ h=>by omega⟩
theorem Ev.mono {u:Nat→Nat} {L L':List Nat} {ml0 ml ml':List (Key × Value)} {qs:List Ask} {n:Nat} {acc:List ByteArray} (h:Ev rules inp u L ml0 ml qs n acc) (hL:∀k∈L,k∈L') (hm:MLe ml ml'):Ev rules inp u L' ml0 ml' qs n acc:=
 ⟨h.len,h.out,fun m h1 h2 h3 k h4=>by
  rcases h.ins m h1 h2 h3 k h4 with ⟨h5,h6⟩ | ⟨h5,h6,h7⟩
  ·
   obtain ⟨v,hv⟩:=Option.isSome_iff_exists.1 h6;exact .inl ⟨h5,by rw [hm _ _ hv];rfl⟩
  exact .inr ⟨h5,hL k h6,h7⟩⟩
theorem Ev.snoc {u:Nat→Nat} {L:List Nat} {ml0 ml:List (Key × Value)} {qs:List Ask} {n:Nat} {acc:List ByteArray} (h:Ev rules inp u L ml0 ml qs n acc) (s:ByteArray)
  (ho:∀(h:n<qs.length),outside rules qs[n]=true→s=valOf rules inp (askKey rules qs[n]))
  (hi:∀(h:n<qs.length),outside rules qs[n]=false→∀k:Nat,qs[n].n=k→(s=itoa (rv rules inp k:Int)∧(mget ml (ofK rules (k:Int))).isSome=true)∨(s=itoa (u k:Int)∧k∈L∧mget ml0 (ofK rules (k:Int))=none)) :
  Ev rules inp u L ml0 ml qs (n+1) (acc++[s]) where
 len:=by simp [h.len]
 out m h1 h2 h3:=by
  rcases Nat.lt_or_ge m n with h4 | h4
  ·
   rw [List.getElem?_append_left (by rw [h.len];exact h4)];exact h.out m h1 h4 h3
  have:m=n:=by omega
  subst this;rw [List.getElem?_append_right (by rw [h.len];omega),h.len,ho h1 h3];simp
 ins m h1 h2 h3 k hk:=by
  rcases Nat.lt_or_ge m n with h4 | h4
  ·
   rw [List.getElem?_append_left (by rw [h.len];exact h4)];exact h.ins m h1 h4 h3 k hk
  have:m=n:=by omega
  subst this;rw [List.getElem?_append_right (by rw [h.len];omega),h.len]
  simpa using hi h1 h3 k hk
theorem Ev.val (hR:rulesOk rules) {i0:Nat} {L:List Nat} {u:Nat→Nat} {ml0 ml:List (Key × Value)} {j:Nat} {acc:List ByteArray} (hr:Rounds rules inp i0 L u) (hj:j<rules.length) (hrj:ringAt rules j=true) (h:Ev rules inp u L ml0 ml rules[j].asks rules[j].asks.length acc) :
  bitsV rules[j].c.toNat (acc.map valS)≤65535∧sub16 (bitsV rules[j].c.toNat (acc.map valS)) (rv rules inp j)∧sub16 (FF rules inp (eff rules inp u ml0) j) (bitsV rules[j].c.toNat (acc.map valS))∧
  sub16 (bitsV rules[j].c.toNat (acc.map valS)) (FF rules inp (eff rules inp u ml) j)∧(bitsV rules[j].c.toNat (acc.map valS)=u j→Settled rules inp L u j):=by
 obtain ⟨hlen,ho,hin⟩:=h;have h24:=hR.len
 -- an answer, by its place
 have hget:∀m (hm:m<rules[j].asks.length),∃s,acc[m]?=some s∧s∈acc:=fun m hm=>⟨acc[m],getElem_some (by omega),List.getElem_mem _⟩
 have hbase:sub16 (baseV rules (valOf rules inp) j) (bitsV rules[j].c.toNat (acc.map valS)):=fun b hb=>by
  rw [bitsV_bit]
  rcases (baseV_bit hj b).1 hb with h1 | ⟨x,h1,h2,h3⟩
  ·
   exact .inl h1
  obtain ⟨m,hm,rfl⟩:=List.mem_iff_getElem.1 h1;exact .inr ⟨_,List.mem_map.2 ⟨_,List.mem_of_getElem? (ho m hm hm h2),rfl⟩,h3⟩
 have hring:∀k,ringAsk rules j k→∃m,∃hm:m<rules[j].asks.length,outside rules rules[j].asks[m]=false∧rules[j].asks[m].n=(k:Int):=fun k hk=>by
  obtain ⟨r,x,h1,_,h3,h4,h5,h6⟩:=hk;rw [getElem_some hj] at h1
  simp at h1
  subst h1;obtain ⟨m,hm,rfl⟩:=List.mem_iff_getElem.1 h3;exact ⟨m,hm,by unfold outside;rw [h4,h5];simp [h6],h5⟩
 have hmem:∀(m:Nat) (s:ByteArray) (b:Nat),acc[m]?=some s→(valS s).testBit b=true→(bitsV rules[j].c.toNat (acc.map valS)).testBit b=true:=fun m s b h1 h2=>by
  rw [bitsV_bit];exact .inr ⟨_,List.mem_map.2 ⟨_,List.mem_of_getElem? h1,rfl⟩,h2⟩
 have hup:∀(v:Nat→Nat),(∀k,v k≤65535)→(∀k:Nat,(mget ml (ofK rules (k:Int))).isSome=true→sub16 (rv rules inp k) (v k))→(∀k:Nat,sub16 (u k) (v k))→sub16 (bitsV rules[j].c.toNat (acc.map valS)) (FF rules inp v j):=fun v hv h1 h2 b hb=>by
  rw [FF_bit hR hv hj hrj];rw [bitsV_bit] at hb
  rcases hb with hb | ⟨_,hs,hb⟩
  ·
   exact .inl ((baseV_bit hj b).2 (.inl hb))
  obtain ⟨s,hs2,rfl⟩:=List.mem_map.1 hs;obtain ⟨m,hm,rfl⟩:=List.mem_iff_getElem.1 hs2
  have hm':m<rules[j].asks.length:=by omega
  cases hout:outside rules rules[j].asks[m]
  ·
   obtain ⟨k,h3,h4,h5⟩:=inside_ask hR hj hrj (List.getElem_mem hm') hout
   have hkn:rules[j].asks[m].n=(k:Int):=by
    obtain ⟨q,h6,h7⟩:=mayOk_key hj hR.len (ring_asks hR hj hrj (List.getElem_mem hm'))
    have hc:rules[j].asks[m].cell=false:=by unfold outside at hout;rw [Bool.or_eq_false_iff] at hout;exact hout.1
    rw [hc] at h7;simp only [Bool.false_eq_true,if_false] at h7
    unfold askKey at h4
    rw [hc,h6] at h4;simp only [Bool.false_eq_true,if_false] at h4;have h8:=number_ofK h7.1 (by omega:q≤99);rw [h4,number_ofK h5 (by omega)] at h8;rw [h6];omega
   refine .inr ⟨k,h3,?_⟩
   rcases hin m hm' hm' hout k hkn with ⟨h6,h7⟩ | ⟨h6,h7,_⟩
   ·
    rw [getElem_some hm] at h6
    simp at h6
    rw [h6,valS_itoa (rv_le k)] at hb;exact h1 k h7 b hb
   rw [getElem_some hm] at h6
   simp at h6
   rw [h6,valS_itoa (hr.le k)] at hb;exact h2 k b hb
  refine .inl ((baseV_bit hj b).2 (.inr ⟨_,List.getElem_mem hm',hout,?_⟩));have h6:=ho m hm' hm' hout;rw [getElem_some hm] at h6
  simp at h6
  rw [← h6];exact hb
 refine ⟨?_,?_,?_,?_,fun he=>⟨?_,fun k hk=>⟨fun hkL=>?_,fun hkL=>?_⟩⟩⟩
 ·
  refine bitsV_le (ring_c hR hj hrj).2 fun y hy=>?_;obtain ⟨_,_,rfl⟩:=List.mem_map.1 hy;exact valS_le _
 ·
  intro b hb;have h1:=hup (rv rules inp) rv_le (fun _ _ _ h=>h) hr.low b hb;rw [FF_bit hR rv_le hj hrj] at h1;exact (rv_bit hR hj hrj b).2 h1
 ·
  intro b hb;rw [FF_bit hR (eff_le hr.le) hj hrj] at hb
  rcases hb with hb | ⟨k,h1,h2⟩
  ·
   exact hbase b hb
  obtain ⟨m,hm,h3,h4⟩:=hring k h1
  rcases hin m hm hm h3 k h4 with ⟨h6,h7⟩ | ⟨h6,h7,h8⟩
  ·
   exact hmem m _ b h6 (by rw [valS_itoa (rv_le k)];exact eff_low hr.low k b h2)
  refine hmem m _ b h6 (by rw [valS_itoa (hr.le k)];unfold eff at h2;rw [h8] at h2;simpa using h2)
 ·
  refine hup _ (eff_le hr.le) (fun k hk b hb=>?_) fun k b hb=>?_
  ·
   unfold eff;rw [if_pos hk];exact hb
  unfold eff;split
  ·
   exact hr.low k b hb
  exact hb
 ·
  rw [← he];exact hbase
 ·
  intro b hb;rw [← he];obtain ⟨m,hm,h3,h4⟩:=hring k hk
  rcases hin m hm hm h3 k h4 with ⟨h6,h7⟩ | ⟨h6,h7,h8⟩
  ·
   exact hmem m _ b h6 (by rw [valS_itoa (rv_le k)];exact hr.low k b hb)
  exact hmem m _ b h6 (by rw [valS_itoa (hr.le k)];exact hb)
 intro b hb;rw [← he];obtain ⟨m,hm,h3,h4⟩:=hring k hk
 rcases hin m hm hm h3 k h4 with ⟨h6,h7⟩ | ⟨h6,h7,h8⟩
 ·
  exact hmem m _ b h6 (by rw [valS_itoa (rv_le k)];exact hb)
 exact absurd h7 hkL
def AtOk (rules:List Rule) (L:List Nat) (v:Nat→Nat) (am:List (Key × Value)):Prop:=
 (∀j∈L,mget am (ofK rules (j:Int))=some (.string (itoa (v j:Int))))∧∀k,(∀j∈L,k≠ofK rules (j:Int))→mget am k=none
theorem ofK_inj (hR:rulesOk rules) {i j:Nat} (hi:i<rules.length) (hj:j<rules.length) (h:ofK rules (i:Int)=ofK rules (j:Int)):i=j:=by
 have h24:=hR.len;have h1:=number_ofK hi (by omega);rw [h,number_ofK hj (by omega)] at h1
 omega
theorem AtOk.meet (hR:rulesOk rules) {L:List Nat} {v:Nat→Nat} {am:List (Key × Value)} (h:AtOk rules L v am) (hL:∀j∈L,j<rules.length) {j:Nat} (hj:j<rules.length) (hn:j∉L) (hv:v j=0):AtOk rules (L++[j]) v (mput am (ofK rules (j:Int)) (.string ⟨#[48]⟩)):=by
 have e0:itoa ((0:Nat):Int)=⟨#[48]⟩:=by decide +kernel
 refine ⟨fun k hk=>?_,fun k hk=>?_⟩
 ·
  rw [mget_put]
  rcases List.mem_append.1 hk with hk | hk
  ·
   rw [if_neg (fun e=>hn (by have:=ofK_inj hR hj (hL k hk) e;rw [this];exact hk))];exact h.1 k hk
  simp at hk;subst hk
  rw [if_pos rfl,hv,e0]
 rw [mget_put,if_neg (fun e=>hk j (by simp) e.symm)]
 exact h.2 k fun m hm=>hk m (by simp [hm])
theorem AtOk.set (hR:rulesOk rules) {L:List Nat} {v:Nat→Nat} {am:List (Key × Value)} (h:AtOk rules L v am) (hL:∀j∈L,j<rules.length) {j:Nat} (hj:j∈L) (u:Nat):AtOk rules L (setV v j u) (mput am (ofK rules (j:Int)) (.string (itoa (u:Int)))):=by
 refine ⟨fun k hk=>?_,fun k hk=>?_⟩
 ·
  rw [mget_put]
  unfold setV
  by_cases e:k=j
  ·
   subst e;rw [if_pos rfl,if_pos rfl]
  rw [if_neg (fun e2=>e (ofK_inj hR (hL k hk) (hL j hj) e2.symm)),if_neg e];exact h.1 k hk
 rw [mget_put,if_neg (fun e=>hk j hj e.symm)];exact h.2 k hk
end
theorem inside_key {rules:List Rule} (hR:rulesOk rules) {i:Nat} (hi:i<rules.length) (hr:ringAt rules i=true) {x:Ask} (hx:x∈rules[i].asks) (ho:outside rules x=false) {k:Nat} (hk:x.n=(k:Int)):k<rules.length∧ringAt rules k=true∧askKey rules x=ofK rules (k:Int):=by
 have hm:=ring_asks hR hi hr hx
 unfold outside at ho
 rw [Bool.or_eq_false_iff] at ho;rw [ho.1,hk] at hm;refine ⟨(ring_may hR hi hr hm).1,?_,?_⟩
 ·
  have:=ho.2;rw [hk] at this;simpa using this
 unfold askKey;rw [ho.1,hk];rfl
theorem rulesOk.hb {rules:List Rule} (h:rulesOk rules):∀x∈rules,0≤x.c∧x.c≤65535∧x.asks.length≤1000:=fun x hx=>by
 obtain ⟨i,hi,rfl⟩:=List.mem_iff_getElem.1 hx;obtain ⟨h1,_,h3⟩:=h.at hi
 unfold endOk at h3
 split at h3 <;> simp at h3 <;> omega
theorem turn28_ofK {rules:List Rule} {i:Nat} (hi:i<rules.length) (h99:i≤99) (l:List ByteArray):turn28 rules (ofK rules (i:Int)) l=turnV rules (ofK rules (i:Int)) l:=by
 unfold turn28;rw [if_pos (by rw [ofK_kind hi h99];split <;> simp)]
theorem leastK_ring {rules:List Rule} {i:Nat} (hi:i<rules.length) (h99:i≤99) (hr:ringAt rules i=true):leastK (ofK rules (i:Int))=⟨#[48]⟩:=by
 unfold leastK;rw [ofK_kind hi h99,hr];rfl
theorem mput_self:∀{l:List (Key × Value)} {k:Key} {v:Value},mget l k=some v→mput l k v=l:=by
 intro l
 induction l with
 | nil=>intro k v h;simp [mget] at h
 | cons p r ih=>
  obtain ⟨k0,v0⟩:=p;intro k v h;simp only [mget] at h;simp only [mput]
  split
  ·
   rename_i e;rw [if_pos e] at h;simp at h;rw [h,e]
  rename_i e;rw [if_neg e] at h;rw [ih h]
theorem notLang_ofK {rules:List Rule} {i:Nat} (hi:i<rules.length) (h99:i≤99):notLang (ofK rules (i:Int)):=by
 unfold notLang;rw [ofK_kind hi h99];split <;> omega
end Go.Rc

namespace Go.Rc
open Go
theorem decFrom_canon:∀(l:List UInt8) (u:Nat),0<u→0≤decFrom l (u:Int)→∃v:Nat,decFrom l (u:Int)=v∧Lib.decDigits v=Lib.decDigits u++l
 | [],u,_,_=>⟨u,rfl,by simp⟩
 | c::r,u,hu,h=>by
  unfold decFrom at h ⊢
  by_cases hc:c.toNat<48∨57<c.toNat
  ·
   rw [if_pos hc] at h;omega
  rw [if_neg hc] at h ⊢;obtain ⟨d,hd⟩:∃d:Nat,c.toNat=48+d:=⟨c.toNat - 48,by omega⟩
  have hd9:d<10:=by omega
  have e:10*(u:Int)+((c.toNat:Int) - 48)=((10*u+d:Nat):Int):=by omega
  rw [e] at h ⊢;obtain ⟨v,h1,h2⟩:=decFrom_canon r (10*u+d) (by omega) h;refine ⟨v,h1,?_⟩;rw [h2,Lib.decDigits,dif_neg (by omega),show (10*u+d) / 10=u by omega,show (10*u+d) % 10=d by omega,List.append_assoc]
  have:UInt8.ofNat (48+d)=c:=by rw [← hd];exact UInt8.ofNat_toNat
  rw [this]
  rfl
theorem decimal_canon {s:ByteArray} (h:0≤decimal s):∃v:Nat,decimal s=v∧s=itoa (v:Int):=by
 unfold decimal at h ⊢
 by_cases hc:s.size=0∨9<s.size∨(s.data.toList.head?=some 48∧s.size≠1)
 ·
  rw [if_pos hc] at h;omega
 rw [if_neg hc] at h ⊢;obtain ⟨d⟩:=s
 have key:∃v:Nat,decFrom d.toList 0=v∧Lib.decDigits v=d.toList:=by
  have hsz:(⟨d⟩:ByteArray).size=d.toList.length:=by simp [ByteArray.size]
  rw [hsz] at hc;simp only at hc h ⊢
  cases hl:d.toList with
  | nil=>rw [hl] at hc;simp at hc
  | cons c r=>
   rw [hl] at hc h
   unfold decFrom at h ⊢
   by_cases hn:c.toNat<48∨57<c.toNat
   ·
    rw [if_pos hn] at h;omega
   rw [if_neg hn] at h ⊢;obtain ⟨e,he⟩:∃e:Nat,c.toNat=48+e:=⟨c.toNat - 48,by omega⟩
   have h1:10*(0:Int)+((c.toNat:Int) - 48)=(e:Nat):=by omega
   rw [h1] at h ⊢
   have hce:UInt8.ofNat (48+e)=c:=by rw [← he];exact UInt8.ofNat_toNat
   by_cases h0:e=0
   ·
    subst h0
    have hc48:c=48:=by rw [← hce];rfl
    have hr:r=[]:=by
     subst hc48
     simp at hc
     cases r with
     | nil=>rfl
     | cons x t=>simp at hc
    subst hr;exact ⟨0,rfl,by rw [Lib.decDigits,dif_pos (by omega),hce]⟩
   obtain ⟨v,h2,h3⟩:=decFrom_canon r e (by omega) h;refine ⟨v,h2,?_⟩;rw [h3,Lib.decDigits,dif_pos (by omega),hce]
   rfl
 obtain ⟨v,h1,h2⟩:=key;refine ⟨v,h1,?_⟩
 have e:Lib.itoa (v:Int)=Lib.decDigits v:=by unfold Lib.itoa;rw [if_neg (by omega)];rfl
 unfold itoa
 rw [e,h2]
theorem valS_none {s:ByteArray} (h:∀n:Nat,n≤65535→s≠itoa (n:Int)):valS s=0:=by
 unfold valS
 split
 ·
  rfl
 rename_i hd
 obtain ⟨v,h1,h2⟩:=decimal_canon (show 0≤decimal s by omega);exact absurd h2 (h v (by omega))
theorem hiFrom_ge (l:List Rule) (m:Nat):m≤hiFrom l m:=by unfold hiFrom;omega
theorem block_wide {rules:List Rule} {i:Nat} (hi:i<rules.length):(block rules (i:Int)).1≤(block rules (i:Int)).2:=by
 have hb:block rules (i:Int)=if ringAt rules i then ((blockLo rules i:Int),(hiFrom rules (i+1):Int)) else ((i:Int),(i:Int)+1):=by
  unfold block;rw [if_neg (by omega)];rfl
 rw [hb];have h1:=blockLo_le rules i;have h2:=hiFrom_ge rules (i+1)
 split <;> simp only [] <;> omega
theorem finalV_cons (kind:Int) (c:Nat) (l:List Nat):finalV kind 0 (c::l)=finalV kind c l:=by
 unfold finalV sumV mostV bitsV
 simp
end Go.Rc

namespace Go.Rc
open Go
theorem mdel_put {κ:Type} [DecidableEq κ]:∀{l:List (κ × Value)} {k:κ} {v:Value},mget l k=none→mdel (mput l k v) k=l
 | [],k,v,_=>by simp [mput,mdel]
 | (k0,v0)::r,k,v,h=>by
  by_cases e:k0=k
  ·
   subst e;simp [mget] at h
  simp only [mget,if_neg e] at h;simp only [mput,if_neg e,mdel,mdel_put h]
def FZ.row (b:Nat) (r:List Value):FZ:=
 ⟨fun Z w=>Z b∧b<w.heap.size∧w.rangeAt b 0 r,fun hZ h=>⟨hZ _ h.1,h.2⟩,fun hs hc h=>⟨h.1,Nat.lt_of_lt_of_le h.2.1 hs,fun j v hv=>by rw [← h.2.2 j v hv];exact World.cell?_of_block (a:=⟨b,_,none⟩) (hc b h.1 h.2.1)⟩⟩
def SD.FV (D:SD) (P:Program) (rules:List Rule) (x:Bas):FZ:=(D.F P rules x).and (FZ.row D.s (D.cells x))
theorem SD.FV.rg {D:SD} {P:Program} {rules:List Rule} {x:Bas} {Z:Nat→Prop} {w:World} (h:(D.FV P rules x).p Z w):(As.rg D.s 0 (D.cells x)).ok Z w:=As.mkrg h.2.1 h.2.2.1 h.2.2.2
theorem mput_mput {κ:Type} [DecidableEq κ]:∀(l:List (κ × Value)) (k:κ) (v u:Value),mput (mput l k v) k u=mput l k u
 | [],k,v,u=>by simp [mput]
 | (k0,v0)::r,k,v,u=>by
  by_cases e:k0=k
  ·
   simp [mput,e]
  simp [mput,e,mput_mput r k v u]
section
variable {rules:List Rule} {inp:List Inp}
def AlOk (rules:List Rule) (i:Nat) (al:List (Key × Value)):Prop:=∀j:Nat,j≤i→j<rules.length→mget al (ofK rules (j:Int))=none
theorem AlOk.mono {i m:Nat} {al:List (Key × Value)} (h:AlOk rules i al) (hm:m≤i):AlOk rules m al:=fun j hj hl=>h j (by omega) hl
theorem AlOk.put (hR:rulesOk rules) {i m:Nat} {al:List (Key × Value)} (h:AlOk rules i al) (hi:i<rules.length) (hm:m<i) (v:Value):AlOk rules m (mput al (ofK rules (i:Int)) v):=fun j hj hl=>by
 rw [mget_put,if_neg (fun e=>by have:=ofK_inj hR hi hl e;omega)];exact h j (by omega) hl
theorem AlOk.nil (i:Nat):AlOk rules i []:=fun _ _ _=>rfl
noncomputable def readsV (rules:List Rule) (inp:List Inp) (i:Nat):List Key:=(runA (turnV rules (ofK rules (i:Int))) (valOf rules inp) (asksN rules i)).1
noncomputable def readsK (rules:List Rule) (inp:List Inp) (k:Key):List Key:=if isInput k then [] else readsV rules inp (number k).toNat
theorem readsK_ofK (hR:rulesOk rules) {i:Nat} (hi:i<rules.length):readsK rules inp (ofK rules (i:Int))=readsV rules inp i:=by
 have h24:=hR.len
 unfold readsK
 rw [if_neg (by rw [isInput_ofK hi (by omega)];simp),number_ofK hi (by omega),Int.toNat_natCast]
theorem MayAsk.cyc (hR:rulesOk rules) {i:Nat} {a:Key} (h:MayAsk rules i a):isCyclic a=decide (a.kind=32):=by
 have h24:=hR.len
 rcases h with ⟨n,h1,rfl⟩ | ⟨m,h1,rfl,_⟩
 ·
  rw [isCyclic_cellK (by omega)]
  unfold cellK
  rw [if_neg (by omega)]
  rfl
 rw [isCyclic_ofK h1 (by omega),ofK_kind h1 (by omega)]
 cases ringAt rules m <;> simp
theorem MayAsk.al (hR:rulesOk rules) {i0 j:Nat} {a:Key} {al:List (Key × Value)} (h:MayAsk rules j a) (hr:ringAt rules j=true) (hc:isCyclic a=false) (hin:isInput a=false) (hb:blockLo rules j≤i0) (hal:AlOk rules i0 al):AlOk rules (number a).toNat al:=by
 have h24:=hR.len
 rcases h with ⟨n,h1,rfl⟩ | ⟨m,h1,rfl,_,_,_,h5⟩
 ·
  rw [isInput_cellK (by omega)] at hin;cases hin
 rw [isCyclic_ofK h1 (by omega)] at hc;rw [number_ofK h1 (by omega),Int.toNat_natCast];exact hal.mono (by have:=h5 hc hr;omega)
structure RI (rules:List Rule) (inp:List Inp) (i0:Nat) (qs:List Ask) (u1:Nat→Nat) (L1:List Nat) (ch1:Bool) (ml2:List (Key × Value)) (n:Nat) (L2:List Nat) (am2:List (Key × Value)) (ch2:Bool) (ml3:List (Key × Value)) (acc:List ByteArray):Prop where
 hn:n≤qs.length
 rd:Rounds rules inp i0 L2 u1
 up:UpOk rules inp L2 u1 ml3
 at_:AtOk rules L2 u1 am2
 m:MemoOk rules inp ml3
 le:MLe ml2 ml3
 p:pot rules L2 u1≤pot rules L1 u1∧(ch2=true→ch1=true∨pot rules L2 u1<pot rules L1 u1)
 c:ch2=false→L2=L1∧ch1=false
 pre:L1 <+: L2
 ev:Ev rules inp u1 L2 ml2 ml3 qs n acc
variable {i0 j n:Nat} {u1:Nat→Nat} {L1 L2:List Nat} {ch1 ch2:Bool} {ml2 ml3 ml4 am2:List (Key × Value)} {acc:List ByteArray}
theorem RI.start {am1:List (Key × Value)} {qs:List Ask} (h1:Rounds rules inp i0 L1 u1) (h2:UpOk rules inp L1 u1 ml2) (h3:AtOk rules L1 u1 am1) (h4:MemoOk rules inp ml2):RI rules inp i0 qs u1 L1 ch1 ml2 0 L1 am1 ch1 ml2 []:=
 ⟨Nat.zero_le _,h1,h2,h3,h4,MLe.refl _,⟨Nat.le_refl _,fun h=>.inl h⟩,fun h=>⟨rfl,h⟩,List.prefix_refl _,Ev.start⟩
theorem RI.done (hR:rulesOk rules) (hj:j<rules.length) (hr:ringAt rules j=true) (h:RI rules inp i0 rules[j].asks u1 L1 ch1 ml2 n L2 am2 ch2 ml3 acc) (hn:n<rules[j].asks.length) {vv:Value} (hv:mget ml3 (askKey rules rules[j].asks[n])=some vv) :
  RI rules inp i0 rules[j].asks u1 L1 ch1 ml2 (n+1) L2 am2 ch2 ml3 (acc++[valOf rules inp (askKey rules rules[j].asks[n])]):=
 {h with
  hn:=hn
  ev:=h.ev.snoc _ (fun _ _=>rfl) fun _ ho k hk=>.inl (by
   obtain ⟨hk1,hk2,hk3⟩:=inside_key hR hj hr (List.getElem_mem hn) ho hk;rw [hk3] at hv ⊢;exact ⟨by rw [valOf_ofK hR hk1,valI_ring hR hk1 hk2],by rw [hv];rfl⟩)}
theorem RI.low (hR:rulesOk rules) (hj:j<rules.length) (hr:ringAt rules j=true) (h:RI rules inp i0 rules[j].asks u1 L1 ch1 ml2 n L2 am2 ch2 ml3 acc) (hn:n<rules[j].asks.length) (hc:isCyclic (askKey rules rules[j].asks[n])=false) (h4:MemoOk rules inp ml4) (hle:MLe ml3 ml4) :
  RI rules inp i0 rules[j].asks u1 L1 ch1 ml2 (n+1) L2 am2 ch2 ml4 (acc++[valOf rules inp (askKey rules rules[j].asks[n])]):=
 {h with
  hn:=hn
  up:=h.up.mono hR h.rd hle
  m:=h4
  le:=h.le.trans hle
  ev:=(h.ev.mono (fun _ h=>h) hle).snoc _ (fun _ _=>rfl) fun _ ho k hk=>by
   have h24:=hR.len;obtain ⟨hk1,hk2,hk3⟩:=inside_key hR hj hr (List.getElem_mem hn) ho hk;rw [hk3,isCyclic_ofK hk1 (by omega),hk2] at hc
   cases hc}
theorem RI.inside (hR:rulesOk rules) (hj:j<rules.length) (hr:ringAt rules j=true) (hn:n<rules[j].asks.length) (hc:isCyclic (askKey rules rules[j].asks[n])=true) :
  ∃kk:Nat,askKey rules rules[j].asks[n]=ofK rules (kk:Int)∧kk<rules.length∧ringAt rules kk=true∧ringAsk rules j kk∧outside rules rules[j].asks[n]=false:=by
 have hmem:=List.getElem_mem hn
 have hout:outside rules rules[j].asks[n]=false:=by
  cases ho:outside rules rules[j].asks[n]
  ·
   rfl
  have:=askKey_out hR hj hr hmem ho;rw [hc] at this;cases this
 obtain ⟨kk,hkk,hka,hkl⟩:=inside_ask hR hj hr hmem hout;exact ⟨kk,hka,hkl,hkk.lt.2.2.2,hkk,hout⟩
theorem RI.snocR (hR:rulesOk rules) (hj:j<rules.length) (hr:ringAt rules j=true) {L3:List Nat} (h:Ev rules inp u1 L3 ml2 ml3 rules[j].asks n acc) (hle:MLe ml2 ml3) (hn:n<rules[j].asks.length) {kk:Nat} (hka:askKey rules rules[j].asks[n]=ofK rules (kk:Int)) (hkl:kk<rules.length) (hout:outside rules rules[j].asks[n]=false)
  (hno:mget ml3 (askKey rules rules[j].asks[n])=none) (hL:kk∈L3):Ev rules inp u1 L3 ml2 ml3 rules[j].asks (n+1) (acc++[itoa (u1 kk:Int)]):=by
 have hml2:mget ml2 (ofK rules (kk:Int))=none:=by
  cases h:mget ml2 (ofK rules (kk:Int)) with
  | none=>rfl
  | some v=>have:=hle _ _ h;rw [← hka,hno] at this;cases this
 refine h.snoc _ (fun _ ho=>by rw [hout] at ho;cases ho) fun _ ho k hk=>?_;obtain ⟨hk1,hk2,hk3⟩:=inside_key hR hj hr (List.getElem_mem hn) hout hk;rw [hka] at hk3
 have:=ofK_inj hR hkl hk1 hk3
 subst this;exact .inr ⟨rfl,hL,hml2⟩
theorem RI.meet (hR:rulesOk rules) (hj:j<rules.length) (hr:ringAt rules j=true) (h:RI rules inp i0 rules[j].asks u1 L1 ch1 ml2 n L2 am2 ch2 ml3 acc) (hjm:j∈L1) (hn:n<rules[j].asks.length) (hc:isCyclic (askKey rules rules[j].asks[n])=true)
  (hno:mget ml3 (askKey rules rules[j].asks[n])=none) (hnow:mget am2 (askKey rules rules[j].asks[n])=none) :
  ∃kk:Nat,askKey rules rules[j].asks[n]=ofK rules (kk:Int)∧kk<rules.length∧ringAt rules kk=true∧RI rules inp i0 rules[j].asks u1 L1 ch1 ml2 (n+1) (L2++[kk]) (mput am2 (askKey rules rules[j].asks[n]) (.string ⟨#[48]⟩)) true ml3 (acc++[⟨#[48]⟩]):=by
 obtain ⟨kk,hka,hkl,hkr,hkk,hout⟩:=RI.inside hR hj hr hn hc
 have hkL:kk∉L2:=fun hm=>by have:=h.at_.1 kk hm;rw [← hka,hnow] at this;cases this
 have hk0:=h.rd.out kk hkL;have hre:RReach rules i0 kk:=.step (h.rd.reach j (h.pre.subset hjm)) hkk;have hrd3:=h.rd.meet hkl hkr hkL hre;have hlt:=h.rd.meet_lt hkl hkr hkL hre;have hpm:=pot_meet (v:=u1) (j:=kk) hlt;have hev:=RI.snocR hR hj hr (h.ev.mono (L':=L2++[kk]) (fun _ h=>by simp [h]) (MLe.refl _)) h.le hn hka hkl hout hno (by simp)
 have e0:itoa ((0:Nat):Int)=⟨#[48]⟩:=by decide +kernel
 rw [hk0,e0] at hev;refine ⟨kk,hka,hkl,hkr,⟨hn,hrd3,h.up.meet hk0,?_,h.m,h.le,⟨Nat.le_of_lt (Nat.lt_of_lt_of_le hpm h.p.1),fun _=>.inr (Nat.lt_of_lt_of_le hpm h.p.1)⟩,fun h=>(by cases h),h.pre.trans (List.prefix_append _ _),hev⟩⟩;rw [hka];exact h.at_.meet hR (fun k hk=>(h.rd.ring k hk).1) hkl hkL hk0
theorem RI.have_ (hR:rulesOk rules) (hj:j<rules.length) (hr:ringAt rules j=true) (h:RI rules inp i0 rules[j].asks u1 L1 ch1 ml2 n L2 am2 ch2 ml3 acc) (hn:n<rules[j].asks.length) (hc:isCyclic (askKey rules rules[j].asks[n])=true)
  (hno:mget ml3 (askKey rules rules[j].asks[n])=none) {v:Value} (hnow:mget am2 (askKey rules rules[j].asks[n])=some v) :
  ∃s:ByteArray,v=.string s∧s.size≤1000∧RI rules inp i0 rules[j].asks u1 L1 ch1 ml2 (n+1) L2 am2 ch2 ml3 (acc++[s]):=by
 obtain ⟨kk,hka,hkl,hkr,hkk,hout⟩:=RI.inside hR hj hr hn hc
 have hkL:kk∈L2:=by
  by_cases hm:kk∈L2
  ·
   exact hm
  have:=h.at_.2 (ofK rules (kk:Int)) (fun k hk e=>hm (by have:=ofK_inj hR hkl (h.rd.ring k hk).1 e;rw [this];exact hk))
  rw [← hka,hnow] at this;cases this
 have hg:=h.at_.1 kk hkL;rw [← hka,hnow] at hg;simp only [Option.some.injEq] at hg;refine ⟨_,hg,?_,{h with hn:=hn,ev:=RI.snocR hR hj hr h.ev h.le hn hka hkl hout hno hkL}⟩;have hle:=h.rd.le kk
 have e:Lib.itoa (u1 kk:Int)=Lib.decDigits (u1 kk):=by unfold Lib.itoa;rw [if_neg (by omega)];rfl
 have:(itoa (u1 kk:Int)).size=(Lib.decDigits (u1 kk)).length:=by unfold itoa ByteArray.size;rw [e];simp
 rw [this,Lib.decDigits_length]
 have:=nDigits_le 5 (u1 kk) (by omega)
 omega
end
end Go.Rc

namespace Go.Rc
open Go
/-! ### keys in order -/
def insK (k:Key):List Key→List Key
 | []=>[k]
 | x::r=>if cmpK x k<0 then x::insK k r else if x=k then x::r else k::x::r
def sortK (l:List Key):List Key:=l.foldl (fun out k=>insK k out) []
theorem insK_at:∀(l:List Key) (k:Key) (p:Nat),p≤l.length→(∀q x,q<p→l[q]?=some x→cmpK x k<0)→(∀x,l[p]?=some x→0≤cmpK x k)→insK k l=if l[p]?=some k then l else l.take p++[k]++l.drop p:=by
 intro l
 induction l with
 | nil=>intro k p hp _ _;simp at hp;subst hp;rfl
 | cons x r ih=>
  intro k p hp h1 h2
  cases p with
  | zero=>
   have:=h2 x rfl
   simp only [insK];rw [if_neg (by omega)]
   by_cases e:x=k
   ·
    subst e;simp
   rw [if_neg e];simp [e]
  | succ p=>
   have:=h1 0 x (by omega) rfl
   simp only [insK];rw [if_pos this,ih k p (by simpa using hp) (fun q y hq hy=>h1 (q+1) y (by omega) (by simpa using hy)) (fun y hy=>h2 y (by simpa using hy))];simp only [List.getElem?_cons_succ]
   split <;> simp
theorem insK_len (k:Key):∀l,(insK k l).length≤l.length+1:=by
 intro l
 induction l with
 | nil=>simp [insK]
 | cons x r ih=>
  simp only [insK]
  split
  ·
   simp
   exact ih
  split <;> simp
theorem sortK_snoc (l:List Key) (k:Key):sortK (l++[k])=insK k (sortK l):=by simp [sortK]
theorem sortK_len (l:List Key):(sortK l).length≤l.length:=by
 have key:∀(l acc:List Key),(l.foldl (fun out k=>insK k out) acc).length≤acc.length+l.length:=by
  intro l
  induction l with
  | nil=>intro acc;simp
  | cons x r ih=>intro acc;have h1:=ih (insK x acc);have h2:=insK_len x acc;simp only [List.foldl_cons,List.length_cons];omega
 simpa [sortK] using key l []
theorem insK_mem (k:Key):∀(l:List Key) (x:Key),x∈insK k l↔x=k∨x∈l:=by
 intro l
 induction l with
 | nil=>intro x;simp [insK]
 | cons y r ih=>
  intro x;simp only [insK]
  split
  ·
   simp only [List.mem_cons,ih];constructor
   ·
    rintro (h | h | h) <;> simp [h]
   rintro (h | h | h) <;> simp [h]
  split
  ·
   rename_i e;subst e;simp
  simp
theorem sortK_mem (l:List Key) (x:Key):x∈sortK l↔x∈l:=by
 have key:∀(l acc:List Key),x∈l.foldl (fun out k=>insK k out) acc↔x∈acc∨x∈l:=by
  intro l
  induction l with
  | nil=>intro acc;simp
  | cons y r ih=>
   intro acc;simp only [List.foldl_cons,ih,insK_mem,List.mem_cons]
   constructor
   ·
    rintro ((h | h) | h) <;> simp [h]
   rintro (h | h | h) <;> simp [h]
 simpa [sortK] using key l []
def ltAt (out:List Key) (p:Nat) (x:Key):Bool:=match out[p]? with | some y=>decide (cmpK y x<0) | none=>false
/-! ### groups -/
def Ld (l:List Rec) (rev:Int) (a x:Key):Prop:=x∈(recOf l a).reads∧openR l rev x=true
inductive LeadsTo (l:List Rec) (rev:Int) (k:Key):Key→Prop where
 | one {x:Key}:Ld l rev k x→LeadsTo l rev k x
 | step {x y:Key}:LeadsTo l rev k x→Ld l rev x y→LeadsTo l rev k y
def TrueOf (m:List (Key × Value)) (P:Key→Prop):Prop:=∀k,(mget m k=some (.bool true)↔P k)∧(mget m k=none∨mget m k=some (.bool true))
open Classical in
noncomputable def leadsB (l:List Rec) (rev:Int) (k x:Key):Bool:=decide (LeadsTo l rev k x)
theorem leadsB_iff {l:List Rec} {rev:Int} {k x:Key}:leadsB l rev k x=true↔LeadsTo l rev k x:=by unfold leadsB;simp
noncomputable def grpB (l:List Rec) (rev:Int) (k:Key) (r:Rec):Bool:=decide (r.key≠k) && (leadsB l rev k r.key && leadsB l rev r.key k)
noncomputable def groupL (l:List Rec) (rev:Int) (k:Key) (rs:List Rec):List Key:=(rs.filter (grpB l rev k)).map (·.key)
theorem groupL_take {l:List Rec} {rev:Int} {k:Key} {i:Nat} (h:i<l.length):groupL l rev k (l.take (i+1))=if grpB l rev k l[i]=true then groupL l rev k (l.take i)++[l[i].key] else groupL l rev k (l.take i):=by
 rw [List.take_succ_eq_append_getElem h];simp only [groupL,List.filter_append,List.map_append]
 by_cases e:grpB l rev k l[i]=true <;> simp [e]
theorem groupL_len (l:List Rec) (rev:Int) (k:Key) (rs:List Rec):(groupL l rev k rs).length≤rs.length:=by simp only [groupL,List.length_map];exact List.length_filter_le _ _
theorem TrueOf.get {m:List (Key × Value)} {P:Key→Prop} (h:TrueOf m P) (k:Key) {b:Bool} (hb:b=true↔P k):(mget m k).getD (.bool false)=.bool b:=by
 obtain ⟨h1,h2⟩:=h k
 rcases h2 with h2 | h2
 ·
  rw [h2]
  cases b
  ·
   rfl
  have:=h1.2 (hb.1 rfl);rw [h2] at this;cases this
 rw [h2]
 have:=hb.2 (h1.1 h2)
 rw [this];rfl
theorem TrueOf.put {m:List (Key × Value)} {ys:List Key} (h:TrueOf m (·∈ys)) (x:Key):TrueOf (mput m x (.bool true)) (·∈ys++[x]):=fun k=>by
 rw [mget_put]
 by_cases e:x=k
 ·
  rw [if_pos e];simp [e]
 rw [if_neg e];obtain ⟨h1,h2⟩:=h k;refine ⟨?_,h2⟩;rw [h1];simp [Ne.symm e]
theorem TrueOf.congr {m:List (Key × Value)} {P Q:Key→Prop} (h:TrueOf m P) (hpq:∀k,P k↔Q k):TrueOf m Q:=fun k=>⟨(h k).1.trans (hpq k),(h k).2⟩
theorem TrueOf.nil:TrueOf [] (·∈([]:List Key)):=fun k=>by simp [mget]
theorem nodup_keys_le {L S:List Key} (h:L.Nodup) (hs:∀x∈L,x∈S):L.length≤S.length:=by
 induction L generalizing S with
 | nil=>simp
 | cons a r ih=>
  have ha:=hs a (by simp);rw [List.nodup_cons] at h
  have:=ih (S:=S.erase a) h.2 fun x hx=>by
   have hne:x≠a:=fun e=>h.1 (e ▸ hx);exact (List.mem_erase_of_ne hne).2 (hs x (by simp [hx]))
  rw [List.length_erase,if_pos ha] at this;have hp:0<S.length:=List.length_pos_of_mem ha
  simp;omega
theorem open_key {l:List Rec} {rev:Int} {x:Key} (h:openR l rev x=true):x∈l.map (·.key):=by
 unfold openR at h
 rw [Bool.and_eq_true] at h;obtain ⟨r,hr⟩:=Option.isSome_iff_exists.1 h.1
 unfold findR at hr
 have h1:=List.mem_of_find?_eq_some hr;have h2:=List.find?_some hr
 simp at h2
 exact List.mem_map.2 ⟨r,h1,h2⟩
theorem LeadsTo.opn {l:List Rec} {rev:Int} {k x:Key} (h:LeadsTo l rev k x):openR l rev x=true:=by
 cases h with
 | one h=>exact h.2
 | step _ h=>exact h.2
theorem leads_closed {l:List Rec} {rev:Int} {k:Key} {ys:List Key} (hs:∀x∈ys,LeadsTo l rev k x) (hc:∀y∈k::ys,∀x,Ld l rev y x→x∈ys) (x:Key):x∈ys↔LeadsTo l rev k x:=by
 refine ⟨hs x,fun h=>?_⟩
 induction h with
 | one h=>exact hc k (by simp) _ h
 | step _ h2 ih=>exact hc _ (by simp [ih]) _ h2
noncomputable def groupV (l:List Rec) (rev:Int) (k:Key):List Key:=if openR l rev k then sortK (k::groupL l rev k l) else [k]
def markR (rev:Int) (group:List Key) (dirty:Bool) (r:Rec):Rec:=if r.key∈group then (if dirty then {r with dirty:=true} else {r with verified:=rev}) else r
def markV (x:Bas) (group:List Key) (dirty:Bool):Bas:={x with recs:=x.recs.map (markR x.revision group dirty)}
def upNow (x:Bas) (k:Key):Bool:=(findR x.recs k).isSome && decide ((recOf x.recs k).verified=x.revision)
def changedV (val:Key→ByteArray) (x:Bas) (k:Key):Int:=
 if isInput k then (findI x.inputs k).changed
 else if (findR x.recs k).isSome && (decide ((recOf x.recs k).verified=x.revision) || decide (val k=(recOf x.recs k).value)) then (recOf x.recs k).changed else x.revision
def answerV (val:Key→ByteArray) (x:Bas) (k:Key):ByteArray:=if isCyclic k then val k else keptV x k
/-! ### a request -/
structure ES where
 b:Bas
 busy:List (Key × Value)
 ran:List Key
 e:Int
def ES.on (s:ES) (k:Key):Bool:=(mget s.busy k).isSome
def thereV (s:ES) (k:Key):Bool:=isInput k || ((s.on k && isCyclic k) || upNow s.b k)
mutual
noncomputable def upV (rules:List Rule) (val:Key→ByteArray):Nat→ES→Key→Option ES
 | 0,_,_=>none
 | f+1,s,k=>
  if s.e≠0∨isInput k=true then some s
  else if upNow s.b k then some s
  else if s.on k then (if isCyclic k then some s else some {s with e:=43})
  else (checkV rules val f {s with busy:=mput s.busy k (.bool true)} k 0).bind fun p=>
   (if p.2 then runV rules val f p.1 k [] [] else some p.1).bind fun s3=>some {s3 with busy:=mdel s3.busy k}
noncomputable def checkV (rules:List Rule) (val:Key→ByteArray):Nat→ES→Key→Nat→Option (ES × Bool)
 | 0,_,_,_=>none
 | f+1,s,k,at_=>
  if s.e≠0 then some (s,false)
  else if !(findR s.b.recs k).isSome || (recOf s.b.recs k).dirty then some (s,true)
  else if (recOf s.b.recs k).verified=s.b.revision then some (s,false)
  else
   match (checksV s.b.recs (groupV s.b.recs s.b.revision k))[at_]? with
   | none=>some ({s with b:=markV s.b (groupV s.b.recs s.b.revision k) false},false)
   | some c=>
    if thereV s c.read=false then (upV rules val f s c.read).bind fun s'=>checkV rules val f s' k at_
    else if (recOf s.b.recs c.member).verified<changedV val s.b c.read then
     some ((if isCyclic k then {s with b:=markV s.b (groupV s.b.recs s.b.revision k) true} else s),true)
    else checkV rules val f s k (at_+1)
noncomputable def runV (rules:List Rule) (val:Key→ByteArray):Nat→ES→Key→List Key→List ByteArray→Option ES
 | 0,_,_,_,_=>none
 | f+1,s,k,reads,answers=>
  if s.e≠0 then some s
  else if (turn28 rules k answers).done then
   (if !(findR s.b.recs k).isSome && decide (4000≤s.b.recs.length) then some {s with e:=45}
   else some {s with b:={s.b with recs:=putR s.b.recs (madeV s.b k (turn28 rules k answers).value reads)},ran:=s.ran++[k]})
  else (upV rules val f s (turn28 rules k answers).ask).bind fun s'=>
   if s'.e=0 then runV rules val f s' k (reads++[(turn28 rules k answers).ask]) (answers++[answerV val s'.b (turn28 rules k answers).ask]) else runV rules val f s' k reads answers
end
/-! ### a solver, as one thing -/
def As.solv (P:Program) (ST:Nat) (rules:List Rule) (x:Bas) (D:SD):As where
 fp y:=y=D.s∨y=D.m
 ok Z w:=D.s≠D.m∧Blk w D.s ST (D.cells x)∧(∃ml,MemoOk rules x.inputs ml∧KM Key.val w D.m ml)∧(D.F P rules x).p Z w
 lt:=fun ⟨_,h1,⟨_,_,h2⟩,_⟩ y hy=>by rcases hy with rfl | rfl;exact h1.lt;exact h2.lt
 mono hZ:=fun ⟨h0,h1,h2,h3⟩=>⟨h0,h1,h2,(D.F P rules x).mono hZ h3⟩
 st:=fun hs hc ⟨h0,h1,⟨ml,h2,h3⟩,h4⟩=>⟨h0,(As.blk D.s ST (D.cells x)).st (Z:=fun _=>False) hs (fun y hy hl=>hc y (.inl (.inl (by rcases hy with hy | hy;exact hy;exact hy.elim))) hl) h1,
  ⟨ml,h2,(As.map Key.val D.m ml).st (Z:=fun _=>False) hs (fun y hy hl=>hc y (.inl (.inr (by rcases hy with hy | hy;exact hy;exact hy.elim))) hl) h3⟩,(D.F P rules x).st hs (fun y hy hl=>hc y (.inr hy) hl) h4⟩
section
variable {w0 w w':World} {M Z:Nat→Prop} {l:List As} {A B C:As}
theorem St.split (h:St w0 M Z w (C::l)) (hA:A.ok Z w) (hB:B.ok Z w) (hfA:∀x,A.fp x→C.fp x) (hfB:∀x,B.fp x→C.fp x) (hd:∀x,A.fp x→¬B.fp x):St w0 M Z w (A::B::l):=by
 obtain ⟨hd1,hd2⟩:=List.pairwise_cons.1 h.dis;refine ⟨h.chg,h.zlt,?_,?_,?_,?_⟩
 ·
  intro D hD x hx hz;simp only [List.mem_cons] at hD
  rcases hD with rfl | rfl | hD
  ·
   exact h.zfp C (by simp) x (hfA x hx) hz
  ·
   exact h.zfp C (by simp) x (hfB x hx) hz
  exact h.zfp D (by simp [hD]) x hx hz
 ·
  intro D hD x hx;simp only [List.mem_cons] at hD
  rcases hD with rfl | rfl | hD
  ·
   exact h.org C (by simp) x (hfA x hx)
  ·
   exact h.org C (by simp) x (hfB x hx)
  exact h.org D (by simp [hD]) x hx
 ·
  refine List.pairwise_cons.2 ⟨fun D hD x hx hd'=>?_,List.pairwise_cons.2 ⟨fun D hD x hx hd'=>hd1 D hD x (hfB x hx) hd',hd2⟩⟩;simp only [List.mem_cons] at hD
  rcases hD with rfl | hD
  ·
   exact hd x hx hd'
  exact hd1 D hD x (hfA x hx) hd'
 intro D hD;simp only [List.mem_cons] at hD
 rcases hD with rfl | rfl | hD
 ·
  exact hA
 ·
  exact hB
 exact h.ok D (by simp [hD])
theorem St.join (h:St w0 M Z w (A::B::l)) (hC:C.ok Z w) (hf:∀x,C.fp x→A.fp x∨B.fp x):St w0 M Z w (C::l):=by
 obtain ⟨hd1,hd2⟩:=List.pairwise_cons.1 h.dis;obtain ⟨hd3,hd4⟩:=List.pairwise_cons.1 hd2;refine ⟨h.chg,h.zlt,?_,?_,?_,?_⟩
 ·
  intro D hD x hx hz;simp only [List.mem_cons] at hD
  rcases hD with rfl | hD
  ·
   rcases hf x hx with h1 | h1
   ·
    exact h.zfp A (by simp) x h1 hz
   exact h.zfp B (by simp) x h1 hz
  exact h.zfp D (by simp [hD]) x hx hz
 ·
  intro D hD x hx;simp only [List.mem_cons] at hD
  rcases hD with rfl | hD
  ·
   rcases hf x hx with h1 | h1
   ·
    exact h.org A (by simp) x h1
   exact h.org B (by simp) x h1
  exact h.org D (by simp [hD]) x hx
 ·
  refine List.pairwise_cons.2 ⟨fun D hD x hx hd'=>?_,hd4⟩
  rcases hf x hx with h1 | h1
  ·
   exact hd1 D (by simp [hD]) x h1 hd'
  exact hd3 D hD x h1 hd'
 intro D hD;simp only [List.mem_cons] at hD
 rcases hD with rfl | hD
 ·
  exact hC
 exact h.ok D (by simp [hD])
theorem St.one (h:St w0 M Z w l) (hA:A∈l):St w (fps [A]) Z w [A] where
 chg:=ChgP.refl _ _
 zlt:=h.zlt
 zfp D hD:=by simp at hD;subst hD;exact h.zfp _ hA
 org D hD x hx:=.inl ⟨D,hD,hx⟩
 dis:=by simp
 ok D hD:=by simp at hD;subst hD;exact h.ok _ hA
theorem St.sameC (h:St w0 M Z w l) (hA:A∈l) (h':St w (fps [A]) Z w' [A]):St w0 M Z w' l:=
 h.same hA (h'.chg.mono fun x _ ⟨D,hD,hx⟩=>by simp at hD;subst hD;exact hx) (h'.ok A (by simp))
theorem fps_sub (hA:A∈l) {x:Nat} (hx:fps [A] x):fps l x:=by obtain ⟨D,hD,hx⟩:=hx;simp at hD;subst hD;exact ⟨D,hA,hx⟩
end
theorem As.gv {P:Program} {ST:Nat} {rules:List Rule} {x:Bas} {D:SD} {Z:Nat→Prop} {w:World} (h:(As.solv P ST rules x D).ok Z w):(D.F P rules x).p Z w:=h.2.2.2
theorem As.gvb {P:Program} {ST:Nat} {rules:List Rule} {x:Bas} {D:SD} {Z:Nat→Prop} {w:World} (h:(As.solv P ST rules x D).ok Z w):Blk w D.s ST (D.cells x):=h.2.1
structure EA where
 (a1 a2 a3:Option Addr) (n1 c1 n2 c2 n3 c3:Nat)
def EA.cells (E:EA) (sb bb:Nat) (s:ES):List Value:=
 [.pointer (some ⟨sb,0,none⟩),.int .i64 s.b.revision,.slice E.a1 E.n1 E.c1,.slice E.a2 E.n2 E.c2,.map (some bb),.slice E.a3 E.n3 E.c3,.int .i64 s.e]
theorem markV_take {x:Bas} {group:List Key} {dirty:Bool} {i:Nat} (h:i<x.recs.length) (hi:i≤x.recs.length):(((x.recs.take i).map (markR x.revision group dirty))++x.recs.drop i).set i (markR x.revision group dirty x.recs[i])=((x.recs.take (i+1)).map (markR x.revision group dirty))++x.recs.drop (i+1):=by
 rw [List.set_append_right _ _ (by simp;omega)];simp only [List.length_map,List.length_take,Nat.min_eq_left hi,Nat.sub_self];rw [List.drop_eq_getElem_cons h,List.set_cons_zero,List.take_succ_eq_append_getElem h,List.map_append,List.append_assoc]
 rfl
end Go.Rc

namespace Go.Rc
open Go
structure Good (rules:List Rule) (inp:List Inp) (s:ES):Prop where
 inp:s.b.inputs=inp
 len:s.b.recs.length≤4000
 key:∀r∈s.b.recs,Knd rules r.key
 rds:∀r∈s.b.recs,r.reads.length≤4000∧∀a∈r.reads,Knd rules a
 nod:(s.busy.map (·.1)).Nodup
 busy:∀k,mget s.busy k=none∨mget s.busy k=some (.bool true)
structure ELe (s s':ES):Prop where
 ran:s.ran.length≤s'.ran.length
 rev:s'.b.revision=s.b.revision
theorem ELe.refl (s:ES):ELe s s:=⟨Nat.le_refl _,rfl⟩
theorem ELe.trans {s t u:ES} (h:ELe s t) (h':ELe t u):ELe s u:=⟨Nat.le_trans h.ran h'.ran,h'.rev.trans h.rev⟩
section
variable {rules:List Rule} {inp:List Inp} {s:ES} {k:Key}
theorem Good.on (h:Good rules inp s) (k:Key):Good rules inp {s with busy:=mput s.busy k (.bool true)}:=
 {h with nod:=mput_nodup h.nod _ _,busy:=fun k'=>by show mget (mput s.busy k (.bool true)) k'=none∨_;rw [mget_put];split;exact .inr rfl;exact h.busy k'}
theorem Good.off (h:Good rules inp s) (k:Key):Good rules inp {s with busy:=mdel s.busy k}:=
 {h with nod:=by exact (((mdel_sub s.busy k).map (·.1)).nodup h.nod),busy:=fun k'=>by show mget (mdel s.busy k) k'=none∨_;rw [mget_del h.nod];split;exact .inl rfl;exact h.busy k'}
theorem Good.err (h:Good rules inp s) (e:Int):Good rules inp {s with e:=e}:={h with}
theorem markR_key (rev:Int) (g:List Key) (d:Bool) (r:Rec):(markR rev g d r).key=r.key∧(markR rev g d r).reads=r.reads:=by unfold markR;by_cases h1:r.key∈g <;> cases d <;> simp [h1]
theorem Good.mark (h:Good rules inp s) (g:List Key) (d:Bool):Good rules inp {s with b:=markV s.b g d}:=
 {h with
  len:=by show ((s.b.recs.map _).length≤4000);rw [List.length_map];exact h.len
  key:=fun r hr=>by obtain ⟨q,hq,rfl⟩:=List.mem_map.1 hr;rw [(markR_key _ _ _ q).1];exact h.key q hq
  rds:=fun r hr=>by obtain ⟨q,hq,rfl⟩:=List.mem_map.1 hr;rw [(markR_key _ _ _ q).2];exact h.rds q hq}
theorem ELe.mark (g:List Key) (d:Bool):ELe s {s with b:=markV s.b g d}:=⟨Nat.le_refl _,rfl⟩
theorem putGo_mem (r:Rec):∀(l:List Rec) (b:Bool) (x:Rec),x∈putGo r l b→x=r∨x∈l:=by
 intro l
 induction l with
 | nil=>intro b x h;unfold putGo at h;split at h;cases h;simp at h;exact .inl h
 | cons y ys ih=>
  intro b x h
  unfold putGo at h
  rcases List.mem_append.1 h with h | h
  ·
   rcases List.mem_append.1 h with h | h
   ·
    split at h
    ·
     simp at h;exact .inl h
    cases h
   split at h
   ·
    cases h
   simp at h;exact .inr (by simp [h])
  rcases ih _ x h with h | h
  ·
   exact .inl h
  exact .inr (by simp [h])
theorem putGo_count (r:Rec):∀(l:List Rec) (b:Bool),(putGo r l b).length+(l.filter fun x=>decide (cmpK x.key r.key=0)).length=l.length+(if b then 0 else 1):=by
 intro l
 induction l with
 | nil=>intro b;cases b <;> simp [putGo]
 | cons y ys ih=>
  intro b;have h1:=ih (b || decide (0≤cmpK y.key r.key));simp only [putGo,List.length_append,List.length_cons]
  by_cases h0:cmpK y.key r.key=0
  ·
   have h2:0≤cmpK y.key r.key:=by omega
   simp only [h0,if_true,List.filter_cons,decide_true,List.length_cons,List.length_nil];simp only [h2,decide_true,Bool.or_true,if_true] at h1
   cases b <;> simp <;> omega
  simp only [h0,if_false,List.filter_cons,decide_false,Bool.false_eq_true,List.length_cons,List.length_nil]
  by_cases h2:0≤cmpK y.key r.key
  ·
   simp only [h2,decide_true,Bool.or_true,if_true] at h1
   cases b <;> simp [h2] <;> omega
  simp only [h2,decide_false,Bool.or_false] at h1
  cases b <;> simp [h2] at h1 ⊢ <;> omega
theorem putR_len {l:List Rec} {r:Rec} (h:(findR l r.key).isSome=true) (hc:cmpK r.key r.key=0):(putR l r).length≤l.length:=by
 have h1:=putGo_count r l false;obtain ⟨x,hx⟩:=Option.isSome_iff_exists.1 h;have h2:=List.mem_of_find?_eq_some hx;have h3:=List.find?_some hx
 simp at h3
 have h4:0<(l.filter fun x=>decide (cmpK x.key r.key=0)).length:=List.length_pos_of_mem (List.mem_filter.2 ⟨h2,by rw [h3];simp [hc]⟩)
 unfold putR
 simp at h1
 omega
theorem cmpB_self:∀l:List UInt8,Lib.compareBytes l l=0
 | []=>by simp [Lib.compareBytes]
 | a::r=>by simp [Lib.compareBytes,cmpB_self r]
theorem cmpK_self (k:Key):cmpK k k=0:=by unfold cmpK;simp [cmpB_self]
theorem Good.put (h:Good rules inp s) {r:Rec} {ran:List Key} (hk:Knd rules r.key) (hr:r.reads.length≤4000∧∀a∈r.reads,Knd rules a) (h4:(!(findR s.b.recs r.key).isSome && decide (4000≤s.b.recs.length))=false) :
  Good rules inp {s with b:={s.b with recs:=putR s.b.recs r},ran:=ran}:=
 {h with
  len:=by
   show (putR s.b.recs r).length≤4000
   have h1:=h.len
   cases hf:(findR s.b.recs r.key).isSome with
   | true=>have:=putR_len hf (cmpK_self r.key);omega
   | false=>
    rw [hf] at h4;have h2:(putR s.b.recs r).length≤s.b.recs.length+1:=putGo_len r s.b.recs false
    simp at h4;omega
  key:=fun x hx=>by rcases putGo_mem r _ _ x hx with rfl | hx;exact hk;exact h.key x hx
  rds:=fun x hx=>by rcases putGo_mem r _ _ x hx with rfl | hx;exact hr;exact h.rds x hx}
def ansOk (rules:List Rule) (k:Key) (n:Nat):Prop:=∃i,i<rules.length∧k=ofK rules (i:Int)∧n≤asksN rules i
theorem Knd.ans (h:Knd rules k) (hi:isInput k=false):ansOk rules k 0:=by
 cases h with
 | cell h=>rw [isInput_cellK h] at hi;cases hi
 | rule h h99=>exact ⟨_,h,rfl,Nat.zero_le _⟩
theorem ansOk.next (hR:rulesOk rules) {answers:List ByteArray} (h:ansOk rules k answers.length) (hd:(turn28 rules k answers).done=false):ansOk rules k (answers.length+1)∧Knd rules (turn28 rules k answers).ask:=by
 obtain ⟨i,hi,rfl,hn⟩:=h
 have h99:i≤99:=by have:=hR.len;omega
 rw [turn28_ofK hi h99] at hd ⊢
 rcases Nat.lt_or_ge answers.length (asksN rules i) with hlt | hge
 ·
  obtain ⟨a,h1,h2,_⟩:=turn_ask hR hi hlt;rw [h1];exact ⟨⟨i,hi,rfl,hlt⟩,h2.knd hR⟩
 rw [turn_end hR hi (by omega)] at hd;cases hd
theorem ansOk.le (hR:rulesOk rules) {n:Nat} (h:ansOk rules k n):n≤6:=by obtain ⟨i,hi,_,hn⟩:=h;have:=asksN_le hR hi;omega
theorem ansOk.not (hR:rulesOk rules) {n:Nat} (h:ansOk rules k n):notLang k∧isInput k=false:=by
 obtain ⟨i,hi,rfl,hn⟩:=h;have:=hR.len;exact ⟨notLang_ofK hi (by omega),isInput_ofK hi (by omega)⟩
theorem ansOk.knd (hR:rulesOk rules) {n:Nat} (h:ansOk rules k n):Knd rules k:=by obtain ⟨i,hi,rfl,_⟩:=h;have:=hR.len;exact .rule hi (by omega)
end
section
variable {rules:List Rule} {val:Key→ByteArray} {inp:List Inp}
def UpG (rules:List Rule) (val:Key→ByteArray) (inp:List Inp) (f:Nat):Prop:=∀s k s',upV rules val f s k=some s'→Good rules inp s→Knd rules k→Good rules inp s'∧ELe s s'
def ChG (rules:List Rule) (val:Key→ByteArray) (inp:List Inp) (f:Nat):Prop:=∀s k n s' b,checkV rules val f s k n=some (s',b)→Good rules inp s→Good rules inp s'∧ELe s s'
def RuG (rules:List Rule) (val:Key→ByteArray) (inp:List Inp) (f:Nat):Prop:=∀s k reads answers s',runV rules val f s k reads answers=some s'→Good rules inp s→ansOk rules k answers.length→reads.length=answers.length→(∀a∈reads,Knd rules a)→Good rules inp s'∧ELe s s'
theorem chk_read {rules:List Rule} {inp:List Inp} {s:ES} (h:Good rules inp s) {group:List Key} {n:Nat} {c:Chk} (hc:(checksV s.b.recs group)[n]?=some c):Knd rules c.read:=by
 have h1:=List.mem_of_getElem? hc;obtain ⟨m,hm,h2⟩:=List.mem_flatMap.1 h1;obtain ⟨a,ha,rfl⟩:=List.mem_map.1 h2;have h3:=(List.mem_filter.1 ha).1
 show Knd rules a
 unfold recOf at h3
 cases hf:findR s.b.recs m with
 | none=>rw [hf] at h3;simp [noRec] at h3
 | some r=>rw [hf] at h3;exact (h.rds r (List.mem_of_find?_eq_some hf)).2 a h3
theorem groupV_len (l:List Rec) (rev:Int) (k:Key):(groupV l rev k).length≤l.length+1:=by
 unfold groupV
 split
 ·
  have h1:=sortK_len (k::groupL l rev k l);have h2:=groupL_len l rev k l;simp only [List.length_cons] at h1
  omega
 simp
theorem chk_len {rules:List Rule} {inp:List Inp} {s:ES} (h:Good rules inp s) {group:List Key} (hg:group.length≤4001):∀i,((group.take i).flatMap fun m=>checksOf group m (recOf s.b.recs m).reads).length≤100000000:=by
 intro i
 have h1:∀l:List Key,(l.flatMap fun m=>checksOf group m (recOf s.b.recs m).reads).length≤l.length*4000:=by
  intro l
  induction l with
  | nil=>simp
  | cons m r ih=>
   simp only [List.flatMap_cons,List.length_append,List.length_cons];have h2:=checksOf_len group m (recOf s.b.recs m).reads
   have h3:(recOf s.b.recs m).reads.length≤4000:=by
    unfold recOf
    cases hf:findR s.b.recs m with
    | none=>simp [noRec]
    | some r=>exact (h.rds r (List.mem_of_find?_eq_some hf)).1
   rw [Nat.add_mul]
   omega
 have h2:=h1 (group.take i)
 have h3:(group.take i).length≤4001:=by rw [List.length_take];omega
 omega
theorem chk_all {rules:List Rule} {inp:List Inp} {s:ES} (h:Good rules inp s) {group:List Key} (hg:group.length≤4001):(checksV s.b.recs group).length≤100000000:=by
 have h1:=chk_len h hg group.length;rw [List.take_of_length_le (Nat.le_refl _)] at h1;exact h1
theorem engine_good (hR:rulesOk rules):∀f,UpG rules val inp f∧ChG rules val inp f∧RuG rules val inp f:=by
 intro f
 induction f with
 | zero=>exact ⟨fun s k s' h=>by simp [upV] at h,fun s k n s' b h=>by simp [checkV] at h,fun s k r a s' h=>by simp [runV] at h⟩
 | succ f ih=>
  obtain ⟨ihu,ihc,ihr⟩:=ih;refine ⟨?_,?_,?_⟩
  ·
   intro s k s' h hg hk
   unfold upV at h
   split at h
   ·
    cases h;exact ⟨hg,.refl _⟩
   rename_i he
   split at h
   ·
    cases h;exact ⟨hg,.refl _⟩
   split at h
   ·
    split at h <;> cases h
    ·
     exact ⟨hg,.refl _⟩
    exact ⟨hg.err _,⟨Nat.le_refl _,rfl⟩⟩
   obtain ⟨p,hp,h⟩:=Option.bind_eq_some_iff.1 h;obtain ⟨t,ht,h⟩:=Option.bind_eq_some_iff.1 h
   cases h
   obtain ⟨h1,h2⟩:=ihc _ _ _ p.1 p.2 (by rw [hp]) (hg.on k);have h2':ELe s p.1:=⟨h2.ran,h2.rev⟩
   have h3:Good rules inp t∧ELe s t:=by
    split at ht
    ·
     obtain ⟨h4,h5⟩:=ihr _ _ _ _ _ ht h1 (hk.ans (by simp at he;exact he.2)) rfl (fun a ha=>by cases ha);exact ⟨h4,h2'.trans h5⟩
    cases ht;exact ⟨h1,h2'⟩
   exact ⟨h3.1.off k,⟨h3.2.ran,h3.2.rev⟩⟩
  ·
   intro s k n s' b h hg
   unfold checkV at h
   split at h
   ·
    cases h;exact ⟨hg,.refl _⟩
   split at h
   ·
    cases h;exact ⟨hg,.refl _⟩
   split at h
   ·
    cases h;exact ⟨hg,.refl _⟩
   split at h
   ·
    cases h;exact ⟨hg.mark _ _,.mark _ _⟩
   rename_i c hc
   split at h
   ·
    obtain ⟨t,ht,h⟩:=Option.bind_eq_some_iff.1 h;obtain ⟨h1,h2⟩:=ihu _ _ _ ht hg (chk_read hg hc);obtain ⟨h3,h4⟩:=ihc _ _ _ _ _ h h1;exact ⟨h3,h2.trans h4⟩
   split at h
   ·
    split at h <;> cases h
    ·
     exact ⟨hg.mark _ _,.mark _ _⟩
    exact ⟨hg,.refl _⟩
   exact ihc _ _ _ _ _ h hg
  intro s k reads answers s' h hg ha hl hr
  unfold runV at h
  split at h
  ·
   cases h;exact ⟨hg,.refl _⟩
  split at h
  ·
   split at h
   ·
    cases h;exact ⟨hg.err _,⟨Nat.le_refl _,rfl⟩⟩
   rename_i h4
   cases h
   have h6:=ha.le hR;exact ⟨hg.put (r:=madeV s.b k (turn28 rules k answers).value reads) (ha.knd hR) ⟨by show reads.length≤4000;omega,hr⟩ (by show (!(findR s.b.recs k).isSome && _)=false;simpa using h4),⟨by simp,rfl⟩⟩
  rename_i hd
  obtain ⟨t,ht,h⟩:=Option.bind_eq_some_iff.1 h;have hn:=ha.next hR (by simpa using hd);obtain ⟨h1,h2⟩:=ihu _ _ _ ht hg hn.2
  split at h
  ·
   obtain ⟨h3,h4⟩:=ihr _ _ _ _ _ h h1 (by simpa using hn.1) (by simp [hl]) (fun a ha=>by rcases List.mem_append.1 ha with ha | ha;exact hr a ha;simp at ha;subst ha;exact hn.2);exact ⟨h3,h2.trans h4⟩
  obtain ⟨h3,h4⟩:=ihr _ _ _ _ _ h h1 ha hl hr;exact ⟨h3,h2.trans h4⟩
end
end Go.Rc

namespace Go.Rc
open Go
/-! ### counting -/
def cnt (p:Nat→Bool):Nat→Nat
 | 0=>0
 | n+1=>cnt p n+(p n).toNat
theorem cnt_le {p q:Nat→Bool}:∀{n:Nat},(∀i,i<n→p i=true→q i=true)→cnt p n≤cnt q n
 | 0,_=>Nat.le_refl _
 | n+1,h=>by
  have h1:=cnt_le (n:=n) fun i hi=>h i (by omega)
  have h2:=h n (by omega);simp only [cnt]
  cases hp:p n with
  | false=>simp;omega
  | true=>rw [h2 hp];omega
theorem cnt_lt {p q:Nat→Bool} {j:Nat}:∀{n:Nat},(∀i,i<n→p i=true→q i=true)→j<n→q j=true→p j=false→cnt p n+1≤cnt q n
 | 0,_,hj,_,_=>by omega
 | n+1,h,hj,h1,h2=>by
  simp only [cnt]
  rcases Nat.lt_or_ge j n with hlt | hge
  ·
   have h3:=cnt_lt (n:=n) (fun i hi=>h i (by omega)) hlt h1 h2;have h4:=h n (by omega)
   cases hp:p n with
   | false=>simp;omega
   | true=>rw [h4 hp];omega
  have e:j=n:=by omega
  subst e
  have h3:=cnt_le (n:=j) (p:=p) (q:=q) fun i hi=>h i (by omega)
  rw [h1,h2];simp;omega
theorem cnt_le1 {p q:Nat→Bool} {j:Nat}:∀{n:Nat},(∀i,i<n→i≠j→p i=true→q i=true)→cnt p n≤cnt q n+1
 | 0,_=>by simp [cnt]
 | n+1,h=>by
  simp only [cnt]
  by_cases e:n=j
  ·
   subst e
   have h3:=cnt_le (n:=n) (p:=p) (q:=q) fun i hi=>h i (by omega) (by omega)
   cases p n <;> cases q n <;> simp <;> omega
  have h1:=cnt_le1 (n:=n) fun i hi=>h i (by omega)
  have h2:=h n (by omega) e
  cases hp:p n with
  | false=>simp;omega
  | true=>rw [h2 hp];simp;omega
theorem cnt_n (p:Nat→Bool):∀n,cnt p n≤n
 | 0=>Nat.le_refl _
 | n+1=>by have:=cnt_n p n;simp only [cnt];cases p n <;> simp <;> omega
/-! ### what is found in what was put -/
theorem cmpB_eq:∀(a b:List UInt8),Lib.compareBytes a b=0→a=b
 | [],[],_=>rfl
 | [],_::_,h=>by simp [Lib.compareBytes] at h
 | _::_,[],h=>by simp [Lib.compareBytes] at h
 | x::a,y::b,h=>by
  simp only [Lib.compareBytes] at h
  split at h
  ·
   cases h
  split at h
  ·
   cases h
  rename_i h1 h2
  have e:x=y:=by
   apply UInt8.toNat_inj.1
   simp only [UInt8.lt_iff_toNat_lt] at h1 h2
   omega
  rw [e,cmpB_eq a b h]
theorem cmpK_eq {a b:Key} (h:cmpK a b=0):a=b:=by
 unfold cmpK at h
 split at h
 ·
  cases h
 split at h
 ·
  cases h
 rename_i h1 h2
 have h3:=cmpB_eq _ _ h;obtain ⟨ka,ta⟩:=a;obtain ⟨kb,tb⟩:=b;simp only at h1 h2 h3
 congr 1
 ·
  omega
 cases ta;cases tb
 congr 1
 exact Array.toList_inj.1 h3
theorem findR_putGo (r:Rec) (k:Key):∀(l:List Rec) (b:Bool),findR (putGo r l b) k=if k=r.key then (if b then none else some r) else findR l k:=by
 intro l
 induction l with
 | nil=>
  intro b
  unfold putGo findR
  by_cases h:k=r.key
  ·
   subst h;cases b <;> simp
  cases b <;> simp [h]
  intro h2;exact absurd h2.symm h
 | cons x xs ih=>
  intro b;have h1:=ih (b || decide (0≤cmpK x.key r.key))
  unfold putGo
  unfold findR at h1 ⊢
  rw [List.find?_append,List.find?_append,h1]
  by_cases h:k=r.key
  ·
   subst h;simp only [if_true]
   by_cases hc:cmpK x.key r.key=0
   ·
    have:x.key=r.key:=cmpK_eq hc
    rw [if_pos hc]
    cases b <;> simp [hc]
   have hne:x.key≠r.key:=fun e=>hc (by rw [e];exact cmpK_self _);rw [if_neg hc]
   cases b
   ·
    by_cases h0:0≤cmpK x.key r.key <;> simp [h0,hne]
   simp [hne]
  simp only [if_neg h]
  have hr:(r.key == k)=false:=by simp;exact fun e=>h e.symm
  have h2:(List.find? (fun y=>y.key == k) (if (decide (0≤cmpK x.key r.key) && !b)=true then [r] else []))=none:=by split <;> simp [hr]
  rw [h2]
  by_cases hc:cmpK x.key r.key=0
  ·
   have e:x.key=r.key:=cmpK_eq hc;rw [if_pos hc]
   simp [e,hr]
  rw [if_neg hc];simp only [Option.none_or,List.find?_cons,List.find?_nil]
  cases hx:x.key == k <;> simp
theorem findR_putR (l:List Rec) (r:Rec) (k:Key):findR (putR l r) k=if k=r.key then some r else findR l k:=by
 unfold putR;rw [findR_putGo];simp
theorem findR_map (f:Rec→Rec) (hf:∀r,(f r).key=r.key) (k:Key) (l:List Rec):findR (l.map f) k=(findR l k).map f:=by
 unfold findR
 rw [List.find?_map,show ((fun x:Rec=>x.key == k)∘f)=(fun x:Rec=>x.key == k) from funext fun x=>by simp [hf]]
/-! ### what goes on being so -/
theorem upNow_iff {x:Bas} {k:Key}:upNow x k=true↔∃r,findR x.recs k=some r∧r.verified=x.revision:=by
 unfold upNow recOf
 cases hf:findR x.recs k with
 | none=>simp
 | some r=>simp
theorem upNow_mark {x:Bas} {g:List Key} {d:Bool} {k:Key} (h:upNow x k=true):upNow (markV x g d) k=true:=by
 obtain ⟨r,h1,h2⟩:=upNow_iff.1 h;refine upNow_iff.2 ⟨markR x.revision g d r,?_,?_⟩
 ·
  show findR (x.recs.map (markR x.revision g d)) k=_
  rw [findR_map _ (fun r=>(markR_key _ _ _ r).1),h1];rfl
 show _=x.revision
 unfold markR
 by_cases h1:r.key∈g <;> cases d <;> simp [h1,h2]
theorem upNow_marked {x:Bas} {g:List Key} {k:Key} (h:(findR x.recs k).isSome=true) (hk:k∈g):upNow (markV x g false) k=true:=by
 obtain ⟨r,h1⟩:=Option.isSome_iff_exists.1 h;have h3:=List.find?_some h1
 simp at h3
 refine upNow_iff.2 ⟨markR x.revision g false r,?_,?_⟩
 ·
  show findR (x.recs.map (markR x.revision g false)) k=_
  rw [findR_map _ (fun r=>(markR_key _ _ _ r).1),h1];rfl
 show _=x.revision
 unfold markR
 rw [h3];simp [hk]
theorem upNow_put {x:Bas} {r:Rec} {k:Key} (hr:r.verified=x.revision) (h:upNow x k=true):upNow {x with recs:=putR x.recs r} k=true:=by
 obtain ⟨q,h1,h2⟩:=upNow_iff.1 h
 by_cases e:k=r.key
 ·
  exact upNow_iff.2 ⟨r,by show findR (putR x.recs r) k=_;rw [findR_putR,if_pos e],hr⟩
 exact upNow_iff.2 ⟨q,by show findR (putR x.recs r) k=_;rw [findR_putR,if_neg e,h1],h2⟩
theorem upNow_made {x:Bas} {r:Rec} (hr:r.verified=x.revision):upNow {x with recs:=putR x.recs r} r.key=true:=
 upNow_iff.2 ⟨r,by show findR (putR x.recs r) r.key=_;rw [findR_putR,if_pos rfl],hr⟩
theorem mem_groupV (l:List Rec) (rev:Int) (k:Key):k∈groupV l rev k:=by
 unfold groupV
 split
 ·
  rw [sortK_mem];simp
 simp
structure Keep (s s':ES):Prop where
 on:∀k,s'.on k=s.on k
 up:∀k,upNow s.b k=true→upNow s'.b k=true
theorem Keep.refl (s:ES):Keep s s:=⟨fun _=>rfl,fun _ h=>h⟩
theorem Keep.trans {s t u:ES} (h:Keep s t) (h':Keep t u):Keep s u:=⟨fun k=>(h'.on k).trans (h.on k),fun k hk=>h'.up k (h.up k hk)⟩
def opn (rules:List Rule) (s:ES):Nat:=cnt (fun i=>!upNow s.b (ofK rules (i:Int)) && !s.on (ofK rules (i:Int))) rules.length
def off (rules:List Rule) (s:ES):Nat:=cnt (fun i=>!s.on (ofK rules (i:Int))) rules.length
theorem Keep.opn {rules:List Rule} {s s':ES} (h:Keep s s'):opn rules s'≤opn rules s:=cnt_le fun i _ hp=>by
 simp only [Bool.and_eq_true,Bool.not_eq_true'] at hp ⊢;rw [h.on] at hp;refine ⟨?_,hp.2⟩
 cases hu:upNow s.b (ofK rules (i:Int)) with
 | false=>rfl
 | true=>rw [h.up _ hu] at hp;exact absurd hp.1 (by simp)
theorem Keep.off {rules:List Rule} {s s':ES} (h:Keep s s'):Go.Rc.off rules s'=Go.Rc.off rules s:=by
 unfold Go.Rc.off
 congr 1
 funext i
 rw [h.on]
section
variable {rules:List Rule} {val:Key→ByteArray} {inp:List Inp}
theorem on_put (s:ES) (k k':Key):ES.on {s with busy:=mput s.busy k (.bool true)} k'=(decide (k=k') || s.on k'):=by
 unfold ES.on
 simp only [mget_put]
 by_cases h:k=k' <;> simp [h]
theorem on_del {s:ES} (hn:(s.busy.map (·.1)).Nodup) (k k':Key):ES.on {s with busy:=mdel s.busy k} k'=(!decide (k=k') && s.on k'):=by
 unfold ES.on
 simp only [mget_del hn]
 by_cases h:k=k' <;> simp [h]
def UpK (rules:List Rule) (val:Key→ByteArray) (inp:List Inp) (f:Nat):Prop:=∀s k s',upV rules val f s k=some s'→Good rules inp s→Knd rules k→Keep s s'∧(s'.e=0→s.e=0∧(isInput k=true∨thereV s' k=true))∧s'.ran.length+opn rules s'≤s.ran.length+opn rules s
def ChK (rules:List Rule) (val:Key→ByteArray) (inp:List Inp) (f:Nat):Prop:=∀s k n s' b,checkV rules val f s k n=some (s',b)→Good rules inp s→Keep s s'∧(s'.e=0→s.e=0∧(b=false→upNow s'.b k=true))∧s'.ran.length+opn rules s'≤s.ran.length+opn rules s
def RuK (rules:List Rule) (val:Key→ByteArray) (inp:List Inp) (f:Nat):Prop:=∀s k reads answers s',runV rules val f s k reads answers=some s'→Good rules inp s→ansOk rules k answers.length→Keep s s'∧(s'.e=0→s.e=0∧upNow s'.b k=true)∧(s'.ran.length+opn rules s'≤s.ran.length+opn rules s∨(upNow s'.b k=true∧s'.ran.length+opn rules s'≤s.ran.length+opn rules s+1))
theorem Keep.err (s:ES) (e:Int):Keep s {s with e:=e}:=⟨fun _=>rfl,fun _ h=>h⟩
theorem Keep.mark (s:ES) (g:List Key) (d:Bool):Keep s {s with b:=markV s.b g d}:=⟨fun _=>rfl,fun _ h=>upNow_mark h⟩
theorem engine_keep (hR:rulesOk rules):∀f,UpK rules val inp f∧ChK rules val inp f∧RuK rules val inp f:=by
 intro f
 induction f with
 | zero=>exact ⟨fun s k s' h=>by simp [upV] at h,fun s k n s' b h=>by simp [checkV] at h,fun s k r a s' h=>by simp [runV] at h⟩
 | succ f ih=>
  obtain ⟨ihu,ihc,ihr⟩:=ih;have gd:=engine_good (val:=val) (inp:=inp) hR f;refine ⟨?_,?_,?_⟩
  ·
   intro s k s' h hg hk
   unfold upV at h
   split at h
   ·
    rename_i he
    cases h
    refine ⟨.refl _,fun h0=>⟨h0,?_⟩,Nat.le_refl _⟩
    rcases he with he | he
    ·
     exact absurd h0 he
    exact .inl he
   rename_i he
   have he0:s.e=0:=by simp at he;exact he.1
   have hni:isInput k=false:=by simp at he;exact he.2
   split at h
   ·
    rename_i hu
    cases h
    exact ⟨.refl _,fun h0=>⟨h0,.inr (by unfold thereV;rw [hu];simp)⟩,Nat.le_refl _⟩
   rename_i hu
   split at h
   ·
    rename_i ho
    split at h
    ·
     rename_i hc
     cases h
     exact ⟨.refl _,fun h0=>⟨h0,.inr (by unfold thereV;rw [ho,hc];simp)⟩,Nat.le_refl _⟩
    cases h
    exact ⟨.err _ _,fun h0=>by simp at h0,Nat.le_refl _⟩
   rename_i ho
   have hu':upNow s.b k=false:=by simpa using hu
   have ho':s.on k=false:=by simpa using ho
   obtain ⟨⟨s2,b2⟩,hp,h⟩:=Option.bind_eq_some_iff.1 h;obtain ⟨s3,ht,h⟩:=Option.bind_eq_some_iff.1 h;simp only [Option.some.injEq] at h;subst h;obtain ⟨i,hi,hki,_⟩:=hk.ans hni;obtain ⟨hg2,_⟩:=gd.2.1 _ _ _ _ _ hp (hg.on k);obtain ⟨hk2,he2,ht2⟩:=ihc _ _ _ _ _ hp (hg.on k)
   -- the state before, with k under way
   have h1:opn rules {s with busy:=mput s.busy k (.bool true)}+1≤opn rules s:=by
    refine cnt_lt (j:=i) (fun j _ hj=>?_) hi ?_ ?_
    ·
     simp only [on_put,Bool.and_eq_true,Bool.not_eq_true',Bool.or_eq_false_iff] at hj ⊢;exact ⟨hj.1,hj.2.2⟩
    ·
     simp only [← hki,hu',ho'];rfl
    simp only [on_put,← hki];simp
   have h3:Good rules inp s3∧Keep s2 s3∧(s3.e=0→s2.e=0∧upNow s3.b k=true)∧(s3.ran.length+opn rules s3≤s2.ran.length+opn rules s2∨(upNow s3.b k=true∧s3.ran.length+opn rules s3≤s2.ran.length+opn rules s2+1)):=by
    split at ht
    ·
     obtain ⟨a,b,c⟩:=ihr _ _ _ _ _ ht hg2 (hk.ans hni);exact ⟨(gd.2.2 _ _ _ _ _ ht hg2 (hk.ans hni) rfl (fun a ha=>by cases ha)).1,a,b,c⟩
    rename_i hb
    simp only [Option.some.injEq] at ht;subst ht;exact ⟨hg2,.refl _,fun h0=>⟨h0,(he2 h0).2 (by simpa using hb)⟩,.inl (Nat.le_refl _)⟩
   obtain ⟨hg3,hk3,he3,ht3⟩:=h3
   have hon:∀k',s3.on k'=(decide (k=k') || s.on k'):=fun k'=>by rw [hk3.on,hk2.on,on_put]
   have hkp:Keep s {s3 with busy:=mdel s3.busy k}:=⟨fun k'=>by
    rw [on_del hg3.nod,hon]
    by_cases e:k=k'
    ·
     subst e;simp [ho']
    simp [e],fun k' h=>hk3.up _ (hk2.up _ h)⟩
   refine ⟨hkp,fun h0=>⟨he0,.inr ?_⟩,?_⟩
   ·
    have:=(he3 h0).2
    show thereV {s3 with busy:=mdel s3.busy k} k=true
    unfold thereV
    show (isInput k || (_ || upNow s3.b k))=true
    rw [this];simp
   show s3.ran.length+opn rules {s3 with busy:=mdel s3.busy k}≤_
   have ht2':s2.ran.length+opn rules s2≤s.ran.length+opn rules {s with busy:=mput s.busy k (.bool true)}:=ht2
   by_cases hu3:upNow s3.b k=true
   ·
    have:opn rules {s3 with busy:=mdel s3.busy k}≤opn rules s3:=cnt_le fun j _ hj=>by
     simp only [on_del hg3.nod,Bool.and_eq_true,Bool.not_eq_true',Bool.and_eq_false_iff] at hj ⊢;refine ⟨hj.1,?_⟩
     rcases hj.2 with hj2 | hj2
     ·
      have e:k=ofK rules (j:Int):=by simpa using hj2
      have:=hj.1
      rw [← e] at this;rw [hu3] at this;cases this
     exact hj2
    omega
   have h5:opn rules {s3 with busy:=mdel s3.busy k}≤opn rules s3+1:=cnt_le1 (j:=i) fun j hj hne hp=>by
    simp only [on_del hg3.nod,Bool.and_eq_true,Bool.not_eq_true',Bool.and_eq_false_iff] at hp ⊢;refine ⟨hp.1,?_⟩
    rcases hp.2 with hp2 | hp2
    ·
     have e:k=ofK rules (j:Int):=by simpa using hp2
     exact absurd (ofK_inj hR hj hi (e.symm.trans hki)) hne
    exact hp2
   rcases ht3 with ht3 | ⟨h6,_⟩
   ·
    omega
   exact absurd h6 hu3
  ·
   intro s k n s' b h hg
   unfold checkV at h
   split at h
   ·
    rename_i he
    cases h;exact ⟨.refl _,fun h0=>absurd h0 he,Nat.le_refl _⟩
   split at h
   ·
    cases h;exact ⟨.refl _,fun h0=>⟨h0,fun hb=>by cases hb⟩,Nat.le_refl _⟩
   rename_i hf
   have hf1:(findR s.b.recs k).isSome=true:=by
    cases hx:(findR s.b.recs k).isSome with
    | true=>rfl
    | false=>rw [hx] at hf;simp at hf
   split at h
   ·
    rename_i hv
    cases h;exact ⟨.refl _,fun h0=>⟨h0,fun _=>by unfold upNow;rw [hf1,hv];simp⟩,Nat.le_refl _⟩
   split at h
   ·
    cases h
    have hkp:Keep s {s with b:=markV s.b (groupV s.b.recs s.b.revision k) false}:=.mark _ _ _;exact ⟨hkp,fun h0=>⟨h0,fun _=>upNow_marked hf1 (mem_groupV _ _ _)⟩,Nat.add_le_add_left hkp.opn _⟩
   rename_i c hc
   split at h
   ·
    obtain ⟨t,ht,h⟩:=Option.bind_eq_some_iff.1 h;obtain ⟨h1,h2,h3⟩:=ihu _ _ _ ht hg (chk_read hg hc);obtain ⟨h4,h5,h6⟩:=ihc _ _ _ _ _ h (gd.1 _ _ _ ht hg (chk_read hg hc)).1;exact ⟨h1.trans h4,fun h0=>⟨(h2 (h5 h0).1).1,(h5 h0).2⟩,Nat.le_trans h6 h3⟩
   split at h
   ·
    split at h <;> cases h
    ·
     have hkp:Keep s {s with b:=markV s.b (groupV s.b.recs s.b.revision k) true}:=.mark _ _ _;exact ⟨hkp,fun h0=>⟨h0,fun hb=>by cases hb⟩,Nat.add_le_add_left hkp.opn _⟩
    exact ⟨.refl _,fun h0=>⟨h0,fun hb=>by cases hb⟩,Nat.le_refl _⟩
   exact ihc _ _ _ _ _ h hg
  intro s k reads answers s' h hg ha
  unfold runV at h
  split at h
  ·
   rename_i he
   cases h;exact ⟨.refl _,fun h0=>absurd h0 he,.inl (Nat.le_refl _)⟩
  rename_i he
  split at h
  ·
   split at h
   ·
    cases h;exact ⟨.err _ _,fun h0=>by simp at h0,.inl (Nat.le_refl _)⟩
   cases h
   have hkp:Keep s {s with b:={s.b with recs:=putR s.b.recs (madeV s.b k (turn28 rules k answers).value reads)},ran:=s.ran++[k]}:=⟨fun _=>rfl,fun _ h=>upNow_put rfl h⟩;have hu:upNow ({s.b with recs:=putR s.b.recs (madeV s.b k (turn28 rules k answers).value reads)}:Bas) k=true:=upNow_made (r:=madeV s.b k (turn28 rules k answers).value reads) rfl;refine ⟨hkp,fun h0=>⟨h0,hu⟩,.inr ⟨hu,?_⟩⟩
   have:=hkp.opn (rules:=rules)
   show (s.ran++[k]).length+_≤_
   rw [List.length_append,List.length_cons,List.length_nil];exact Nat.le_trans (Nat.add_le_add_left this (s.ran.length+(0+1))) (by omega)
  rename_i hd
  obtain ⟨t,ht,h⟩:=Option.bind_eq_some_iff.1 h;have hn:=ha.next hR (by simpa using hd);obtain ⟨h1,h2,h3⟩:=ihu _ _ _ ht hg hn.2;have hg1:=(gd.1 _ _ _ ht hg hn.2).1
  have h7:Keep t s'∧(s'.e=0→t.e=0∧upNow s'.b k=true)∧(s'.ran.length+opn rules s'≤t.ran.length+opn rules t∨(upNow s'.b k=true∧s'.ran.length+opn rules s'≤t.ran.length+opn rules t+1)):=by
   split at h
   ·
    exact ihr _ _ _ _ _ h hg1 (by simpa using hn.1)
   exact ihr _ _ _ _ _ h hg1 ha
  obtain ⟨h4,h5,h6⟩:=h7;refine ⟨h1.trans h4,fun h0=>⟨(h2 (h5 h0).1).1,(h5 h0).2⟩,?_⟩
  rcases h6 with h6 | ⟨h6,h8⟩
  ·
   exact .inl (Nat.le_trans h6 h3)
  exact .inr ⟨h6,by omega⟩
/-! ### more fuel does no harm -/
theorem engine_more:∀f,(∀s k s',upV rules val f s k=some s'→upV rules val (f+1) s k=some s')∧(∀s k n p,checkV rules val f s k n=some p→checkV rules val (f+1) s k n=some p)∧(∀s k r a s',runV rules val f s k r a=some s'→runV rules val (f+1) s k r a=some s'):=by
 intro f
 induction f with
 | zero=>exact ⟨fun s k s' h=>by simp [upV] at h,fun s k n p h=>by simp [checkV] at h,fun s k r a s' h=>by simp [runV] at h⟩
 | succ f ih=>
  obtain ⟨ihu,ihc,ihr⟩:=ih;refine ⟨?_,?_,?_⟩
  ·
   intro s k s' h
   unfold upV at h ⊢
   split at h
   ·
    rename_i h1;rw [if_pos h1];exact h
   rename_i h1;rw [if_neg h1]
   split at h
   ·
    rename_i h2;rw [if_pos h2];exact h
   rename_i h2;rw [if_neg h2]
   split at h
   ·
    rename_i h3;rw [if_pos h3];exact h
   rename_i h3;rw [if_neg h3]
   obtain ⟨p,hp,h⟩:=Option.bind_eq_some_iff.1 h;obtain ⟨s3,ht,h⟩:=Option.bind_eq_some_iff.1 h;refine Option.bind_eq_some_iff.2 ⟨p,ihc _ _ _ _ hp,Option.bind_eq_some_iff.2 ⟨s3,?_,h⟩⟩
   split at ht
   ·
    rename_i h4;rw [if_pos h4];exact ihr _ _ _ _ _ ht
   rename_i h4;rw [if_neg h4];exact ht
  ·
   intro s k n p h
   unfold checkV at h ⊢
   split at h
   ·
    rename_i h1;rw [if_pos h1];exact h
   rename_i h1;rw [if_neg h1]
   split at h
   ·
    rename_i h2;rw [if_pos h2];exact h
   rename_i h2;rw [if_neg h2]
   split at h
   ·
    rename_i h3;rw [if_pos h3];exact h
   rename_i h3;rw [if_neg h3]
   split at h
   ·
    exact h
   rename_i c hc
   split at h
   ·
    rename_i h4;rw [if_pos h4]
    obtain ⟨t,ht,h⟩:=Option.bind_eq_some_iff.1 h;exact Option.bind_eq_some_iff.2 ⟨t,ihu _ _ _ ht,ihc _ _ _ _ h⟩
   rename_i h4;rw [if_neg h4]
   split at h
   ·
    rename_i h5;rw [if_pos h5];exact h
   rename_i h5;rw [if_neg h5];exact ihc _ _ _ _ h
  intro s k r a s' h
  unfold runV at h ⊢
  split at h
  ·
   rename_i h1;rw [if_pos h1];exact h
  rename_i h1;rw [if_neg h1]
  split at h
  ·
   rename_i h2;rw [if_pos h2];exact h
  rename_i h2;rw [if_neg h2]
  obtain ⟨t,ht,h⟩:=Option.bind_eq_some_iff.1 h;refine Option.bind_eq_some_iff.2 ⟨t,ihu _ _ _ ht,?_⟩
  split at h
  ·
   rename_i h3;rw [if_pos h3];exact ihr _ _ _ _ _ h
  rename_i h3;rw [if_neg h3];exact ihr _ _ _ _ _ h
theorem up_more {f g:Nat} (h:f≤g) {s:ES} {k:Key} {s':ES} (hu:upV rules val f s k=some s'):upV rules val g s k=some s':=by
 induction h with
 | refl=>exact hu
 | step _ ih=>exact (engine_more _).1 _ _ _ ih
theorem check_more {f g:Nat} (h:f≤g) {s:ES} {k:Key} {n:Nat} {p:ES × Bool} (hu:checkV rules val f s k n=some p):checkV rules val g s k n=some p:=by
 induction h with
 | refl=>exact hu
 | step _ ih=>exact (engine_more _).2.1 _ _ _ _ ih
theorem run_more {f g:Nat} (h:f≤g) {s:ES} {k:Key} {r:List Key} {a:List ByteArray} {s':ES} (hu:runV rules val f s k r a=some s'):runV rules val g s k r a=some s':=by
 induction h with
 | refl=>exact hu
 | step _ ih=>exact (engine_more _).2.2 _ _ _ _ _ ih
/-! ### there is fuel enough -/
theorem check_some (hR:rulesOk rules) {d:Nat} (hup:∀s k,Good rules inp s→Knd rules k→off rules s≤d→∃f s',upV rules val f s k=some s') (k:Key) :
  ∀(m:Nat) (s:ES) (n:Nat),opn rules s*200000000+(200000000 - n)≤m→n≤100000000→Good rules inp s→off rules s≤d→∃f p,checkV rules val f s k n=some p:=by
 intro m
 induction m using Nat.strongRecOn with
 | _ m ih=>
  intro s n hm hn hg hd
  by_cases h1:s.e≠0
  ·
   exact ⟨1,(s,false),by unfold checkV;rw [if_pos h1]⟩
  by_cases h2:(!(findR s.b.recs k).isSome || (recOf s.b.recs k).dirty)=true
  ·
   exact ⟨1,(s,true),by unfold checkV;rw [if_neg h1,if_pos h2]⟩
  by_cases h3:(recOf s.b.recs k).verified=s.b.revision
  ·
   exact ⟨1,(s,false),by unfold checkV;rw [if_neg h1,if_neg h2,if_pos h3]⟩
  have hgl:(groupV s.b.recs s.b.revision k).length≤4001:=by have:=groupV_len s.b.recs s.b.revision k;have:=hg.len;omega
  have hcl:=chk_all hg hgl
  cases hc:(checksV s.b.recs (groupV s.b.recs s.b.revision k))[n]? with
  | none=>exact ⟨1,_,by unfold checkV;rw [if_neg h1,if_neg h2,if_neg h3,hc]⟩
  | some c=>
   have hnl:n<(checksV s.b.recs (groupV s.b.recs s.b.revision k)).length:=(List.getElem?_eq_some_iff.1 hc).1
   by_cases h4:thereV s c.read=false
   ·
    obtain ⟨f,t,ht⟩:=hup s c.read hg (chk_read hg hc) hd;obtain ⟨hk1,he1,_⟩:=(engine_keep (val:=val) hR f).1 _ _ _ ht hg (chk_read hg hc);have hgt:=((engine_good (val:=val) hR f).1 _ _ _ ht hg (chk_read hg hc)).1
    have hni:isInput c.read=false:=by
     unfold thereV at h4
     simp only [Bool.or_eq_false_iff] at h4;exact h4.1
    by_cases h5:t.e=0
    ·
     obtain ⟨i,hi,hki,_⟩:=(chk_read hg hc).ans hni
     have hth:thereV t c.read=true:=by
      rcases (he1 h5).2 with h | h
      ·
       rw [hni] at h;cases h
      exact h
     have hlt:opn rules t+1≤opn rules s:=by
      have hu0:upNow s.b c.read=false:=by unfold thereV at h4;simp only [Bool.or_eq_false_iff] at h4;exact h4.2.2
      have hoc:(s.on c.read && isCyclic c.read)=false:=by unfold thereV at h4;simp only [Bool.or_eq_false_iff] at h4;exact h4.2.1
      have hut:upNow t.b c.read=true:=by
       unfold thereV at hth
       rw [hk1.on,hoc,hni] at hth
       simpa using hth
      have hon:s.on c.read=false:=by
       cases ho:s.on c.read with
       | false=>rfl
       | true=>
        exfalso
        cases f with
        | zero=>simp [upV] at ht
        | succ f=>
         unfold upV at ht
         rw [if_neg (by simp [hni];simpa using h1),if_neg (by rw [hu0];simp),if_pos ho] at ht;rw [ho] at hoc
         simp at hoc
         rw [if_neg (by rw [hoc];simp)] at ht;simp only [Option.some.injEq] at ht;subst ht
         simp at h5
      refine cnt_lt (j:=i) (fun j _ hj=>?_) hi ?_ ?_
      ·
       simp only [Bool.and_eq_true,Bool.not_eq_true'] at hj ⊢;rw [hk1.on] at hj;refine ⟨?_,hj.2⟩
       cases hx:upNow s.b (ofK rules (j:Int)) with
       | false=>rfl
       | true=>rw [hk1.up _ hx] at hj;exact absurd hj.1 (by simp)
      ·
       rw [← hki,hu0,hon];rfl
      rw [← hki,hut];rfl
     obtain ⟨f2,p,hp⟩:=ih (opn rules t*200000000+(200000000 - n)) (by omega) t n (Nat.le_refl _) hn hgt (by rw [hk1.off];exact hd);refine ⟨max f f2+1,p,?_⟩
     unfold checkV
     rw [if_neg h1,if_neg h2,if_neg h3,hc]
     simp only
     rw [if_pos h4,up_more (Nat.le_max_left _ _) ht];exact check_more (Nat.le_max_right _ _) hp
    refine ⟨max f 1+1,(t,false),?_⟩
    unfold checkV
    rw [if_neg h1,if_neg h2,if_neg h3,hc]
    simp only
    rw [if_pos h4,up_more (Nat.le_max_left _ _) ht];refine check_more (f:=1) (Nat.le_max_right _ _) ?_
    unfold checkV
    rw [if_pos h5]
   by_cases h6:(recOf s.b.recs c.member).verified<changedV val s.b c.read
   ·
    exact ⟨1,_,by unfold checkV;rw [if_neg h1,if_neg h2,if_neg h3,hc];simp only;rw [if_neg h4,if_pos h6]⟩
   obtain ⟨f2,p,hp⟩:=ih (opn rules s*200000000+(200000000 - (n+1))) (by omega) s (n+1) (Nat.le_refl _) (by omega) hg hd;refine ⟨f2+1,p,?_⟩
   unfold checkV
   rw [if_neg h1,if_neg h2,if_neg h3,hc]
   simp only
   rw [if_neg h4,if_neg h6];exact hp
theorem run_some (hR:rulesOk rules) {d:Nat} (hup:∀s k,Good rules inp s→Knd rules k→off rules s≤d→∃f s',upV rules val f s k=some s') (k:Key) :
  ∀(m:Nat) (s:ES) (reads:List Key) (answers:List ByteArray),7 - answers.length≤m→Good rules inp s→ansOk rules k answers.length→off rules s≤d→∃f s',runV rules val f s k reads answers=some s':=by
 intro m
 induction m with
 | zero=>intro s r a hm _ ha _;have:=ha.le hR;omega
 | succ m ih=>
  intro s reads answers hm hg ha hd
  by_cases h1:s.e≠0
  ·
   exact ⟨1,s,by unfold runV;rw [if_pos h1]⟩
  by_cases h2:(turn28 rules k answers).done=true
  ·
   by_cases h3:(!(findR s.b.recs k).isSome && decide (4000≤s.b.recs.length))=true
   ·
    exact ⟨1,_,by unfold runV;rw [if_neg h1,if_pos h2,if_pos h3]⟩
   exact ⟨1,_,by unfold runV;rw [if_neg h1,if_pos h2,if_neg h3]⟩
  have hn:=ha.next hR (by simpa using h2);obtain ⟨f,t,ht⟩:=hup s _ hg hn.2 hd;obtain ⟨hk1,_,_⟩:=(engine_keep (val:=val) hR f).1 _ _ _ ht hg hn.2;have hgt:=((engine_good (val:=val) hR f).1 _ _ _ ht hg hn.2).1
  by_cases h5:t.e=0
  ·
   obtain ⟨f2,s',hs'⟩:=ih t (reads++[(turn28 rules k answers).ask]) (answers++[answerV val t.b (turn28 rules k answers).ask]) (by simp;omega) hgt (by simpa using hn.1) (by rw [hk1.off];exact hd);refine ⟨max f f2+1,s',?_⟩
   unfold runV
   rw [if_neg h1,if_neg h2,up_more (Nat.le_max_left _ _) ht];simp only [Option.bind_some];rw [if_pos h5];exact run_more (Nat.le_max_right _ _) hs'
  refine ⟨max f 1+1,t,?_⟩
  unfold runV
  rw [if_neg h1,if_neg h2,up_more (Nat.le_max_left _ _) ht];simp only [Option.bind_some];rw [if_neg h5];refine run_more (f:=1) (Nat.le_max_right _ _) ?_
  unfold runV
  rw [if_pos h5]
theorem up_some (hR:rulesOk rules):∀(d:Nat) (s:ES) (k:Key),Good rules inp s→Knd rules k→off rules s≤d→∃f s',upV rules val f s k=some s':=by
 intro d
 induction d with
 | zero=>
  intro s k hg hk hd
  by_cases h1:s.e≠0∨isInput k=true
  ·
   exact ⟨1,s,by unfold upV;rw [if_pos h1]⟩
  by_cases h2:upNow s.b k=true
  ·
   exact ⟨1,s,by unfold upV;rw [if_neg h1,if_pos h2]⟩
  by_cases h3:s.on k=true
  ·
   by_cases h4:isCyclic k=true
   ·
    exact ⟨1,s,by unfold upV;rw [if_neg h1,if_neg h2,if_pos h3,if_pos h4]⟩
   exact ⟨1,_,by unfold upV;rw [if_neg h1,if_neg h2,if_pos h3,if_neg h4]⟩
  exfalso
  obtain ⟨i,hi,hki,_⟩:=hk.ans (by simp at h1;exact h1.2)
  have:off rules {s with busy:=mput s.busy k (.bool true)}+1≤off rules s:=by
   refine cnt_lt (j:=i) (fun j _ hj=>?_) hi ?_ ?_
   ·
    simp only [on_put,Bool.not_eq_true',Bool.or_eq_false_iff] at hj ⊢;exact hj.2
   ·
    rw [← hki];simpa using h3
   simp only [on_put,← hki];simp
  omega
 | succ d ih=>
  intro s k hg hk hd
  by_cases h1:s.e≠0∨isInput k=true
  ·
   exact ⟨1,s,by unfold upV;rw [if_pos h1]⟩
  by_cases h2:upNow s.b k=true
  ·
   exact ⟨1,s,by unfold upV;rw [if_neg h1,if_pos h2]⟩
  by_cases h3:s.on k=true
  ·
   by_cases h4:isCyclic k=true
   ·
    exact ⟨1,s,by unfold upV;rw [if_neg h1,if_neg h2,if_pos h3,if_pos h4]⟩
   exact ⟨1,_,by unfold upV;rw [if_neg h1,if_neg h2,if_pos h3,if_neg h4]⟩
  have hni:isInput k=false:=by simp at h1;exact h1.2
  obtain ⟨i,hi,hki,_⟩:=hk.ans hni
  have hoff:off rules {s with busy:=mput s.busy k (.bool true)}+1≤off rules s:=by
   refine cnt_lt (j:=i) (fun j _ hj=>?_) hi ?_ ?_
   ·
    simp only [on_put,Bool.not_eq_true',Bool.or_eq_false_iff] at hj ⊢;exact hj.2
   ·
    rw [← hki];simpa using h3
   simp only [on_put,← hki];simp
  obtain ⟨f,⟨s2,b2⟩,hp⟩:=check_some (val:=val) hR ih k _ {s with busy:=mput s.busy k (.bool true)} 0 (Nat.le_refl _) (by omega) (hg.on k) (by omega);have hg2:=((engine_good (val:=val) hR f).2.1 _ _ _ _ _ hp (hg.on k)).1;have hk2:=((engine_keep (val:=val) hR f).2.1 _ _ _ _ _ hp (hg.on k)).1
  cases b2 with
  | false=>
   refine ⟨f+1,{s2 with busy:=mdel s2.busy k},?_⟩
   unfold upV
   rw [if_neg h1,if_neg h2,if_neg h3,hp]
   rfl
  | true=>
   obtain ⟨f2,s3,hs3⟩:=run_some (val:=val) hR ih k _ s2 [] [] (Nat.le_refl _) hg2 (hk.ans hni) (by rw [hk2.off];omega);refine ⟨max f f2+1,{s3 with busy:=mdel s3.busy k},?_⟩
   unfold upV
   rw [if_neg h1,if_neg h2,if_neg h3,check_more (Nat.le_max_left _ _) hp];simp only [Option.bind_some,if_true];rw [run_more (Nat.le_max_right _ _) hs3]
   rfl
end
end Go.Rc

namespace Go.Rc
open Go
noncomputable def upAllV (rules:List Rule) (val:Key→ByteArray) (f:Nat):ES→List Key→Option ES
 | s,[]=>some s
 | s,k::r=>(upV rules val f s k).bind fun t=>upAllV rules val f t r
def ES.base (s:ES) (x:Bas):Bas:=if s.e=0 then s.b else x
noncomputable def ES.list (s:ES):List Key:=if s.e=0 then sortK s.ran else []
theorem upAll_good {rules:List Rule} {inp:List Inp} {val:Key→ByteArray} (hR:rulesOk rules) {f:Nat}:∀{l:List Key} {s s':ES},upAllV rules val f s l=some s'→Good rules inp s→(∀k∈l,Knd rules k)→Good rules inp s'∧ELe s s'
 | [],s,s',h,hg,_=>by simp only [upAllV,Option.some.injEq] at h;subst h;exact ⟨hg,.refl _⟩
 | k::r,s,s',h,hg,hk=>by
  simp only [upAllV] at h;obtain ⟨t,h1,h2⟩:=Option.bind_eq_some_iff.1 h;have h3:=(engine_good (val:=val) hR f).1 _ _ _ h1 hg (hk k (by simp))
  have h4:=upAll_good hR h2 h3.1 fun k hk'=>hk k (by simp [hk'])
  exact ⟨h4.1,h3.2.trans h4.2⟩
theorem St.neBM {κ:Type} {enc:κ→Value} {w0 w:World} {M Z:Nat→Prop} {l:List As} {s m T:Nat} {cs:List Value} {q:List (κ × Value)} (h:St w0 M Z w (As.blk s T cs::As.map enc m q::l)):s≠m:=fun e=>by
 have h1:=(List.pairwise_cons.1 h.dis).1 (As.map enc m q) (by simp) s rfl;exact h1 e
end Go.Rc

