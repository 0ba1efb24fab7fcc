/- Base of the proof: frames, memory, ownership, and the plain meaning of rule systems. Conditions: as each lemma says. -/
import Derived.Test.YthljjmhdkbeghaaGreatDoorIBf
import Derived.Test.YthljjmhdkbeghaaGreatDoorIBe
import Derived.Test.YthljjmhdkbeghaaGreatDoorIBc
import Derived.Laws.IdiomRangeMap
import Derived.Test.YthljjmhdkbeghaaGreatDoorIBd
import Derived.Shelf.SlSortCmp.WholeK
set_option linter.unusedVariables false
set_option linter.unusedSimpArgs false
set_option linter.unusedSectionVars false
namespace Go.Rc
open Go
/-! ### the order of keys -/
theorem cmpB_swap:∀a b:List UInt8,Lib.compareBytes b a = - Lib.compareBytes a b
 | [],[]=>rfl
 | [],_::_=>rfl
 | _::_,[]=>rfl
 | x::a,y::b=>by
  simp only [Lib.compareBytes]
  by_cases h1:x<y
  ·
   have h2:¬y<x:=by simp only [UInt8.lt_iff_toNat_lt] at *;omega
   rw [if_neg h2,if_pos h1,if_pos h1]
   rfl
  by_cases h2:y<x
  ·
   rw [if_pos h2,if_neg h1,if_pos h2]
  rw [if_neg h2,if_neg h1,if_neg h1,if_neg h2,cmpB_swap a b]
theorem cmpB_trans:∀a b c:List UInt8,Lib.compareBytes a b<0→Lib.compareBytes b c<0→Lib.compareBytes a c<0
 | _,[],[],_,h=>by simp [Lib.compareBytes] at h
 | [],[],_::_,h,_=>by simp [Lib.compareBytes] at h
 | _::_,[],_::_,h,_=>by simp [Lib.compareBytes] at h
 | _,_::_,[],_,h=>by simp [Lib.compareBytes] at h
 | [],_::_,_::_,_,_=>by simp [Lib.compareBytes]
 | x::a,y::b,z::c,h1,h2=>by
  simp only [Lib.compareBytes] at h1 h2 ⊢
  by_cases e1:x<y
  ·
   rw [if_pos e1] at h1
   by_cases e2:y<z
   ·
    rw [if_pos (by simp only [UInt8.lt_iff_toNat_lt] at *;omega)];decide
   rw [if_neg e2] at h2
   by_cases e3:z<y
   ·
    rw [if_pos e3] at h2;simp at h2
   rw [if_pos (by simp only [UInt8.lt_iff_toNat_lt] at *;omega)];decide
  rw [if_neg e1] at h1
  by_cases e3:y<x
  ·
   rw [if_pos e3] at h1;simp at h1
  rw [if_neg e3] at h1
  by_cases e2:y<z
  ·
   rw [if_pos (by simp only [UInt8.lt_iff_toNat_lt] at *;omega)];decide
  rw [if_neg e2] at h2
  by_cases e4:z<y
  ·
   rw [if_pos e4] at h2;simp at h2
  rw [if_neg e4] at h2;rw [if_neg (by simp only [UInt8.lt_iff_toNat_lt] at *;omega),if_neg (by simp only [UInt8.lt_iff_toNat_lt] at *;omega)];exact cmpB_trans a b c h1 h2
theorem cmpK_swap (a b:Key):cmpK b a = - cmpK a b:=by
 unfold cmpK
 by_cases h1:a.kind<b.kind
 ·
  rw [if_neg (by omega),if_pos h1,if_pos h1];rfl
 by_cases h2:b.kind<a.kind
 ·
  rw [if_pos h2,if_neg h1,if_pos h2]
 rw [if_neg h2,if_neg h1,if_neg h1,if_neg h2,cmpB_swap]
theorem cmpK_trans {a b c:Key} (h1:cmpK a b<0) (h2:cmpK b c<0):cmpK a c<0:=by
 unfold cmpK at h1 h2 ⊢
 by_cases e1:a.kind<b.kind
 ·
  by_cases e2:b.kind<c.kind
  ·
   rw [if_pos (by omega)];decide
  rw [if_neg e2] at h2
  by_cases e3:c.kind<b.kind
  ·
   rw [if_pos e3] at h2;simp at h2
  rw [if_pos (by omega)];decide
 rw [if_neg e1] at h1
 by_cases e4:b.kind<a.kind
 ·
  rw [if_pos e4] at h1;simp at h1
 rw [if_neg e4] at h1
 by_cases e2:b.kind<c.kind
 ·
  rw [if_pos (by omega)];decide
 rw [if_neg e2] at h2
 by_cases e3:c.kind<b.kind
 ·
  rw [if_pos e3] at h2;simp at h2
 rw [if_neg e3] at h2;rw [if_neg (by omega),if_neg (by omega)];exact cmpB_trans _ _ _ h1 h2
def Srt (l:List Rec):Prop:=l.Pairwise fun a b=>cmpK a.key b.key<0
theorem putGo_true (r:Rec):∀l:List Rec,putGo r l true=l.filter fun x=>!decide (cmpK x.key r.key=0)
 | []=>rfl
 | x::xs=>by
  simp only [putGo,Bool.not_true,Bool.and_false,Bool.false_eq_true,if_false,Bool.true_or,List.nil_append,putGo_true r xs,List.filter_cons]
  by_cases h:cmpK x.key r.key=0 <;> simp [h]
theorem Srt.put {r:Rec}:∀{l:List Rec},Srt l→Srt (putR l r)
 | [],_=>by simp [Srt,putR,putGo]
 | x::xs,h=>by
  obtain ⟨h1,h2⟩:=List.pairwise_cons.1 h;have ih:Srt (putR xs r):=Srt.put h2;have hf:Srt (xs.filter fun y=>!decide (cmpK y.key r.key=0)):=List.Pairwise.filter _ h2
  show Srt (putGo r (x::xs) false)
  simp only [putGo,Bool.not_false,Bool.and_true,Bool.false_or]
  by_cases c1:cmpK x.key r.key<0
  ·
   rw [decide_eq_false (show ¬0≤cmpK x.key r.key by omega),if_neg (show ¬cmpK x.key r.key=0 by omega)];simp only [Bool.false_eq_true,if_false,List.nil_append,List.singleton_append];refine List.pairwise_cons.2 ⟨fun y hy=>?_,ih⟩
   rcases putGo_mem _ _ _ _ hy with rfl | hy
   ·
    exact c1
   exact h1 y hy
  rw [decide_eq_true (show 0≤cmpK x.key r.key by omega),putGo_true];simp only [if_true]
  by_cases c2:cmpK x.key r.key=0
  ·
   rw [if_pos c2];simp only [List.append_nil,List.singleton_append];refine List.pairwise_cons.2 ⟨fun y hy=>?_,hf⟩;rw [← cmpK_eq c2];exact h1 y (List.mem_filter.1 hy).1
  rw [if_neg c2];simp only [List.singleton_append,List.cons_append]
  have c3:cmpK r.key x.key<0:=by rw [cmpK_swap x.key r.key];omega
  refine List.pairwise_cons.2 ⟨fun y hy=>?_,List.pairwise_cons.2 ⟨fun y hy=>h1 y (List.mem_filter.1 hy).1,hf⟩⟩
  rcases List.mem_cons.1 hy with rfl | hy
  ·
   exact c3
  exact cmpK_trans c3 (h1 y (List.mem_filter.1 hy).1)
theorem Srt.recsOk {l:List Rec} (h:Srt l) (hn:l.length≤4000) (hv:∀r∈l,validRec r=true):recsOk l:=by
 refine ⟨hn,fun i x hx=>⟨hv x (List.mem_of_getElem? hx),fun hi=>?_⟩⟩;obtain ⟨hl,rfl⟩:=List.getElem?_eq_some_iff.1 hx;rw [getElem!_pos l (i - 1) (by omega)];exact List.pairwise_iff_getElem.1 h (i - 1) i (by omega) hl (by omega)
/-! ### values are short -/
section
variable {rules:List Rule} {inp:List Inp}
theorem itoa_size {n:Nat} (h:n≤65535):(itoa (n:Int)).size≤6:=by
 have e:Lib.itoa (n:Int)=Lib.decDigits n:=by unfold Lib.itoa;rw [if_neg (by omega)];rfl
 have:(itoa (n:Int)).size=(Lib.decDigits n).length:=by unfold itoa ByteArray.size;rw [e];simp
 rw [this,Lib.decDigits_length]
 have:=nDigits_le 5 n (by omega)
 omega
theorem valOf_rule (hR:rulesOk rules) {i:Nat} (hi:i<rules.length):∃n:Nat,n≤65535∧valOf rules inp (ofK rules (i:Int))=itoa (n:Int):=by
 have h1:=valOf_turn (inp:=inp) hR hi;rw [turn_end hR hi (runA_len _ _ _).2] at h1;have hc:=rulesOk.hb hR _ (List.getElem_mem hi);refine ⟨_,finalV_le (kind:=rules[i].final) (c:=rules[i].c.toNat) (l:=(runA (turnV rules (ofK rules (i:Int))) (valOf rules inp) (asksN rules i)).2.map valS) (by omega) (fun x hx=>?_),?_⟩
 ·
  obtain ⟨s,_,rfl⟩:=List.mem_map.1 hx;exact valS_le s
 have:=congrArg Turn.value h1
 exact this.symm
theorem valI_out (hR:rulesOk rules) {i:Nat} (hi:rules.length≤i):valI rules inp i=⟨#[]⟩:=by
 have hk:ofK rules (i:Int)=noKey:=by unfold ofK;rw [if_pos (by omega)]
 unfold valI valueAt
 rw [if_neg (by rw [ringAt_out hi];simp),hk]
 unfold turnV
 rw [if_pos (.inl (by unfold number noKey;simp))]
theorem valOf_size (hR:rulesOk rules) (hi:∀x∈inp,x.value.size≤1000) (k:Key):(valOf rules inp k).size≤1000:=by
 by_cases hk:isInput k=true
 ·
  unfold valOf cellOf
  rw [if_pos hk]
  unfold findI
  cases hf:inp.find? fun x=>x.key == k with
  | none=>simp [ByteArray.size]
  | some x=>exact hi x (List.mem_of_find?_eq_some hf)
 have e:valOf rules inp k=valI rules inp (number k).toNat:=by unfold valOf;rw [if_neg hk]
 rw [e]
 rcases Nat.lt_or_ge (number k).toNat rules.length with h | h
 ·
  rw [← valOf_ofK hR h];obtain ⟨n,hn,h2⟩:=valOf_rule (inp:=inp) hR h;rw [h2]
  have:=itoa_size hn
  omega
 rw [valI_out hR h]
 simp [ByteArray.size]
theorem readsV_len (rules:List Rule) (inp:List Inp) (i:Nat):(readsV rules inp i).length=asksN rules i:=(runA_len _ _ _).1
theorem readsV_knd (hR:rulesOk rules) {i:Nat} (hi:i<rules.length):∀a∈readsV rules inp i,MayAsk rules i a:=by
 have key:∀n,n≤asksN rules i→∀a∈(runA (turnV rules (ofK rules (i:Int))) (valOf rules inp) n).1,MayAsk rules i a:=by
  intro n
  induction n with
  | zero=>intro _ a ha;simp [runA] at ha
  | succ n ih=>
   intro hn a ha;simp only [runA,List.mem_append,List.mem_singleton] at ha
   rcases ha with ha | rfl
   ·
    exact ih (by omega) a ha
   obtain ⟨a,h1,h2,_⟩:=turn_ask hR hi (answers:=(runA (turnV rules (ofK rules (i:Int))) (valOf rules inp) n).2) (by rw [(runA_len _ _ n).2];omega);rw [h1];exact h2
 exact key _ (Nat.le_refl _)
theorem Knd.valid {k:Key} (h:Knd rules k):validK k=true:=by
 cases h with
 | cell h=>
  rename_i n
  have hc:cellK (n:Int)=⟨30,itoa (n:Int)⟩:=by unfold cellK;rw [if_neg (by omega)]
  rw [hc]
  unfold validK number
  simp only [];rw [if_pos (by omega)]
  simp [decimal_itoa (show n<1000000000 by omega)]
  omega
 | rule h h99=>
  rename_i i
  have h1:=number_ofK h h99;have h2:=ofK_kind h h99
  unfold validK
  rw [if_pos (by rw [h2];split <;> omega),h1]
  simp
end
section
variable {rules:List Rule} {inp:List Inp} {s t:ES} {k:Key}
theorem findR_mem {l:List Rec} {r:Rec} (h:findR l k=some r):r∈l∧r.key=k:=by
 unfold findR at h
 refine ⟨List.mem_of_find?_eq_some h,?_⟩
 have:=List.find?_some h
 simpa using this
end
end Go.Rc

namespace Go.Rc
open Go
theorem validRec_iff (x:Rec):validRec x=true↔(∀a∈x.reads,validK a=true)∧validK x.key=true∧isInput x.key=false∧(x.value.size:Int)≤1073741824∧(x.reads.length:Int)≤4000∧0≤x.changed∧x.changed≤x.verified∧x.verified≤1073741824∧1≤x.cost∧x.cost≤1073741824∧(x.dirty=false∨isCyclic x.key=true):=by
 unfold validRec recTail
 simp only [Bool.and_eq_true,List.all_eq_true,decide_eq_true_eq,Bool.or_eq_true,Bool.not_eq_true']
structure OkS (s:ES):Prop where
 st:Srt s.b.recs
 v:∀r∈s.b.recs,validRec r=true∧r.verified≤s.b.revision
 r0:0≤s.b.revision
 r1:s.b.revision≤1073741824
section
variable {rules:List Rule} {inp:List Inp} {val:Key→ByteArray} {s t:ES} {k:Key}
theorem Srt.map {l:List Rec} (h:Srt l) {f:Rec→Rec} (hf:∀r,(f r).key=r.key):Srt (l.map f):=by
 unfold Srt
 rw [List.pairwise_map]
 exact h.imp fun {a b} hab=>by rw [hf,hf];exact hab
theorem OkS.mark0 (h:OkS s) (g:List Key):OkS {s with b:=markV s.b g false}:=by
 refine ⟨h.st.map fun r=>(markR_key _ _ _ r).1,fun r hr=>?_,h.r0,h.r1⟩;obtain ⟨q,hq,rfl⟩:=List.mem_map.1 hr;obtain ⟨h1,h2⟩:=h.v q hq;have h0:=h.r0;have h3:=h.r1
 unfold markR
 by_cases hk:q.key∈g
 ·
  rw [if_pos hk];simp only [Bool.false_eq_true,if_false];rw [validRec_iff] at h1 ⊢;obtain ⟨a,b,c,d,e,f,g,i,j,k,l⟩:=h1;exact ⟨⟨a,b,c,d,e,f,by show q.changed≤s.b.revision;omega,h3,j,k,l⟩,Int.le_refl _⟩
 rw [if_neg hk];exact ⟨h1,h2⟩
theorem OkS.mark1 (h:OkS s) {g:List Key} (hc:∀x∈g,isCyclic x=true):OkS {s with b:=markV s.b g true}:=by
 refine ⟨h.st.map fun r=>(markR_key _ _ _ r).1,fun r hr=>?_,h.r0,h.r1⟩;obtain ⟨q,hq,rfl⟩:=List.mem_map.1 hr;obtain ⟨h1,h2⟩:=h.v q hq
 unfold markR
 by_cases hk:q.key∈g
 ·
  rw [if_pos hk];simp only [if_true];rw [validRec_iff] at h1 ⊢;obtain ⟨a,b,c,d,e,f,g,i,j,k,l⟩:=h1;exact ⟨⟨a,b,c,d,e,f,g,i,j,k,.inr (hc _ hk)⟩,h2⟩
 rw [if_neg hk];exact ⟨h1,h2⟩
theorem groupV_cyc {l:List Rec} {rev:Int} (hk:isCyclic k=true):∀x∈groupV l rev k,isCyclic x=true:=fun x hx=>by
 unfold groupV at hx
 split at hx
 ·
  rw [sortK_mem,List.mem_cons] at hx
  rcases hx with rfl | hx
  ·
   exact hk
  obtain ⟨r,hr,rfl⟩:=List.mem_map.1 hx
  have:=(List.mem_filter.1 hr).2
  unfold grpB at this
  simp only [Bool.and_eq_true] at this;have ho:=(leadsB_iff.1 this.2.1).opn
  unfold openR at ho
  simp only [Bool.and_eq_true] at ho;exact ho.2.1
 simp only [List.mem_singleton] at hx;rw [hx];exact hk
theorem OkS.put (h:OkS s) {r:Rec} {ran:List Key} (hv:validRec r=true) (hr:r.verified≤s.b.revision):OkS {s with b:={s.b with recs:=putR s.b.recs r},ran:=ran}:=
 ⟨h.st.put,fun q hq=>by rcases putGo_mem _ _ _ _ hq with rfl | hq;exact ⟨hv,hr⟩;exact h.v q hq,h.r0,h.r1⟩
theorem turn_size (hR:rulesOk rules) {answers:List ByteArray} (h:ansOk rules k answers.length) (hd:(turn28 rules k answers).done=true):(turn28 rules k answers).value.size≤6:=by
 obtain ⟨i,hi,rfl,hn⟩:=h;have h24:=hR.len;rw [turn28_ofK hi (by omega)] at hd ⊢
 rcases Nat.lt_or_ge answers.length (asksN rules i) with hlt | hge
 ·
  obtain ⟨a,h1,_⟩:=turn_ask hR hi hlt;rw [h1] at hd;cases hd
 rw [turn_end hR hi (by omega)];have hc:=rulesOk.hb hR _ (List.getElem_mem hi);exact itoa_size (finalV_le (by omega) fun x hx=>by obtain ⟨s,_,rfl⟩:=List.mem_map.1 hx;exact valS_le s)
theorem made_valid (hR:rulesOk rules) (h:OkS s) {answers:List ByteArray} {reads:List Key} (ha:ansOk rules k answers.length) (hd:(turn28 rules k answers).done=true) (hl:reads.length=answers.length) (hr:∀a∈reads,Knd rules a) :
  validRec (madeV s.b k (turn28 rules k answers).value reads)=true:=by
 have h6:=ha.le hR;have hs:=turn_size hR ha hd;have h0:=h.r0;have h1:=h.r1;rw [validRec_iff]
 unfold madeV
 have hch:∀c:Int,(c=if (findR s.b.recs k).isSome && decide ((recOf s.b.recs k).value=(turn28 rules k answers).value) then (recOf s.b.recs k).changed else s.b.revision)→0≤c∧c≤s.b.revision:=fun c hc=>by
  split at hc
  ·
   rename_i hf
   simp only [Bool.and_eq_true] at hf;obtain ⟨r,hf1⟩:=Option.isSome_iff_exists.1 hf.1;have hm:=(findR_mem hf1).1;obtain ⟨h2,h3⟩:=h.v r hm;rw [validRec_iff] at h2
   have e:recOf s.b.recs k=r:=by unfold recOf;rw [hf1];rfl
   rw [e] at hc;obtain ⟨_,_,_,_,_,h4,h5,_⟩:=h2
   omega
  omega
 obtain ⟨h2,h3⟩:=hch _ rfl;exact ⟨fun a hm=>(hr a hm).valid,(ha.knd hR).valid,(ha.not hR).2,by show ((turn28 rules k answers).value.size:Int)≤_;omega,by show (reads.length:Int)≤_;omega,h2,h3,h1,by show 1≤1+(reads.length:Int);omega,by show 1+(reads.length:Int)≤_;omega,.inl rfl⟩
def UpO (rules:List Rule) (val:Key→ByteArray) (inp:List Inp) (f:Nat):Prop:=∀s k s',upV rules val f s k=some s'→Good rules inp s→OkS s→Knd rules k→OkS s'
def ChO (rules:List Rule) (val:Key→ByteArray) (inp:List Inp) (f:Nat):Prop:=∀s k n s' b,checkV rules val f s k n=some (s',b)→Good rules inp s→OkS s→OkS s'
def RuO (rules:List Rule) (val:Key→ByteArray) (inp:List Inp) (f:Nat):Prop:=∀s k reads answers s',runV rules val f s k reads answers=some s'→Good rules inp s→OkS s→ansOk rules k answers.length→reads.length=answers.length→(∀a∈reads,Knd rules a)→OkS s'
theorem engine_ok (hR:rulesOk rules):∀f,UpO rules val inp f∧ChO rules val inp f∧RuO rules val inp f:=by
 intro f
 induction f with
 | zero=>exact ⟨fun s k s' h=>by simp [upV] at h,fun s k n s' b h=>by simp [checkV] at h,fun s k r a s' h=>by simp [runV] at h⟩
 | succ f ih=>
  obtain ⟨ihu,ihc,ihr⟩:=ih;have gd:=engine_good (val:=val) (inp:=inp) hR f;refine ⟨?_,?_,?_⟩
  ·
   intro s k s' h hg ho hk
   unfold upV at h
   split at h
   ·
    cases h;exact ho
   rename_i he
   split at h
   ·
    cases h;exact ho
   split at h
   ·
    split at h <;> cases h
    ·
     exact ho
    exact ⟨ho.st,ho.v,ho.r0,ho.r1⟩
   obtain ⟨p,hp,h⟩:=Option.bind_eq_some_iff.1 h;obtain ⟨t,ht,h⟩:=Option.bind_eq_some_iff.1 h
   cases h
   have h1:=ihc _ _ _ p.1 p.2 (by rw [hp]) (hg.on k) ⟨ho.st,ho.v,ho.r0,ho.r1⟩;have hg1:=(gd.2.1 _ _ _ p.1 p.2 (by rw [hp]) (hg.on k)).1
   have h3:OkS t:=by
    split at ht
    ·
     exact ihr _ _ _ _ _ ht hg1 h1 (hk.ans (by simp at he;exact he.2)) rfl (fun a ha=>by cases ha)
    cases ht;exact h1
   exact ⟨h3.st,h3.v,h3.r0,h3.r1⟩
  ·
   intro s k n s' b h hg ho
   unfold checkV at h
   split at h
   ·
    cases h;exact ho
   split at h
   ·
    cases h;exact ho
   split at h
   ·
    cases h;exact ho
   split at h
   ·
    cases h;exact ho.mark0 _
   rename_i c hc
   split at h
   ·
    obtain ⟨t,ht,h⟩:=Option.bind_eq_some_iff.1 h;have h1:=ihu _ _ _ ht hg ho (chk_read hg hc);exact ihc _ _ _ _ _ h (gd.1 _ _ _ ht hg (chk_read hg hc)).1 h1
   split at h
   ·
    split at h
    ·
     rename_i hcy
     cases h
     exact ho.mark1 (groupV_cyc hcy)
    cases h;exact ho
   exact ihc _ _ _ _ _ h hg ho
  intro s k reads answers s' h hg ho ha hl hr
  unfold runV at h
  split at h
  ·
   cases h;exact ho
  split at h
  ·
   rename_i hd
   split at h
   ·
    cases h;exact ⟨ho.st,ho.v,ho.r0,ho.r1⟩
   cases h
   exact ho.put (made_valid hR ho ha hd hl hr) (Int.le_refl _)
  rename_i hd
  obtain ⟨t,ht,h⟩:=Option.bind_eq_some_iff.1 h;have hn:=ha.next hR (by simpa using hd);have h1:=ihu _ _ _ ht hg ho hn.2;have hg1:=(gd.1 _ _ _ ht hg hn.2).1
  split at h
  ·
   exact ihr _ _ _ _ _ h hg1 h1 (by simpa using hn.1) (by simp [hl]) (fun a ha=>by rcases List.mem_append.1 ha with ha | ha;exact hr a ha;simp at ha;subst ha;exact hn.2)
  exact ihr _ _ _ _ _ h hg1 h1 ha hl hr
theorem upAll_ok (hR:rulesOk rules) {f:Nat}:∀{l:List Key} {s s':ES},upAllV rules val f s l=some s'→Good rules inp s→OkS s→(∀k∈l,Knd rules k)→OkS s'
 | [],s,s',h,_,ho,_=>by simp only [upAllV,Option.some.injEq] at h;subst h;exact ho
 | k::r,s,s',h,hg,ho,hk=>by
  simp only [upAllV] at h;obtain ⟨t,h1,h2⟩:=Option.bind_eq_some_iff.1 h
  exact upAll_ok hR h2 ((engine_good (val:=val) hR f).1 _ _ _ h1 hg (hk k (by simp))).1 ((engine_ok hR f).1 _ _ _ h1 hg ho (hk k (by simp))) fun k hk'=>hk k (by simp [hk'])
end
end Go.Rc

namespace Go.Rc
open Go
theorem srt_of_adj {α:Type} {R:α→α→Prop} (ht:∀a b c,R a b→R b c→R a c) {l:List α} (h:∀(i:Nat) (hi:i+1<l.length),R (l[i]'(by omega)) l[i+1]):l.Pairwise R:=by
 refine List.pairwise_iff_getElem.2 fun i j hi hj hij=>?_;obtain ⟨d,rfl⟩:∃d,j=i+1+d:=⟨j - (i+1),by omega⟩
 induction d with
 | zero=>exact h i hj
 | succ d ih=>exact ht _ _ _ (ih (by omega) (by omega)) (h (i+1+d) (by omega))
def SrtI (l:List Inp):Prop:=l.Pairwise fun a b=>cmpK a.key b.key<0
def inpV (rev:Int) (x:Inp):Prop:=validK x.key=true∧isInput x.key=true∧(x.value.size:Int)≤1073741824∧0≤x.changed∧x.changed≤rev
theorem inpsOk_iff {rev:Int} {l:List Inp}:inpsOk rev l↔SrtI l∧∀x∈l,inpV rev x:=by
 constructor
 ·
  intro h
  have h1:∀(i:Nat) (hi:i<l.length),inpV rev l[i]∧(0<i→cmpK (l[i - 1]!).key l[i].key<0):=fun i hi=>by
   have h2:=h i _ (getElem_some hi)
   unfold inpBad at h2
   simp only [getElem!_pos l i hi,Bool.or_eq_false_iff,Bool.not_eq_false',Bool.and_eq_false_iff,decide_eq_false_iff_not] at h2;obtain ⟨a,b,c,d,e,f⟩:=h2;exact ⟨⟨a,b,by omega,by omega,by omega⟩,fun h0=>by rcases c with c | c <;> omega⟩
  refine ⟨srt_of_adj (R:=fun a b:Inp=>cmpK a.key b.key<0) (fun a b c h k=>cmpK_trans h k) fun i hi=>?_,fun x hx=>?_⟩
  ·
   have:=(h1 (i+1) hi).2 (by omega)
   rw [Nat.add_sub_cancel,getElem!_pos l i (by omega)] at this;exact this
  obtain ⟨i,hi,rfl⟩:=List.mem_iff_getElem.1 hx;exact (h1 i hi).1
 rintro ⟨h1,h2⟩ i y hy;obtain ⟨hi,rfl⟩:=List.getElem?_eq_some_iff.1 hy;obtain ⟨a,b,c,d,e⟩:=h2 _ (List.getElem_mem hi)
 unfold inpBad
 simp only [getElem!_pos l i hi,Bool.or_eq_false_iff,Bool.not_eq_false',Bool.and_eq_false_iff,decide_eq_false_iff_not];refine ⟨a,b,?_,by omega,by omega,by omega⟩
 by_cases h0:0<i
 ·
  right
  rw [getElem!_pos l (i - 1) (by omega)]
  have:=List.pairwise_iff_getElem.1 h1 (i - 1) i (by omega) hi (by omega)
  omega
 left
 omega
def putI (n:Inp):List Inp→Bool→List Inp
 | [],put=>if put then [] else [n]
 | x::xs,put=>(if decide (0≤cmpK x.key n.key) && !put then [n] else [])++(if cmpK x.key n.key=0 then [] else [x])++putI n xs (put || decide (0≤cmpK x.key n.key))
theorem putI_mem (n:Inp):∀(l:List Inp) (b:Bool) (x:Inp),x∈putI n l b→x=n∨x∈l:=by
 intro l
 induction l with
 | nil=>intro b x h;unfold putI at h;split at h;cases h;simp at h;exact .inl h
 | cons y ys ih=>
  intro b x h;simp only [putI,List.mem_append] at h
  rcases h with (h | h) | h
  ·
   split at h
   ·
    simp at h;exact .inl h
   cases h
  ·
   split at h
   ·
    cases h
   simp at h;subst h;exact .inr (by simp)
  rcases ih _ _ h with h | h
  ·
   exact .inl h
  exact .inr (by simp [h])
theorem putI_true (n:Inp):∀l:List Inp,putI n l true=l.filter fun x=>!decide (cmpK x.key n.key=0)
 | []=>rfl
 | x::xs=>by
  simp only [putI,Bool.not_true,Bool.and_false,Bool.false_eq_true,if_false,Bool.true_or,List.nil_append,putI_true n xs,List.filter_cons]
  by_cases h:cmpK x.key n.key=0 <;> simp [h]
theorem putI_len (n:Inp):∀(l:List Inp) (b:Bool),(putI n l b).length≤l.length+1
 | [],b=>by cases b <;> simp [putI]
 | x::xs,b=>by
  by_cases h:(decide (0≤cmpK x.key n.key) && !b)=true
  ·
   have hb:(b || decide (0≤cmpK x.key n.key))=true:=by simp at h;simp [h.1]
   simp only [putI,List.length_append,List.length_cons];rw [if_pos h,hb,putI_true]
   have:=List.length_filter_le (fun x:Inp=>!decide (cmpK x.key n.key=0)) xs
   split <;> simp <;> omega
  have ih:=putI_len n xs (b || decide (0≤cmpK x.key n.key));simp only [putI,List.length_append,List.length_cons];rw [if_neg h]
  split <;> simp <;> omega
theorem SrtI.put {n:Inp}:∀{l:List Inp},SrtI l→SrtI (putI n l false)
 | [],_=>by simp [SrtI,putI]
 | x::xs,h=>by
  obtain ⟨h1,h2⟩:=List.pairwise_cons.1 h;have ih:SrtI (putI n xs false):=SrtI.put h2;have hf:SrtI (xs.filter fun y=>!decide (cmpK y.key n.key=0)):=List.Pairwise.filter _ h2
  show SrtI (putI n (x::xs) false)
  simp only [putI,Bool.not_false,Bool.and_true,Bool.false_or]
  by_cases c1:cmpK x.key n.key<0
  ·
   rw [decide_eq_false (show ¬0≤cmpK x.key n.key by omega),if_neg (show ¬cmpK x.key n.key=0 by omega)];simp only [Bool.false_eq_true,if_false,List.nil_append,List.singleton_append];refine List.pairwise_cons.2 ⟨fun y hy=>?_,ih⟩
   rcases putI_mem _ _ _ _ hy with rfl | hy
   ·
    exact c1
   exact h1 y hy
  rw [decide_eq_true (show 0≤cmpK x.key n.key by omega),putI_true];simp only [if_true]
  by_cases c2:cmpK x.key n.key=0
  ·
   rw [if_pos c2];simp only [List.append_nil,List.singleton_append];refine List.pairwise_cons.2 ⟨fun y hy=>?_,hf⟩;rw [← cmpK_eq c2];exact h1 y (List.mem_filter.1 hy).1
  rw [if_neg c2];simp only [List.singleton_append,List.cons_append]
  have c3:cmpK n.key x.key<0:=by rw [cmpK_swap x.key n.key];omega
  refine List.pairwise_cons.2 ⟨fun y hy=>?_,List.pairwise_cons.2 ⟨fun y hy=>h1 y (List.mem_filter.1 hy).1,hf⟩⟩
  rcases List.mem_cons.1 hy with rfl | hy
  ·
   exact c3
  exact cmpK_trans c3 (h1 y (List.mem_filter.1 hy).1)
end Go.Rc

namespace Go.Rc
open Go
end Go.Rc
namespace Go.Rc
open Go
def rec1 (i:Nat) (v:ByteArray):Rec:=⟨⟨31,itoa i⟩,v,[],0,0,1,false⟩
def IdxOf {α:Type} (l:List α) (p:α→Bool) (j:Int):Prop:=(∃i:Nat,∃x,l[i]?=some x∧p x=true∧(∀j x,j<i→l[j]?=some x→p x=false)∧j=i)∨((∀x∈l,p x=false)∧j = -1)
end Go.Rc
namespace Go.Rc
open Go
end Go.Rc

namespace Go.Rc
open Go
def cmpI (a b:Int):Int:=if a<b then -1 else if b<a then 1 else 0
def orI (l:List Int):Int:=(l.find? fun x=>decide (x≠0)).getD 0
theorem orI_at {l:List Int} {i:Nat} (hi:i<l.length) (hno:∀j x,j<i→l[j]?=some x→x=0) (h:l[i]≠0):orI l=l[i]:=by
 unfold orI
 rw [find_before hi (fun j x hj hx=>by simp [hno j x hj hx]) (by simpa using h)]
 rfl
theorem orI_all {l:List Int} (h:∀x∈l,x=0):orI l=0:=by
 unfold orI
 rw [List.find?_eq_none.2 fun x hx=>by simp [h x hx]]
 rfl
theorem orI_cmp {a b:Key}:orI [cmpI a.kind b.kind,Lib.compareBytes a.text.data.toList b.text.data.toList]=cmpK a b:=by
 unfold orI cmpI cmpK
 by_cases h1:a.kind<b.kind
 ·
  simp [h1]
 by_cases h2:b.kind<a.kind
 ·
  simp [h1,h2]
 by_cases h3:Lib.compareBytes a.text.data.toList b.text.data.toList=0
 ·
  simp [h1,h2,h3]
 simp [h1,h2,h3]
theorem two_rows {α:Type} {R:α→List Value→Prop} {x y:α} {r s:List Value} (h1:R x r) (h2:R y s):∀(i:Nat) (z:α) (t:List Value),[x,y][i]?=some z→[r,s][i]?=some t→R z t:=fun i z t hz ht=>by
 match i with
 | 0=>simp at hz ht;subst hz ht;exact h1
 | 1=>simp at hz ht;subst hz ht;exact h2
 | n+2=>simp at hz
theorem Knd.shape {rules:List Rule} {k:Key} (h:Knd rules k):∃i:Nat,i≤99∧k.text=itoa i∧(30≤k.kind∧k.kind≤32):=by
 cases h with
 | cell h=>rename_i n;exact ⟨n,h,by unfold cellK;rw [if_neg (by omega)],by unfold cellK;rw [if_neg (by omega)];simp⟩
 | rule h h99=>rename_i i;exact ⟨i,h99,by unfold ofK;rw [if_neg (by omega)],by rw [ofK_kind h h99];split <;> omega⟩
theorem Knd.notLang {rules:List Rule} {k:Key} (h:Knd rules k):notLang k:=by
 obtain ⟨_,_,_,h1⟩:=h.shape;exact .inr (by omega)
theorem cyc_kind {rules:List Rule} {k:Key} (h:Knd rules k) (hc:isCyclic k=true):k.kind=32:=by
 cases h with
 | cell h=>rw [isCyclic_cellK h] at hc;cases hc
 | rule h h99=>rw [isCyclic_ofK h h99] at hc;rw [ofK_kind h h99,hc];rfl
theorem IdxOf.any {α:Type} {l:List α} {p:α→Bool} {j:Int} (h:IdxOf l p j):decide (0≤j)=l.any p:=by
 rcases h with ⟨i,x,h1,h2,_,rfl⟩ | ⟨h1,rfl⟩
 ·
  rw [decide_eq_true (by omega),List.any_eq_true.2 ⟨x,List.mem_of_getElem? h1,h2⟩]
 rw [decide_eq_false (by omega),List.any_eq_false.2 fun x hx=>by simp [h1 x hx]]
def GoodR (rules:List Rule) (x:Rec):Prop:=Knd rules x.key∧isInput x.key=false∧(∀a∈x.reads,Knd rules a)∧validRec x=true
def GoodB (rules:List Rule) (x:Bas):Prop:=0≤x.revision∧x.revision≤1073741824∧(SrtI x.inputs∧∀y∈x.inputs,inpV x.revision y)∧(∀y∈x.inputs,∃i:Nat,i≤99∧y.key=⟨30,itoa i⟩)∧x.inputs.length≤64∧(∀r∈x.recs,GoodR rules r)∧Srt x.recs∧x.recs.length≤4000∧∀r∈x.recs,r.verified≤x.revision
end Go.Rc

namespace Go.Rc
open Go
section
variable {l l':List Rule}
def SameRings (l l':List Rule):Prop:=l.map (·.ring)=l'.map (·.ring)
theorem SameRings.len (h:SameRings l l'):l.length=l'.length:=by simpa using congrArg List.length h
theorem SameRings.rg (h:SameRings l l') (i:Nat):ringAt l i=ringAt l' i:=by
 have h2:=congrArg (fun x=>x[i]?) h;simp only [List.getElem?_map] at h2
 unfold Go.Rc.ringAt
 cases h3:l[i]? <;> cases h4:l'[i]? <;> simp [h3,h4] at h2 ⊢
 exact h2
theorem SameRings.lo (h:SameRings l l'):∀k,blockLo l k=blockLo l' k
 | 0=>rfl
 | k+1=>by unfold blockLo;rw [h.rg k,h.lo k]
theorem takeWhile_rings:∀{l l':List Rule},SameRings l l'→(l.takeWhile (·.ring)).length=(l'.takeWhile (·.ring)).length
 | [],[],_=>rfl
 | [],_::_,h=>by simp [SameRings] at h
 | _::_,[],h=>by simp [SameRings] at h
 | x::r,y::s,h=>by
  simp only [SameRings,List.map_cons,List.cons.injEq] at h;have ih:=takeWhile_rings (l:=r) (l':=s) h.2;simp only [List.takeWhile_cons,h.1]
  cases y.ring <;> simp [ih]
theorem SameRings.hi (h:SameRings l l') (m:Nat):hiFrom l m=hiFrom l' m:=by
 unfold hiFrom
 rw [takeWhile_rings (l:=l.drop m) (l':=l'.drop m)]
 unfold SameRings
 rw [List.map_drop,List.map_drop,h]
theorem SameRings.block (h:SameRings l l') (n:Int):block l n=block l' n:=by
 unfold Go.Rc.block
 rw [h.len,h.rg,h.lo,h.hi]
theorem SameRings.may (h:SameRings l l') (i:Nat) (c:Bool) (n:Int):mayOk l i c n=mayOk l' i c n:=by
 unfold mayOk mayTop
 rw [h.rg,h.block]
theorem SameRings.ask (h:SameRings l l') (i:Nat) (g:Bool) (k:Nat) (x:Ask):askOk l i g k x=askOk l' i g k x:=by
 unfold askOk
 rw [h.may,h.may]
theorem SameRings.rule (h:SameRings l l') (i:Nat) (r:Rule):ruleOk l i r↔ruleOk l' i r:=by
 unfold ruleOk
 simp only [h.ask]
theorem SameRings.set {i:Nat} (hi:i<l.length) {r:Rule} (hr:r.ring=ringAt l i):SameRings (l.set i r) l:=by
 unfold SameRings
 rw [List.map_set,hr,ringAt_get hi];refine List.ext_getElem? fun j=>?_;rw [List.getElem?_set]
 split
 ·
  rename_i e
  subst e
  simp [hi]
 rfl
def PartOk (l:List Rule) (i:Nat):Prop:=l.length≤8∧∀(j:Nat) (r:Rule),l[j]?=some r→j<i→ruleOk l j r
theorem PartOk.start (h:l.length≤8):PartOk l 0:=⟨h,fun _ _ _ h=>by omega⟩
theorem PartOk.set {i:Nat} (h:PartOk l i) (hi:i<l.length) {r:Rule} (hr:r.ring=ringAt l i) (ho:ruleOk l i r):PartOk (l.set i r) (i+1):=by
 have hs:=SameRings.set hi hr;refine ⟨by rw [List.length_set];exact h.1,fun j x hx hj=>?_⟩;rw [hs.rule];rw [List.getElem?_set] at hx
 split at hx
 ·
  rename_i e
  subst e
  simp [hi] at hx
  subst hx;exact ho
 exact h.2 j x hx (by omega)
theorem PartOk.ok (h:PartOk l l.length):rulesOk l:=⟨by have:=h.1;omega,fun i r hr=>h.2 i r hr (List.getElem?_eq_some_iff.1 hr).1⟩
theorem mk_ask {i k:Nat} {g:Bool} {x:Ask} {most:Int} (hm:most=if x.cell then 4 else mayTop l i) (h0:0≤x.n) (h1:x.n<most) (hp:x.pick=true→g=false∧k≠0∧0≤x.els∧x.els<most) (he:x.pick=false→x.els=0):askOk l i g k x=true:=by
 have key:∀n:Int,0≤n→n<most→mayOk l i x.cell n=true:=fun n hn hn2=>by
  unfold mayOk
  cases hc:x.cell
  ·
   rw [hc] at hm
   simp at hm
   subst hm
   simp [hn,hn2]
  rw [hc] at hm
  simp at hm
  subst hm
  simp [hn]
  omega
 unfold askOk
 rw [key _ h0 h1]
 cases h2:x.pick
 ·
  simp [he h2]
 obtain ⟨h3,h4,h5,h6⟩:=hp h2
 simp [h3,h4,key _ h5 h6]
end
end Go.Rc

namespace Go.Rc
open Go
def As.dice (E d:Nat):As where
 fp x:=x=d
 ok Z w:=Dice Z w E d
 lt h x hx:=by subst hx;exact h.lt
 mono hZ h:=by
  obtain ⟨l,a,n,c,t,h1,h2,h3⟩:=h;exact ⟨l,a,n,c,t,h1,SR.mono h2 (fun b hb _=>hZ b hb) (fun _ _ h=>h),h3⟩
 st hs hc h:=by
  obtain ⟨l,a,n,c,t,h1,h2,h3⟩:=h;exact ⟨l,a,n,c,t,(As.blk d E _).st (Z:=fun _=>False) hs (fun x hx=>hc x (hx.imp id False.elim)) h1,SR.st hs (fun x hx=>hc x (.inr hx)) (fun _ _ h=>h) h2,h3⟩
theorem As.gd {E d:Nat} {Z:Nat→Prop} {w:World} (h:(As.dice E d).ok Z w):Dice Z w E d:=h
def RR.chg:RR Change:=RR.flat Change.cells
def begun (g:Bool):Rule:=⟨g,[],0,0⟩
theorem Ow.flat {α:Type} {f:α→List Value} {b T k n:Nat} {Z:Nat→Prop} {w:World} {xs:List α} {l:List Value} (h:Blk w b T l) (hl:l=(xs.map f).flatten) (hk:∀x∈xs,(f x).length=k) (h1:∀u∈l,u.oneCell'=true) (hn:n=xs.length) (hm:xs.length≤140737488355328) :
  Ow (RR.flat f) T k Z w (some ⟨b,0,none⟩) n n xs:=by
 subst hn hl
 have hlen:∀(ys:List α),(∀x∈ys,(f x).length=k)→(ys.map f).flatten.length=ys.length*k:=by
  intro ys
  induction ys with
  | nil=>simp
  | cons y ys ih=>
   intro hy;simp only [List.map_cons,List.flatten_cons,List.length_append,List.length_cons];rw [hy y (by simp),ih fun x hx=>hy x (by simp [hx]),Nat.add_mul]
   omega
 refine ⟨rfl,xs.map f,by simp,by simpa using hk,by simpa using OL.blk (k:=k) h (Nat.zero_le _) (m:=xs.length) (hlen xs hk) h1 hm,fun i x r hx hr=>?_⟩;rw [List.getElem?_map,hx] at hr
 simp at hr
 exact hr.symm
def As.blkE {ι:Type} (b T:Nat) (F:ι→List Value):As where
 fp x:=x=b
 ok _ w:=∃i,Blk w b T (F i)
 lt h x hx:=by obtain ⟨i,h⟩:=h;subst hx;exact h.lt
 mono _ h:=h
 st hs hc h:=by obtain ⟨i,h⟩:=h;exact ⟨i,(As.blk b T _).st (Z:=fun _=>False) hs (fun x hx=>hc x (hx.imp id False.elim)) h⟩
theorem Ow.ring {E n c i b:Nat} {Z:Nat→Prop} {w:World} {a:Option Addr} {l:List Rule} (h:Ow RR.rule E 4 Z w a n c l) (ha:a=some ⟨b,0,none⟩) (hle:l.length≤140737488355328) (hi:i<l.length):w.rangeAt b (0+i*4) [.bool l[i].ring]:=by
 obtain ⟨b',r,h1,_,h3,h4⟩:=Ow.at h hle (getElem_some hi);rw [ha] at h1;simp only [Option.some.injEq,Addr.mk.injEq,and_true] at h1;subst h1;obtain ⟨a',n',c',rfl,_⟩:=h3;intro j v hv
 cases j with
 | zero=>exact h4 0 v hv
 | succ j=>simp at hv
theorem hiFrom_bound (l:List Rule) (m:Nat) (hm:m≤l.length):hiFrom l m≤l.length:=by
 unfold hiFrom
 have h:=(List.takeWhile_sublist (p:=fun r:Rule=>r.ring) (l:=l.drop m)).length_le;simp only [List.length_drop] at h
 omega
theorem mayTop_bounds {l:List Rule} {i:Nat} (hi:i<l.length):0≤mayTop l i∧mayTop l i≤l.length:=by
 have h1:=hiFrom_bound l (i+1) (by omega)
 have hb:block l (i:Int)=if ringAt l i then ((blockLo l i:Int),(hiFrom l (i+1):Int)) else ((i:Int),(i:Int)+1):=by
  unfold block;rw [if_neg (by omega),Int.toNat_natCast]
 unfold mayTop
 rw [hb]
 cases ringAt l i <;> simp <;> omega
theorem asks_snoc {l:List Rule} {i:Nat} {g:Bool} {xs:List Ask} {x:Ask} (h:∀(k:Nat) y,xs[k]?=some y→askOk l i g k y=true) (hx:askOk l i g xs.length x=true):∀(k:Nat) y,(xs++[x])[k]?=some y→askOk l i g k y=true:=fun k y hy=>by
 rcases Nat.lt_trichotomy k xs.length with hk | hk | hk
 ·
  rw [List.getElem?_append_left hk] at hy;exact h k y hy
 ·
  subst hk;simp at hy;subst hy;exact hx
 rw [List.getElem?_eq_none (by simp;omega)] at hy;cases hy
end Go.Rc

namespace Go.Rc
open Go
end Go.Rc

namespace Go.Rc
open Go
section
variable {κ:Type} {enc:κ→Value}
def MIt (enc:κ→Value) (w:World) (b m:Nat) (l left:List (κ × Value)) (cur:Option (κ × Value)):Prop:=
 ∃es clock since seen,w.heap[m]?=some (.map es clock)∧(es.toList.map (fun e=>(e.key,e.val))=l.map (fun p=>(enc p.1,p.2))∧(l.map (·.1)).Nodup∧(∀e∈es.toList,e.born<clock)∧(es.toList.map (·.born)).Nodup)∧
  w.heap[b]?=some (.mapIter (some m) since seen clock)∧b≠m∧since≤clock∧(∀e∈es.toList,e.born<since)∧
  (leftOf es seen).toList.map (fun e=>(e.key,e.val))=left.map (fun p=>(enc p.1,p.2))∧
  ∀p,cur=some p→∃e∈es.toList,seen.back?=some e.born∧e.key=enc p.1∧e.val=p.2
variable {w w':World} {b m:Nat} {l left:List (κ × Value)} {cur:Option (κ × Value)}
theorem MIt.lt (h:MIt enc w b m l left cur):b<w.heap.size∧m<w.heap.size:=by
 obtain ⟨es,clock,since,seen,h1,_,h3,_⟩:=h;exact ⟨(Array.getElem?_eq_some_iff.1 h3).1,(Array.getElem?_eq_some_iff.1 h1).1⟩
def As.mit (enc:κ→Value) (b m:Nat) (l left:List (κ × Value)) (cur:Option (κ × Value)):As where
 fp x:=x=b∨x=m
 ok _ w:=MIt enc w b m l left cur
 lt h x hx:=by rcases hx with rfl | rfl;exact h.lt.1;exact h.lt.2
 mono _ h:=h
 st hs hc h:=by
  have hl:=h.lt;obtain ⟨es,clock,since,seen,h1,h2,h3,h4⟩:=h;exact ⟨es,clock,since,seen,by rw [hc m (.inl (.inr rfl)) hl.2];exact h1,h2,by rw [hc b (.inl (.inl rfl)) hl.1];exact h3,h4⟩
theorem As.gmit {Z:Nat→Prop} (h:(As.mit enc b m l left cur).ok Z w):MIt enc w b m l left cur:=h
def nextV (enc:κ→Value):Option (κ × Value)→Array Value
 | none=>#[.bool false]
 | some p=>#[.bool true,enc p.1,p.2]
theorem nextV_0 (r:Option (κ × Value)):(nextV enc r)[0]?=some (.bool r.isSome):=by cases r <;> rfl
theorem filter_ne_erase:∀(L:List MapEntry) (j:Nat) (e:MapEntry),(L.map (·.born)).Nodup→L[j]?=some e→L.filter (fun x=>!(x.born == e.born))=L.eraseIdx j
 | [],_,_,_,h=>by simp at h
 | x::r,0,e,hn,h=>by
  simp at h
  subst h;simp only [List.map_cons,List.nodup_cons] at hn;rw [List.filter_cons];simp only [beq_self_eq_true,Bool.not_true,Bool.false_eq_true,if_false,List.eraseIdx_zero,List.tail_cons];refine List.filter_eq_self.2 fun y hy=>?_
  have:y.born≠x.born:=fun e=>hn.1 (e ▸ List.mem_map.2 ⟨y,hy,rfl⟩)
  simpa using this
 | x::r,j+1,e,hn,h=>by
  simp only [List.map_cons,List.nodup_cons] at hn;simp only [List.getElem?_cons_succ] at h;have hx:x.born≠e.born:=fun h2=>hn.1 (h2 ▸ List.mem_map.2 ⟨e,List.mem_of_getElem? h,rfl⟩);rw [List.filter_cons,if_pos (by simpa using hx),filter_ne_erase r j e hn.2 h,List.eraseIdx_cons_succ]
theorem leftOf_push (es:Array MapEntry) (seen:Array Nat) (b:Nat):(leftOf es (seen.push b)).toList=(leftOf es seen).toList.filter fun x=>!(x.born == b):=by
 unfold leftOf
 rw [Array.toList_filter,Array.toList_filter,List.filter_filter]
 congr 1
 funext x
 rw [Array.contains_push,Bool.not_or,Bool.and_comm]
theorem map_eraseIdx {α β:Type} (f:α→β):∀(l:List α) (j:Nat),(l.eraseIdx j).map f=(l.map f).eraseIdx j
 | [],_=>by simp
 | _::_,0=>by simp
 | x::r,j+1=>by simp [map_eraseIdx f r j]
variable {P:Program} {kv:KV} {n:Nat} {K:KV→World→Prop} {d:Tmp} {ty:TypeId} {pos:String} {af:Array Edge} {g:Option (Nat × Bool)} {T kt e:TypeId} {x:Operand}
theorem OX.range (hT:P.underlying T=some (.map kt e)) (hm:KM enc w m l) (hx:ev kv x=some (.map (some m))) (hd:Nat.blt d n=true)
  (h:∀b w',Chg [] w w'→w.heap.size≤b→MIt enc w' b m l l none→K ((d,.pointer (some ⟨b,0,none⟩))::kv) w'):OX P ⟨some d,.range T x,ty,pos,af,g⟩ n kv w K:=by
 obtain ⟨es,clock,h1,h2⟩:=hm;have hlt:m<w.heap.size:=(Array.getElem?_eq_some_iff.1 h1).1;refine ⟨rfl,hd,by simp [known,opers,hx],?_⟩
 have hr:(execOp (lkO kv) ⟨some d,.range T x,ty,pos,af,g⟩).run P w=.ok (.value (.pointer (some ⟨w.heap.size,0,none⟩))) (w.alloc (.mapIter (some m) clock #[] clock)):=by
  simp only [execOp,lkO_of hx,Sem.run_bind,run_range_map w T kt e m es clock hT h1,Result.andThen_ok];rfl
 rw [hr];refine h _ _ (chg_alloc _ _) (Nat.le_refl _) ⟨es,clock,clock,#[],by rw [heap_alloc_old w _ (h:=hlt)];exact h1,h2,heap_alloc_new _ _,by omega,Nat.le_refl _,h2.2.2.1,?_,fun p hp=>by cases hp⟩
 have:leftOf es #[]=es:=by unfold leftOf;simp
 rw [this];exact h2.1
theorem run_nextG (hm:MIt enc w b m l left cur):∃(r:Option (κ × Value)) (left':List (κ × Value)) (w':World),(Instr.next (.pointer (some ⟨b,0,none⟩)) false ty).run P w=.ok (.tuple (nextV enc r)) w'∧Chg [b] w w'∧
  (match r with | none=>left=[]∧left'=[] | some p=>∃j,left[j]?=some p∧left'=left.eraseIdx j)∧MIt enc w' b m l left' r:=by
 obtain ⟨es,clock,since,seen,h1,h2,h3,h4,h5,h6,h7,h8⟩:=hm;have hlt:b<w.heap.size:=(Array.getElem?_eq_some_iff.1 h3).1
 have hsub:∀y∈(leftOf es seen).toList,y∈es.toList:=fun y hy=>by
  unfold leftOf at hy
  rw [Array.toList_filter] at hy;exact (List.mem_filter.1 hy).1
 have htest:=next_test_false seen es since clock h6 h5
 have e1:(leftOf es seen).filter (fun x=>decide (x.born<since))=leftOf es seen:=Array.filter_eq_self.2 fun y hy=>by
  have:=h6 y (hsub y (by simpa using hy))
  simpa using this
 have e2:(leftOf es seen).filter (fun x=>decide (x.born≥since))=#[]:=by
  rw [Array.filter_eq_empty_iff];intro y hy
  have:=h6 y (hsub y (by simpa using hy))
  simp
  omega
 have hlen:(leftOf es seen).size=left.length:=by simpa using congrArg List.length h7
 by_cases h0:(leftOf es seen).size=0
 ·
  have hL:leftOf es seen=#[]:=Array.eq_empty_of_size_eq_zero h0
  have hl0:left=[]:=by cases left with
   | nil=>rfl
   | cons a r=>rw [h0] at hlen;simp at hlen
  subst hl0;refine ⟨none,[],w,?_,Chg.refl _ _,⟨rfl,rfl⟩,es,clock,since,seen,h1,h2,h3,h4,h5,h6,h7,fun p hp=>by cases hp⟩;simp only [Instr.next,getObj,Sem.run_bind,Sem.run,h3,h1,Result.andThen,htest,Bool.false_eq_true,if_false];rw [show (es.filter fun e=>!seen.contains e.born)=leftOf es seen from rfl,hL]
  simp [choose,Sem.run,Question.forced,nextV]
 have hne:(leftOf es seen).isEmpty=false:=by simp [Array.isEmpty,h0]
 have hch:∃(j:Nat) (w1:World),j<(leftOf es seen).size∧w1.heap=w.heap∧Chg [] w w1∧(choose (Question.mapNext (leftOf es seen).size)).run P w=.ok j w1:=by
  by_cases hf:(leftOf es seen).size≤1
  ·
   exact ⟨0,w,by omega,rfl,Chg.refl _ _,by simp [choose,Sem.run,Question.forced,hf]⟩
  exact ⟨_,w.drew,Nat.mod_lt _ (by omega),rfl,⟨rfl,rfl,rfl,Nat.le_refl _,Nat.le_succ _,fun _ _ _=>rfl⟩,by
   simp only [choose,Sem.run,Question.forced,decide_eq_true_eq,hf,if_false,Question.cut]
   rfl⟩
 obtain ⟨j,w1,hj,hh,hc1,hrun⟩:=hch;obtain ⟨y,hy⟩:∃y,(leftOf es seen)[j]?=some y:=⟨_,Array.getElem?_eq_getElem hj⟩
 have hyl:(leftOf es seen).toList[j]?=some y:=by rw [Array.getElem?_toList];exact hy
 have hye:y∈es.toList:=hsub y (List.mem_of_getElem? hyl);obtain ⟨p,hp⟩:∃p,left[j]?=some p:=⟨_,List.getElem?_eq_getElem (by omega)⟩
 have hpe:(y.key,y.val)=(enc p.1,p.2):=by
  have:=congrArg (fun x=>x[j]?) h7
  simp only [List.getElem?_map,hyl,hp,Option.map_some,Option.some.injEq] at this;exact this
 simp only [Prod.mk.injEq] at hpe
 have hbn:((leftOf es seen).toList.map (·.born)).Nodup:=by
  unfold leftOf
  rw [Array.toList_filter];exact (List.filter_sublist.map _).nodup h2.2.2.2
 refine ⟨some p,left.eraseIdx j,{w1 with heap:=w1.heap.setIfInBounds b (.mapIter (some m) since (seen.push y.born) clock)},?_,?_,⟨j,hp,rfl⟩,es,clock,since,seen.push y.born,?_,h2,?_,h4,h5,h6,?_,?_⟩
 ·
  simp only [Instr.next,getObj,Sem.run_bind,Sem.run,h3,h1,Result.andThen,htest,Bool.false_eq_true,if_false];rw [show (es.filter fun e=>!seen.contains e.born)=leftOf es seen from rfl,e1,e2];simp only [hne,Bool.false_eq_true,if_false,Array.empty_append,Array.append_empty,Array.size_map,hrun,Array.getElem?_map,hy,Option.map_some]
  have hset:(setObj b (.mapIter (some m) since (seen.push y.born) clock)).run P w1=.ok () {w1 with heap:=w1.heap.setIfInBounds b (.mapIter (some m) since (seen.push y.born) clock)}:=by
   simp only [setObj,Sem.run];rw [hh,h3]
  simp only [Sem.run_bind,hset,Result.andThen,nextV,hpe.1,hpe.2]
  try rfl
 ·
  have:=chg_set w1 b (.mapIter (some m) since (seen.push y.born) clock)
  exact Chg.trans (Chg.mono hc1 (by simp)) this
 ·
  show (w1.heap.setIfInBounds b _)[m]?=_
  rw [hh,Array.getElem?_setIfInBounds_ne h4];exact h1
 ·
  show (w1.heap.setIfInBounds b _)[b]?=_
  rw [hh,Array.getElem?_setIfInBounds_self]
  simp [hlt]
 ·
  rw [leftOf_push,filter_ne_erase _ j y hbn hyl,map_eraseIdx,map_eraseIdx,h7]
 intro q hq;simp only [Option.some.injEq] at hq;subst hq;exact ⟨y,hye,Array.back?_push,hpe.1,hpe.2⟩
theorem OX.next (hm:MIt enc w b m l left cur) (hx:ev kv x=some (.pointer (some ⟨b,0,none⟩))) (hd:Nat.blt d n=true)
  (h:∀r left' w',Chg [b] w w'→(match r with | none=>left=[]∧left'=[] | some p=>∃j,left[j]?=some p∧left'=left.eraseIdx j)→MIt enc w' b m l left' r→K ((d,.tuple (nextV enc r))::kv) w'):OX P ⟨some d,.next x false,ty,pos,af,g⟩ n kv w K:=by
 obtain ⟨r,left',w',h1,h2,h3,h4⟩:=run_nextG (P:=P) (ty:=ty) hm;refine ⟨rfl,hd,by simp [known,opers,hx],?_⟩
 have hr:(execOp (lkO kv) ⟨some d,.next x false,ty,pos,af,g⟩).run P w=.ok (.value (.tuple (nextV enc r))) w':=by
  simp only [execOp,lkO_of hx,Sem.run_bind,h1,Result.andThen_ok];rfl
 rw [hr];exact h _ _ _ h2 h3 h4
theorem PV.entry {p:κ × Value} (hm:MIt enc w b m l left (some p)) (hx:ev kv x=some (.pointer (some ⟨b,0,none⟩))):PV P (.entry x) ty kv w (.tuple #[enc p.1,p.2]):=by
 obtain ⟨es,clock,since,seen,h1,h2,h3,_,_,_,_,h8⟩:=hm;obtain ⟨y,hy,hb,hk,hv⟩:=h8 p rfl;refine ⟨rfl,by simp [known,opers,hx],fun _ _ _ _=>?_⟩
 have hf:es.find? (·.born == y.born)=some y:=by rw [← Array.find?_toList];exact find_born y es.toList h2.2.2.2 hy
 have:(Instr.entry (.pointer (some ⟨b,0,none⟩))).run P w=.ok (.tuple #[enc p.1,p.2]) w:=by
  simp only [Instr.entry,getObj,Sem.run_bind,Sem.run,h3,h1,hb,Result.andThen,bne_self_eq_false,Bool.false_eq_true,if_false,hf,hk,hv]
  rfl
 simp only [execOp,lkO_of hx,Sem.run_bind,this,Result.andThen_ok]
 rfl
end
end Go.Rc

namespace Go.Rc
open Go
theorem mem_eraseIdx_or {α:Type}:∀{l:List α} {j:Nat} {p q:α},l[j]?=some p→q∈l→q=p∨q∈l.eraseIdx j
 | [],_,_,_,_,h=>by cases h
 | x::r,0,p,q,h,hq=>by
  simp at h;subst h
  rcases List.mem_cons.1 hq with rfl | hq
  ·
   exact .inl rfl
  exact .inr (by simpa using hq)
 | x::r,j+1,p,q,h,hq=>by
  rcases List.mem_cons.1 hq with rfl | hq
  ·
   exact .inr (by simp)
  rcases mem_eraseIdx_or (l:=r) (by simpa using h) hq with h1 | h1
  ·
   exact .inl h1
  exact .inr (by simp [h1])
section
variable {rules:List Rule} {inp:List Inp}
theorem AtOk.vals (hR:rulesOk rules) {i0:Nat} {L:List Nat} {u:Nat→Nat} {am:List (Key × Value)} (h:AtOk rules L u am) (hn:(am.map (·.1)).Nodup) (hr:Rounds rules inp i0 L u) (hd:∀j∈L,u j=rv rules inp j) :
  ∀p∈am,p.2=.string (valOf rules inp p.1):=fun p hp=>by
 have hg:mget am p.1=some p.2:=(mget_mem hn).2 hp
 by_cases hk:∃j∈L,p.1=ofK rules (j:Int)
 ·
  obtain ⟨j,hj,e⟩:=hk;obtain ⟨hjl,hjr⟩:=hr.ring j hj;rw [e,h.1 j hj] at hg;simp only [Option.some.injEq] at hg;rw [← hg,e,valOf_ofK hR hjl,valI_ring hR hjl hjr,hd j hj]
 rw [h.2 p.1 fun j hj e=>hk ⟨j,hj,e⟩] at hg
 cases hg
theorem AtOk.first {i0:Nat} {L:List Nat} {u:Nat→Nat} {am:List (Key × Value)} (h:AtOk rules L u am) (hn:(am.map (·.1)).Nodup) (hr:Rounds rules inp i0 L u):∃p∈am,p.1=ofK rules (i0:Int):=
 ⟨(_,_),(mget_mem hn).1 (h.1 i0 hr.first),rfl⟩
theorem put_done {am left ml:List (Key × Value)} {j:Nat} {p:Key × Value} (hd:∀q∈am,q∈left∨mget ml q.1=some q.2) (he:∀q∈am,q.2=.string (valOf rules inp q.1)) (hj:left[j]?=some p) :
  ∀q∈am,q∈left.eraseIdx j∨mget (mput ml p.1 (.string (valOf rules inp p.1))) q.1=some q.2:=fun q hq=>by
 rw [mget_put]
 by_cases e:p.1=q.1
 ·
  rw [if_pos e,he q hq,e];exact .inr rfl
 rw [if_neg e]
 rcases hd q hq with h | h
 ·
  rcases mem_eraseIdx_or hj h with h1 | h1
  ·
   subst h1;exact absurd rfl e
  exact .inl h1
 exact .inr h
end
end Go.Rc

namespace Go.Rc
open Go
def InpG (rev:Int) (l:List Inp):Prop:=SrtI l∧(∀y∈l,inpV rev y)∧∀y∈l,(∃i:Nat,i≤9∧y.key=⟨30,itoa i⟩)∧y.value.size≤1000
theorem InpG.nil (rev:Int):InpG rev []:=⟨.nil,by simp,by simp⟩
theorem InpG.mono {r s:Int} {l:List Inp} (h:InpG r l) (hrs:r≤s):InpG s l:=⟨h.1,fun y hy=>by obtain ⟨a,b,c,d,e⟩:=h.2.1 y hy;exact ⟨a,b,c,d,by omega⟩,h.2.2⟩
theorem Change.small.key {c:Change} (h:c.small):∃i:Nat,i≤9∧c.key=⟨30,itoa i⟩:=by
 obtain ⟨⟨n,h0,h3,hk⟩,_⟩:=h;refine ⟨n.toNat,by omega,?_⟩;rw [hk]
 unfold cellK
 rw [if_neg (by omega),Int.toNat_of_nonneg h0]
theorem Change.small.ok {c:Change} (h:c.small):validK c.key=true∧isInput c.key=true:=by
 obtain ⟨⟨n,h0,h3,hk⟩,_⟩:=h;obtain ⟨m,rfl⟩:∃m:Nat,n=(m:Int):=⟨n.toNat,by omega⟩;rw [hk];exact ⟨Knd.valid (rules:=[]) (.cell (by omega)),isInput_cellK (by omega)⟩
theorem InpG.put {rev:Int} {l:List Inp} {c:Change} (h:InpG rev l) (hc:c.small) (h0:0≤rev):InpG rev (putI ⟨c.key,c.value,rev⟩ l false):=by
 refine ⟨SrtI.put h.1,fun y hy=>?_,fun y hy=>?_⟩
 ·
  rcases putI_mem _ _ _ _ hy with rfl | hy
  ·
   have:=hc.2
   exact ⟨hc.ok.1,hc.ok.2,by show (c.value.size:Int)≤_;omega,h0,Int.le_refl _⟩
  exact h.2.1 y hy
 rcases putI_mem _ _ _ _ hy with rfl | hy
 ·
  obtain ⟨i,hi,hk⟩:=hc.key;exact ⟨⟨i,by omega,hk⟩,Nat.le_trans hc.2 (by decide)⟩
 exact h.2.2 y hy
theorem nodup_len {α:Type} [BEq α] [LawfulBEq α]:∀{l U:List α},l.Nodup→(∀x∈l,x∈U)→l.length≤U.length
 | [],_,_,_=>Nat.zero_le _
 | x::r,U,hn,hs=>by
  have hx:=hs x (by simp);rw [List.nodup_cons] at hn
  have h1:r.length≤(U.erase x).length:=nodup_len hn.2 fun y hy=>by
   have hne:y≠x:=fun e=>hn.1 (e ▸ hy);exact (List.mem_erase_of_ne hne).2 (hs y (by simp [hy]))
  rw [List.length_erase_of_mem hx] at h1;have h2:=List.length_pos_of_mem hx
  simp
  omega
theorem InpG.len {rev:Int} {l:List Inp} (h:InpG rev l):l.length≤10:=by
 have hn:(l.map fun y=>y.key).Nodup:=by
  unfold List.Nodup
  rw [List.pairwise_map]
  exact h.1.imp fun {a b} h e=>by rw [e] at h;have:=cmpK_swap b.key b.key;omega
 have:=nodup_len (U:=(List.range 10).map fun i:Nat=>(⟨30,itoa i⟩:Key)) hn fun k hk=>by
  obtain ⟨y,hy,rfl⟩:=List.mem_map.1 hk;obtain ⟨i,hi,he⟩:=(h.2.2 y hy).1;exact List.mem_map.2 ⟨i,List.mem_range.2 (by omega),he.symm⟩
 simpa using this
theorem InpG.k99 {rev:Int} {l:List Inp} (h:InpG rev l):∀y∈l,∃i:Nat,i≤99∧y.key=⟨30,itoa i⟩:=fun y hy=>by
 obtain ⟨i,hi,he⟩:=(h.2.2 y hy).1;exact ⟨i,by omega,he⟩
theorem find_put {n:Inp} {k:Key} (h:n.key≠k):∀(l:List Inp) (b:Bool),(putI n l b).find? (fun x=>x.key == k)=l.find? fun x=>x.key == k
 | [],b=>by
  unfold putI
  cases b
  ·
   simp [h]
  rfl
 | x::xs,b=>by
  have hn:(n.key == k)=false:=by simpa using h
  unfold putI
  rw [List.find?_append,List.find?_append,find_put h xs]
  have h1:(if (decide (0≤cmpK x.key n.key) && !b)=true then [n] else []).find? (fun x=>x.key == k)=none:=by
   split
   ·
    simp [hn]
   rfl
  rw [h1,Option.none_or]
  by_cases e:cmpK x.key n.key=0
  ·
   rw [if_pos e]
   have hx:(x.key == k)=false:=by rw [cmpK_eq e];exact hn
   simp [hx]
  rw [if_neg e]
  cases hx:(x.key == k) <;> simp [hx]
theorem findI_put {n:Inp} {k:Key} (h:n.key≠k) (l:List Inp):findI (putI n l false) k=findI l k:=by
 unfold findI
 rw [find_put h]
theorem putI_at {n:Inp} {l:List Inp} {q:Nat} {b:Bool} (hq:q<l.length) {acc r:List Inp} (h:acc++putI n (l.drop q) b=r):acc++(if decide (0≤cmpK l[q].key n.key) && !b then [n] else [])++(if cmpK l[q].key n.key=0 then [] else [l[q]])++putI n (l.drop (q+1)) (b || decide (0≤cmpK l[q].key n.key))=r:=by
 rw [← h,List.drop_eq_getElem_cons hq];simp only [putI,List.append_assoc]
theorem putI_le {n:Inp} {l m acc:List Inp} {b:Bool} (h:acc++putI n m b=putI n l false):acc.length≤l.length+1:=by
 have h1:=congrArg List.length h;rw [List.length_append] at h1
 have:=putI_len n l false
 omega
end Go.Rc

namespace Go.Rc
open Go
section
variable {rules:List Rule} {inp:List Inp} {rev:Int} (hR:rulesOk rules)
include hR
end
end Go.Rc

namespace Go.Rc
open Go
section
variable {w0 w:World} {M Z:Nat→Prop} {A:As} {L l:List As}
end
end Go.Rc

namespace Go.Rc
open Go
section
variable {rules:List Rule} {inp:List Inp} {val:Key→ByteArray}
theorem upAll_more {f g:Nat} (h:f≤g):∀{l:List Key} {s s':ES},upAllV rules val f s l=some s'→upAllV rules val g s l=some s'
 | [],s,s',hu=>hu
 | k::r,s,s',hu=>by
  simp only [upAllV] at hu ⊢;obtain ⟨t,h1,h2⟩:=Option.bind_eq_some_iff.1 hu;rw [up_more h h1];exact upAll_more h h2
theorem upAll_some (hR:rulesOk rules):∀(l:List Key) (s:ES),Good rules inp s→(∀k∈l,Knd rules k)→∃f s',upAllV rules val f s l=some s'
 | [],s,_,_=>⟨0,s,rfl⟩
 | k::r,s,hg,hk=>by
  obtain ⟨f,t,h1⟩:=up_some (val:=val) hR _ s k hg (hk k (by simp)) (Nat.le_refl _);have h2:=(engine_good (val:=val) hR f).1 _ _ _ h1 hg (hk k (by simp))
  obtain ⟨g,s',h3⟩:=upAll_some hR r t h2.1 fun k hk'=>hk k (by simp [hk'])
  refine ⟨max f g,s',?_⟩;simp only [upAllV];rw [up_more (Nat.le_max_left f g) h1];exact upAll_more (Nat.le_max_right f g) h3
theorem upAll_ran (hR:rulesOk rules) {f:Nat}:∀{l:List Key} {s s':ES},upAllV rules val f s l=some s'→Good rules inp s→(∀k∈l,Knd rules k)→s'.ran.length+opn rules s'≤s.ran.length+opn rules s
 | [],s,s',h,_,_=>by simp only [upAllV,Option.some.injEq] at h;subst h;exact Nat.le_refl _
 | k::r,s,s',h,hg,hk=>by
  simp only [upAllV] at h;obtain ⟨t,h1,h2⟩:=Option.bind_eq_some_iff.1 h;have h3:=(engine_good (val:=val) hR f).1 _ _ _ h1 hg (hk k (by simp));have h4:=(engine_keep (val:=val) hR f).1 _ _ _ h1 hg (hk k (by simp))
  have h5:=upAll_ran hR h2 h3.1 fun k hk'=>hk k (by simp [hk'])
  exact Nat.le_trans h5 h4.2.2
end
theorem right_ofK {rules:List Rule} (hR:rulesOk rules) {i:Nat} (hi:i<rules.length):rightK rules (ofK rules (i:Int))=true:=by
 have h24:=hR.len
 unfold rightK
 rw [Knd.valid (rules:=rules) (.rule hi (by omega)),number_ofK hi (by omega)]
 simp
theorem basOk0:basOk ⟨0,[],[]⟩:=⟨fun i y h=>by simp at h,fun i r h=>by simp at h,by decide,by decide,by decide,⟨by decide,fun i x h=>by simp at h⟩⟩
theorem InpG.basOk {rev:Int} {inp:List Inp} (h:InpG rev inp) (h0:0≤rev) (h1:rev≤1073741824) (h6:inp.length≤64):basOk ⟨rev,inp,[]⟩:=
 ⟨inpsOk_iff.2 ⟨h.1,h.2.1⟩,fun i r h=>by simp at h,h0,h1,h6,⟨Nat.zero_le _,fun i x h=>by simp at h⟩⟩
end Go.Rc

namespace Go.Rc
open Go
def sizeV (x:Rec):Int:=16+x.key.text.size+x.value.size+8*x.reads.length
def totalV (l:List Rec):Int:=(l.map sizeV).sum
def SmR (x:Rec):Prop:=x.key.text.size≤1000∧x.value.size≤1073741824∧x.reads.length≤4000
theorem SmR.size {x:Rec} (h:SmR x):0≤sizeV x∧sizeV x≤1100000000:=by
 unfold sizeV
 obtain ⟨a,b,c⟩:=h
 omega
theorem totalV_take {l:List Rec} {i:Nat} (hi:i<l.length):totalV (l.take (i+1))=totalV (l.take i)+sizeV l[i]:=by
 unfold totalV
 rw [List.take_succ_eq_append_getElem hi,List.map_append,List.sum_append]
 simp
theorem totalV_le:∀{l:List Rec},(∀x∈l,SmR x)→0≤totalV l∧totalV l≤1100000000*l.length
 | [],_=>by simp [totalV]
 | x::r,h=>by
  have h1:=(h x (by simp)).size
  have h2:=totalV_le (l:=r) fun y hy=>h y (by simp [hy])
  have h3:totalV (x::r)=sizeV x+totalV r:=by simp [totalV]
  rw [h3,List.length_cons]
  omega
theorem mulB {c s:Int} (hc:0≤c∧c≤1073741824) (hs:0≤s∧s≤1100000000):-9223372036854775808≤c*s∧c*s≤9223372036854775807:=by
 have h1:=Int.mul_nonneg hc.1 hs.1;have h2:=Int.mul_le_mul hc.2 hs.2 hs.1 (by decide:(0:Int)≤1073741824)
 omega
theorem ord_perm {α:Type} {out m:List α} {x:α} (p:Nat) (h:out.Perm m):(([]++out.take p)++[x]++out.drop p).Perm (m++[x]):=by
 have h1:(out.take p++[x]++out.drop p).Perm (out++[x]):=by
  rw [List.append_assoc];refine (List.Perm.append_left _ (List.perm_append_comm (l₁:=[x]) (l₂:=out.drop p))).trans ?_;rw [← List.append_assoc,List.take_append_drop]
 rw [List.nil_append];exact h1.trans (h.append_right _)
theorem dropR_sub (l:List Rec) (k:Key):(dropR l k).Sublist l:=List.filter_sublist
def As.rgo (c:Prop) (b o:Nat) (r:List Value):As where
 fp _:=False
 ok Z w:=c→(As.rg b o r).ok Z w
 lt _ _ hx:=hx.elim
 mono hZ h:=fun h0=>(As.rg b o r).mono hZ (h h0)
 st hs hc h:=fun h0=>(As.rg b o r).st hs hc (h h0)
theorem As.gro {c:Prop} {b o:Nat} {r:List Value} {Z:Nat→Prop} {w:World} (hc:c) (h:(As.rgo c b o r).ok Z w):w.rangeAt b o r:=(h hc).2.2
theorem Rd.opt {α:Type} {R:RR α} {k n c:Nat} {Z:Nat→Prop} {w:World} {a:Option Addr} {xs:List α} (h:Rd R k Z w a n c xs) (hz:∀b,Z b→b<w.heap.size) (p:Nat):∃b o r,(∀hp:p<xs.length,a=some ⟨b,o,none⟩∧r.length=k∧R.r Z w xs[p] r)∧(As.rgo (p<xs.length) b (o+p*k) r).ok Z w:=by
 by_cases hp:p<xs.length
 ·
  obtain ⟨b,o,r,h1,h2,h3,h4,h5⟩:=Rd.at h hp;exact ⟨b,o,r,fun _=>⟨h1,h2,h3⟩,fun _=>⟨h5,hz b h5,h4⟩⟩
 exact ⟨0,0,[],fun hp'=>absurd hp' hp,fun hp'=>absurd hp' hp⟩
theorem Frm.one (x:Frm) (a1:Option Addr) (n1 c1:Nat) (a2:Option Addr) (n2 c2:Nat):∀u∈x.row a1 n1 c1 a2 n2 c2,u.oneCell'=true:=by simp [Frm.row,Value.oneCell']
end Go.Rc

namespace Go.Rc
open Go
structure Tsk where
 rules:List Rule
 base:Bas
 goals:List Key
 stack:List Frm
 ran:List Key
structure TAd where
 u:Option Addr
 nu:Nat
 cu:Nat
 i:Option Addr
 ni:Nat
 ci:Nat
 r:Option Addr
 nr:Nat
 cr:Nat
 g:Option Addr
 ng:Nat
 cg:Nat
 f:Option Addr
 nf:Nat
 cf:Nat
 p:Option Addr
 np:Nat
 cp:Nat
def Tsk.row (t:Tsk) (A:TAd):List Value:=[.slice A.u A.nu A.cu,.int .i64 t.base.revision,.slice A.i A.ni A.ci,.slice A.r A.nr A.cr,.slice A.g A.ng A.cg,.slice A.f A.nf A.cf,.slice A.p A.np A.cp]
structure Tsk.In (t:Tsk) (A:TAd) (Z:Nat→Prop) (w:World):Prop where
 u:Rd RR.rule 4 Z w A.u A.nu A.cu t.rules
 i:Rd RR.inp 4 Z w A.i A.ni A.ci t.base.inputs
 r:Rd RR.rcd 8 Z w A.r A.nr A.cr t.base.recs
 g:Rd RR.key 2 Z w A.g A.ng A.cg t.goals
 f:Rd RR.frm 6 Z w A.f A.nf A.cf t.stack
 p:Rd RR.key 2 Z w A.p A.np A.cp t.ran
structure Tsk.In5 (t:Tsk) (A:TAd) (Z:Nat→Prop) (w:World):Prop where
 u:Rd RR.rule 4 Z w A.u A.nu A.cu t.rules
 i:Rd RR.inp 4 Z w A.i A.ni A.ci t.base.inputs
 r:Rd RR.rcd 8 Z w A.r A.nr A.cr t.base.recs
 g:Rd RR.key 2 Z w A.g A.ng A.cg t.goals
 f:Rd RR.frm 6 Z w A.f A.nf A.cf t.stack
structure Tsk.Sz (t:Tsk):Prop where
 u:t.rules.length≤1000000
 a:∀x∈t.rules,x.asks.length≤1000
 i:t.base.inputs.length≤1000000
 r:t.base.recs.length≤1000000
 f:t.stack.length≤1000000
 g:t.goals.length≤1000000
 p:t.ran.length≤1000000
end Go.Rc

namespace Go.Rc
open Go
structure FAd where
 a:Option Addr
 n:Nat
 c:Nat
 a2:Option Addr
 n2:Nat
 c2:Nat
def Frm.rowA (x:Frm × FAd):List Value:=x.1.row x.2.a x.2.n x.2.c x.2.a2 x.2.n2 x.2.c2
def RR.frmA:RR (Frm × FAd):=RR.flat Frm.rowA
theorem last_split {α:Type} {l:List α} {a:α} (h:l.getLast?=some a):l.dropLast++[a]=l:=by
 rcases List.eq_nil_or_concat l with rfl | ⟨m,b,rfl⟩
 ·
  cases h
 simp at h
 subst h
 simp
def FAll (L:List (Frm × FAd)):FZ:=
 ⟨fun Z w=>∀y∈L,Rd RR.key 2 Z w y.2.a y.2.n y.2.c y.1.reads∧Rd RR.str 1 Z w y.2.a2 y.2.n2 y.2.c2 y.1.answers,fun hZ h y hy=>⟨(h y hy).1.mono hZ,(h y hy).2.mono hZ⟩,fun h1 h2 h y hy=>⟨(h y hy).1.st h1 h2,(h y hy).2.st h1 h2⟩⟩
theorem FAll.last {L:List (Frm × FAd)} {Z:Nat→Prop} {w:World} {a a2:Option Addr} {n c n2 c2:Nat} {pl:List Key} {ql:List ByteArray} (h:(FAll L.dropLast).p Z w) (hl:L=[]∨∃f,L.getLast?=some (f,⟨a,n,c,a2,n2,c2⟩)∧pl=f.reads∧ql=f.answers) (hk:Rd RR.key 2 Z w a n c pl) (hy:Rd RR.str 1 Z w a2 n2 c2 ql):(FAll L).p Z w:=fun y hm=>by
 rcases hl with rfl | ⟨f,h1,rfl,rfl⟩
 ·
  cases hm
 have e:=last_split h1;rw [← e] at hm
 rcases List.mem_append.1 hm with hm | hm
 ·
  exact h y hm
 rw [List.mem_singleton] at hm;subst hm;exact ⟨hk,hy⟩
theorem FAll.nil (Z:Nat→Prop) (w:World):(FAll ([]:List (Frm × FAd)).dropLast).p Z w:=fun y hy=>by cases hy
theorem FAll.frm {L:List (Frm × FAd)} {E n c:Nat} {a:Option Addr} {Z:Nat→Prop} {w:World} (h:Ow RR.frmA E 6 Z w a n c L) (hf:(FAll L).p Z w) (h4:∀y∈L,y.1.reads.length≤4000∧y.1.answers.length≤4000):Ow RR.frm E 6 Z w a n c (L.map Prod.fst):=by
 obtain ⟨hn,rows,hl,hk,h1,hx⟩:=h;refine ⟨by rw [hn,List.length_map],rows,by rw [hl,List.length_map],hk,h1,fun i x r h2 h3=>?_⟩;rw [List.getElem?_map] at h2;obtain ⟨y,hy,rfl⟩:=Option.map_eq_some_iff.1 h2;have hm:=List.mem_of_getElem? hy;have hr:r=Frm.rowA y:=hx i y r hy h3;obtain ⟨h5,h6⟩:=h4 y hm;obtain ⟨h7,h8⟩:=hf y hm;exact ⟨_,_,_,_,_,_,hr,h7,h8,h5,h6⟩
end Go.Rc

namespace Go.Rc
open Go
structure BK (rules:List Rule) (inp:List Inp) (rev:Int) (b:Bas):Prop where
 good:Good rules inp ⟨b,[],[],0⟩
 oks:OkS ⟨b,[],[],0⟩
 rv:b.revision=rev
 inpok:inpsOk rev inp
 inpl:inp.length≤64
section
variable {rules:List Rule} {inp:List Inp} {rev:Int} {b:Bas}
theorem BK.basOk (h:BK rules inp rev b):basOk b:=
 ⟨by rw [h.rv,show b.inputs=inp from h.good.inp];exact h.inpok,fun i r hr=>(h.oks.v r (List.mem_of_getElem? hr)).2,h.oks.r0,h.oks.r1,by rw [show b.inputs=inp from h.good.inp];exact h.inpl,h.oks.st.recsOk h.good.len fun r hr=>(h.oks.v r hr).1⟩
theorem BK.mark0 (h:BK rules inp rev b) (g:List Key):BK rules inp rev (markV b g false):=⟨h.good.mark g false,h.oks.mark0 g,h.rv,h.inpok,h.inpl⟩
theorem BK.mark1 (h:BK rules inp rev b) {g:List Key} (hc:∀x∈g,isCyclic x=true):BK rules inp rev (markV b g true):=⟨h.good.mark g true,h.oks.mark1 hc,h.rv,h.inpok,h.inpl⟩
theorem BK.put (h:BK rules inp rev b) {r:Rec} (hk:Knd rules r.key) (hr:r.reads.length≤4000∧∀a∈r.reads,Knd rules a) (h4:(!(findR b.recs r.key).isSome && decide (4000≤b.recs.length))=false) (hv:validRec r=true) (hrv:r.verified≤b.revision):BK rules inp rev {b with recs:=putR b.recs r}:=
 ⟨h.good.put (ran:=[]) hk hr h4,h.oks.put (ran:=[]) hv hrv,h.rv,h.inpok,h.inpl⟩
theorem BK.sub (h:BK rules inp rev b) {rs:List Rec} (hs:rs.Sublist b.recs):BK rules inp rev {b with recs:=rs}:=
 ⟨⟨h.good.inp,Nat.le_trans hs.length_le h.good.len,fun r hr=>h.good.key r (hs.subset hr),fun r hr=>h.good.rds r (hs.subset hr),.nil,fun k=>.inl rfl⟩,⟨h.oks.st.sublist hs,fun r hr=>h.oks.v r (hs.subset hr),h.oks.r0,h.oks.r1⟩,h.rv,h.inpok,h.inpl⟩
theorem BK.small (h:BK rules inp rev b):∀r∈b.recs,SmR r∧0≤r.cost∧r.cost≤1073741824:=fun r hr=>by
 obtain ⟨i,hi,ht,_⟩:=(h.good.key r hr).shape;have h1:=(validRec_iff _).1 (h.oks.v r hr).1;obtain ⟨_,_,_,hvsz,hl,_,_,_,hcost1,hcost,_⟩:=h1;have h2:=itoa_size (n:=i) (by omega);refine ⟨⟨by rw [ht];omega,by omega,by omega⟩,by omega,hcost⟩
end
structure FrOk (rules:List Rule) (f:Frm):Prop where
 key:Knd rules f.key
 inp:isInput f.key=false
 rds:∀a∈f.reads,Knd rules a
 len:f.reads.length=f.answers.length
 ans:ansOk rules f.key f.answers.length
 at0:0≤f.at_
theorem FrOk.new {rules:List Rule} {k:Key} (hk:Knd rules k) (hi:isInput k=false):FrOk rules ⟨k,false,0,[],[]⟩:=⟨hk,hi,fun a h=>(by cases h),rfl,hk.ans hi,Int.le_refl _⟩
structure TK (rules:List Rule) (inp:List Inp) (rev:Int) (t:Tsk):Prop where
 hru:t.rules=rules
 base:BK rules inp rev t.base
 goals:∀k∈t.goals,Knd rules k
 stack:∀f∈t.stack,FrOk rules f
 ran:∀k∈t.ran,Knd rules k
theorem PV.cast {P:Program} {op:Op} {ty:TypeId} {kv:KV} {w:World} {v v':Value} (h:PV P op ty kv w v) (e:v=v'):PV P op ty kv w v':=e ▸ h
theorem last_get {α:Type} (L:List α) (x:α):(L++[x])[L.length]?=some x:=by simp
theorem FAll.snoc {L:List (Frm × FAd)} {f:Frm} {A:FAd} {Z:Nat→Prop} {w:World} (h:(FAll L).p Z w) (hk:Rd RR.key 2 Z w A.a A.n A.c f.reads) (hy:Rd RR.str 1 Z w A.a2 A.n2 A.c2 f.answers):(FAll (L++[(f,A)])).p Z w:=fun y hm=>by
 rcases List.mem_append.1 hm with hm | hm
 ·
  exact h y hm
 rw [List.mem_singleton] at hm;subst hm;exact ⟨hk,hy⟩
theorem FAll.whole {L:List (Frm × FAd)} {f:Frm} {A:FAd} {l:List Frm} {E n c:Nat} {a:Option Addr} {Z:Nat→Prop} {w:World} (h:Ow RR.frmA E 6 Z w a n c (L++[(f,A)])) (hf:(FAll (L++[(f,A)])).p Z w) (h4:∀y∈L,y.1.reads.length≤4000∧y.1.answers.length≤4000) (hf4:f.reads.length≤4000∧f.answers.length≤4000) (hl:L.map Prod.fst++[f]=l):Ow RR.frm E 6 Z w a n c l:=by
 have h1:=FAll.frm h hf fun y hm=>by
  rcases List.mem_append.1 hm with hm | hm
  ·
   exact h4 y hm
  rw [List.mem_singleton] at hm;subst hm;exact hf4
 rw [List.map_append,List.map_singleton] at h1;rw [← hl];exact h1
theorem frm_view {L:List (Frm × FAd)} {f:Frm} {A:FAd} {l:List Frm} {E EK ES n c:Nat} {a:Option Addr} {Z:Nat→Prop} {w:World} (hlo:Ow RR.frmA E 6 Z w a n c (L++[(f,A)])) (hk:Ow RR.key EK 2 Z w A.a A.n A.c f.reads) (hy:Ow RR.str ES 1 Z w A.a2 A.n2 A.c2 f.answers) (hfa:(FAll L).p Z w) (h4:∀y∈L,y.1.reads.length≤4000∧y.1.answers.length≤4000) (hf4:f.reads.length≤4000∧f.answers.length≤4000) (hl:L.map Prod.fst++[f]=l) (hll:l.length≤1000000):∃Zb:Nat→Prop,(∀x,Z x→Zb x)∧Rd RR.frm 6 Zb w a n c l:=by
 have h1:=hk.rd (by omega);have h2:=hy.rd (by omega)
 let Zb:Nat→Prop:=fun x=>Z x∨x∈oblk A.a∨x∈oblk A.a2
 have hz:∀x,Z x→Zb x:=fun x h=>.inl h;have h3:(FAll (L++[(f,A)])).p Zb w:=FAll.snoc ((FAll L).mono hz hfa) (h1.mono fun x h=>h.imp id .inl) (h2.mono fun x h=>h.imp id .inr);have h5:Ow RR.frmA E 6 Zb w a n c (L++[(f,A)]):=(As.os RR.frmA E 6 a n c (L++[(f,A)])).mono hz hlo;have h6:=FAll.whole h5 h3 h4 hf4 hl;exact ⟨_,fun x h=>.inl (hz x h),h6.rd (by omega)⟩
theorem look_input {x:Bas} {l others:List Frm} {k:Key} (h:lookV x l others k=1):isInput k=false:=by
 cases hi:isInput k with
 | false=>rfl
 | true=>
  have hn:neededV x l k=false:=by unfold neededV;rw [hi];rfl
  unfold lookV at h
  rw [hn] at h
  split at h
  ·
   exact absurd h (by decide)
  simp at h
theorem FAll.push {L:List (Frm × FAd)} {f g:Frm} {A:FAd} {l:List Frm} {E n c:Nat} {a:Option Addr} {Z:Nat→Prop} {w:World} (h:Ow RR.frmA E 6 Z w a n c (L++[(f,A)]++[(g,⟨none,0,0,none,0,0⟩)])) (hf:(FAll (L++[(f,A)])).p Z w) (h4:∀y∈L,y.1.reads.length≤4000∧y.1.answers.length≤4000) (hf4:f.reads.length≤4000∧f.answers.length≤4000) (hg1:g.reads=[]) (hg2:g.answers=[]) (hl:L.map Prod.fst++[f]=l):Ow RR.frm E 6 Z w a n c (l++[g]):=by
 have h1:=FAll.frm h (FAll.snoc (f:=g) (A:=⟨none,0,0,none,0,0⟩) hf (by rw [hg1];exact Rd.nil _ _ _ _) (by rw [hg2];exact Rd.nil _ _ _ _)) fun y hm=>by
  rcases List.mem_append.1 hm with hm | hm
  ·
   rcases List.mem_append.1 hm with hm | hm
   ·
    exact h4 y hm
   rw [List.mem_singleton] at hm;subst hm;exact hf4
  rw [List.mem_singleton] at hm;subst hm;exact ⟨by rw [hg1];simp,by rw [hg2];simp⟩
 rw [List.map_append,List.map_append,List.map_singleton,List.map_singleton] at h1;rw [← hl];exact h1
section
variable {w0 w:World} {M Z:Nat→Prop} {l:List As} {A0 A1 A2 A3 A4 A5 A6 A7 A8 A9 A10 A11 A12 A13 A14 A15 A16 A17:As}
end
end Go.Rc

namespace Go.Rc
open Go
section
variable {α:Type} {R:RR α} {P:Program} {E k n c b:Nat} {a:Option Addr} {L:List α} {u:α} {Z:Nat→Prop} {w:World}
variable {N:Nat} {kv:KV} {K:KV→World→Prop} {ty:TypeId} {pos:String} {af:Array Edge} {g:Option (Nat × Bool)} {T:TypeId}
theorem OX.stL {x y:Operand} {f:Nat} {v:Value} (hT:(P.info? T).map (·.size)=some 1) (h:Ow R E k Z w a n c (L++[u])) (ha:a=some ⟨b,0,none⟩) (hf:f<k) (hx:ev kv x=some (.pointer (some ⟨b,0+L.length*k+f,none⟩))) (hy:ev kv y=some v)
  (h1:v.oneCell'=true) (u':α) (hR:∀r,R.r Z w u r→R.r Z w u' (r.set f v)) (hK:∀w',Chg (oblk a) w w'→OR 0 w' E k (R.r Z w) a n c (L++[u'])→K kv w'):OX P ⟨none,.store T x y,ty,pos,af,g⟩ N kv w K:=
 OX.stOf hT h ha (last_get L u) hf hx hy h1 u' (fun r _ h=>hR r h) fun w' c o=>hK w' c (by
  have e:(L++[u]).set L.length u'=L++[u']:=by simp
  rwa [e] at o)
end
section
variable {rules:List Rule} {f:Frm}
theorem FrOk.read (h:FrOk rules f) {k:Key} {a:ByteArray} (hk:Knd rules k) (ha:ansOk rules f.key (f.answers.length+1)):FrOk rules {f with reads:=f.reads++[k],answers:=f.answers++[a]}:=
 ⟨h.key,h.inp,fun b hb=>by
  rcases List.mem_append.1 hb with hb | hb
  ·
   exact h.rds b hb
  rw [List.mem_singleton] at hb
  exact hb ▸ hk,by simp [h.len],by simpa using ha,h.at0⟩
theorem FrOk.runs (h:FrOk rules f):FrOk rules {f with running:=true,at_:=0}:=⟨h.key,h.inp,h.rds,h.len,h.ans,Int.le_refl _⟩
theorem FrOk.step (h:FrOk rules f):FrOk rules {f with at_:=f.at_+1}:=⟨h.key,h.inp,h.rds,h.len,h.ans,by have:=h.at0;show 0≤f.at_+1;omega⟩
theorem FrOk.snoc {L:List (Frm × FAd)} (hL:∀y∈L,FrOk rules y.1) (h:FrOk rules f):∀g∈L.map Prod.fst++[f],FrOk rules g:=fun g hg=>by
 rcases List.mem_append.1 hg with hg | hg
 ·
  obtain ⟨y,hy,rfl⟩:=List.mem_map.1 hg;exact hL y hy
 rw [List.mem_singleton] at hg;exact hg ▸ h
end
structure TR (rules:List Rule) (inp:List Inp) (rev:Int) (n:Nat) (t:Tsk):Prop where
 ok:TK rules inp rev t
 ns:t.stack.length≤n
 nr:t.ran.length≤n
 ng:t.goals.length≤32
section
variable {rules:List Rule} {inp:List Inp} {rev:Int} {n:Nat} {t:Tsk}
theorem TR.mono (h:TR rules inp rev n t) {m:Nat} (hm:n≤m):TR rules inp rev m t:=⟨h.ok,Nat.le_trans h.ns hm,Nat.le_trans h.nr hm,h.ng⟩
theorem TR.sz (h:TR rules inp rev n t) (hR:rulesOk rules) (hn:n≤100000):t.Sz:=by
 have h1:=h.ok.base;have h2:=h1.inpl;have h3:t.base.inputs=inp:=h1.good.inp;have h4:t.base.recs.length≤4000:=h1.good.len;have h5:=h.ns;have h6:=h.nr;have h7:=h.ng;have h8:=hR.len;have h9:=h.ok.hru;refine ⟨by rw [h9];omega,fun x hx=>?_,by rw [h3];omega,by omega,by omega,by omega,by omega⟩;rw [h9] at hx;obtain ⟨i,hi,rfl⟩:=List.mem_iff_getElem.1 hx
 have:=(hR.2 i _ (List.getElem?_eq_getElem hi)).1
 omega
theorem TR.dropG (h:TR rules inp rev n t):TR rules inp rev n {t with goals:=t.goals.drop 1}:=
 ⟨⟨h.ok.hru,h.ok.base,fun k hk=>h.ok.goals k (List.mem_of_mem_drop hk),h.ok.stack,h.ok.ran⟩,h.ns,h.nr,by have:=h.ng;simp;omega⟩
theorem TR.begin (h:TR rules inp rev n t) {k:Key} (hk:Knd rules k) (hi:isInput k=false) (hn:1≤n):TR rules inp rev n {t with goals:=t.goals.drop 1,stack:=[⟨k,false,0,[],[]⟩]}:=
 ⟨⟨h.ok.hru,h.ok.base,fun k hk=>h.ok.goals k (List.mem_of_mem_drop hk),fun f hf=>by rw [List.mem_singleton] at hf;subst hf;exact FrOk.new hk hi,h.ok.ran⟩,hn,h.nr,by have:=h.ng;simp;omega⟩
theorem TR.next (h:TR rules inp rev n t) {b:Bas} {l:List Frm} {rk:List Key} (hb:BK rules inp rev b) (hl:∀f∈l,FrOk rules f) (hk:∀k∈rk,Knd rules k) (h1:rk.length≤1) (h2:l.length≤t.stack.length+1):TR rules inp rev (n+1) {t with base:=b,stack:=l,ran:=t.ran++rk}:=
 ⟨⟨h.ok.hru,hb,h.ok.goals,hl,fun k hm=>by rcases List.mem_append.1 hm with hm | hm;exact h.ok.ran k hm;exact hk k hm⟩,by have:=h.ns;show l.length≤_;omega,by have:=h.nr;show (t.ran++rk).length≤_;rw [List.length_append];omega,h.ng⟩
theorem needed_input {x:Bas} {l:List Frm} {k:Key} (h:neededV x l k=true):isInput k=false:=by
 cases hi:isInput k with
 | false=>rfl
 | true=>unfold neededV at h;rw [hi] at h;simp at h
end
end Go.Rc

namespace Go.Rc
open Go
theorem St.fresh1 {w w':World} {Z:Nat→Prop} {l:List As} {A B:As} (h:St w (fps [B]) Z w' (B::A::l)):∀x,A.fp x→w.heap.size≤x:=fun x hx=>by
 rcases h.org A (by simp) x hx with ⟨C,hC,hc⟩ | h1
 ·
  rw [List.mem_singleton] at hC;subst hC;exact absurd hx ((List.pairwise_cons.1 h.dis).1 A (by simp) x hc)
 exact h1
theorem goalOk.knd {rules:List Rule} {k:Key} (hR:rulesOk rules) (h:goalOk rules k):Knd rules k:=by
 have h24:=hR.len
 rcases h with ⟨n,h0,h3,rfl⟩ | ⟨i,hi,rfl⟩
 ·
  obtain ⟨m,rfl⟩:∃m:Nat,n=m:=⟨n.toNat,by omega⟩;exact .cell (by omega)
 exact .rule hi (by omega)
theorem goalOk.right {rules:List Rule} {k:Key} (hR:rulesOk rules) (h:goalOk rules k):rightK rules k=true:=by
 have hk:=h.knd hR
 rcases h with ⟨n,h0,h3,rfl⟩ | ⟨i,hi,rfl⟩
 ·
  unfold rightK
  rw [Knd.valid hk]
  unfold cellK
  rw [if_neg (by omega)]
  simp
 exact right_ofK hR hi
structure LB (rules:List Rule) (x:Bas):Prop where
 ok:BK rules x.inputs x.revision x
 inp:InpG x.revision x.inputs
section
variable {rules:List Rule} {x:Bas}
theorem LB.apply (h:LB rules x) {y:Bas} (hr:y.recs=x.recs) (h0:x.revision≤y.revision) (h1:y.revision≤1073741824) (hG:InpG y.revision y.inputs) (h6:y.inputs.length≤64):LB rules y:=by
 have hg:=h.ok.good;have ho:=h.ok.oks;have h00:0≤y.revision:=Int.le_trans ho.r0 h0;have hb:=hG.basOk h00 h1 h6;exact ⟨⟨⟨rfl,by show y.recs.length≤_;rw [hr];exact hg.len,by show ∀r∈y.recs,_;rw [hr];exact hg.key,by show ∀r∈y.recs,_;rw [hr];exact hg.rds,.nil,fun k=>.inl rfl⟩,⟨by show Srt y.recs;rw [hr];exact ho.st,by show ∀r∈y.recs,_;rw [hr];exact fun r hm=>⟨(ho.v r hm).1,Int.le_trans (ho.v r hm).2 h0⟩,h00,h1⟩,rfl,hb.1,h6⟩,hG⟩
theorem LB.sub (h:LB rules x) {rs:List Rec} (hs:rs.Sublist x.recs):LB rules ⟨x.revision,x.inputs,rs⟩:=⟨h.ok.sub hs,h.inp⟩
theorem LB.of (h:LB rules x) {b:Bas} (hb:BK rules x.inputs x.revision b):LB rules b:=by
 have h1:b.inputs=x.inputs:=hb.good.inp;have h2:b.revision=x.revision:=hb.rv;refine ⟨?_,?_⟩
 ·
  rw [h1,h2];exact hb
 rw [h1,h2];exact h.inp
theorem LB.task (h:LB rules x) {b:Bas} (hb:BK rules x.inputs x.revision b) {rs:List Rec} (hs:rs.Sublist b.recs):LB rules ⟨b.revision,b.inputs,rs⟩:=(h.of hb).sub hs
theorem LB.req (hR:rulesOk rules) (h:LB rules x) {goals:List Key} (hg:∀k∈goals,goalOk rules k) (h32:goals.length≤32):∃(f:Nat) (s':ES),checkE rules x goals=0∧Good rules x.inputs ⟨x,[],[],0⟩∧(∀k∈goals,Knd rules k)∧upAllV rules (valOf rules x.inputs) f ⟨x,[],[],0⟩ goals=some s'∧s'.ran.length≤1000000∧LB rules (s'.base x)∧(s'.base x).revision=x.revision:=by
 have h24:=hR.len;have hgd:=h.ok.good;have hk:∀k∈goals,Knd rules k:=fun k hm=>(hg k hm).knd hR;obtain ⟨f,s',hu⟩:=upAll_some (val:=valOf rules x.inputs) hR goals ⟨x,[],[],0⟩ hgd hk;have h1:=upAll_good hR hu hgd hk;have h2:=upAll_ok hR hu hgd h.ok.oks hk;have hran:=upAll_ran hR hu hgd hk;have hop:opn rules ⟨x,[],[],0⟩≤rules.length:=cnt_n _ _;refine ⟨f,s',?_,hgd,hk,hu,?_,?_,?_⟩
 ·
  unfold checkE
  rw [if_neg (fun h=>h hR),if_neg (fun hn=>hn h.ok.basOk),if_neg (by omega),if_pos (List.all_eq_true.2 fun k hm=>(hg k hm).right hR)]
 ·
  have h3:([]:List Key).length=0:=rfl;simp only [h3] at hran
  omega
 ·
  unfold ES.base
  split
  ·
   refine h.of ⟨⟨h1.1.inp,h1.1.len,h1.1.key,h1.1.rds,.nil,fun k=>.inl rfl⟩,⟨h2.st,h2.v,h2.r0,h2.r1⟩,h1.2.rev,h.ok.inpok,h.ok.inpl⟩
  exact h
 unfold ES.base
 split
 ·
  exact h1.2.rev
 rfl
theorem LB.start (h:LB rules x) {goals:List Key} (hk:∀k∈goals,Knd rules k) (h32:goals.length≤32):TR rules x.inputs x.revision 0 ⟨rules,x,goals,[],[]⟩:=
 ⟨⟨rfl,h.ok,hk,fun f hf=>(by cases hf),fun k hk=>(by cases hk)⟩,Nat.le_refl _,Nat.le_refl _,h32⟩
theorem LB.nil {rules:List Rule} (y:Bas) (hr:y.recs=[]) (h0:0≤y.revision) (h1:y.revision≤1073741824) (hG:InpG y.revision y.inputs) (h6:y.inputs.length≤64):LB rules y:=by
 have hb:=hG.basOk h0 h1 h6;exact ⟨⟨⟨rfl,by show y.recs.length≤_;rw [hr];simp,by show ∀r∈y.recs,_;rw [hr];simp,by show ∀r∈y.recs,_;rw [hr];simp,.nil,fun k=>.inl rfl⟩,⟨by show Srt y.recs;rw [hr];exact .nil,by show ∀r∈y.recs,_;rw [hr];simp,h0,h1⟩,rfl,hb.1,h6⟩,hG⟩
end
end Go.Rc

namespace Go.Rc
open Go
structure LR {α:Type} (A:Nat→Prop) (w:World) (k:Nat) (R:α→List Value→Prop) (a:Option Addr) (n:Nat) (xs:List α):Prop where
 len:n=xs.length
 le:n≤140737488355328
 at_:∀{i:Nat} {x:α},xs[i]?=some x→∃b o r,a=some ⟨b,o,none⟩∧r.length=k∧R x r∧w.rangeAt b (o+i*k) r∧A b∧b<w.heap.size
theorem SR.blkR {α:Type} {w:World} {k b E:Nat} {R:α→List Value→Prop} {xs:List α} {rows:List (List Value)} (h:Blk w b E rows.flatten) (hl:xs.length=rows.length) (hk:∀r∈rows,r.length=k) (h1:∀u∈rows.flatten,u.oneCell'=true)
  (hle:rows.length≤140737488355328) (hR:∀(i:Nat) (x:α) (r:List Value),xs[i]?=some x→rows[i]?=some r→R x r):SR (fun _=>True) w k R (some ⟨b,0,none⟩) rows.length rows.length xs:=by
 have hlen:rows.flatten.length=rows.length*k:=by
  clear h hl h1 hle hR
  induction rows with
  | nil=>simp
  | cons r t ih=>
   have h2:=ih fun x hx=>hk x (by simp [hx])
   simp only [List.flatten_cons,List.length_append,List.length_cons,h2,hk r (by simp),Nat.succ_mul];omega
 have ho:=OL.blk (base:=0) (k:=k) h (Nat.zero_le _) hlen h1 hle;exact ⟨hl.symm,rows,hl.symm,hk,ho.sl (A:=fun _=>True) (fun _ _=>trivial) hle,hR⟩
end Go.Rc

namespace Go.Rc
open Go
def SrtK (l:List Key):Prop:=l.Pairwise fun a b=>cmpK a b<0
theorem srtK_of {l l':List Key} (hp:l'.Perm l) (hn:l.Nodup) (hs:l'.Pairwise fun a b=>¬cmpK b a<0):SrtK l':=by
 have hn':l'.Pairwise fun a b=>a≠b:=hp.nodup_iff.2 hn
 refine (hs.and hn').imp fun {a b} h=>?_;have h1:=cmpK_swap a b;have h2:cmpK a b≠0:=fun e=>h.2 (cmpK_eq e);have h3:=h.1
 omega
theorem SrtK.nodup {l:List Key} (h:SrtK l):l.Nodup:=h.imp fun {a b} h e=>by rw [e,cmpK_self] at h;omega
theorem knd_len {rules:List Rule} {l:List Key} (hn:l.Nodup) (hk:∀x∈l,Knd rules x):l.length≤100+rules.length:=by
 have h:=nodup_len (U:=(List.range 100).map (fun n:Nat=>cellK (n:Int))++(List.range rules.length).map fun n:Nat=>ofK rules (n:Int)) hn fun x hx=>by
  rw [List.mem_append,List.mem_map,List.mem_map]
  cases hk x hx with
  | cell h=>exact .inl ⟨_,List.mem_range.2 (by omega),rfl⟩
  | rule h _=>exact .inr ⟨_,List.mem_range.2 h,rfl⟩
 simpa using h
section
variable {rules:List Rule} {inp:List Inp} {k:Key}
inductive Rch (rules:List Rule) (inp:List Inp) (k:Key):Key→Prop where
 | refl:Rch rules inp k k
 | step {x y:Key}:Rch rules inp k x→y∈readsK rules inp x→Rch rules inp k y
theorem readsK_knd (hR:rulesOk rules) {x:Key} (hx:Knd rules x):∀y∈readsK rules inp x,Knd rules y:=fun y hy=>by
 cases hx with
 | cell h=>unfold readsK at hy;rw [if_pos (isInput_cellK h)] at hy;cases hy
 | rule hi _=>rw [readsK_ofK hR hi] at hy;exact (readsV_knd hR hi y hy).knd hR
theorem readsK_len (hR:rulesOk rules) {x:Key} (hx:Knd rules x):(readsK rules inp x).length≤6:=by
 cases hx with
 | cell h=>unfold readsK;rw [if_pos (isInput_cellK h)];simp
 | rule hi _=>rw [readsK_ofK hR hi,readsV_len];exact asksN_le hR hi
theorem Rch.knd (hR:rulesOk rules) (hk:Knd rules k) {y:Key} (h:Rch rules inp k y):Knd rules y:=by
 induction h with
 | refl=>exact hk
 | step _ hy ih=>exact readsK_knd hR ih _ hy
structure Bfs (rules:List Rule) (inp:List Inp) (k:Key) (l:List Key) (i q:Nat):Prop where
 nod:l.Nodup
 knd:∀x∈l,Knd rules x
 rch:∀x∈l,Rch rules inp k x
 mem:k∈l
 cl:∀j x,j<i→l[j]?=some x→∀y∈readsK rules inp x,y∈l
 cur:∀x,l[i]?=some x→∀y∈(readsK rules inp x).take q,y∈l
theorem Bfs.start (hk:Knd rules k):Bfs rules inp k [k] 0 0:=
 ⟨by simp,by simpa using hk,by simpa using Rch.refl,by simp,fun j x h=>by omega,fun x _ y hy=>by simp at hy⟩
theorem Bfs.len (hR:rulesOk rules) {l:List Key} {i q:Nat} (h:Bfs rules inp k l i q):l.length≤124:=by
 have:=knd_len h.nod h.knd
 have:=hR.len
 omega
theorem take_mem {l:List Key} {q:Nat} {y z:Key} (hy:l[q]?=some y) (hz:z∈l.take (q+1)):z∈l.take q∨z=y:=by
 obtain ⟨hq,rfl⟩:=List.getElem?_eq_some_iff.1 hy;rw [List.take_succ_eq_append_getElem hq,List.mem_append,List.mem_singleton] at hz;exact hz
theorem Bfs.has {l:List Key} {i q:Nat} (h:Bfs rules inp k l i q) {x y:Key} (hx:l[i]?=some x) (hy:(readsK rules inp x)[q]?=some y) (hm:y∈l):Bfs rules inp k l i (q+1):=
 ⟨h.nod,h.knd,h.rch,h.mem,h.cl,fun x' hx' z hz=>by
  rw [hx] at hx'
  cases hx'
  rcases take_mem hy hz with hz | rfl
  ·
   exact h.cur x hx z hz
  exact hm⟩
theorem Bfs.add (hR:rulesOk rules) {l:List Key} {i q:Nat} (h:Bfs rules inp k l i q) {x y:Key} (hx:l[i]?=some x) (hy:(readsK rules inp x)[q]?=some y) (hm:y∉l):Bfs rules inp k (l++[y]) i (q+1):=by
 have hxl:=List.mem_of_getElem? hx;have hyr:=List.mem_of_getElem? hy;have hil:i<l.length:=(List.getElem?_eq_some_iff.1 hx).1;refine ⟨?_,fun z hz=>?_,fun z hz=>?_,by simp [h.mem],fun j z hj hz w hw=>?_,fun x' hx' z hz=>?_⟩
 ·
  rw [List.nodup_append];exact ⟨h.nod,by simp,fun a ha b hb=>by rw [List.mem_singleton] at hb;subst hb;exact fun e=>hm (e ▸ ha)⟩
 ·
  rcases List.mem_append.1 hz with hz | hz
  ·
   exact h.knd z hz
  rw [List.mem_singleton] at hz;exact hz ▸ readsK_knd hR (h.knd x hxl) y hyr
 ·
  rcases List.mem_append.1 hz with hz | hz
  ·
   exact h.rch z hz
  rw [List.mem_singleton] at hz;exact hz ▸ .step (h.rch x hxl) hyr
 ·
  rw [List.getElem?_append_left (by omega)] at hz;exact List.mem_append_left _ (h.cl j z hj hz w hw)
 rw [List.getElem?_append_left hil,hx] at hx'
 cases hx'
 rcases take_mem hy hz with hz | rfl
 ·
  exact List.mem_append_left _ (h.cur x hx z hz)
 simp
theorem Bfs.next {l:List Key} {i q:Nat} (h:Bfs rules inp k l i q) {x:Key} (hx:l[i]?=some x) (hq:(readsK rules inp x).length≤q):Bfs rules inp k l (i+1) 0:=
 ⟨h.nod,h.knd,h.rch,h.mem,fun j z hj hz w hw=>by
  by_cases e:j=i
  ·
   subst e;rw [hx] at hz
   cases hz
   exact h.cur x hx w (by rw [List.take_of_length_le hq];exact hw)
  exact h.cl j z (by omega) hz w hw,fun z _ y hy=>by simp at hy⟩
theorem Bfs.done {l:List Key} {i:Nat} (h:Bfs rules inp k l i 0) (hi:l.length≤i) (y:Key):y∈l↔Rch rules inp k y:=
 ⟨h.rch y,fun hy=>by
  induction hy with
  | refl=>exact h.mem
  | step _ hz ih=>
   obtain ⟨j,hj,rfl⟩:=List.mem_iff_getElem.1 ih;exact h.cl j _ (by omega) (List.getElem?_eq_getElem hj) _ hz⟩
def seenM (l:List Key):List (Key × Value):=l.map fun x=>(x,.bool true)
theorem seen_get (l:List Key) (y:Key):(mget (seenM l) y).getD (.bool false)=.bool (decide (y∈l)):=by
 unfold seenM
 induction l with
 | nil=>simp [mget]
 | cons x r ih=>
  simp only [List.map_cons,mget]
  by_cases e:x=y
  ·
   rw [if_pos e];simp [e]
  rw [if_neg e,ih]
  simp [Ne.symm e]
theorem seen_put (l:List Key) {y:Key} (h:y∉l):mput (seenM l) y (.bool true)=seenM (l++[y]):=by
 unfold seenM
 induction l with
 | nil=>rfl
 | cons x r ih=>
  rw [List.mem_cons,not_or] at h;simp only [List.map_cons,List.cons_append,mput];rw [if_neg (Ne.symm h.1),ih h.2]
end
end Go.Rc

namespace Go.Rc
open Go
instance:Inhabited Key:=⟨noKey⟩
theorem chg_grown {w w':World} (h:Chg [] w w'):∃q os,w'=Sort.grow (w.drewN q) os:=by
 refine ⟨w'.drawn - w.drawn,w'.heap.extract w.heap.size w'.heap.size,?_⟩;obtain ⟨ho,ht,hu,hs,hd,hb⟩:=h
 have hh:w'.heap=w.heap++w'.heap.extract w.heap.size w'.heap.size:=by
  apply Array.ext_getElem?
  intro i;rw [Array.getElem?_append]
  split
  ·
   rename_i h1
   exact hb i h1 (by simp)
  rename_i h1
  rw [Array.getElem?_extract]
  by_cases h2:i<w'.heap.size
  ·
   rw [if_pos (by omega)]
   congr 1
   omega
  rw [if_neg (by omega),Array.getElem?_eq_none (by omega)]
 have hdr:w'.drawn=w.drawn+(w'.drawn - w.drawn):=by omega
 generalize w'.heap.extract w.heap.size w'.heap.size=os at hh
 generalize w'.drawn - w.drawn=q at hdr
 cases w'
 cases w
 simp only at ho ht hu hh hdr;subst ho ht hu hh hdr
 rfl
theorem cmp_swo:Sort.SWO (Proofs.ltOf cmpK):=by
 refine ⟨fun x=>?_,fun x y z h1 h2=>?_,fun x y z h1 h2=>?_⟩
 ·
  unfold Proofs.ltOf
  rw [cmpK_self]
  rfl
 ·
  unfold Proofs.ltOf at *
  rw [decide_eq_true_eq] at *;exact cmpK_trans h1 h2
 unfold Proofs.ltOf at *
 rw [decide_eq_false_iff_not] at *;intro h3;have a:=cmpK_swap x y;have b:=cmpK_swap y z;have c:=cmpK_swap x z
 rcases Int.lt_trichotomy (cmpK y x) 0 with h | h | h
 ·
  have h4:=cmpK_trans h h3;exact h2 h4
 ·
  have e:=cmpK_eq h;subst e;exact h2 h3
 omega
theorem flat_keys (l:List Key) (t:Nat) (ht:t<l.length*2):(l.map Key.cells).flatten[t]?=some ((Key.cells (l.toArray[t / 2]!))[t % 2]!):=by
 have hi:t / 2<l.length:=by omega
 have hr:(l.map Key.cells)[t / 2]?=some l[t / 2].cells:=by rw [List.getElem?_map,List.getElem?_eq_getElem hi];rfl
 have e:t=t / 2*2+t % 2:=by omega
 have h1:(l.toArray[t / 2]!)=l[t / 2]:=by simp [hi]
 rw [h1]
 have h:=flatten_row (l.map Key.cells) 2 (t / 2) _ (fun r hr=>by obtain ⟨x,_,rfl⟩:=List.mem_map.1 hr;rfl) hr (t % 2) ((Key.cells l[t / 2])[t % 2]!) (by
  have h2:t % 2=0∨t % 2=1:=by omega
  rcases h2 with h2 | h2 <;> rw [h2] <;> rfl)
 rw [← e] at h;exact h
theorem holds_keys {w:World} {b E:Nat} {cur:Array Value} {l:List Key} (hb:w.heap[b]?=some (.cells cur E (0,0))) (ht:cur.toList.take (l.length*2)=(l.map Key.cells).flatten):Sort.HoldsK Key.cells 2 w b 0 l.toArray:=by
 unfold Sort.HoldsK
 intro j hj;rw [Sort.size_flatK,List.size_toArray] at hj;have h1:=flat_keys l j hj;rw [← ht,List.getElem?_take,if_pos hj,Array.getElem?_toList] at h1;refine ⟨?_,?_⟩
 ·
  unfold World.cell?
  simp only [hb,Nat.zero_add];rw [Sort.get_flatK _ _ _ _ (by rw [List.size_toArray];exact hj)]
  simpa using h1
 unfold World.frozen?
 simp only [hb]
 simp
theorem put_keys {w:World} {b E m:Nat} {os:Array Obj} {cur:Array Value} {l l':List Key} (hb:w.heap[b]?=some (.cells cur E (0,0))) (ht:cur.toList.take (l.length*2)=(l.map Key.cells).flatten) (hl:l'.length=l.length):∃cur':Array Value,(Proofs.sortWorldK Key.cells 2 w b 0 m l'.toArray os).heap[b]?=some (.cells cur' E (0,0))∧cur'.size=cur.size∧cur'.toList.take (l'.length*2)=(l'.map Key.cells).flatten:=by
 have hlt:b<w.heap.size:=(Array.getElem?_eq_some_iff.1 hb).1;refine ⟨Sort.putCells id 0 (Sort.flatK Key.cells 2 l'.toArray) cur,?_,by unfold Sort.putCells;simp,?_⟩
 ·
  unfold Proofs.sortWorldK
  rw [Sort.heap_grow_old _ _ (by unfold Sort.putRowK Sort.putRow Sort.mapBlock Sort.ahead;simpa using hlt)]
  unfold Sort.putRowK Sort.putRow Sort.mapBlock Sort.ahead
  simp only [Array.getElem?_modify,if_true,hb]
  rfl
 have hlen:l.length*2≤cur.size:=by
  have h1:=congrArg List.length ht
  have h2:(l.map Key.cells).flatten.length=l.length*2:=by
   have h3:=flat_keys l
   clear h1 ht hl hb hlt
   induction l with
   | nil=>rfl
   | cons x r ih=>simp only [List.map_cons,List.flatten_cons,List.length_append,List.length_cons];rw [ih fun t ht=>flat_keys r t ht];simp [Key.cells];omega
  rw [h2,List.length_take] at h1
  have:cur.toList.length=cur.size:=by simp
  omega
 apply List.ext_getElem?
 intro t
 by_cases h:t<l'.length*2
 ·
  rw [flat_keys l' t h,List.getElem?_take,if_pos h,Array.getElem?_toList]
  unfold Sort.putCells
  rw [Array.getElem?_mapIdx,Array.getElem?_eq_getElem (by omega),Option.map_some];rw [if_pos ⟨Nat.zero_le _,by rw [Sort.size_flatK,List.size_toArray];omega⟩,Nat.sub_zero,Sort.get_flatK _ _ _ _ (by rw [List.size_toArray];exact h)]
  rfl
 rw [List.getElem?_eq_none (by rw [List.length_take];omega)]
 have h2:∀l:List Key,(l.map Key.cells).flatten.length=l.length*2:=fun l=>by
  induction l with
  | nil=>rfl
  | cons x r ih=>simp only [List.map_cons,List.flatten_cons,List.length_append,List.length_cons];rw [ih];simp [Key.cells];omega
 rw [List.getElem?_eq_none (by rw [h2];omega)]
theorem sort_chg {w:World} {b m:Nat} {os:Array Obj} {d:Array Key}:Chg [b] w (Proofs.sortWorldK Key.cells 2 w b 0 m d os):=by
 refine ⟨rfl,rfl,rfl,?_,?_,fun k hk hn=>?_⟩
 ·
  unfold Proofs.sortWorldK Sort.grow Sort.putRowK Sort.putRow Sort.mapBlock Sort.ahead
  simp
 ·
  exact Nat.le_add_right _ _
 unfold Proofs.sortWorldK
 rw [Sort.heap_grow_old _ _ (by unfold Sort.putRowK Sort.putRow Sort.mapBlock Sort.ahead;simpa using hk)]
 unfold Sort.putRowK Sort.putRow Sort.mapBlock Sort.ahead
 simp only [Array.getElem?_modify];rw [if_neg (fun e=>hn (by simp [e]))]
theorem sort_conv {P:Program} {F g E:Nat} (hsort:∀(blk cap:Nat) (d:Array Key) (w:World),Proofs.CmpLays P g #[] Key.cells 2 cmpK blk 0 d.size w→Sort.HoldsK Key.cells 2 w blk 0 d→blk<w.heap.size→d.size<4611686018427387904→Calls P F #[.slice (some ⟨blk,0,none⟩) d.size cap,.func (.func g) #[] #[]] w fun e w'=>e=.returned (.tuple #[])∧∃d' n os,Sort.PermIn 0 d.size d d'∧Sort.SortedIn (Proofs.ltOf cmpK) 0 d.size d'∧w'=Proofs.sortWorldK Key.cells 2 w blk 0 n d' os)
  (hcmp:∀(x y:Key) (w:World),Calls P g #[x.val,y.val] w fun e w'=>e=.returned (.int .i64 (cmpK x y))∧Chg [] w w')
  {l:List Key} {a:Option Addr} {n c:Nat} {w:World} {M Z:Nat→Prop} (hst:St w M Z w [As.os RR.key E 2 a n c l]) (h0:l≠[]) (hn:l.length≤1000000):Calls P F #[.slice a n c,.func (.func g) #[] #[]] w fun e w'=>e=.returned (.tuple #[])∧∃l',l'.Perm l∧(l'.Pairwise fun x y=>¬cmpK y x<0)∧St w M Z w' [As.os RR.key E 2 a n c l']:=by
 have ho:=As.gs hst.g0;obtain ⟨hnl,rows,hrl,hrk,hol,hrr⟩:=id ho
 have hrows:rows=l.map Key.cells:=by
  apply List.ext_getElem?
  intro i;rw [List.getElem?_map]
  by_cases hi:i<l.length
  ·
   rw [List.getElem?_eq_getElem (by omega),List.getElem?_eq_getElem hi]
   have:=hrr i l[i] rows[i] (List.getElem?_eq_getElem hi) (List.getElem?_eq_getElem (by omega))
   rw [RR.flat_eq this]
   rfl
  rw [List.getElem?_eq_none (by omega),List.getElem?_eq_none (by omega)]
  rfl
 rcases hol.cases with ⟨h1,h2,_⟩ | ⟨b,cur,rfl,hb0,hb,hnc,hcm,hcs,ht⟩
 ·
  have:=List.length_pos_iff.2 h0
  omega
 rw [hrows,hnl] at ht;have hbl:b<w.heap.size:=(Array.getElem?_eq_some_iff.1 hb).1
 have hc:Proofs.CmpLays P g #[] Key.cells 2 cmpK b 0 l.toArray.size w:=fun m os dk _ x y=>(hcmp x y _).mono fun e w' ⟨h1,h2⟩=>⟨h1,chg_grown h2⟩
 have hs:=hsort b c l.toArray w hc (holds_keys hb ht) hbl (by rw [List.size_toArray];omega);rw [List.size_toArray,← hnl] at hs;refine hs.mono ?_;rintro e w' ⟨rfl,d',m,os,⟨hd1,_,hd3⟩,hd4,rfl⟩;rw [hnl] at hd3 hd4
 have hd1:d'.size=l.length:=by rw [hd1,List.size_toArray]
 have hd5:d'.toList.Perm l:=by
  have e1:d'.extract 0 l.length=d':=by rw [← hd1];exact Array.extract_size
  have e2:l.toArray.extract 0 l.length=l.toArray:=by rw [show l.length=l.toArray.size from by simp];exact Array.extract_size
  rw [e1,e2] at hd3
  simpa using hd3
 obtain ⟨l',rfl⟩:∃l':List Key,d'=l'.toArray:=⟨d'.toList,by simp⟩
 have hl:l'.length=l.length:=by simpa using hd1
 simp only at hd5;obtain ⟨cur',g1,g2,g3⟩:=put_keys (m:=m) (os:=os) hb ht hl;refine ⟨rfl,l',hd5,?_,?_⟩
 ·
  rw [List.pairwise_iff_getElem];intro i j hi hj hij;have h1:=hd4 i j (Nat.zero_le _) hij (by omega)
  unfold Proofs.ltOf at h1
  simpa [hi,hj] using h1
 refine hst.updS (w':=Proofs.sortWorldK Key.cells 2 w b 0 m l'.toArray os) (sort_chg.mono fun x hx=>by simpa [oblk] using hx) ?_ (fun x hx=>.inl hx);refine ⟨by omega,l'.map Key.cells,by simp,fun r hr=>by obtain ⟨x,_,rfl⟩:=List.mem_map.1 hr;rfl,?_,fun i x r hx hr=>?_⟩
 ·
  refine ⟨fun u hu=>?_,?_,.inr ⟨b,c,cur',rfl,Nat.zero_le _,g1,hnc,hcm,by rw [g2];exact hcs,by rw [← hl] at hnl;rw [hnl];exact g3⟩⟩
  ·
   obtain ⟨r,hr,hu⟩:=List.mem_flatten.1 hu;obtain ⟨x,_,rfl⟩:=List.mem_map.1 hr
   simp [Key.cells] at hu
   rcases hu with rfl | rfl <;> rfl
  have h2:∀l:List Key,(l.map Key.cells).flatten.length=l.length*2:=fun l=>by
   induction l with
   | nil=>rfl
   | cons x r ih=>simp only [List.map_cons,List.flatten_cons,List.length_append,List.length_cons];rw [ih];simp [Key.cells];omega
  rw [h2];omega
 rw [List.getElem?_map,hx] at hr
 cases hr
 rfl
end Go.Rc

namespace Go.Rc
open Go
theorem LB.goodB {rules:List Rule} {x:Bas} (h:LB rules x):GoodB rules x:=
 ⟨h.ok.oks.r0,h.ok.oks.r1,⟨h.inp.1,h.inp.2.1⟩,h.inp.k99,h.ok.inpl,fun r hr=>⟨h.ok.good.key r hr,((validRec_iff _).1 (h.ok.oks.v r hr).1).2.2.1,(h.ok.good.rds r hr).2,(h.ok.oks.v r hr).1⟩,h.ok.oks.st,h.ok.good.len,fun r hr=>(h.ok.oks.v r hr).2⟩
theorem LB.small {rules:List Rule} {x:Bas} (hR:rulesOk rules) (h:LB rules x):∀k,(valOf rules x.inputs k).size≤1000:=valOf_size hR fun y hy=>(h.inp.2.2 y hy).2
theorem OR.blk2 {α:Type} {R:α→List Value→Prop} {base b E k:Nat} {w:World} {x y:α} {r s:List Value} (h:Blk w b E (r++s)) (hb:base≤b) (hr:r.length=k) (hs:s.length=k) (h1:∀u∈r++s,u.oneCell'=true) (hx:R x r) (hy:R y s):OR base w E k R (some ⟨b,0,none⟩) 2 2 [x,y]:=
 ⟨rfl,[r,s],rfl,by simp [hr,hs],by simpa using OL.blk (k:=k) h hb (m:=2) (by rw [List.length_append];omega) h1 (by omega),two_rows hx hy⟩
def ra0:Ask:=⟨false,false,1,0⟩
def ra1:Ask:=⟨false,false,0,0⟩
def rings28:List Rule:=[⟨true,[ra0],5,1⟩,⟨true,[ra1],5,4⟩]
theorem rings28_ok:rulesOk rings28:=by
 refine ⟨by decide,fun i r h=>?_⟩
 have hi:i=0∨i=1:=by have:=(List.getElem?_eq_some_iff.1 h).1;simp [rings28] at this;omega
 rcases hi with rfl | rfl
 ·
  simp [rings28] at h;subst h
  refine ⟨by simp,fun k x hx=>?_,rfl⟩
  have hk:k=0:=by have:=(List.getElem?_eq_some_iff.1 hx).1;simp at this;omega
  subst hk
  simp at hx;subst hx
  rfl
 simp [rings28] at h;subst h
 refine ⟨by simp,fun k x hx=>?_,rfl⟩
 have hk:k=0:=by have:=(List.getElem?_eq_some_iff.1 hx).1;simp at this;omega
 subst hk
 simp at hx;subst hx
 rfl
theorem rings28_lt {i:Nat}:i<rings28.length↔i<2:=Iff.rfl
theorem ring28_ring {i:Nat} (hi:i<2):ringAt rings28 i=true:=by
 match i with
 | 0=>rfl
 | 1=>rfl
theorem ring28_rv {inp:List Inp} {i:Nat} (hi:i<2):rv rings28 inp i=5:=by
 have hb0:∀b,(baseV rings28 (valOf rings28 inp) 0).testBit b=true↔(1:Nat).testBit b=true:=fun b=>Iff.rfl;have hb1:∀b,(baseV rings28 (valOf rings28 inp) 1).testBit b=true↔(4:Nat).testBit b=true:=fun b=>Iff.rfl;have a01:ringAsk rings28 0 1:=⟨_,ra0,rfl,rfl,by simp,rfl,rfl,rfl⟩;have a10:ringAsk rings28 1 0:=⟨_,ra1,rfl,rfl,by simp,rfl,rfl,rfl⟩;have h1:=ringB_bit rings28_ok (ans:=valOf rings28 inp) (rings28_lt.2 hi) (ring28_ring hi)
 have hre:∀j,RReach rings28 i j↔j<2:=fun j=>by
  constructor
  ·
   intro h
   cases h with
   | refl=>exact hi
   | step _ h=>exact h.lt.2.1
  intro h
  have c:(i=j)∨(i=0∧j=1)∨(i=1∧j=0):=by omega
  rcases c with rfl | ⟨rfl,rfl⟩ | ⟨rfl,rfl⟩
  ·
   exact .refl
  ·
   exact .step .refl a01
  exact .step .refl a10
 apply Nat.eq_of_testBit_eq
 intro b;rw [Bool.eq_iff_iff]
 show (ringB rings28 (valOf rings28 inp) i).testBit b=true↔_
 rw [h1,show (5:Nat)=1 ||| 4 from rfl,Nat.testBit_or,Bool.or_eq_true]
 constructor
 ·
  rintro ⟨j,hj,hv⟩;have hj:=(hre j).1 hj
  have c:j=0∨j=1:=by omega
  rcases c with rfl | rfl
  ·
   exact .inl ((hb0 b).1 hv)
  exact .inr ((hb1 b).1 hv)
 rintro (h | h)
 ·
  exact ⟨0,(hre 0).2 (by omega),(hb0 b).2 h⟩
 exact ⟨1,(hre 1).2 (by omega),(hb1 b).2 h⟩
theorem itoa5:itoa ((5:Nat):Int)=⟨#[53]⟩:=by
 simp [itoa,Lib.itoa,Lib.decDigits]
theorem ring28_val {inp:List Inp} {i:Nat} (hi:i<2):valOf rings28 inp (ofK rings28 (i:Int))=⟨#[53]⟩:=by
 rw [valOf_ofK rings28_ok (rings28_lt.2 hi),valI_ring rings28_ok (rings28_lt.2 hi) (ring28_ring hi),ring28_rv hi];exact itoa5
theorem ring28_reads {inp:List Inp} {i:Nat} (hi:i<2):readsK rings28 inp (ofK rings28 (i:Int))=[ofK rings28 ((1 - i:Nat):Int)]:=by
 rw [readsK_ofK rings28_ok (rings28_lt.2 hi)]
 unfold readsV
 have hn:asksN rings28 i=1:=by
  match i with
  | 0=>rfl
  | 1=>rfl
 obtain ⟨a,h1,_,h2⟩:=turn_ask rings28_ok (rings28_lt.2 hi) (answers:=[]) (by rw [hn];decide);obtain ⟨x,hx,ha⟩:=h2 (ring28_ring hi);rw [hn]
 show []++[(turnV rings28 (ofK rings28 (i:Int)) []).ask]=_
 rw [h1,ha]
 match i with
 | 0=>cases hx;rfl
 | 1=>cases hx;rfl
theorem ring28_below {inp:List Inp} {L:List Key} (hs:SrtK L) (hL:∀y,y∈L↔Rch rings28 inp (ofK rings28 ((1:Nat):Int)) y):L.length=2:=by
 have h2:∀y,Rch rings28 inp (ofK rings28 ((1:Nat):Int)) y→y∈[ofK rings28 ((0:Nat):Int),ofK rings28 ((1:Nat):Int)]:=fun y hy=>by
  induction hy with
  | refl=>simp
  | step _ hz ih=>
   simp only [List.mem_cons,List.not_mem_nil,or_false] at ih
   rcases ih with rfl | rfl
   ·
    rw [ring28_reads (by omega),List.mem_singleton] at hz;subst hz
    simp
   rw [ring28_reads (by omega),List.mem_singleton] at hz;subst hz
   simp
 have hk1:ofK rings28 ((1:Nat):Int)∈L:=(hL _).2 .refl;have hk0:ofK rings28 ((0:Nat):Int)∈L:=(hL _).2 (.step .refl (by rw [ring28_reads (by omega)];simp))
 have hne:ofK rings28 ((0:Nat):Int)≠ofK rings28 ((1:Nat):Int):=fun e=>by
  have:=ofK_inj rings28_ok (rings28_lt.2 (by omega:0<2)) (rings28_lt.2 (by omega:1<2)) e
  omega
 have a:=nodup_len hs.nodup fun y hy=>h2 y ((hL y).1 hy)
 have b:=nodup_len (l:=[ofK rings28 ((0:Nat):Int),ofK rings28 ((1:Nat):Int)]) (U:=L) (by simpa using hne) fun y hy=>by
  simp only [List.mem_cons,List.not_mem_nil,or_false] at hy
  rcases hy with rfl | rfl
  ·
   exact hk0
  exact hk1
 simp at a b
 omega
theorem bas0_lb {rules:List Rule}:LB rules ⟨0,[],[]⟩:=LB.nil _ rfl (by decide) (by decide) (InpG.nil _) (by simp)
end Go.Rc

namespace Go.Rc
open Go
section
variable {rules:List Rule} {inp:List Inp}
noncomputable def ansQ (rules:List Rule) (inp:List Inp) (i q:Nat):List ByteArray:=(runA (turnV rules (ofK rules (i:Int))) (valOf rules inp) q).2
noncomputable def askQ (rules:List Rule) (inp:List Inp) (i q:Nat):Key:=(turnV rules (ofK rules (i:Int)) (ansQ rules inp i q)).ask
theorem readsV_get {i q:Nat} (hq:q<asksN rules i):(readsV rules inp i)[q]?=some (askQ rules inp i q):=by
 unfold readsV askQ ansQ
 generalize asksN rules i=n at hq ⊢
 induction n with
 | zero=>omega
 | succ n ih=>
  have hl:=(runA_len (turnV rules (ofK rules (i:Int))) (valOf rules inp) n).1;simp only [runA]
  by_cases e:q=n
  ·
   subst e;rw [List.getElem?_append_right (by omega),hl,Nat.sub_self]
   rfl
  rw [List.getElem?_append_left (by omega)];exact ih (by omega)
end
end Go.Rc

