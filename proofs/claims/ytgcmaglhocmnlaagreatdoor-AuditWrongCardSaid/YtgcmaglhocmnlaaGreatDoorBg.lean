/- Base of the proof: frames, memory, ownership, and the plain meaning of rule systems. Conditions: as each lemma says. -/
import Derived.Test.YtgcmaglhocmnlaaGreatDoorBf
import Derived.Test.YtgcmaglhocmnlaaGreatDoorBe
import Derived.Test.YtgcmaglhocmnlaaGreatDoorBc
import Derived.Laws.IdiomRangeMap
set_option linter.unusedVariables false
set_option linter.unusedSimpArgs false
set_option linter.unusedSectionVars false
namespace Go.Rc
open Go
theorem mdel_put {κ:Type} [DecidableEq κ]:∀{l:List (κ × Value)} {k:κ} {v:Value},mget l k=none→mdel (mput l k v) k=l
 | [],k,v,_=>by simp [mput,mdel]
 | (k0,v0)::r,k,v,h=>by
  by_cases e:k0=k
  ·
   subst e;simp [mget] at h
  simp only [mget,if_neg e] at h;simp only [mput,if_neg e,mdel,mdel_put h]
def FZ.row (b:Nat) (r:List Value):FZ:=
 ⟨fun Z w=>Z b∧b<w.heap.size∧w.rangeAt b 0 r,fun hZ h=>⟨hZ _ h.1,h.2⟩,fun hs hc h=>⟨h.1,Nat.lt_of_lt_of_le h.2.1 hs,fun j v hv=>by rw [← h.2.2 j v hv];exact World.cell?_of_block (a:=⟨b,_,none⟩) (hc b h.1 h.2.1)⟩⟩
def SD.FV (D:SD) (P:Program) (rules:List Rule) (x:Bas):FZ:=(D.F P rules x).and (FZ.row D.s (D.cells x))
theorem SD.FV.rg {D:SD} {P:Program} {rules:List Rule} {x:Bas} {Z:Nat→Prop} {w:World} (h:(D.FV P rules x).p Z w):(As.rg D.s 0 (D.cells x)).ok Z w:=As.mkrg h.2.1 h.2.2.1 h.2.2.2
theorem mput_mput {κ:Type} [DecidableEq κ]:∀(l:List (κ × Value)) (k:κ) (v u:Value),mput (mput l k v) k u=mput l k u
 | [],k,v,u=>by simp [mput]
 | (k0,v0)::r,k,v,u=>by
  by_cases e:k0=k
  ·
   simp [mput,e]
  simp [mput,e,mput_mput r k v u]
section
variable {rules:List Rule} {inp:List Inp}
def AlOk (rules:List Rule) (i:Nat) (al:List (Key × Value)):Prop:=∀j:Nat,j≤i→j<rules.length→mget al (ofK rules (j:Int))=none
theorem AlOk.mono {i m:Nat} {al:List (Key × Value)} (h:AlOk rules i al) (hm:m≤i):AlOk rules m al:=fun j hj hl=>h j (by omega) hl
theorem AlOk.put (hR:rulesOk rules) {i m:Nat} {al:List (Key × Value)} (h:AlOk rules i al) (hi:i<rules.length) (hm:m<i) (v:Value):AlOk rules m (mput al (ofK rules (i:Int)) v):=fun j hj hl=>by
 rw [mget_put,if_neg (fun e=>by have:=ofK_inj hR hi hl e;omega)];exact h j (by omega) hl
theorem AlOk.nil (i:Nat):AlOk rules i []:=fun _ _ _=>rfl
noncomputable def readsV (rules:List Rule) (inp:List Inp) (i:Nat):List Key:=(runA (turnV rules (ofK rules (i:Int))) (valOf rules inp) (asksN rules i)).1
noncomputable def readsK (rules:List Rule) (inp:List Inp) (k:Key):List Key:=if isInput k then [] else readsV rules inp (number k).toNat
theorem readsK_ofK (hR:rulesOk rules) {i:Nat} (hi:i<rules.length):readsK rules inp (ofK rules (i:Int))=readsV rules inp i:=by
 have h24:=hR.len
 unfold readsK
 rw [if_neg (by rw [isInput_ofK hi (by omega)];simp),number_ofK hi (by omega),Int.toNat_natCast]
theorem MayAsk.cyc (hR:rulesOk rules) {i:Nat} {a:Key} (h:MayAsk rules i a):isCyclic a=decide (a.kind=32):=by
 have h24:=hR.len
 rcases h with ⟨n,h1,rfl⟩ | ⟨m,h1,rfl,_⟩
 ·
  rw [isCyclic_cellK (by omega)]
  unfold cellK
  rw [if_neg (by omega)]
  rfl
 rw [isCyclic_ofK h1 (by omega),ofK_kind h1 (by omega)]
 cases ringAt rules m <;> simp
theorem MayAsk.al (hR:rulesOk rules) {i0 j:Nat} {a:Key} {al:List (Key × Value)} (h:MayAsk rules j a) (hr:ringAt rules j=true) (hc:isCyclic a=false) (hin:isInput a=false) (hb:blockLo rules j≤i0) (hal:AlOk rules i0 al):AlOk rules (number a).toNat al:=by
 have h24:=hR.len
 rcases h with ⟨n,h1,rfl⟩ | ⟨m,h1,rfl,_,_,_,h5⟩
 ·
  rw [isInput_cellK (by omega)] at hin;cases hin
 rw [isCyclic_ofK h1 (by omega)] at hc;rw [number_ofK h1 (by omega),Int.toNat_natCast];exact hal.mono (by have:=h5 hc hr;omega)
structure RI (rules:List Rule) (inp:List Inp) (i0:Nat) (qs:List Ask) (u1:Nat→Nat) (L1:List Nat) (ch1:Bool) (ml2:List (Key × Value)) (n:Nat) (L2:List Nat) (am2:List (Key × Value)) (ch2:Bool) (ml3:List (Key × Value)) (acc:List ByteArray):Prop where
 hn:n≤qs.length
 rd:Rounds rules inp i0 L2 u1
 up:UpOk rules inp L2 u1 ml3
 at_:AtOk rules L2 u1 am2
 m:MemoOk rules inp ml3
 le:MLe ml2 ml3
 p:pot rules L2 u1≤pot rules L1 u1∧(ch2=true→ch1=true∨pot rules L2 u1<pot rules L1 u1)
 c:ch2=false→L2=L1∧ch1=false
 pre:L1 <+: L2
 ev:Ev rules inp u1 L2 ml2 ml3 qs n acc
variable {i0 j n:Nat} {u1:Nat→Nat} {L1 L2:List Nat} {ch1 ch2:Bool} {ml2 ml3 ml4 am2:List (Key × Value)} {acc:List ByteArray}
theorem RI.start {am1:List (Key × Value)} {qs:List Ask} (h1:Rounds rules inp i0 L1 u1) (h2:UpOk rules inp L1 u1 ml2) (h3:AtOk rules L1 u1 am1) (h4:MemoOk rules inp ml2):RI rules inp i0 qs u1 L1 ch1 ml2 0 L1 am1 ch1 ml2 []:=
 ⟨Nat.zero_le _,h1,h2,h3,h4,MLe.refl _,⟨Nat.le_refl _,fun h=>.inl h⟩,fun h=>⟨rfl,h⟩,List.prefix_refl _,Ev.start⟩
theorem RI.done (hR:rulesOk rules) (hj:j<rules.length) (hr:ringAt rules j=true) (h:RI rules inp i0 rules[j].asks u1 L1 ch1 ml2 n L2 am2 ch2 ml3 acc) (hn:n<rules[j].asks.length) {vv:Value} (hv:mget ml3 (askKey rules rules[j].asks[n])=some vv) :
  RI rules inp i0 rules[j].asks u1 L1 ch1 ml2 (n+1) L2 am2 ch2 ml3 (acc++[valOf rules inp (askKey rules rules[j].asks[n])]):=
 {h with
  hn:=hn
  ev:=h.ev.snoc _ (fun _ _=>rfl) fun _ ho k hk=>.inl (by
   obtain ⟨hk1,hk2,hk3⟩:=inside_key hR hj hr (List.getElem_mem hn) ho hk;rw [hk3] at hv ⊢;exact ⟨by rw [valOf_ofK hR hk1,valI_ring hR hk1 hk2],by rw [hv];rfl⟩)}
theorem RI.low (hR:rulesOk rules) (hj:j<rules.length) (hr:ringAt rules j=true) (h:RI rules inp i0 rules[j].asks u1 L1 ch1 ml2 n L2 am2 ch2 ml3 acc) (hn:n<rules[j].asks.length) (hc:isCyclic (askKey rules rules[j].asks[n])=false) (h4:MemoOk rules inp ml4) (hle:MLe ml3 ml4) :
  RI rules inp i0 rules[j].asks u1 L1 ch1 ml2 (n+1) L2 am2 ch2 ml4 (acc++[valOf rules inp (askKey rules rules[j].asks[n])]):=
 {h with
  hn:=hn
  up:=h.up.mono hR h.rd hle
  m:=h4
  le:=h.le.trans hle
  ev:=(h.ev.mono (fun _ h=>h) hle).snoc _ (fun _ _=>rfl) fun _ ho k hk=>by
   have h24:=hR.len;obtain ⟨hk1,hk2,hk3⟩:=inside_key hR hj hr (List.getElem_mem hn) ho hk;rw [hk3,isCyclic_ofK hk1 (by omega),hk2] at hc
   cases hc}
theorem RI.inside (hR:rulesOk rules) (hj:j<rules.length) (hr:ringAt rules j=true) (hn:n<rules[j].asks.length) (hc:isCyclic (askKey rules rules[j].asks[n])=true) :
  ∃kk:Nat,askKey rules rules[j].asks[n]=ofK rules (kk:Int)∧kk<rules.length∧ringAt rules kk=true∧ringAsk rules j kk∧outside rules rules[j].asks[n]=false:=by
 have hmem:=List.getElem_mem hn
 have hout:outside rules rules[j].asks[n]=false:=by
  cases ho:outside rules rules[j].asks[n]
  ·
   rfl
  have:=askKey_out hR hj hr hmem ho;rw [hc] at this;cases this
 obtain ⟨kk,hkk,hka,hkl⟩:=inside_ask hR hj hr hmem hout;exact ⟨kk,hka,hkl,hkk.lt.2.2.2,hkk,hout⟩
theorem RI.snocR (hR:rulesOk rules) (hj:j<rules.length) (hr:ringAt rules j=true) {L3:List Nat} (h:Ev rules inp u1 L3 ml2 ml3 rules[j].asks n acc) (hle:MLe ml2 ml3) (hn:n<rules[j].asks.length) {kk:Nat} (hka:askKey rules rules[j].asks[n]=ofK rules (kk:Int)) (hkl:kk<rules.length) (hout:outside rules rules[j].asks[n]=false)
  (hno:mget ml3 (askKey rules rules[j].asks[n])=none) (hL:kk∈L3):Ev rules inp u1 L3 ml2 ml3 rules[j].asks (n+1) (acc++[itoa (u1 kk:Int)]):=by
 have hml2:mget ml2 (ofK rules (kk:Int))=none:=by
  cases h:mget ml2 (ofK rules (kk:Int)) with
  | none=>rfl
  | some v=>have:=hle _ _ h;rw [← hka,hno] at this;cases this
 refine h.snoc _ (fun _ ho=>by rw [hout] at ho;cases ho) fun _ ho k hk=>?_;obtain ⟨hk1,hk2,hk3⟩:=inside_key hR hj hr (List.getElem_mem hn) hout hk;rw [hka] at hk3
 have:=ofK_inj hR hkl hk1 hk3
 subst this;exact .inr ⟨rfl,hL,hml2⟩
theorem RI.meet (hR:rulesOk rules) (hj:j<rules.length) (hr:ringAt rules j=true) (h:RI rules inp i0 rules[j].asks u1 L1 ch1 ml2 n L2 am2 ch2 ml3 acc) (hjm:j∈L1) (hn:n<rules[j].asks.length) (hc:isCyclic (askKey rules rules[j].asks[n])=true)
  (hno:mget ml3 (askKey rules rules[j].asks[n])=none) (hnow:mget am2 (askKey rules rules[j].asks[n])=none) :
  ∃kk:Nat,askKey rules rules[j].asks[n]=ofK rules (kk:Int)∧kk<rules.length∧ringAt rules kk=true∧RI rules inp i0 rules[j].asks u1 L1 ch1 ml2 (n+1) (L2++[kk]) (mput am2 (askKey rules rules[j].asks[n]) (.string ⟨#[48]⟩)) true ml3 (acc++[⟨#[48]⟩]):=by
 obtain ⟨kk,hka,hkl,hkr,hkk,hout⟩:=RI.inside hR hj hr hn hc
 have hkL:kk∉L2:=fun hm=>by have:=h.at_.1 kk hm;rw [← hka,hnow] at this;cases this
 have hk0:=h.rd.out kk hkL;have hre:RReach rules i0 kk:=.step (h.rd.reach j (h.pre.subset hjm)) hkk;have hrd3:=h.rd.meet hkl hkr hkL hre;have hlt:=h.rd.meet_lt hkl hkr hkL hre;have hpm:=pot_meet (v:=u1) (j:=kk) hlt;have hev:=RI.snocR hR hj hr (h.ev.mono (L':=L2++[kk]) (fun _ h=>by simp [h]) (MLe.refl _)) h.le hn hka hkl hout hno (by simp)
 have e0:itoa ((0:Nat):Int)=⟨#[48]⟩:=by decide +kernel
 rw [hk0,e0] at hev;refine ⟨kk,hka,hkl,hkr,⟨hn,hrd3,h.up.meet hk0,?_,h.m,h.le,⟨Nat.le_of_lt (Nat.lt_of_lt_of_le hpm h.p.1),fun _=>.inr (Nat.lt_of_lt_of_le hpm h.p.1)⟩,fun h=>(by cases h),h.pre.trans (List.prefix_append _ _),hev⟩⟩;rw [hka];exact h.at_.meet hR (fun k hk=>(h.rd.ring k hk).1) hkl hkL hk0
theorem RI.have_ (hR:rulesOk rules) (hj:j<rules.length) (hr:ringAt rules j=true) (h:RI rules inp i0 rules[j].asks u1 L1 ch1 ml2 n L2 am2 ch2 ml3 acc) (hn:n<rules[j].asks.length) (hc:isCyclic (askKey rules rules[j].asks[n])=true)
  (hno:mget ml3 (askKey rules rules[j].asks[n])=none) {v:Value} (hnow:mget am2 (askKey rules rules[j].asks[n])=some v) :
  ∃s:ByteArray,v=.string s∧s.size≤1000∧RI rules inp i0 rules[j].asks u1 L1 ch1 ml2 (n+1) L2 am2 ch2 ml3 (acc++[s]):=by
 obtain ⟨kk,hka,hkl,hkr,hkk,hout⟩:=RI.inside hR hj hr hn hc
 have hkL:kk∈L2:=by
  by_cases hm:kk∈L2
  ·
   exact hm
  have:=h.at_.2 (ofK rules (kk:Int)) (fun k hk e=>hm (by have:=ofK_inj hR hkl (h.rd.ring k hk).1 e;rw [this];exact hk))
  rw [← hka,hnow] at this;cases this
 have hg:=h.at_.1 kk hkL;rw [← hka,hnow] at hg;simp only [Option.some.injEq] at hg;refine ⟨_,hg,?_,{h with hn:=hn,ev:=RI.snocR hR hj hr h.ev h.le hn hka hkl hout hno hkL}⟩;have hle:=h.rd.le kk
 have e:Lib.itoa (u1 kk:Int)=Lib.decDigits (u1 kk):=by unfold Lib.itoa;rw [if_neg (by omega)];rfl
 have:(itoa (u1 kk:Int)).size=(Lib.decDigits (u1 kk)).length:=by unfold itoa ByteArray.size;rw [e];simp
 rw [this,Lib.decDigits_length]
 have:=nDigits_le 5 (u1 kk) (by omega)
 omega
end
end Go.Rc

namespace Go.Rc
open Go
noncomputable def rightR (rules:List Rule) (inp:List Inp) (rev:Int) (i:Nat):Rec:=
 ⟨ofK rules (i:Int),valOf rules inp (ofK rules (i:Int)),readsV rules inp i,rev,rev,1+((readsV rules inp i).length:Int),false⟩
/-! ### the order of keys -/
theorem cmpB_swap:∀a b:List UInt8,Lib.compareBytes b a = - Lib.compareBytes a b
 | [],[]=>rfl
 | [],_::_=>rfl
 | _::_,[]=>rfl
 | x::a,y::b=>by
  simp only [Lib.compareBytes]
  by_cases h1:x<y
  ·
   have h2:¬y<x:=by simp only [UInt8.lt_iff_toNat_lt] at *;omega
   rw [if_neg h2,if_pos h1,if_pos h1]
   rfl
  by_cases h2:y<x
  ·
   rw [if_pos h2,if_neg h1,if_pos h2]
  rw [if_neg h2,if_neg h1,if_neg h1,if_neg h2,cmpB_swap a b]
theorem cmpB_trans:∀a b c:List UInt8,Lib.compareBytes a b<0→Lib.compareBytes b c<0→Lib.compareBytes a c<0
 | _,[],[],_,h=>by simp [Lib.compareBytes] at h
 | [],[],_::_,h,_=>by simp [Lib.compareBytes] at h
 | _::_,[],_::_,h,_=>by simp [Lib.compareBytes] at h
 | _,_::_,[],_,h=>by simp [Lib.compareBytes] at h
 | [],_::_,_::_,_,_=>by simp [Lib.compareBytes]
 | x::a,y::b,z::c,h1,h2=>by
  simp only [Lib.compareBytes] at h1 h2 ⊢
  by_cases e1:x<y
  ·
   rw [if_pos e1] at h1
   by_cases e2:y<z
   ·
    rw [if_pos (by simp only [UInt8.lt_iff_toNat_lt] at *;omega)];decide
   rw [if_neg e2] at h2
   by_cases e3:z<y
   ·
    rw [if_pos e3] at h2;simp at h2
   rw [if_pos (by simp only [UInt8.lt_iff_toNat_lt] at *;omega)];decide
  rw [if_neg e1] at h1
  by_cases e3:y<x
  ·
   rw [if_pos e3] at h1;simp at h1
  rw [if_neg e3] at h1
  by_cases e2:y<z
  ·
   rw [if_pos (by simp only [UInt8.lt_iff_toNat_lt] at *;omega)];decide
  rw [if_neg e2] at h2
  by_cases e4:z<y
  ·
   rw [if_pos e4] at h2;simp at h2
  rw [if_neg e4] at h2;rw [if_neg (by simp only [UInt8.lt_iff_toNat_lt] at *;omega),if_neg (by simp only [UInt8.lt_iff_toNat_lt] at *;omega)];exact cmpB_trans a b c h1 h2
theorem cmpK_swap (a b:Key):cmpK b a = - cmpK a b:=by
 unfold cmpK
 by_cases h1:a.kind<b.kind
 ·
  rw [if_neg (by omega),if_pos h1,if_pos h1];rfl
 by_cases h2:b.kind<a.kind
 ·
  rw [if_pos h2,if_neg h1,if_pos h2]
 rw [if_neg h2,if_neg h1,if_neg h1,if_neg h2,cmpB_swap]
theorem cmpK_trans {a b c:Key} (h1:cmpK a b<0) (h2:cmpK b c<0):cmpK a c<0:=by
 unfold cmpK at h1 h2 ⊢
 by_cases e1:a.kind<b.kind
 ·
  by_cases e2:b.kind<c.kind
  ·
   rw [if_pos (by omega)];decide
  rw [if_neg e2] at h2
  by_cases e3:c.kind<b.kind
  ·
   rw [if_pos e3] at h2;simp at h2
  rw [if_pos (by omega)];decide
 rw [if_neg e1] at h1
 by_cases e4:b.kind<a.kind
 ·
  rw [if_pos e4] at h1;simp at h1
 rw [if_neg e4] at h1
 by_cases e2:b.kind<c.kind
 ·
  rw [if_pos (by omega)];decide
 rw [if_neg e2] at h2
 by_cases e3:c.kind<b.kind
 ·
  rw [if_pos e3] at h2;simp at h2
 rw [if_neg e3] at h2;rw [if_neg (by omega),if_neg (by omega)];exact cmpB_trans _ _ _ h1 h2
def Srt (l:List Rec):Prop:=l.Pairwise fun a b=>cmpK a.key b.key<0
theorem putGo_true (r:Rec):∀l:List Rec,putGo r l true=l.filter fun x=>!decide (cmpK x.key r.key=0)
 | []=>rfl
 | x::xs=>by
  simp only [putGo,Bool.not_true,Bool.and_false,Bool.false_eq_true,if_false,Bool.true_or,List.nil_append,putGo_true r xs,List.filter_cons]
  by_cases h:cmpK x.key r.key=0 <;> simp [h]
theorem Srt.put {r:Rec}:∀{l:List Rec},Srt l→Srt (putR l r)
 | [],_=>by simp [Srt,putR,putGo]
 | x::xs,h=>by
  obtain ⟨h1,h2⟩:=List.pairwise_cons.1 h;have ih:Srt (putR xs r):=Srt.put h2;have hf:Srt (xs.filter fun y=>!decide (cmpK y.key r.key=0)):=List.Pairwise.filter _ h2
  show Srt (putGo r (x::xs) false)
  simp only [putGo,Bool.not_false,Bool.and_true,Bool.false_or]
  by_cases c1:cmpK x.key r.key<0
  ·
   rw [decide_eq_false (show ¬0≤cmpK x.key r.key by omega),if_neg (show ¬cmpK x.key r.key=0 by omega)];simp only [Bool.false_eq_true,if_false,List.nil_append,List.singleton_append];refine List.pairwise_cons.2 ⟨fun y hy=>?_,ih⟩
   rcases putGo_mem _ _ _ _ hy with rfl | hy
   ·
    exact c1
   exact h1 y hy
  rw [decide_eq_true (show 0≤cmpK x.key r.key by omega),putGo_true];simp only [if_true]
  by_cases c2:cmpK x.key r.key=0
  ·
   rw [if_pos c2];simp only [List.append_nil,List.singleton_append];refine List.pairwise_cons.2 ⟨fun y hy=>?_,hf⟩;rw [← cmpK_eq c2];exact h1 y (List.mem_filter.1 hy).1
  rw [if_neg c2];simp only [List.singleton_append,List.cons_append]
  have c3:cmpK r.key x.key<0:=by rw [cmpK_swap x.key r.key];omega
  refine List.pairwise_cons.2 ⟨fun y hy=>?_,List.pairwise_cons.2 ⟨fun y hy=>h1 y (List.mem_filter.1 hy).1,hf⟩⟩
  rcases List.mem_cons.1 hy with rfl | hy
  ·
   exact c3
  exact cmpK_trans c3 (h1 y (List.mem_filter.1 hy).1)
theorem Srt.recsOk {l:List Rec} (h:Srt l) (hn:l.length≤4000) (hv:∀r∈l,validRec r=true):recsOk l:=by
 refine ⟨hn,fun i x hx=>⟨hv x (List.mem_of_getElem? hx),fun hi=>?_⟩⟩;obtain ⟨hl,rfl⟩:=List.getElem?_eq_some_iff.1 hx;rw [getElem!_pos l (i - 1) (by omega)];exact List.pairwise_iff_getElem.1 h (i - 1) i (by omega) hl (by omega)
/-! ### values are short -/
section
variable {rules:List Rule} {inp:List Inp}
theorem itoa_size {n:Nat} (h:n≤65535):(itoa (n:Int)).size≤6:=by
 have e:Lib.itoa (n:Int)=Lib.decDigits n:=by unfold Lib.itoa;rw [if_neg (by omega)];rfl
 have:(itoa (n:Int)).size=(Lib.decDigits n).length:=by unfold itoa ByteArray.size;rw [e];simp
 rw [this,Lib.decDigits_length]
 have:=nDigits_le 5 n (by omega)
 omega
theorem valOf_rule (hR:rulesOk rules) {i:Nat} (hi:i<rules.length):∃n:Nat,n≤65535∧valOf rules inp (ofK rules (i:Int))=itoa (n:Int):=by
 have h1:=valOf_turn (inp:=inp) hR hi;rw [turn_end hR hi (runA_len _ _ _).2] at h1;have hc:=rulesOk.hb hR _ (List.getElem_mem hi);refine ⟨_,finalV_le (kind:=rules[i].final) (c:=rules[i].c.toNat) (l:=(runA (turnV rules (ofK rules (i:Int))) (valOf rules inp) (asksN rules i)).2.map valS) (by omega) (fun x hx=>?_),?_⟩
 ·
  obtain ⟨s,_,rfl⟩:=List.mem_map.1 hx;exact valS_le s
 have:=congrArg Turn.value h1
 exact this.symm
theorem valI_out (hR:rulesOk rules) {i:Nat} (hi:rules.length≤i):valI rules inp i=⟨#[]⟩:=by
 have hk:ofK rules (i:Int)=noKey:=by unfold ofK;rw [if_pos (by omega)]
 unfold valI valueAt
 rw [if_neg (by rw [ringAt_out hi];simp),hk]
 unfold turnV
 rw [if_pos (.inl (by unfold number noKey;simp))]
theorem valOf_size (hR:rulesOk rules) (hi:∀x∈inp,x.value.size≤1000) (k:Key):(valOf rules inp k).size≤1000:=by
 by_cases hk:isInput k=true
 ·
  unfold valOf cellOf
  rw [if_pos hk]
  unfold findI
  cases hf:inp.find? fun x=>x.key == k with
  | none=>simp [ByteArray.size]
  | some x=>exact hi x (List.mem_of_find?_eq_some hf)
 have e:valOf rules inp k=valI rules inp (number k).toNat:=by unfold valOf;rw [if_neg hk]
 rw [e]
 rcases Nat.lt_or_ge (number k).toNat rules.length with h | h
 ·
  rw [← valOf_ofK hR h];obtain ⟨n,hn,h2⟩:=valOf_rule (inp:=inp) hR h;rw [h2]
  have:=itoa_size hn
  omega
 rw [valI_out hR h]
 simp [ByteArray.size]
theorem readsV_len (rules:List Rule) (inp:List Inp) (i:Nat):(readsV rules inp i).length=asksN rules i:=(runA_len _ _ _).1
theorem readsV_knd (hR:rulesOk rules) {i:Nat} (hi:i<rules.length):∀a∈readsV rules inp i,MayAsk rules i a:=by
 have key:∀n,n≤asksN rules i→∀a∈(runA (turnV rules (ofK rules (i:Int))) (valOf rules inp) n).1,MayAsk rules i a:=by
  intro n
  induction n with
  | zero=>intro _ a ha;simp [runA] at ha
  | succ n ih=>
   intro hn a ha;simp only [runA,List.mem_append,List.mem_singleton] at ha
   rcases ha with ha | rfl
   ·
    exact ih (by omega) a ha
   obtain ⟨a,h1,h2,_⟩:=turn_ask hR hi (answers:=(runA (turnV rules (ofK rules (i:Int))) (valOf rules inp) n).2) (by rw [(runA_len _ _ n).2];omega);rw [h1];exact h2
 exact key _ (Nat.le_refl _)
theorem Knd.valid {k:Key} (h:Knd rules k):validK k=true:=by
 cases h with
 | cell h=>
  rename_i n
  have hc:cellK (n:Int)=⟨30,itoa (n:Int)⟩:=by unfold cellK;rw [if_neg (by omega)]
  rw [hc]
  unfold validK number
  simp only [];rw [if_pos (by omega)]
  simp [decimal_itoa (show n<1000000000 by omega)]
  omega
 | rule h h99=>
  rename_i i
  have h1:=number_ofK h h99;have h2:=ofK_kind h h99
  unfold validK
  rw [if_pos (by rw [h2];split <;> omega),h1]
  simp
theorem rightR_valid (hR:rulesOk rules) {i:Nat} (hi:i<rules.length) {rev:Int} (h0:0≤rev) (h1:rev≤1073741824):validRec (rightR rules inp rev i)=true:=by
 have h24:=hR.len;have h6:=asksN_le hR hi;have hl:=readsV_len rules inp i;obtain ⟨n,hn,hv⟩:=valOf_rule (inp:=inp) hR hi;have hs:=itoa_size hn
 unfold validRec recTail rightR
 simp only [Bool.and_eq_true,List.all_eq_true,decide_eq_true_eq,Bool.or_eq_true,Bool.not_eq_true'];exact ⟨fun a ha=>((readsV_knd hR hi a ha).knd hR).valid,(Knd.rule hi (by omega)).valid,isInput_ofK hi (by omega),by rw [hv];omega,by omega,h0,Int.le_refl _,h1,by omega,by omega,.inl trivial⟩
end
structure FrE (rules:List Rule) (inp:List Inp) (s:ES):Prop where
 e:s.e=0
 rt:∀r∈s.b.recs,∃i:Nat,i<rules.length∧r=rightR rules inp s.b.revision i
 ln:s.b.recs.length≤s.ran.length
 st:Srt s.b.recs
section
variable {rules:List Rule} {inp:List Inp} {s t:ES} {k:Key}
theorem findR_mem {l:List Rec} {r:Rec} (h:findR l k=some r):r∈l∧r.key=k:=by
 unfold findR at h
 refine ⟨List.mem_of_find?_eq_some h,?_⟩
 have:=List.find?_some h
 simpa using this
theorem FrE.find (h:FrE rules inp s) {r:Rec} (hf:findR s.b.recs k=some r):∃i:Nat,i<rules.length∧k=ofK rules (i:Int)∧r=rightR rules inp s.b.revision i:=by
 obtain ⟨h1,h2⟩:=findR_mem hf;obtain ⟨i,hi,rfl⟩:=h.rt r h1;exact ⟨i,hi,h2.symm,rfl⟩
theorem FrE.none (h:FrE rules inp s) (hu:upNow s.b k=false):findR s.b.recs k=none:=by
 cases hf:findR s.b.recs k with
 | none=>rfl
 | some r=>
  obtain ⟨i,hi,_,rfl⟩:=h.find hf
  have:upNow s.b k=true:=upNow_iff.2 ⟨_,hf,rfl⟩
  rw [hu] at this;cases this
theorem FrE.value (h:FrE rules inp s) (hg:Good rules inp s) (hk:Knd rules k) (ht:isInput k=true∨thereV s k=true):answerV (valOf rules inp) s.b k=valOf rules inp k:=by
 unfold answerV
 by_cases hc:isCyclic k=true
 ·
  rw [if_pos hc]
 rw [if_neg hc]
 unfold keptV
 by_cases hi:isInput k=true
 ·
  rw [if_pos hi,hg.inp]
  unfold valOf cellOf
  rw [if_pos hi]
 rw [if_neg hi]
 have hu:upNow s.b k=true:=by
  rcases ht with ht | ht
  ·
   exact absurd ht hi
  unfold thereV at ht
  simp only [Bool.or_eq_true,Bool.and_eq_true] at ht
  rcases ht with ht | ⟨_,ht⟩ | ht
  ·
   exact absurd ht hi
  ·
   exact absurd ht hc
  exact ht
 obtain ⟨r,hf,hv⟩:=upNow_iff.1 hu;obtain ⟨i,hil,hki,rfl⟩:=h.find hf
 have e:recOf s.b.recs k=rightR rules inp s.b.revision i:=by unfold recOf;rw [hf];rfl
 have ho:keptOk s.b k=true:=by unfold keptOk;rw [hf,e];simp [rightR]
 rw [if_pos ho,e,hki]
 rfl
theorem FrE.made (h:FrE rules inp s) {i:Nat} (hi:i<rules.length):madeV s.b (ofK rules (i:Int)) (valOf rules inp (ofK rules (i:Int))) (readsV rules inp i)=rightR rules inp s.b.revision i:=by
 unfold madeV rightR
 congr 1
 split
 ·
  rename_i hc
  simp only [Bool.and_eq_true] at hc;obtain ⟨r,hf⟩:=Option.isSome_iff_exists.1 hc.1;obtain ⟨j,_,_,rfl⟩:=h.find hf
  unfold recOf
  rw [hf]
  rfl
 rfl
def lowN (rules:List Rule) (j:Nat):Nat:=if ringAt rules j then blockLo rules j else j
def Lw (rules:List Rule) (i b:Nat):Prop:=if ringAt rules i then blockLo rules i≤b else i<b
def OnOk (rules:List Rule) (s:ES) (i:Nat):Prop:=∀j:Nat,j<rules.length→s.on (ofK rules (j:Int))=true→Lw rules i (lowN rules j)
def OnR (rules:List Rule) (s:ES) (i:Nat):Prop:=∀j:Nat,j<rules.length→s.on (ofK rules (j:Int))=true→j=i∨Lw rules i (lowN rules j)
theorem ask_low (hR:rulesOk rules) {i:Nat} (hi:i<rules.length) {answers:List ByteArray} (hn:answers.length<asksN rules i) :
  ∃a,turnV rules (ofK rules (i:Int)) answers=⟨false,⟨#[]⟩,a⟩∧MayAsk rules i a∧∀m:Nat,m<rules.length→a=ofK rules (m:Int)→Lw rules m (lowN rules i)∧∀b,Lw rules i b→Lw rules m b:=by
 have h24:=hR.len;obtain ⟨a,h1,h2,h3⟩:=turn_ask hR hi hn;refine ⟨a,h1,h2,fun m hm ham=>?_⟩;have hb:=blockLo_le rules m
 cases hr:ringAt rules i with
 | false=>
  have hmi:m<i:=by
   rcases h2 with ⟨n,h4,rfl⟩ | ⟨m',h4,rfl,_,h5,_⟩
   ·
    have:=isInput_cellK (n:=n) (by omega)
    rw [ham,isInput_ofK hm (by omega)] at this;cases this
   have:=ofK_inj hR h4 hm ham
   subst this;exact h5 hr
  unfold Lw lowN
  rw [hr];simp only [Bool.false_eq_true,if_false]
  refine ⟨?_,fun b hb2=>?_⟩ <;> split <;> omega
 | true=>
  unfold Lw lowN
  rw [hr];simp only [if_true]
  cases hrm:ringAt rules m with
  | false=>
   have hml:m<blockLo rules i:=by
    rcases h2 with ⟨n,h4,rfl⟩ | ⟨m',h4,rfl,_,_,_,h5⟩
    ·
     have:=isInput_cellK (n:=n) (by omega)
     rw [ham,isInput_ofK hm (by omega)] at this;cases this
    have:=ofK_inj hR h4 hm ham
    subst this;exact h5 hrm hr
   simp only [Bool.false_eq_true,if_false];exact ⟨hml,fun b hb2=>by omega⟩
  | true=>
   obtain ⟨x,hx,hax⟩:=h3 hr;have hmem:=List.mem_of_getElem? hx
   have hout:outside rules x=false:=by
    cases ho:outside rules x
    ·
     rfl
    have:=askKey_out hR hi hr hmem ho
    rw [← hax,ham,isCyclic_ofK hm (by omega),hrm] at this;cases this
   obtain ⟨kk,hkk,hka,hkl⟩:=inside_ask hR hi hr hmem hout
   have:=ofK_inj hR hkl hm (hka.symm.trans (hax.symm.trans ham))
   subst this;have hlo:=reach_lo hR (RReach.step RReach.refl hkk);simp only [if_true];exact ⟨hlo,fun b hb2=>by omega⟩
theorem check_new {val:Key→ByteArray} {f n:Nat} {p:ES × Bool} (he:s.e=0) (hn:findR s.b.recs k=none) (h:checkV rules val f s k n=some p):p=(s,true):=by
 cases f with
 | zero=>simp [checkV] at h
 | succ f=>
  unfold checkV at h
  rw [if_neg (by simp [he]),if_pos (by rw [hn];rfl)] at h;exact (Option.some.inj h).symm
def UpF (rules:List Rule) (inp:List Inp) (f:Nat):Prop:=∀s k s',upV rules (valOf rules inp) f s k=some s'→Good rules inp s→FrE rules inp s→Knd rules k→(∀i:Nat,i<rules.length→k=ofK rules (i:Int)→OnOk rules s i)→s.ran.length+opn rules s≤100→FrE rules inp s'
def RuF (rules:List Rule) (inp:List Inp) (f:Nat):Prop:=∀s (i n:Nat) s',runV rules (valOf rules inp) f s (ofK rules (i:Int)) (runA (turnV rules (ofK rules (i:Int))) (valOf rules inp) n).1 (runA (turnV rules (ofK rules (i:Int))) (valOf rules inp) n).2=some s'→Good rules inp s→FrE rules inp s→i<rules.length→n≤asksN rules i→OnR rules s i→s.ran.length+opn rules s≤100→FrE rules inp s'
theorem engine_fresh (hR:rulesOk rules):∀f,UpF rules inp f∧RuF rules inp f:=by
 have h24:=hR.len;intro f
 induction f with
 | zero=>exact ⟨fun s k s' h=>by simp [upV] at h,fun s i n s' h=>by simp [runV] at h⟩
 | succ f ih=>
  obtain ⟨ihu,ihr⟩:=ih;refine ⟨?_,?_⟩
  ·
   intro s k s' h hg hf hk hon hb
   unfold upV at h
   split at h
   ·
    cases h;exact hf
   rename_i he
   have hni:isInput k=false:=by simp at he;exact he.2
   split at h
   ·
    cases h;exact hf
   rename_i hu
   obtain ⟨i,hi,hki,_⟩:=hk.ans hni
   split at h
   ·
    rename_i ho
    split at h
    ·
     cases h;exact hf
    rename_i hc
    have h1:=hon i hi hki i hi (by rw [← hki];exact ho);rw [hki,isCyclic_ofK hi (by omega)] at hc
    have hc':ringAt rules i=false:=by simpa using hc
    unfold Lw lowN at h1
    rw [hc'] at h1
    simp at h1
   rename_i ho
   have ho':s.on k=false:=by simpa using ho
   obtain ⟨⟨s2,b2⟩,hp,h⟩:=Option.bind_eq_some_iff.1 h;obtain ⟨s3,ht,h⟩:=Option.bind_eq_some_iff.1 h;simp only [Option.some.injEq] at h;subst h;have hfn:findR s.b.recs k=none:=hf.none (by simpa using hu);have hp2:=check_new (s:={s with busy:=mput s.busy k (.bool true)}) hf.e hfn hp;simp only [Prod.mk.injEq] at hp2;obtain ⟨rfl,rfl⟩:=hp2;simp only [if_true] at ht;rw [hki] at ht;have hf1:FrE rules inp {s with busy:=mput s.busy (ofK rules (i:Int)) (.bool true)}:=⟨hf.e,hf.rt,hf.ln,hf.st⟩
   have hop:opn rules {s with busy:=mput s.busy (ofK rules (i:Int)) (.bool true)}≤opn rules s:=cnt_le fun j _ hj=>by
    simp only [on_put,Bool.and_eq_true,Bool.not_eq_true',Bool.or_eq_false_iff] at hj ⊢;exact ⟨hj.1,hj.2.2⟩
   have h3:=ihr _ i 0 s3 ht (hg.on _) hf1 hi (Nat.zero_le _) (fun j hj hjo=>by
    rw [on_put] at hjo;simp only [Bool.or_eq_true,decide_eq_true_eq] at hjo
    rcases hjo with hjo | hjo
    ·
     exact .inl (ofK_inj hR hj hi hjo.symm)
    exact .inr (hon i hi hki j hj hjo)) (by show s.ran.length+_≤100;omega)
   exact ⟨h3.e,h3.rt,h3.ln,h3.st⟩
  intro s i n s' h hg hf hi hn hon hb
  have h99:i≤99:=by omega
  unfold runV at h
  rw [if_neg (by simp [hf.e]),turn28_ofK hi h99] at h
  rcases Nat.lt_or_ge n (asksN rules i) with hlt | hge
  ·
   obtain ⟨a,h1,h2,h3⟩:=ask_low hR hi (answers:=(runA (turnV rules (ofK rules (i:Int))) (valOf rules inp) n).2) (by rw [(runA_len _ _ n).2];exact hlt);rw [h1] at h;simp only [Bool.false_eq_true,if_false] at h;obtain ⟨t,ht,h⟩:=Option.bind_eq_some_iff.1 h;have hka:=h2.knd hR
   have hft:=ihu _ _ _ ht hg hf hka (fun m hm ham j hj hjo=>by
    obtain ⟨h4,h5⟩:=h3 m hm ham
    rcases hon j hj hjo with rfl | h6
    ·
     exact h4
    exact h5 _ h6) hb
   obtain ⟨hkp,hkt,hkb⟩:=(engine_keep (val:=valOf rules inp) hR f).1 _ _ _ ht hg hka;have hgt:=((engine_good (val:=valOf rules inp) hR f).1 _ _ _ ht hg hka).1;rw [if_pos hft.e,hft.value hgt hka (hkt hft.e).2] at h;refine ihr t i (n+1) s' ?_ hgt hft hi hlt (fun j hj hjo=>hon j hj (by rw [← hkp.on];exact hjo)) (by omega);simp only [runA];rw [h1];exact h
  have hne:n=asksN rules i:=by omega
  subst hne;rw [valOf_turn hR hi] at h;simp only [if_true] at h;rw [if_neg (by have:=hf.ln;simp;omega)] at h;simp only [Option.some.injEq] at h;subst h;have hm:madeV s.b (ofK rules (i:Int)) (valOf rules inp (ofK rules (i:Int))) (runA (turnV rules (ofK rules (i:Int))) (valOf rules inp) (asksN rules i)).1=rightR rules inp s.b.revision i:=hf.made hi;refine ⟨hf.e,fun r hr=>?_,?_,Srt.put hf.st⟩
  ·
   rcases putGo_mem _ _ _ _ hr with rfl | hr
   ·
    exact ⟨i,hi,hm⟩
   exact hf.rt r hr
  have h1:(putR s.b.recs (madeV s.b (ofK rules (i:Int)) (valOf rules inp (ofK rules (i:Int))) (runA (turnV rules (ofK rules (i:Int))) (valOf rules inp) (asksN rules i)).1)).length≤s.b.recs.length+1:=putGo_len _ _ _;have h2:=hf.ln
  show (putR _ _).length≤(s.ran++[_]).length
  rw [List.length_append,List.length_singleton]
  omega
theorem all_fresh (hR:rulesOk rules) {f:Nat}:∀{l:List Key} {s s':ES},upAllV rules (valOf rules inp) f s l=some s'→Good rules inp s→FrE rules inp s→(∀k∈l,Knd rules k)→(∀k,s.on k=false)→s.ran.length+opn rules s≤100→FrE rules inp s'∧s'.b.revision=s.b.revision∧(∀k,upNow s.b k=true→upNow s'.b k=true)∧∀k∈l,isInput k=false→upNow s'.b k=true
 | [],s,s',h,hg,hf,_,_,_=>by simp only [upAllV,Option.some.injEq] at h;subst h;exact ⟨hf,rfl,fun _ h=>h,fun k hk=>by cases hk⟩
 | k::r,s,s',h,hg,hf,hk,hon,hb=>by
  simp only [upAllV] at h;obtain ⟨t,h1,h2⟩:=Option.bind_eq_some_iff.1 h;have hk1:=hk k (by simp);obtain ⟨hgt,hel⟩:=(engine_good (val:=valOf rules inp) hR f).1 _ _ _ h1 hg hk1;obtain ⟨hkp,hkt,hkb⟩:=(engine_keep (val:=valOf rules inp) hR f).1 _ _ _ h1 hg hk1;have hft:=(engine_fresh hR f).1 _ _ _ h1 hg hf hk1 (fun i _ _ j _ hjo=>by rw [hon] at hjo;cases hjo) hb;obtain ⟨h3,h4,h5,h6⟩:=all_fresh hR h2 hgt hft (fun k hk'=>hk k (by simp [hk'])) (fun k=>by rw [hkp.on];exact hon k) (by omega);refine ⟨h3,h4.trans hel.rev,fun k hk=>h5 k (hkp.up k hk),fun q hq hqi=>?_⟩
  rcases List.mem_cons.1 hq with rfl | hq
  ·
   refine h5 _ ?_
   have:=(hkt hft.e).2
   rcases this with this | this
   ·
    rw [hqi] at this;cases this
   unfold thereV at this
   have ho:t.on q=false:=by rw [hkp.on];exact hon q
   simpa [hqi,ho] using this
  exact h6 q hq hqi
theorem new_base (hR:rulesOk rules) {rev:Int} {f:Nat} {s':ES} (hb:basOk ⟨rev,inp,[]⟩) (h:upAllV rules (valOf rules inp) f ⟨⟨rev,inp,[]⟩,[],[],0⟩ ((List.range rules.length).map fun i:Nat=>ofK rules (i:Int))=some s') :
  s'.e=0∧s'.b.revision=rev∧s'.b.inputs=inp∧basOk s'.b∧Srt s'.b.recs∧(∀r∈s'.b.recs,∃i:Nat,i<rules.length∧r=rightR rules inp rev i)∧∀i:Nat,i<rules.length→findR s'.b.recs (ofK rules (i:Int))=some (rightR rules inp rev i):=by
 have h24:=hR.len;have hg:Good rules inp ⟨⟨rev,inp,[]⟩,[],[],0⟩:=⟨rfl,by simp,by simp,by simp,by simp,fun k=>.inl rfl⟩;have hf:FrE rules inp ⟨⟨rev,inp,[]⟩,[],[],0⟩:=⟨rfl,by simp,by simp,by simp [Srt]⟩
 have hk:∀k∈(List.range rules.length).map fun i:Nat=>ofK rules (i:Int),Knd rules k:=fun k hk=>by
  obtain ⟨i,hi,rfl⟩:=List.mem_map.1 hk
  have:=List.mem_range.1 hi
  exact .rule this (by omega)
 obtain ⟨h1,h2,_,h4⟩:=all_fresh hR h hg hf hk (fun k=>rfl) (by
  have:opn rules ⟨⟨rev,inp,[]⟩,[],[],0⟩≤rules.length:=cnt_n _ _
  show ([]:List Key).length+_≤100
  simp only [List.length_nil]
  omega)
 have h5:=(upAll_good hR h hg hk).1;have h2':s'.b.revision=rev:=h2
 have hrt:∀r∈s'.b.recs,∃i:Nat,i<rules.length∧r=rightR rules inp rev i:=fun r hr=>by rw [← h2'];exact h1.rt r hr
 obtain ⟨b1,_,b3,b4,b5,_⟩:=hb;refine ⟨h1.e,h2',h5.inp,⟨?_,?_,?_,?_,?_,?_⟩,h1.st,hrt,fun i hi=>?_⟩
 ·
  rw [h2',h5.inp];exact b1
 ·
  intro i r hr;obtain ⟨j,_,rfl⟩:=hrt r (List.mem_of_getElem? hr);rw [h2'];exact Int.le_refl _
 ·
  rw [h2'];exact b3
 ·
  rw [h2'];exact b4
 ·
  rw [h5.inp];exact b5
 ·
  exact h1.st.recsOk h5.len fun r hr=>by
   obtain ⟨j,hj,rfl⟩:=hrt r hr;exact rightR_valid hR hj b3 b4
 have hu:=h4 (ofK rules (i:Int)) (List.mem_map.2 ⟨i,List.mem_range.2 hi,rfl⟩) (isInput_ofK hi (by omega));obtain ⟨r,hr,_⟩:=upNow_iff.1 hu;obtain ⟨j,hj,hkj,rfl⟩:=h1.find hr
 have:=ofK_inj hR hi hj hkj
 subst this;rw [hr,h2']
end
end Go.Rc

namespace Go.Rc
open Go
theorem validRec_iff (x:Rec):validRec x=true↔(∀a∈x.reads,validK a=true)∧validK x.key=true∧isInput x.key=false∧(x.value.size:Int)≤1073741824∧(x.reads.length:Int)≤4000∧0≤x.changed∧x.changed≤x.verified∧x.verified≤1073741824∧1≤x.cost∧x.cost≤1073741824∧(x.dirty=false∨isCyclic x.key=true):=by
 unfold validRec recTail
 simp only [Bool.and_eq_true,List.all_eq_true,decide_eq_true_eq,Bool.or_eq_true,Bool.not_eq_true']
structure OkS (s:ES):Prop where
 st:Srt s.b.recs
 v:∀r∈s.b.recs,validRec r=true∧r.verified≤s.b.revision
 r0:0≤s.b.revision
 r1:s.b.revision≤1073741824
section
variable {rules:List Rule} {inp:List Inp} {val:Key→ByteArray} {s t:ES} {k:Key}
theorem Srt.map {l:List Rec} (h:Srt l) {f:Rec→Rec} (hf:∀r,(f r).key=r.key):Srt (l.map f):=by
 unfold Srt
 rw [List.pairwise_map]
 exact h.imp fun {a b} hab=>by rw [hf,hf];exact hab
theorem OkS.put (h:OkS s) {r:Rec} {ran:List Key} (hv:validRec r=true) (hr:r.verified≤s.b.revision):OkS {s with b:={s.b with recs:=putR s.b.recs r},ran:=ran}:=
 ⟨h.st.put,fun q hq=>by rcases putGo_mem _ _ _ _ hq with rfl | hq;exact ⟨hv,hr⟩;exact h.v q hq,h.r0,h.r1⟩
end
end Go.Rc

namespace Go.Rc
open Go
theorem srt_of_adj {α:Type} {R:α→α→Prop} (ht:∀a b c,R a b→R b c→R a c) {l:List α} (h:∀(i:Nat) (hi:i+1<l.length),R (l[i]'(by omega)) l[i+1]):l.Pairwise R:=by
 refine List.pairwise_iff_getElem.2 fun i j hi hj hij=>?_;obtain ⟨d,rfl⟩:∃d,j=i+1+d:=⟨j - (i+1),by omega⟩
 induction d with
 | zero=>exact h i hj
 | succ d ih=>exact ht _ _ _ (ih (by omega) (by omega)) (h (i+1+d) (by omega))
def SrtI (l:List Inp):Prop:=l.Pairwise fun a b=>cmpK a.key b.key<0
def inpV (rev:Int) (x:Inp):Prop:=validK x.key=true∧isInput x.key=true∧(x.value.size:Int)≤1073741824∧0≤x.changed∧x.changed≤rev
theorem inpsOk_iff {rev:Int} {l:List Inp}:inpsOk rev l↔SrtI l∧∀x∈l,inpV rev x:=by
 constructor
 ·
  intro h
  have h1:∀(i:Nat) (hi:i<l.length),inpV rev l[i]∧(0<i→cmpK (l[i - 1]!).key l[i].key<0):=fun i hi=>by
   have h2:=h i _ (getElem_some hi)
   unfold inpBad at h2
   simp only [getElem!_pos l i hi,Bool.or_eq_false_iff,Bool.not_eq_false',Bool.and_eq_false_iff,decide_eq_false_iff_not] at h2;obtain ⟨a,b,c,d,e,f⟩:=h2;exact ⟨⟨a,b,by omega,by omega,by omega⟩,fun h0=>by rcases c with c | c <;> omega⟩
  refine ⟨srt_of_adj (R:=fun a b:Inp=>cmpK a.key b.key<0) (fun a b c h k=>cmpK_trans h k) fun i hi=>?_,fun x hx=>?_⟩
  ·
   have:=(h1 (i+1) hi).2 (by omega)
   rw [Nat.add_sub_cancel,getElem!_pos l i (by omega)] at this;exact this
  obtain ⟨i,hi,rfl⟩:=List.mem_iff_getElem.1 hx;exact (h1 i hi).1
 rintro ⟨h1,h2⟩ i y hy;obtain ⟨hi,rfl⟩:=List.getElem?_eq_some_iff.1 hy;obtain ⟨a,b,c,d,e⟩:=h2 _ (List.getElem_mem hi)
 unfold inpBad
 simp only [getElem!_pos l i hi,Bool.or_eq_false_iff,Bool.not_eq_false',Bool.and_eq_false_iff,decide_eq_false_iff_not];refine ⟨a,b,?_,by omega,by omega,by omega⟩
 by_cases h0:0<i
 ·
  right
  rw [getElem!_pos l (i - 1) (by omega)]
  have:=List.pairwise_iff_getElem.1 h1 (i - 1) i (by omega) hi (by omega)
  omega
 left
 omega
def putI (n:Inp):List Inp→Bool→List Inp
 | [],put=>if put then [] else [n]
 | x::xs,put=>(if decide (0≤cmpK x.key n.key) && !put then [n] else [])++(if cmpK x.key n.key=0 then [] else [x])++putI n xs (put || decide (0≤cmpK x.key n.key))
theorem putI_mem (n:Inp):∀(l:List Inp) (b:Bool) (x:Inp),x∈putI n l b→x=n∨x∈l:=by
 intro l
 induction l with
 | nil=>intro b x h;unfold putI at h;split at h;cases h;simp at h;exact .inl h
 | cons y ys ih=>
  intro b x h;simp only [putI,List.mem_append] at h
  rcases h with (h | h) | h
  ·
   split at h
   ·
    simp at h;exact .inl h
   cases h
  ·
   split at h
   ·
    cases h
   simp at h;subst h;exact .inr (by simp)
  rcases ih _ _ h with h | h
  ·
   exact .inl h
  exact .inr (by simp [h])
theorem putI_true (n:Inp):∀l:List Inp,putI n l true=l.filter fun x=>!decide (cmpK x.key n.key=0)
 | []=>rfl
 | x::xs=>by
  simp only [putI,Bool.not_true,Bool.and_false,Bool.false_eq_true,if_false,Bool.true_or,List.nil_append,putI_true n xs,List.filter_cons]
  by_cases h:cmpK x.key n.key=0 <;> simp [h]
theorem putI_len (n:Inp):∀(l:List Inp) (b:Bool),(putI n l b).length≤l.length+1
 | [],b=>by cases b <;> simp [putI]
 | x::xs,b=>by
  by_cases h:(decide (0≤cmpK x.key n.key) && !b)=true
  ·
   have hb:(b || decide (0≤cmpK x.key n.key))=true:=by simp at h;simp [h.1]
   simp only [putI,List.length_append,List.length_cons];rw [if_pos h,hb,putI_true]
   have:=List.length_filter_le (fun x:Inp=>!decide (cmpK x.key n.key=0)) xs
   split <;> simp <;> omega
  have ih:=putI_len n xs (b || decide (0≤cmpK x.key n.key));simp only [putI,List.length_append,List.length_cons];rw [if_neg h]
  split <;> simp <;> omega
theorem SrtI.put {n:Inp}:∀{l:List Inp},SrtI l→SrtI (putI n l false)
 | [],_=>by simp [SrtI,putI]
 | x::xs,h=>by
  obtain ⟨h1,h2⟩:=List.pairwise_cons.1 h;have ih:SrtI (putI n xs false):=SrtI.put h2;have hf:SrtI (xs.filter fun y=>!decide (cmpK y.key n.key=0)):=List.Pairwise.filter _ h2
  show SrtI (putI n (x::xs) false)
  simp only [putI,Bool.not_false,Bool.and_true,Bool.false_or]
  by_cases c1:cmpK x.key n.key<0
  ·
   rw [decide_eq_false (show ¬0≤cmpK x.key n.key by omega),if_neg (show ¬cmpK x.key n.key=0 by omega)];simp only [Bool.false_eq_true,if_false,List.nil_append,List.singleton_append];refine List.pairwise_cons.2 ⟨fun y hy=>?_,ih⟩
   rcases putI_mem _ _ _ _ hy with rfl | hy
   ·
    exact c1
   exact h1 y hy
  rw [decide_eq_true (show 0≤cmpK x.key n.key by omega),putI_true];simp only [if_true]
  by_cases c2:cmpK x.key n.key=0
  ·
   rw [if_pos c2];simp only [List.append_nil,List.singleton_append];refine List.pairwise_cons.2 ⟨fun y hy=>?_,hf⟩;rw [← cmpK_eq c2];exact h1 y (List.mem_filter.1 hy).1
  rw [if_neg c2];simp only [List.singleton_append,List.cons_append]
  have c3:cmpK n.key x.key<0:=by rw [cmpK_swap x.key n.key];omega
  refine List.pairwise_cons.2 ⟨fun y hy=>?_,List.pairwise_cons.2 ⟨fun y hy=>h1 y (List.mem_filter.1 hy).1,hf⟩⟩
  rcases List.mem_cons.1 hy with rfl | hy
  ·
   exact c3
  exact cmpK_trans c3 (h1 y (List.mem_filter.1 hy).1)
end Go.Rc

namespace Go.Rc
open Go
def cmpI (a b:Int):Int:=if a<b then -1 else if b<a then 1 else 0
def orI (l:List Int):Int:=(l.find? fun x=>decide (x≠0)).getD 0
theorem orI_at {l:List Int} {i:Nat} (hi:i<l.length) (hno:∀j x,j<i→l[j]?=some x→x=0) (h:l[i]≠0):orI l=l[i]:=by
 unfold orI
 rw [find_before hi (fun j x hj hx=>by simp [hno j x hj hx]) (by simpa using h)]
 rfl
theorem orI_all {l:List Int} (h:∀x∈l,x=0):orI l=0:=by
 unfold orI
 rw [List.find?_eq_none.2 fun x hx=>by simp [h x hx]]
 rfl
theorem orI_cmp {a b:Key}:orI [cmpI a.kind b.kind,Lib.compareBytes a.text.data.toList b.text.data.toList]=cmpK a b:=by
 unfold orI cmpI cmpK
 by_cases h1:a.kind<b.kind
 ·
  simp [h1]
 by_cases h2:b.kind<a.kind
 ·
  simp [h1,h2]
 by_cases h3:Lib.compareBytes a.text.data.toList b.text.data.toList=0
 ·
  simp [h1,h2,h3]
 simp [h1,h2,h3]
theorem two_rows {α:Type} {R:α→List Value→Prop} {x y:α} {r s:List Value} (h1:R x r) (h2:R y s):∀(i:Nat) (z:α) (t:List Value),[x,y][i]?=some z→[r,s][i]?=some t→R z t:=fun i z t hz ht=>by
 match i with
 | 0=>simp at hz ht;subst hz ht;exact h1
 | 1=>simp at hz ht;subst hz ht;exact h2
 | n+2=>simp at hz
theorem Knd.shape {rules:List Rule} {k:Key} (h:Knd rules k):∃i:Nat,i≤99∧k.text=itoa i∧(30≤k.kind∧k.kind≤32):=by
 cases h with
 | cell h=>rename_i n;exact ⟨n,h,by unfold cellK;rw [if_neg (by omega)],by unfold cellK;rw [if_neg (by omega)];simp⟩
 | rule h h99=>rename_i i;exact ⟨i,h99,by unfold ofK;rw [if_neg (by omega)],by rw [ofK_kind h h99];split <;> omega⟩
theorem Knd.notLang {rules:List Rule} {k:Key} (h:Knd rules k):notLang k:=by
 obtain ⟨_,_,_,h1⟩:=h.shape;exact .inr (by omega)
theorem cyc_kind {rules:List Rule} {k:Key} (h:Knd rules k) (hc:isCyclic k=true):k.kind=32:=by
 cases h with
 | cell h=>rw [isCyclic_cellK h] at hc;cases hc
 | rule h h99=>rw [isCyclic_ofK h h99] at hc;rw [ofK_kind h h99,hc];rfl
theorem IdxOf.any {α:Type} {l:List α} {p:α→Bool} {j:Int} (h:IdxOf l p j):decide (0≤j)=l.any p:=by
 rcases h with ⟨i,x,h1,h2,_,rfl⟩ | ⟨h1,rfl⟩
 ·
  rw [decide_eq_true (by omega),List.any_eq_true.2 ⟨x,List.mem_of_getElem? h1,h2⟩]
 rw [decide_eq_false (by omega),List.any_eq_false.2 fun x hx=>by simp [h1 x hx]]
def GoodR (rules:List Rule) (x:Rec):Prop:=Knd rules x.key∧isInput x.key=false∧(∀a∈x.reads,Knd rules a)∧validRec x=true
def GoodB (rules:List Rule) (x:Bas):Prop:=0≤x.revision∧x.revision≤1073741824∧(SrtI x.inputs∧∀y∈x.inputs,inpV x.revision y)∧(∀y∈x.inputs,∃i:Nat,i≤99∧y.key=⟨30,itoa i⟩)∧x.inputs.length≤64∧(∀r∈x.recs,GoodR rules r)∧Srt x.recs∧x.recs.length≤4000∧∀r∈x.recs,r.verified≤x.revision
end Go.Rc

namespace Go.Rc
open Go
section
variable {κ:Type} {enc:κ→Value}
def MIt (enc:κ→Value) (w:World) (b m:Nat) (l left:List (κ × Value)) (cur:Option (κ × Value)):Prop:=
 ∃es clock since seen,w.heap[m]?=some (.map es clock)∧(es.toList.map (fun e=>(e.key,e.val))=l.map (fun p=>(enc p.1,p.2))∧(l.map (·.1)).Nodup∧(∀e∈es.toList,e.born<clock)∧(es.toList.map (·.born)).Nodup)∧
  w.heap[b]?=some (.mapIter (some m) since seen clock)∧b≠m∧since≤clock∧(∀e∈es.toList,e.born<since)∧
  (leftOf es seen).toList.map (fun e=>(e.key,e.val))=left.map (fun p=>(enc p.1,p.2))∧
  ∀p,cur=some p→∃e∈es.toList,seen.back?=some e.born∧e.key=enc p.1∧e.val=p.2
variable {w w':World} {b m:Nat} {l left:List (κ × Value)} {cur:Option (κ × Value)}
theorem MIt.km (h:MIt enc w b m l left cur):KM enc w m l:=by
 obtain ⟨es,clock,since,seen,h1,h2,_⟩:=h;exact ⟨es,clock,h1,h2⟩
theorem MIt.lt (h:MIt enc w b m l left cur):b<w.heap.size∧m<w.heap.size:=by
 obtain ⟨es,clock,since,seen,h1,_,h3,_⟩:=h;exact ⟨(Array.getElem?_eq_some_iff.1 h3).1,(Array.getElem?_eq_some_iff.1 h1).1⟩
def As.mit (enc:κ→Value) (b m:Nat) (l left:List (κ × Value)) (cur:Option (κ × Value)):As where
 fp x:=x=b∨x=m
 ok _ w:=MIt enc w b m l left cur
 lt h x hx:=by rcases hx with rfl | rfl;exact h.lt.1;exact h.lt.2
 mono _ h:=h
 st hs hc h:=by
  have hl:=h.lt;obtain ⟨es,clock,since,seen,h1,h2,h3,h4⟩:=h;exact ⟨es,clock,since,seen,by rw [hc m (.inl (.inr rfl)) hl.2];exact h1,h2,by rw [hc b (.inl (.inl rfl)) hl.1];exact h3,h4⟩
theorem As.gmit {Z:Nat→Prop} (h:(As.mit enc b m l left cur).ok Z w):MIt enc w b m l left cur:=h
def nextV (enc:κ→Value):Option (κ × Value)→Array Value
 | none=>#[.bool false]
 | some p=>#[.bool true,enc p.1,p.2]
theorem nextV_0 (r:Option (κ × Value)):(nextV enc r)[0]?=some (.bool r.isSome):=by cases r <;> rfl
theorem filter_ne_erase:∀(L:List MapEntry) (j:Nat) (e:MapEntry),(L.map (·.born)).Nodup→L[j]?=some e→L.filter (fun x=>!(x.born == e.born))=L.eraseIdx j
 | [],_,_,_,h=>by simp at h
 | x::r,0,e,hn,h=>by
  simp at h
  subst h;simp only [List.map_cons,List.nodup_cons] at hn;rw [List.filter_cons];simp only [beq_self_eq_true,Bool.not_true,Bool.false_eq_true,if_false,List.eraseIdx_zero,List.tail_cons];refine List.filter_eq_self.2 fun y hy=>?_
  have:y.born≠x.born:=fun e=>hn.1 (e ▸ List.mem_map.2 ⟨y,hy,rfl⟩)
  simpa using this
 | x::r,j+1,e,hn,h=>by
  simp only [List.map_cons,List.nodup_cons] at hn;simp only [List.getElem?_cons_succ] at h;have hx:x.born≠e.born:=fun h2=>hn.1 (h2 ▸ List.mem_map.2 ⟨e,List.mem_of_getElem? h,rfl⟩);rw [List.filter_cons,if_pos (by simpa using hx),filter_ne_erase r j e hn.2 h,List.eraseIdx_cons_succ]
theorem leftOf_push (es:Array MapEntry) (seen:Array Nat) (b:Nat):(leftOf es (seen.push b)).toList=(leftOf es seen).toList.filter fun x=>!(x.born == b):=by
 unfold leftOf
 rw [Array.toList_filter,Array.toList_filter,List.filter_filter]
 congr 1
 funext x
 rw [Array.contains_push,Bool.not_or,Bool.and_comm]
theorem map_eraseIdx {α β:Type} (f:α→β):∀(l:List α) (j:Nat),(l.eraseIdx j).map f=(l.map f).eraseIdx j
 | [],_=>by simp
 | _::_,0=>by simp
 | x::r,j+1=>by simp [map_eraseIdx f r j]
variable {P:Program} {kv:KV} {n:Nat} {K:KV→World→Prop} {d:Tmp} {ty:TypeId} {pos:String} {af:Array Edge} {g:Option (Nat × Bool)} {T kt e:TypeId} {x:Operand}
theorem OX.range (hT:P.underlying T=some (.map kt e)) (hm:KM enc w m l) (hx:ev kv x=some (.map (some m))) (hd:Nat.blt d n=true)
  (h:∀b w',Chg [] w w'→w.heap.size≤b→MIt enc w' b m l l none→K ((d,.pointer (some ⟨b,0,none⟩))::kv) w'):OX P ⟨some d,.range T x,ty,pos,af,g⟩ n kv w K:=by
 obtain ⟨es,clock,h1,h2⟩:=hm;have hlt:m<w.heap.size:=(Array.getElem?_eq_some_iff.1 h1).1;refine ⟨rfl,hd,by simp [known,opers,hx],?_⟩
 have hr:(execOp (lkO kv) ⟨some d,.range T x,ty,pos,af,g⟩).run P w=.ok (.value (.pointer (some ⟨w.heap.size,0,none⟩))) (w.alloc (.mapIter (some m) clock #[] clock)):=by
  simp only [execOp,lkO_of hx,Sem.run_bind,run_range_map w T kt e m es clock hT h1,Result.andThen_ok];rfl
 rw [hr];refine h _ _ (chg_alloc _ _) (Nat.le_refl _) ⟨es,clock,clock,#[],by rw [heap_alloc_old w _ (h:=hlt)];exact h1,h2,heap_alloc_new _ _,by omega,Nat.le_refl _,h2.2.2.1,?_,fun p hp=>by cases hp⟩
 have:leftOf es #[]=es:=by unfold leftOf;simp
 rw [this];exact h2.1
theorem run_nextG (hm:MIt enc w b m l left cur):∃(r:Option (κ × Value)) (left':List (κ × Value)) (w':World),(Instr.next (.pointer (some ⟨b,0,none⟩)) false ty).run P w=.ok (.tuple (nextV enc r)) w'∧Chg [b] w w'∧
  (match r with | none=>left=[]∧left'=[] | some p=>∃j,left[j]?=some p∧left'=left.eraseIdx j)∧MIt enc w' b m l left' r:=by
 obtain ⟨es,clock,since,seen,h1,h2,h3,h4,h5,h6,h7,h8⟩:=hm;have hlt:b<w.heap.size:=(Array.getElem?_eq_some_iff.1 h3).1
 have hsub:∀y∈(leftOf es seen).toList,y∈es.toList:=fun y hy=>by
  unfold leftOf at hy
  rw [Array.toList_filter] at hy;exact (List.mem_filter.1 hy).1
 have htest:=next_test_false seen es since clock h6 h5
 have e1:(leftOf es seen).filter (fun x=>decide (x.born<since))=leftOf es seen:=Array.filter_eq_self.2 fun y hy=>by
  have:=h6 y (hsub y (by simpa using hy))
  simpa using this
 have e2:(leftOf es seen).filter (fun x=>decide (x.born≥since))=#[]:=by
  rw [Array.filter_eq_empty_iff];intro y hy
  have:=h6 y (hsub y (by simpa using hy))
  simp
  omega
 have hlen:(leftOf es seen).size=left.length:=by simpa using congrArg List.length h7
 by_cases h0:(leftOf es seen).size=0
 ·
  have hL:leftOf es seen=#[]:=Array.eq_empty_of_size_eq_zero h0
  have hl0:left=[]:=by cases left with
   | nil=>rfl
   | cons a r=>rw [h0] at hlen;simp at hlen
  subst hl0;refine ⟨none,[],w,?_,Chg.refl _ _,⟨rfl,rfl⟩,es,clock,since,seen,h1,h2,h3,h4,h5,h6,h7,fun p hp=>by cases hp⟩;simp only [Instr.next,getObj,Sem.run_bind,Sem.run,h3,h1,Result.andThen,htest,Bool.false_eq_true,if_false];rw [show (es.filter fun e=>!seen.contains e.born)=leftOf es seen from rfl,hL]
  simp [choose,Sem.run,Question.forced,nextV]
 have hne:(leftOf es seen).isEmpty=false:=by simp [Array.isEmpty,h0]
 have hch:∃(j:Nat) (w1:World),j<(leftOf es seen).size∧w1.heap=w.heap∧Chg [] w w1∧(choose (Question.mapNext (leftOf es seen).size)).run P w=.ok j w1:=by
  by_cases hf:(leftOf es seen).size≤1
  ·
   exact ⟨0,w,by omega,rfl,Chg.refl _ _,by simp [choose,Sem.run,Question.forced,hf]⟩
  exact ⟨_,w.drew,Nat.mod_lt _ (by omega),rfl,⟨rfl,rfl,rfl,Nat.le_refl _,fun _ _ _=>rfl⟩,by
   simp only [choose,Sem.run,Question.forced,decide_eq_true_eq,hf,if_false,Question.cut]
   rfl⟩
 obtain ⟨j,w1,hj,hh,hc1,hrun⟩:=hch;obtain ⟨y,hy⟩:∃y,(leftOf es seen)[j]?=some y:=⟨_,Array.getElem?_eq_getElem hj⟩
 have hyl:(leftOf es seen).toList[j]?=some y:=by rw [Array.getElem?_toList];exact hy
 have hye:y∈es.toList:=hsub y (List.mem_of_getElem? hyl);obtain ⟨p,hp⟩:∃p,left[j]?=some p:=⟨_,List.getElem?_eq_getElem (by omega)⟩
 have hpe:(y.key,y.val)=(enc p.1,p.2):=by
  have:=congrArg (fun x=>x[j]?) h7
  simp only [List.getElem?_map,hyl,hp,Option.map_some,Option.some.injEq] at this;exact this
 simp only [Prod.mk.injEq] at hpe
 have hbn:((leftOf es seen).toList.map (·.born)).Nodup:=by
  unfold leftOf
  rw [Array.toList_filter];exact (List.filter_sublist.map _).nodup h2.2.2.2
 refine ⟨some p,left.eraseIdx j,{w1 with heap:=w1.heap.setIfInBounds b (.mapIter (some m) since (seen.push y.born) clock)},?_,?_,⟨j,hp,rfl⟩,es,clock,since,seen.push y.born,?_,h2,?_,h4,h5,h6,?_,?_⟩
 ·
  simp only [Instr.next,getObj,Sem.run_bind,Sem.run,h3,h1,Result.andThen,htest,Bool.false_eq_true,if_false];rw [show (es.filter fun e=>!seen.contains e.born)=leftOf es seen from rfl,e1,e2];simp only [hne,Bool.false_eq_true,if_false,Array.empty_append,Array.append_empty,Array.size_map,hrun,Array.getElem?_map,hy,Option.map_some]
  have hset:(setObj b (.mapIter (some m) since (seen.push y.born) clock)).run P w1=.ok () {w1 with heap:=w1.heap.setIfInBounds b (.mapIter (some m) since (seen.push y.born) clock)}:=by
   simp only [setObj,Sem.run];rw [hh,h3]
  simp only [Sem.run_bind,hset,Result.andThen,nextV,hpe.1,hpe.2]
  try rfl
 ·
  have:=chg_set w1 b (.mapIter (some m) since (seen.push y.born) clock)
  exact Chg.trans (Chg.mono hc1 (by simp)) this
 ·
  show (w1.heap.setIfInBounds b _)[m]?=_
  rw [hh,Array.getElem?_setIfInBounds_ne h4];exact h1
 ·
  show (w1.heap.setIfInBounds b _)[b]?=_
  rw [hh,Array.getElem?_setIfInBounds_self]
  simp [hlt]
 ·
  rw [leftOf_push,filter_ne_erase _ j y hbn hyl,map_eraseIdx,map_eraseIdx,h7]
 intro q hq;simp only [Option.some.injEq] at hq;subst hq;exact ⟨y,hye,Array.back?_push,hpe.1,hpe.2⟩
theorem OX.next (hm:MIt enc w b m l left cur) (hx:ev kv x=some (.pointer (some ⟨b,0,none⟩))) (hd:Nat.blt d n=true)
  (h:∀r left' w',Chg [b] w w'→(match r with | none=>left=[]∧left'=[] | some p=>∃j,left[j]?=some p∧left'=left.eraseIdx j)→MIt enc w' b m l left' r→K ((d,.tuple (nextV enc r))::kv) w'):OX P ⟨some d,.next x false,ty,pos,af,g⟩ n kv w K:=by
 obtain ⟨r,left',w',h1,h2,h3,h4⟩:=run_nextG (P:=P) (ty:=ty) hm;refine ⟨rfl,hd,by simp [known,opers,hx],?_⟩
 have hr:(execOp (lkO kv) ⟨some d,.next x false,ty,pos,af,g⟩).run P w=.ok (.value (.tuple (nextV enc r))) w':=by
  simp only [execOp,lkO_of hx,Sem.run_bind,h1,Result.andThen_ok];rfl
 rw [hr];exact h _ _ _ h2 h3 h4
theorem PV.entry {p:κ × Value} (hm:MIt enc w b m l left (some p)) (hx:ev kv x=some (.pointer (some ⟨b,0,none⟩))):PV P (.entry x) ty kv w (.tuple #[enc p.1,p.2]):=by
 obtain ⟨es,clock,since,seen,h1,h2,h3,_,_,_,_,h8⟩:=hm;obtain ⟨y,hy,hb,hk,hv⟩:=h8 p rfl;refine ⟨rfl,by simp [known,opers,hx],fun _ _ _ _=>?_⟩
 have hf:es.find? (·.born == y.born)=some y:=by rw [← Array.find?_toList];exact find_born y es.toList h2.2.2.2 hy
 have:(Instr.entry (.pointer (some ⟨b,0,none⟩))).run P w=.ok (.tuple #[enc p.1,p.2]) w:=by
  simp only [Instr.entry,getObj,Sem.run_bind,Sem.run,h3,h1,hb,Result.andThen,bne_self_eq_false,Bool.false_eq_true,if_false,hf,hk,hv]
  rfl
 simp only [execOp,lkO_of hx,Sem.run_bind,this,Result.andThen_ok]
 rfl
end
end Go.Rc

namespace Go.Rc
open Go
theorem mem_eraseIdx_or {α:Type}:∀{l:List α} {j:Nat} {p q:α},l[j]?=some p→q∈l→q=p∨q∈l.eraseIdx j
 | [],_,_,_,_,h=>by cases h
 | x::r,0,p,q,h,hq=>by
  simp at h;subst h
  rcases List.mem_cons.1 hq with rfl | hq
  ·
   exact .inl rfl
  exact .inr (by simpa using hq)
 | x::r,j+1,p,q,h,hq=>by
  rcases List.mem_cons.1 hq with rfl | hq
  ·
   exact .inr (by simp)
  rcases mem_eraseIdx_or (l:=r) (by simpa using h) hq with h1 | h1
  ·
   exact .inl h1
  exact .inr (by simp [h1])
section
variable {rules:List Rule} {inp:List Inp}
theorem AtOk.vals (hR:rulesOk rules) {i0:Nat} {L:List Nat} {u:Nat→Nat} {am:List (Key × Value)} (h:AtOk rules L u am) (hn:(am.map (·.1)).Nodup) (hr:Rounds rules inp i0 L u) (hd:∀j∈L,u j=rv rules inp j) :
  ∀p∈am,p.2=.string (valOf rules inp p.1):=fun p hp=>by
 have hg:mget am p.1=some p.2:=(mget_mem hn).2 hp
 by_cases hk:∃j∈L,p.1=ofK rules (j:Int)
 ·
  obtain ⟨j,hj,e⟩:=hk;obtain ⟨hjl,hjr⟩:=hr.ring j hj;rw [e,h.1 j hj] at hg;simp only [Option.some.injEq] at hg;rw [← hg,e,valOf_ofK hR hjl,valI_ring hR hjl hjr,hd j hj]
 rw [h.2 p.1 fun j hj e=>hk ⟨j,hj,e⟩] at hg
 cases hg
theorem AtOk.first {i0:Nat} {L:List Nat} {u:Nat→Nat} {am:List (Key × Value)} (h:AtOk rules L u am) (hn:(am.map (·.1)).Nodup) (hr:Rounds rules inp i0 L u):∃p∈am,p.1=ofK rules (i0:Int):=
 ⟨(_,_),(mget_mem hn).1 (h.1 i0 hr.first),rfl⟩
theorem put_done {am left ml:List (Key × Value)} {j:Nat} {p:Key × Value} (hd:∀q∈am,q∈left∨mget ml q.1=some q.2) (he:∀q∈am,q.2=.string (valOf rules inp q.1)) (hj:left[j]?=some p) :
  ∀q∈am,q∈left.eraseIdx j∨mget (mput ml p.1 (.string (valOf rules inp p.1))) q.1=some q.2:=fun q hq=>by
 rw [mget_put]
 by_cases e:p.1=q.1
 ·
  rw [if_pos e,he q hq,e];exact .inr rfl
 rw [if_neg e]
 rcases hd q hq with h | h
 ·
  rcases mem_eraseIdx_or hj h with h1 | h1
  ·
   subst h1;exact absurd rfl e
  exact .inl h1
 exact .inr h
end
end Go.Rc

namespace Go.Rc
open Go
section
variable {l l':List Rule}
def SameRings (l l':List Rule):Prop:=l.map (·.ring)=l'.map (·.ring)
theorem SameRings.len (h:SameRings l l'):l.length=l'.length:=by simpa using congrArg List.length h
theorem SameRings.rg (h:SameRings l l') (i:Nat):ringAt l i=ringAt l' i:=by
 have h2:=congrArg (fun x=>x[i]?) h;simp only [List.getElem?_map] at h2
 unfold Go.Rc.ringAt
 cases h3:l[i]? <;> cases h4:l'[i]? <;> simp [h3,h4] at h2 ⊢
 exact h2
theorem SameRings.lo (h:SameRings l l'):∀k,blockLo l k=blockLo l' k
 | 0=>rfl
 | k+1=>by unfold blockLo;rw [h.rg k,h.lo k]
theorem takeWhile_rings:∀{l l':List Rule},SameRings l l'→(l.takeWhile (·.ring)).length=(l'.takeWhile (·.ring)).length
 | [],[],_=>rfl
 | [],_::_,h=>by simp [SameRings] at h
 | _::_,[],h=>by simp [SameRings] at h
 | x::r,y::s,h=>by
  simp only [SameRings,List.map_cons,List.cons.injEq] at h;have ih:=takeWhile_rings (l:=r) (l':=s) h.2;simp only [List.takeWhile_cons,h.1]
  cases y.ring <;> simp [ih]
theorem SameRings.hi (h:SameRings l l') (m:Nat):hiFrom l m=hiFrom l' m:=by
 unfold hiFrom
 rw [takeWhile_rings (l:=l.drop m) (l':=l'.drop m)]
 unfold SameRings
 rw [List.map_drop,List.map_drop,h]
theorem SameRings.block (h:SameRings l l') (n:Int):block l n=block l' n:=by
 unfold Go.Rc.block
 rw [h.len,h.rg,h.lo,h.hi]
theorem SameRings.may (h:SameRings l l') (i:Nat) (c:Bool) (n:Int):mayOk l i c n=mayOk l' i c n:=by
 unfold mayOk mayTop
 rw [h.rg,h.block]
theorem SameRings.ask (h:SameRings l l') (i:Nat) (g:Bool) (k:Nat) (x:Ask):askOk l i g k x=askOk l' i g k x:=by
 unfold askOk
 rw [h.may,h.may]
theorem SameRings.rule (h:SameRings l l') (i:Nat) (r:Rule):ruleOk l i r↔ruleOk l' i r:=by
 unfold ruleOk
 simp only [h.ask]
theorem SameRings.symm (h:SameRings l l'):SameRings l' l:=Eq.symm h
theorem SameRings.set {i:Nat} (hi:i<l.length) {r:Rule} (hr:r.ring=ringAt l i):SameRings (l.set i r) l:=by
 unfold SameRings
 rw [List.map_set,hr,ringAt_get hi];refine List.ext_getElem? fun j=>?_;rw [List.getElem?_set]
 split
 ·
  rename_i e
  subst e
  simp [hi]
 rfl
def PartOk (l:List Rule) (i:Nat):Prop:=l.length≤8∧∀(j:Nat) (r:Rule),l[j]?=some r→j<i→ruleOk l j r
theorem PartOk.start (h:l.length≤8):PartOk l 0:=⟨h,fun _ _ _ h=>by omega⟩
theorem PartOk.set {i:Nat} (h:PartOk l i) (hi:i<l.length) {r:Rule} (hr:r.ring=ringAt l i) (ho:ruleOk l i r):PartOk (l.set i r) (i+1):=by
 have hs:=SameRings.set hi hr;refine ⟨by rw [List.length_set];exact h.1,fun j x hx hj=>?_⟩;rw [hs.rule];rw [List.getElem?_set] at hx
 split at hx
 ·
  rename_i e
  subst e
  simp [hi] at hx
  subst hx;exact ho
 exact h.2 j x hx (by omega)
theorem PartOk.ok (h:PartOk l l.length):rulesOk l:=⟨by have:=h.1;omega,fun i r hr=>h.2 i r hr (List.getElem?_eq_some_iff.1 hr).1⟩
theorem mk_ask {i k:Nat} {g:Bool} {x:Ask} {most:Int} (hm:most=if x.cell then 4 else mayTop l i) (h0:0≤x.n) (h1:x.n<most) (hp:x.pick=true→g=false∧k≠0∧0≤x.els∧x.els<most) (he:x.pick=false→x.els=0):askOk l i g k x=true:=by
 have key:∀n:Int,0≤n→n<most→mayOk l i x.cell n=true:=fun n hn hn2=>by
  unfold mayOk
  cases hc:x.cell
  ·
   rw [hc] at hm
   simp at hm
   subst hm
   simp [hn,hn2]
  rw [hc] at hm
  simp at hm
  subst hm
  simp [hn]
  omega
 unfold askOk
 rw [key _ h0 h1]
 cases h2:x.pick
 ·
  simp [he h2]
 obtain ⟨h3,h4,h5,h6⟩:=hp h2
 simp [h3,h4,key _ h5 h6]
end
end Go.Rc

namespace Go.Rc
open Go
def As.dice (E d:Nat):As where
 fp x:=x=d
 ok Z w:=Dice Z w E d
 lt h x hx:=by subst hx;exact h.lt
 mono hZ h:=by
  obtain ⟨l,a,n,c,t,h1,h2,h3⟩:=h;exact ⟨l,a,n,c,t,h1,SR.mono h2 (fun b hb _=>hZ b hb) (fun _ _ h=>h),h3⟩
 st hs hc h:=by
  obtain ⟨l,a,n,c,t,h1,h2,h3⟩:=h;exact ⟨l,a,n,c,t,(As.blk d E _).st (Z:=fun _=>False) hs (fun x hx=>hc x (hx.imp id False.elim)) h1,SR.st hs (fun x hx=>hc x (.inr hx)) (fun _ _ h=>h) h2,h3⟩
theorem As.gd {E d:Nat} {Z:Nat→Prop} {w:World} (h:(As.dice E d).ok Z w):Dice Z w E d:=h
def RR.chg:RR Change:=RR.flat Change.cells
def begun (g:Bool):Rule:=⟨g,[],0,0⟩
theorem Ow.flat {α:Type} {f:α→List Value} {b T k n:Nat} {Z:Nat→Prop} {w:World} {xs:List α} {l:List Value} (h:Blk w b T l) (hl:l=(xs.map f).flatten) (hk:∀x∈xs,(f x).length=k) (h1:∀u∈l,u.oneCell'=true) (hn:n=xs.length) (hm:xs.length≤140737488355328) :
  Ow (RR.flat f) T k Z w (some ⟨b,0,none⟩) n n xs:=by
 subst hn hl
 have hlen:∀(ys:List α),(∀x∈ys,(f x).length=k)→(ys.map f).flatten.length=ys.length*k:=by
  intro ys
  induction ys with
  | nil=>simp
  | cons y ys ih=>
   intro hy;simp only [List.map_cons,List.flatten_cons,List.length_append,List.length_cons];rw [hy y (by simp),ih fun x hx=>hy x (by simp [hx]),Nat.add_mul]
   omega
 refine ⟨rfl,xs.map f,by simp,by simpa using hk,by simpa using OL.blk (k:=k) h (Nat.zero_le _) (m:=xs.length) (hlen xs hk) h1 hm,fun i x r hx hr=>?_⟩;rw [List.getElem?_map,hx] at hr
 simp at hr
 exact hr.symm
def As.blkE {ι:Type} (b T:Nat) (F:ι→List Value):As where
 fp x:=x=b
 ok _ w:=∃i,Blk w b T (F i)
 lt h x hx:=by obtain ⟨i,h⟩:=h;subst hx;exact h.lt
 mono _ h:=h
 st hs hc h:=by obtain ⟨i,h⟩:=h;exact ⟨i,(As.blk b T _).st (Z:=fun _=>False) hs (fun x hx=>hc x (hx.imp id False.elim)) h⟩
theorem Ow.ring {E n c i b:Nat} {Z:Nat→Prop} {w:World} {a:Option Addr} {l:List Rule} (h:Ow RR.rule E 4 Z w a n c l) (ha:a=some ⟨b,0,none⟩) (hle:l.length≤140737488355328) (hi:i<l.length):w.rangeAt b (0+i*4) [.bool l[i].ring]:=by
 obtain ⟨b',r,h1,_,h3,h4⟩:=Ow.at h hle (getElem_some hi);rw [ha] at h1;simp only [Option.some.injEq,Addr.mk.injEq,and_true] at h1;subst h1;obtain ⟨a',n',c',rfl,_⟩:=h3;intro j v hv
 cases j with
 | zero=>exact h4 0 v hv
 | succ j=>simp at hv
theorem hiFrom_bound (l:List Rule) (m:Nat) (hm:m≤l.length):hiFrom l m≤l.length:=by
 unfold hiFrom
 have h:=(List.takeWhile_sublist (p:=fun r:Rule=>r.ring) (l:=l.drop m)).length_le;simp only [List.length_drop] at h
 omega
theorem mayTop_bounds {l:List Rule} {i:Nat} (hi:i<l.length):0≤mayTop l i∧mayTop l i≤l.length:=by
 have h1:=hiFrom_bound l (i+1) (by omega)
 have hb:block l (i:Int)=if ringAt l i then ((blockLo l i:Int),(hiFrom l (i+1):Int)) else ((i:Int),(i:Int)+1):=by
  unfold block;rw [if_neg (by omega),Int.toNat_natCast]
 unfold mayTop
 rw [hb]
 cases ringAt l i <;> simp <;> omega
theorem asks_snoc {l:List Rule} {i:Nat} {g:Bool} {xs:List Ask} {x:Ask} (h:∀(k:Nat) y,xs[k]?=some y→askOk l i g k y=true) (hx:askOk l i g xs.length x=true):∀(k:Nat) y,(xs++[x])[k]?=some y→askOk l i g k y=true:=fun k y hy=>by
 rcases Nat.lt_trichotomy k xs.length with hk | hk | hk
 ·
  rw [List.getElem?_append_left hk] at hy;exact h k y hy
 ·
  subst hk;simp at hy;subst hy;exact hx
 rw [List.getElem?_eq_none (by simp;omega)] at hy;cases hy
end Go.Rc

namespace Go.Rc
open Go
def FRB (RT:Nat) (l:List Rec) (bs:List Nat):FZ where
 p Z w:=∀(i:Nat) (r:Rec) (b:Nat),l[i]?=some r→bs[i]?=some b→Z b∧∃a n c,Blk w b RT (r.row a n c)
 mono h H:=fun i r b h1 h2=>⟨h _ (H i r b h1 h2).1,(H i r b h1 h2).2⟩
 st hs hc H:=fun i r b h1 h2=>by
  obtain ⟨hz,a,n,c,hb⟩:=H i r b h1 h2;exact ⟨hz,a,n,c,(As.blk b RT _).st (Z:=fun _=>False) hs (fun x hx hlt=>hc x (by rcases hx with hx | hx;(have e:x=b:=hx);subst e;exact hz;exact hx.elim) hlt) hb⟩
theorem FRB.nil (RT:Nat) (Z:Nat→Prop) (w:World):(FRB RT [] []).p Z w:=fun i r b h=>by simp at h
theorem FRB.snoc {RT b:Nat} {l:List Rec} {bs:List Nat} {r:Rec} {a:Option Addr} {n c:Nat} {Z:Nat→Prop} {w:World} (h:(FRB RT l bs).p Z w) (hl:bs.length=l.length) (hz:Z b) (hb:Blk w b RT (r.row a n c)):(FRB RT (l++[r]) (bs++[b])).p Z w:=fun i r' b' h1 h2=>by
 rcases Nat.lt_trichotomy i l.length with hi | hi | hi
 ·
  rw [List.getElem?_append_left hi] at h1;rw [List.getElem?_append_left (by omega)] at h2;exact h i r' b' h1 h2
 ·
  subst hi;rw [← hl] at h2
  simp at h1 h2
  subst h1 h2;exact ⟨hz,a,n,c,hb⟩
 rw [List.getElem?_eq_none (by simp;omega)] at h1;cases h1
def MapsTo (l:List Rec) (bs:List Nat) (ml:List (Key × Value)):Prop:=bs.length=l.length∧∀(i:Nat) (r:Rec) (b:Nat),l[i]?=some r→bs[i]?=some b→mget ml r.key=some (.pointer (some ⟨b,0,none⟩))
theorem MapsTo.nil:MapsTo [] [] []:=⟨rfl,fun i r b h=>by simp at h⟩
theorem MapsTo.snoc {l:List Rec} {bs:List Nat} {ml:List (Key × Value)} {r:Rec} {b:Nat} (h:MapsTo l bs ml) (hk:∀y∈l,y.key≠r.key):MapsTo (l++[r]) (bs++[b]) (mput ml r.key (.pointer (some ⟨b,0,none⟩))):=by
 refine ⟨by simp [h.1],fun i r' b' h1 h2=>?_⟩
 rcases Nat.lt_trichotomy i l.length with hi | hi | hi
 ·
  rw [List.getElem?_append_left hi] at h1;rw [List.getElem?_append_left (by rw [h.1];omega)] at h2;rw [mget_put,if_neg (fun e=>hk r' (List.mem_of_getElem? h1) e.symm)];exact h.2 i r' b' h1 h2
 ·
  subst hi;rw [← h.1] at h2
  simp at h1 h2
  subst h1 h2;rw [mget_put,if_pos rfl]
 rw [List.getElem?_eq_none (by simp;omega)] at h1;cases h1
theorem Srt.ne {l:List Rec} (h:Srt l) {i:Nat} (hi:i<l.length):∀y∈l.take i,y.key≠l[i].key:=fun y hy e=>by
 obtain ⟨j,hj,rfl⟩:=List.mem_iff_getElem.1 hy
 have hj2:j<i:=by simp at hj;omega
 have h1:cmpK l[j].key l[i].key<0:=List.pairwise_iff_getElem.1 h j i (by omega) hi hj2;rw [List.getElem_take] at e;rw [e] at h1;have h2:=cmpK_swap l[i].key l[i].key
 omega
noncomputable def okVal (rules:List Rule) (inp:List Inp) (r:Rec):Bool:=decide (valOf rules inp r.key=r.value)
noncomputable def okReads (rules:List Rule) (inp:List Inp) (r:Rec):Bool:=decide (readsK rules inp r.key=r.reads)
def okCost (r:Rec):Bool:=decide (r.cost=1+r.reads.length)
noncomputable def okRec (rules:List Rule) (inp:List Inp):Nat→Rec→Bool
 | 0,r=>okVal rules inp r
 | 1,r=>okReads rules inp r
 | 2,_=>true
 | 3,r=>okVal rules inp r
 | _,r=>okCost r
noncomputable def auditTo (rules:List Rule) (inp:List Inp) (l:List Rec) (j:Nat):List Int:=((List.range j).filter fun i=>!l.all (okRec rules inp i)).map fun i:Nat=>(i:Int)+1
theorem auditTo_succ (rules:List Rule) (inp:List Inp) (l:List Rec) (j:Nat):auditTo rules inp l (j+1)=auditTo rules inp l j++(if l.all (okRec rules inp j) then [] else [(j:Int)+1]):=by
 unfold auditTo
 rw [List.range_succ,List.filter_append,List.map_append]
 cases h:l.all (okRec rules inp j) <;> simp [h]
theorem auditTo_len (rules:List Rule) (inp:List Inp) (l:List Rec) (j:Nat):(auditTo rules inp l j).length≤j:=by
 unfold auditTo
 rw [List.length_map];exact Nat.le_trans (List.length_filter_le _ _) (by simp)
theorem rec_up {l:List Rec} {rev:Int} {k:Key} (hup:∀y∈l,y.verified=rev) (hs:(findR l k).isSome=true):(recOf l k).verified=rev:=by
 obtain ⟨r,hr⟩:=Option.isSome_iff_exists.1 hs
 unfold recOf
 rw [hr];exact hup r (findR_mem hr).1
end Go.Rc

namespace Go.Rc
open Go
def InpG (rev:Int) (l:List Inp):Prop:=SrtI l∧(∀y∈l,inpV rev y)∧∀y∈l,(∃i:Nat,i≤99∧y.key=⟨30,itoa i⟩)∧y.value.size≤1000
theorem InpG.nil (rev:Int):InpG rev []:=⟨.nil,by simp,by simp⟩
theorem InpG.mono {r s:Int} {l:List Inp} (h:InpG r l) (hrs:r≤s):InpG s l:=⟨h.1,fun y hy=>by obtain ⟨a,b,c,d,e⟩:=h.2.1 y hy;exact ⟨a,b,c,d,by omega⟩,h.2.2⟩
theorem Change.small.key {c:Change} (h:c.small):∃i:Nat,i≤3∧c.key=⟨30,itoa i⟩:=by
 obtain ⟨⟨n,h0,h3,hk⟩,_⟩:=h;refine ⟨n.toNat,by omega,?_⟩;rw [hk]
 unfold cellK
 rw [if_neg (by omega),Int.toNat_of_nonneg h0]
theorem Change.small.ok {c:Change} (h:c.small):validK c.key=true∧isInput c.key=true:=by
 obtain ⟨⟨n,h0,h3,hk⟩,_⟩:=h;obtain ⟨m,rfl⟩:∃m:Nat,n=(m:Int):=⟨n.toNat,by omega⟩;rw [hk];exact ⟨Knd.valid (rules:=[]) (.cell (by omega)),isInput_cellK (by omega)⟩
theorem InpG.put {rev:Int} {l:List Inp} {c:Change} (h:InpG rev l) (hc:c.small) (h0:0≤rev):InpG rev (putI ⟨c.key,c.value,rev⟩ l false):=by
 refine ⟨SrtI.put h.1,fun y hy=>?_,fun y hy=>?_⟩
 ·
  rcases putI_mem _ _ _ _ hy with rfl | hy
  ·
   have:=hc.2
   exact ⟨hc.ok.1,hc.ok.2,by show (c.value.size:Int)≤_;omega,h0,Int.le_refl _⟩
  exact h.2.1 y hy
 rcases putI_mem _ _ _ _ hy with rfl | hy
 ·
  obtain ⟨i,hi,hk⟩:=hc.key;exact ⟨⟨i,by omega,hk⟩,Nat.le_trans hc.2 (by decide)⟩
 exact h.2.2 y hy
theorem putI_at {n:Inp} {l:List Inp} {q:Nat} {b:Bool} (hq:q<l.length) {acc r:List Inp} (h:acc++putI n (l.drop q) b=r):acc++(if decide (0≤cmpK l[q].key n.key) && !b then [n] else [])++(if cmpK l[q].key n.key=0 then [] else [l[q]])++putI n (l.drop (q+1)) (b || decide (0≤cmpK l[q].key n.key))=r:=by
 rw [← h,List.drop_eq_getElem_cons hq];simp only [putI,List.append_assoc]
theorem putI_le {n:Inp} {l m acc:List Inp} {b:Bool} (h:acc++putI n m b=putI n l false):acc.length≤l.length+1:=by
 have h1:=congrArg List.length h;rw [List.length_append] at h1
 have:=putI_len n l false
 omega
end Go.Rc

namespace Go.Rc
open Go
def manyOk (L:List As) (Z:Nat→Prop) (w:World):Prop:=(List.Pairwise (fun (A B:As)=>∀x,A.fp x→¬B.fp x) L)∧∀A∈L,A.ok Z w
def As.many (L:List As):As where
 fp x:=∃A∈L,A.fp x
 ok:=manyOk L
 lt h x hx:=by obtain ⟨A,hA,hx⟩:=hx;exact A.lt (h.2 A hA) x hx
 mono hZ h:=⟨h.1,fun A hA=>A.mono hZ (h.2 A hA)⟩
 st hs hc h:=⟨h.1,fun A hA=>A.st hs (fun x hx=>hc x (hx.imp (fun hx=>⟨A,hA,hx⟩) id)) (h.2 A hA)⟩
section
variable {w0 w:World} {M Z:Nat→Prop} {A:As} {L l:List As}
theorem St.many0 (h:St w0 M Z w l):St w0 M Z w (As.many []::l):=by
 refine ⟨h.chg,h.zlt,?_,?_,.cons ?_ h.dis,?_⟩
 ·
  intro B hB x hx
  rcases List.mem_cons.1 hB with rfl | hB
  ·
   obtain ⟨A,hA,_⟩:=hx;cases hA
  exact h.zfp B hB x hx
 ·
  intro B hB x hx
  rcases List.mem_cons.1 hB with rfl | hB
  ·
   obtain ⟨A,hA,_⟩:=hx;cases hA
  exact h.org B hB x hx
 ·
  intro B _ x hx;obtain ⟨A,hA,_⟩:=hx;cases hA
 intro B hB
 rcases List.mem_cons.1 hB with rfl | hB
 ·
  exact ⟨.nil,fun A hA=>by cases hA⟩
 exact h.ok B hB
theorem St.manyIn (h:St w0 M Z w (A::As.many L::l)):St w0 M Z w (As.many (A::L)::l):=by
 obtain ⟨d1,d2⟩:=List.pairwise_cons.1 h.dis;obtain ⟨d3,d4⟩:=List.pairwise_cons.1 d2;have hm:(As.many L).ok Z w:=h.ok _ (by simp);refine ⟨h.chg,h.zlt,?_,?_,.cons ?_ d4,?_⟩
 ·
  intro B hB x hx
  rcases List.mem_cons.1 hB with rfl | hB
  ·
   obtain ⟨C,hC,hx⟩:=hx
   rcases List.mem_cons.1 hC with rfl | hC
   ·
    exact h.zfp C (by simp) x hx
   exact h.zfp (As.many L) (by simp) x ⟨C,hC,hx⟩
  exact h.zfp B (by simp [hB]) x hx
 ·
  intro B hB x hx
  rcases List.mem_cons.1 hB with rfl | hB
  ·
   obtain ⟨C,hC,hx⟩:=hx
   rcases List.mem_cons.1 hC with rfl | hC
   ·
    exact h.org C (by simp) x hx
   exact h.org (As.many L) (by simp) x ⟨C,hC,hx⟩
  exact h.org B (by simp [hB]) x hx
 ·
  intro B hB x hx;obtain ⟨C,hC,hx⟩:=hx
  rcases List.mem_cons.1 hC with rfl | hC
  ·
   exact d1 B (by simp [hB]) x hx
  exact d3 B hB x ⟨C,hC,hx⟩
 intro B hB
 rcases List.mem_cons.1 hB with rfl | hB
 ·
  refine ⟨.cons (fun C hC x hx hx2=>d1 (As.many L) (by simp) x hx ⟨C,hC,hx2⟩) hm.1,fun C hC=>?_⟩
  rcases List.mem_cons.1 hC with rfl | hC
  ·
   exact h.ok C (by simp)
  exact hm.2 C hC
 exact h.ok B (by simp [hB])
theorem St.manyOut (h:St w0 M Z w (As.many (A::L)::l)):St w0 M Z w (A::As.many L::l):=by
 obtain ⟨d1,d2⟩:=List.pairwise_cons.1 h.dis;have hm:(As.many (A::L)).ok Z w:=h.ok _ (by simp);obtain ⟨d3,d4⟩:=List.pairwise_cons.1 hm.1;refine ⟨h.chg,h.zlt,?_,?_,.cons ?_ (.cons ?_ d2),?_⟩
 ·
  intro B hB x hx
  rcases List.mem_cons.1 hB with rfl | hB
  ·
   exact h.zfp _ M0 x ⟨B,.head _,hx⟩
  rcases List.mem_cons.1 hB with rfl | hB
  ·
   obtain ⟨C,hC,hx⟩:=hx;exact h.zfp _ M0 x ⟨C,.tail _ hC,hx⟩
  exact h.zfp B (.tail _ hB) x hx
 ·
  intro B hB x hx
  rcases List.mem_cons.1 hB with rfl | hB
  ·
   exact h.org _ M0 x ⟨B,.head _,hx⟩
  rcases List.mem_cons.1 hB with rfl | hB
  ·
   obtain ⟨C,hC,hx⟩:=hx;exact h.org _ M0 x ⟨C,.tail _ hC,hx⟩
  exact h.org B (.tail _ hB) x hx
 ·
  intro B hB x hx hx2
  rcases List.mem_cons.1 hB with rfl | hB
  ·
   obtain ⟨C,hC,hx2⟩:=hx2;exact d3 C hC x hx hx2
  exact d1 B hB x ⟨A,.head _,hx⟩ hx2
 ·
  intro B hB x hx;obtain ⟨C,hC,hx⟩:=hx;exact d1 B hB x ⟨C,.tail _ hC,hx⟩
 intro B hB
 rcases List.mem_cons.1 hB with rfl | hB
 ·
  exact hm.2 B M0
 rcases List.mem_cons.1 hB with rfl | hB
 ·
  exact ⟨d4,fun C hC=>hm.2 C (.tail _ hC)⟩
 exact h.ok B (.tail _ hB)
theorem St.manyP {L':List As} (hp:L.Perm L') (h:St w0 M Z w (As.many L::l)):St w0 M Z w (As.many L'::l):=by
 obtain ⟨d1,d2⟩:=List.pairwise_cons.1 h.dis;have hm:(As.many L).ok Z w:=h.ok _ (by simp);have fe:∀x,(As.many L').fp x→(As.many L).fp x:=fun x ⟨C,hC,hx⟩=>⟨C,hp.mem_iff.2 hC,hx⟩;refine ⟨h.chg,h.zlt,?_,?_,.cons (fun B hB x hx=>d1 B hB x (fe x hx)) d2,?_⟩
 ·
  intro B hB x hx
  rcases List.mem_cons.1 hB with rfl | hB
  ·
   exact h.zfp _ M0 x (fe x hx)
  exact h.zfp B (.tail _ hB) x hx
 ·
  intro B hB x hx
  rcases List.mem_cons.1 hB with rfl | hB
  ·
   exact h.org _ M0 x (fe x hx)
  exact h.org B (.tail _ hB) x hx
 intro B hB
 rcases List.mem_cons.1 hB with rfl | hB
 ·
  exact ⟨hm.1.perm hp (fun h x hx hx2=>h x hx2 hx),fun C hC=>hm.2 C (hp.mem_iff.2 hC)⟩
 exact h.ok B (.tail _ hB)
end
theorem run_eqBool {P:Program} {w:World} {T:TypeId} (hT:P.underlying T=some .bool) (p q:Bool):(Op.equalIn 10000 T (.bool p) (.bool q)).run P w=.ok (p == q) w:=by
 rw [show (10000:Nat)=9999+1 from rfl]
 unfold Op.equalIn
 simp [run_underlying hT]
theorem PV.eqB {P:Program} {kv:KV} {w:World} {T U ty:TypeId} {x y:Operand} {p q:Bool} (hT:P.underlying T=some .bool) (hx:ev kv x=some (.bool p)) (hy:ev kv y=some (.bool q)):PV P (.binOp .eql T x y U) ty kv w (.bool (p == q)):=
 ⟨rfl,by simp [known,opers,hx,hy],fun _ _ _ _=>by
  simp only [execOp,lkO_of hx,lkO_of hy]
  simp [eqGuard,binOp,Op.equal,Op.maxDepth,run_eqBool hT]⟩
structure RE where
 key:Key
 a:Option Addr
 n:Nat
 c:Nat
 reads:List Key
def RE.as (EK:Nat) (e:RE):As:=As.os RR.key EK 2 e.a e.n e.c e.reads
def RR.rcdL (Lt:List RE):RR Rec where
 r _ _ x row:=∃a n c,row=x.row a n c∧(⟨x.key,a,n,c,x.reads⟩:RE)∈Lt∧x.reads.length≤4000
 mono _ h:=h
 st _ _ h:=h
 cut h:=h
theorem Ow.rel {α:Type} {R R':RR α} {E k n c:Nat} {a:Option Addr} {xs:List α} {Z:Nat→Prop} {w:World} (h:Ow R E k Z w a n c xs) (f:∀x row,R.r Z w x row→R'.r Z w x row):Ow R' E k Z w a n c xs:=by
 obtain ⟨hn,rows,hl,hk,h1,hx⟩:=h;exact ⟨hn,rows,hl,hk,h1,fun i x r h1 h2=>f x r (hx i x r h1 h2)⟩
theorem Ow.relM {α:Type} {R R':RR α} {E k n c:Nat} {a:Option Addr} {xs:List α} {Z:Nat→Prop} {w:World} (h:Ow R E k Z w a n c xs) (f:∀x∈xs,∀row,R.r Z w x row→R'.r Z w x row):Ow R' E k Z w a n c xs:=by
 obtain ⟨hn,rows,hl,hk,h1,hx⟩:=h;exact ⟨hn,rows,hl,hk,h1,fun i x r h1 h2=>f x (List.mem_of_getElem? h1) r (hx i x r h1 h2)⟩
theorem St.manyPick {w0 w:World} {M Z:Nat→Prop} {l:List As} {EK:Nat} {Lt:List RE} {e:RE} (he:e∈Lt) (h:St w0 M Z w (As.many (Lt.map (RE.as EK))::l)):∃L1 L2,Lt=L1++e::L2∧St w0 M Z w (As.os RR.key EK 2 e.a e.n e.c e.reads::As.many ((L1++L2).map (RE.as EK))::l):=by
 obtain ⟨L1,L2,rfl⟩:=List.append_of_mem he;refine ⟨L1,L2,rfl,?_⟩;have hp:((L1++e::L2).map (RE.as EK)).Perm ((e::(L1++L2)).map (RE.as EK)):=List.Perm.map _ List.perm_middle;exact (St.manyP hp h).manyOut
theorem St.manyF {w0 w:World} {M Z:Nat→Prop} {l:List As} {EK:Nat} {Lt:List RE} (hl:∀e∈Lt,e.reads.length≤4000) (h:St w0 M Z w (As.many (Lt.map (RE.as EK))::l)):St w0 M (fun x=>Z x∨(As.many (Lt.map (RE.as EK))).fp x) w l∧∀e∈Lt,Rd RR.key 2 (fun x=>Z x∨(As.many (Lt.map (RE.as EK))).fp x) w e.a e.n e.c e.reads:=by
 have hm:(As.many (Lt.map (RE.as EK))).ok Z w:=h.ok _ M0
 have h1:∀e∈Lt,Rd RR.key 2 (fun x=>Z x∨(As.many (Lt.map (RE.as EK))).fp x) w e.a e.n e.c e.reads:=fun e he=>by
  have h2:=hm.2 _ (List.mem_map_of_mem (f:=RE.as EK) he);have h3:Ow RR.key EK 2 Z w e.a e.n e.c e.reads:=As.gs h2
  refine (h3.rd (by have:=hl e he;omega)).mono fun x hx=>hx.imp id fun hx=>⟨_,List.mem_map_of_mem (f:=RE.as EK) he,hx⟩
 refine ⟨?_,h1⟩;have h2:=h.freeze (A:=As.many (Lt.map (RE.as EK))) (B:=As.many []) ⟨.nil,fun A hA=>by cases hA⟩ (fun x hx=>by obtain ⟨A,hA,_⟩:=hx;cases hA);exact h2.drop
end Go.Rc

namespace Go.Rc
open Go
def AllRight (rules:List Rule) (x:Bas):Prop:=∀r∈x.recs,∃i:Nat,i<rules.length∧r=rightR rules x.inputs x.revision i
def WrongR (y y':Rec) (f:Int):Prop:=
 (f=1∧∃v:ByteArray,v≠y.value∧(v.size:Int)≤1073741824∧y'={y with value:=v})∨(f=2∧y'={y with reads:=y.reads++[cellK 9],cost:=y.cost+1})∨(f=5∧y'={y with cost:=y.cost+1})
theorem WrongR.key {y y':Rec} {f:Int} (h:WrongR y y' f):y'.key=y.key∧y'.verified=y.verified:=by
 rcases h with ⟨_,v,_,_,rfl⟩ | ⟨_,rfl⟩ | ⟨_,rfl⟩ <;> exact ⟨rfl,rfl⟩
section
variable {rules:List Rule} {inp:List Inp} {rev:Int} (hR:rulesOk rules)
include hR
theorem okRec_right {i:Nat} (hi:i<rules.length) (j:Nat):okRec rules inp j (rightR rules inp rev i)=true:=by
 have h1:okVal rules inp (rightR rules inp rev i)=true:=by unfold okVal rightR;simp
 have h2:okReads rules inp (rightR rules inp rev i)=true:=by unfold okReads rightR;simp [readsK_ofK hR hi]
 have h3:okCost (rightR rules inp rev i)=true:=by unfold okCost rightR;simp
 match j with
 | 0=>exact h1
 | 1=>exact h2
 | 2=>rfl
 | 3=>exact h1
 | j+4=>exact h3
theorem auditTo_right {x:Bas} (h:AllRight rules x):auditTo rules x.inputs x.recs 5=[]:=by
 have h1:∀j,x.recs.all (okRec rules x.inputs j)=true:=fun j=>List.all_eq_true.2 fun r hr=>by
  obtain ⟨i,hi,rfl⟩:=h r hr;exact okRec_right hR hi j
 unfold auditTo
 rw [List.filter_eq_nil_iff.2 (fun j _=>by simp only [h1 j];simp)]
 rfl
theorem auditTo_wrong {x:Bas} (h:AllRight rules x) {j:Nat} (hj:j<x.recs.length) {y':Rec} {f:Int} (hw:WrongR x.recs[j] y' f):f∈auditTo rules x.inputs (x.recs.set j y') 5:=by
 have hy:y'∈x.recs.set j y':=List.mem_iff_getElem.2 ⟨j,by simpa using hj,by simp⟩
 have bad:∀q:Nat,q<5→okRec rules x.inputs q y'=false→((q:Int)+1)∈auditTo rules x.inputs (x.recs.set j y') 5:=fun q hq hb=>by
  unfold auditTo
  refine List.mem_map.2 ⟨q,List.mem_filter.2 ⟨List.mem_range.2 hq,?_⟩,rfl⟩;rw [List.all_eq_false.2 ⟨y',hy,by simp [hb]⟩]
  rfl
 obtain ⟨i,hi,hri⟩:=h _ (List.getElem_mem hj)
 generalize x.recs[j]=y at hw hri
 subst hri
 rcases hw with ⟨rfl,v,hv,_,rfl⟩ | ⟨rfl,rfl⟩ | ⟨rfl,rfl⟩
 ·
  exact bad 0 (by omega) (by show okVal _ _ _=false;unfold okVal rightR;simp;exact fun e=>hv e.symm)
 ·
  refine bad 1 (by omega) ?_
  show okReads _ _ _=false
  unfold okReads rightR
  simp only [readsK_ofK hR hi,decide_eq_false_iff_not];intro e
  have:=congrArg List.length e
  simp at this
 refine bad 4 (by omega) ?_
 show okCost _=false
 unfold okCost rightR
 simp
 omega
end
theorem findR_set:∀{l:List Rec} {j:Nat} {y':Rec} (k:Key) (_:Srt l) (hj:j<l.length) (_:y'.key=l[j].key),findR (l.set j y') k=if l[j].key=k then some y' else findR l k
 | [],j,_,_,_,hj,_=>by simp at hj
 | x::xs,0,y',k,_,_,hk=>by
  have hk:y'.key=x.key:=hk
  unfold findR
  simp only [List.set_cons_zero,List.find?_cons,List.getElem_cons_zero,hk]
  by_cases h:x.key=k
  ·
   simp [h]
  have h4:(x.key == k)=false:=by simpa using h
  simp [h,h4]
 | x::xs,j+1,y',k,hs,hj,hk=>by
  obtain ⟨h1,h2⟩:=List.pairwise_cons.1 hs
  have hj':j<xs.length:=by simpa using hj
  have ih:=findR_set (l:=xs) (j:=j) (y':=y') k h2 hj' hk
  have hne:x.key≠xs[j].key:=fun e=>by
   have h3:=h1 _ (List.getElem_mem hj');rw [e] at h3
   have:=cmpK_swap xs[j].key xs[j].key
   omega
  unfold findR at ih ⊢
  simp only [List.set_cons_succ,List.find?_cons,List.getElem_cons_succ]
  by_cases h:x.key=k
  ·
   subst h
   simp [Ne.symm hne]
  have h4:(x.key == k)=false:=by simpa using h
  simp only [h4];exact ih
theorem right_wrong {rules:List Rule} {x:Bas} (hR:rulesOk rules) (h:AllRight rules x) (hs:Srt x.recs) (hf:∀i:Nat,i<rules.length→findR x.recs (ofK rules (i:Int))=some (rightR rules x.inputs x.revision i)) {j:Nat} (hj:j<x.recs.length) {y':Rec} {f:Int} (hw:WrongR x.recs[j] y' f) :
  (((List.range rules.length).map fun i:Nat=>ofK rules (i:Int)).all fun k=>decide ((recOf (x.recs.set j y') k).value=valOf rules x.inputs k))=decide (f≠1):=by
 obtain ⟨i0,hi0,hri⟩:=h _ (List.getElem_mem hj)
 have hk0:x.recs[j].key=ofK rules (i0:Int):=by rw [hri];rfl
 have hv0:x.recs[j].value=valOf rules x.inputs (ofK rules (i0:Int)):=by rw [hri];rfl
 have hrec:∀i:Nat,i<rules.length→recOf (x.recs.set j y') (ofK rules (i:Int))=if i=i0 then y' else rightR rules x.inputs x.revision i:=fun i hi=>by
  unfold recOf
  rw [findR_set _ hs hj hw.key.1,hk0]
  by_cases e:i=i0
  ·
   subst e;simp
  rw [if_neg (fun h=>e (ofK_inj hR hi hi0 h.symm)),hf i hi,if_neg e];rfl
 have hval:f=1∧y'.value≠x.recs[j].value∨f≠1∧y'.value=x.recs[j].value:=by
  rcases hw with ⟨rfl,v,hv,_,rfl⟩ | ⟨rfl,rfl⟩ | ⟨rfl,rfl⟩
  ·
   exact .inl ⟨rfl,hv⟩
  ·
   exact .inr ⟨by decide,rfl⟩
  exact .inr ⟨by decide,rfl⟩
 rcases hval with ⟨rfl,hv⟩ | ⟨hf1,hv⟩
 ·
  rw [decide_eq_false (by simp)];refine List.all_eq_false.2 ⟨ofK rules (i0:Int),List.mem_map.2 ⟨i0,List.mem_range.2 hi0,rfl⟩,?_⟩;rw [hrec i0 hi0,if_pos rfl,← hv0]
  simpa using hv
 rw [decide_eq_true hf1];refine List.all_eq_true.2 fun k hk=>?_;obtain ⟨i,hi,rfl⟩:=List.mem_map.1 hk;have hi:=List.mem_range.1 hi;rw [hrec i hi]
 by_cases e:i=i0
 ·
  subst e;rw [if_pos rfl,hv,hv0];simp
 rw [if_neg e];simp [rightR]
theorem goodR_right {rules:List Rule} (hR:rulesOk rules) {inp:List Inp} {rev:Int} (h0:0≤rev) (h1:rev≤1073741824) {i:Nat} (hi:i<rules.length):GoodR rules (rightR rules inp rev i):=by
 have h24:=hR.len;exact ⟨.rule hi (by omega),isInput_ofK hi (by omega),fun a ha=>(readsV_knd hR hi a ha).knd hR,rightR_valid hR hi h0 h1⟩
theorem goodB_right {rules:List Rule} (hR:rulesOk rules) {x:Bas} (hb:basOk x) (hG:InpG x.revision x.inputs) (h:AllRight rules x) (hs:Srt x.recs):GoodB rules x:=by
 obtain ⟨_,b2,b3,b4,b5,b6⟩:=hb;refine ⟨b3,b4,⟨hG.1,hG.2.1⟩,fun y hy=>(hG.2.2 y hy).1,b5,fun r hr=>?_,hs,b6.1,fun r hr=>?_⟩
 ·
  obtain ⟨i,hi,rfl⟩:=h r hr;exact goodR_right hR b3 b4 hi
 obtain ⟨i,hi,rfl⟩:=h r hr;exact Int.le_refl _
theorem up_right {rules:List Rule} {x:Bas} (h:AllRight rules x):∀r∈x.recs,r.verified=x.revision:=fun r hr=>by
 obtain ⟨i,hi,rfl⟩:=h r hr
 rfl
theorem goodR_wrong {rules:List Rule} (hR:rulesOk rules) {inp:List Inp} {rev:Int} (h0:0≤rev) (h1:rev≤1073741824) {i:Nat} (hi:i<rules.length) {y':Rec} {f:Int} (hw:WrongR (rightR rules inp rev i) y' f):GoodR rules y':=by
 obtain ⟨g1,g2,g3,g4⟩:=goodR_right hR h0 h1 hi (inp:=inp)
 have h6:(readsV rules inp i).length≤6:=by rw [readsV_len];exact asksN_le hR hi
 obtain ⟨v1,v2,v3,v4,v5,v6,v7,v8,v9,v10,v11⟩:=(validRec_iff _).1 g4;have hc:(rightR rules inp rev i).cost=1+((readsV rules inp i).length:Int):=rfl;have hrd:(rightR rules inp rev i).reads=readsV rules inp i:=rfl
 rcases hw with ⟨_,v,_,hv,rfl⟩ | ⟨_,rfl⟩ | ⟨_,rfl⟩
 ·
  exact ⟨g1,g2,g3,(validRec_iff _).2 ⟨v1,v2,v3,hv,v5,v6,v7,v8,v9,v10,v11⟩⟩
 ·
  refine ⟨g1,g2,fun a ha=>?_,(validRec_iff _).2 ⟨fun a ha=>?_,v2,v3,v4,?_,v6,v7,v8,?_,?_,v11⟩⟩
  ·
   rcases List.mem_append.1 ha with ha | ha
   ·
    exact g3 a ha
   rw [List.mem_singleton.1 ha];exact .cell (n:=9) (by omega)
  ·
   rcases List.mem_append.1 ha with ha | ha
   ·
    exact v1 a ha
   rw [List.mem_singleton.1 ha];exact Knd.valid (rules:=[]) (.cell (n:=9) (by omega))
  ·
   show (((rightR rules inp rev i).reads++[cellK 9]).length:Int)≤4000
   rw [List.length_append,hrd];simp;omega
  ·
   show 1≤(rightR rules inp rev i).cost+1
   omega
  show (rightR rules inp rev i).cost+1≤_
  omega
 refine ⟨g1,g2,g3,(validRec_iff _).2 ⟨v1,v2,v3,v4,v5,v6,v7,v8,?_,?_,v11⟩⟩
 ·
  show 1≤(rightR rules inp rev i).cost+1
  omega
 show (rightR rules inp rev i).cost+1≤_
 omega
theorem mem_set {α:Type} {l:List α} {j:Nat} {y r:α} (h:r∈l.set j y):r=y∨r∈l:=by
 rcases List.mem_or_eq_of_mem_set h with h | h
 ·
  exact .inr h
 exact .inl h
theorem srt_set:∀{l:List Rec} {j:Nat} {y':Rec} (_:Srt l) (hj:j<l.length) (_:y'.key=l[j].key),Srt (l.set j y')
 | [],_,_,_,hj,_=>by simp at hj
 | x::xs,0,y',hs,_,hk=>by
  obtain ⟨h1,h2⟩:=List.pairwise_cons.1 hs;have hk:y'.key=x.key:=hk;exact List.pairwise_cons.2 ⟨fun r hr=>by rw [hk];exact h1 r hr,h2⟩
 | x::xs,j+1,y',hs,hj,hk=>by
  obtain ⟨h1,h2⟩:=List.pairwise_cons.1 hs
  have hj':j<xs.length:=by simpa using hj
  have hk:y'.key=xs[j].key:=hk;refine List.pairwise_cons.2 ⟨fun r hr=>?_,srt_set h2 hj' hk⟩
  rcases mem_set hr with rfl | hr
  ·
   rw [hk];exact h1 _ (List.getElem_mem hj')
  exact h1 r hr
theorem goodB_wrong {rules:List Rule} (hR:rulesOk rules) {x:Bas} (hx:GoodB rules x) (h:AllRight rules x) {j:Nat} (hj:j<x.recs.length) {y':Rec} {f:Int} (hw:WrongR x.recs[j] y' f):GoodB rules ⟨x.revision,x.inputs,x.recs.set j y'⟩∧∀r∈x.recs.set j y',r.verified=x.revision:=by
 obtain ⟨i,hi,hri⟩:=h _ (List.getElem_mem hj);obtain ⟨a1,a2,a3,a4,a5,a6,a7,a8,a9⟩:=hx;have hk:=hw.key
 have hv:∀r∈x.recs.set j y',r.verified=x.revision:=fun r hr=>by
  rcases mem_set hr with rfl | hr
  ·
   rw [hk.2];exact up_right h _ (List.getElem_mem hj)
  exact up_right h r hr
 refine ⟨⟨a1,a2,a3,a4,a5,fun r hr=>?_,srt_set a7 hj hk.1,by simpa using a8,fun r hr=>by rw [hv r hr];exact Int.le_refl _⟩,hv⟩
 rcases mem_set hr with rfl | hr
 ·
  rw [hri] at hw;exact goodR_wrong hR a1 a2 hi hw
 exact a6 r hr
end Go.Rc

namespace Go.Rc
open Go
section
variable {rules:List Rule} {inp:List Inp} {val:Key→ByteArray}
theorem upAll_more {f g:Nat} (h:f≤g):∀{l:List Key} {s s':ES},upAllV rules val f s l=some s'→upAllV rules val g s l=some s'
 | [],s,s',hu=>hu
 | k::r,s,s',hu=>by
  simp only [upAllV] at hu ⊢;obtain ⟨t,h1,h2⟩:=Option.bind_eq_some_iff.1 hu;rw [up_more h h1];exact upAll_more h h2
theorem upAll_some (hR:rulesOk rules):∀(l:List Key) (s:ES),Good rules inp s→(∀k∈l,Knd rules k)→∃f s',upAllV rules val f s l=some s'
 | [],s,_,_=>⟨0,s,rfl⟩
 | k::r,s,hg,hk=>by
  obtain ⟨f,t,h1⟩:=up_some (val:=val) hR _ s k hg (hk k (by simp)) (Nat.le_refl _);have h2:=(engine_good (val:=val) hR f).1 _ _ _ h1 hg (hk k (by simp))
  obtain ⟨g,s',h3⟩:=upAll_some hR r t h2.1 fun k hk'=>hk k (by simp [hk'])
  refine ⟨max f g,s',?_⟩;simp only [upAllV];rw [up_more (Nat.le_max_left f g) h1];exact upAll_more (Nat.le_max_right f g) h3
theorem upAll_ran (hR:rulesOk rules) {f:Nat}:∀{l:List Key} {s s':ES},upAllV rules val f s l=some s'→Good rules inp s→(∀k∈l,Knd rules k)→s'.ran.length+opn rules s'≤s.ran.length+opn rules s
 | [],s,s',h,_,_=>by simp only [upAllV,Option.some.injEq] at h;subst h;exact Nat.le_refl _
 | k::r,s,s',h,hg,hk=>by
  simp only [upAllV] at h;obtain ⟨t,h1,h2⟩:=Option.bind_eq_some_iff.1 h;have h3:=(engine_good (val:=val) hR f).1 _ _ _ h1 hg (hk k (by simp));have h4:=(engine_keep (val:=val) hR f).1 _ _ _ h1 hg (hk k (by simp))
  have h5:=upAll_ran hR h2 h3.1 fun k hk'=>hk k (by simp [hk'])
  exact Nat.le_trans h5 h4.2.2
end
theorem right_ofK {rules:List Rule} (hR:rulesOk rules) {i:Nat} (hi:i<rules.length):rightK rules (ofK rules (i:Int))=true:=by
 have h24:=hR.len
 unfold rightK
 rw [Knd.valid (rules:=rules) (.rule hi (by omega)),number_ofK hi (by omega)]
 simp
def goalsOf (rules:List Rule) (n:Nat):List Key:=(List.range n).map fun i:Nat=>ofK rules (i:Int)
theorem goalsOf_succ (rules:List Rule) (n:Nat):goalsOf rules (n+1)=goalsOf rules n++[ofK rules (n:Int)]:=by
 unfold goalsOf
 rw [List.range_succ,List.map_append]
 rfl
theorem begin_base {rules:List Rule} (hR:rulesOk rules) {rev:Int} {inp:List Inp} (hb:basOk ⟨rev,inp,[]⟩):∃(f:Nat) (s':ES) (rs:List Rec),checkE rules ⟨rev,inp,[]⟩ (goalsOf rules rules.length)=0∧Good rules inp ⟨⟨rev,inp,[]⟩,[],[],0⟩∧(∀k∈goalsOf rules rules.length,Knd rules k)∧upAllV rules (valOf rules inp) f ⟨⟨rev,inp,[]⟩,[],[],0⟩ (goalsOf rules rules.length)=some s'∧s'.ran.length≤1000000∧s'.e=0∧s'.base ⟨rev,inp,[]⟩=⟨rev,inp,rs⟩∧basOk ⟨rev,inp,rs⟩∧Srt rs∧AllRight rules ⟨rev,inp,rs⟩∧∀i:Nat,i<rules.length→findR rs (ofK rules (i:Int))=some (rightR rules inp rev i):=by
 have h24:=hR.len;have hg:Good rules inp ⟨⟨rev,inp,[]⟩,[],[],0⟩:=⟨rfl,by simp,by simp,by simp,by simp,fun k=>.inl rfl⟩
 have hk:∀k∈goalsOf rules rules.length,Knd rules k:=fun k hk=>by
  obtain ⟨i,hi,rfl⟩:=List.mem_map.1 hk
  have:=List.mem_range.1 hi
  exact .rule this (by omega)
 obtain ⟨f,s',hu⟩:=upAll_some (val:=valOf rules inp) hR _ _ hg hk;obtain ⟨e0,hrev,hinp,hbo,hs,hrt,hf⟩:=new_base hR hb hu;have hran:=upAll_ran hR hu hg hk;have hop:opn rules ⟨⟨rev,inp,[]⟩,[],[],0⟩≤rules.length:=cnt_n _ _
 have heq:s'.b=⟨rev,inp,s'.b.recs⟩:=by
  rw [← hrev,← hinp]
 refine ⟨f,s',s'.b.recs,?_,hg,hk,hu,?_,e0,?_,by rw [← heq];exact hbo,hs,hrt,hf⟩
 ·
  unfold checkE
  rw [if_neg (fun h=>h hR),if_neg (fun h=>h hb),if_neg (by unfold goalsOf;simp;omega),if_pos ?_];refine List.all_eq_true.2 fun k hk'=>?_;obtain ⟨i,hi,rfl⟩:=List.mem_map.1 hk';exact right_ofK hR (List.mem_range.1 hi)
 ·
  have h1:([]:List Key).length=0:=rfl;simp only [h1] at hran
  omega
 unfold ES.base
 rw [if_pos e0];exact heq
theorem mem_step {bl:List Int} {q:Nat} (hq:q<bl.length) {fk:Int}:(decide (fk∈bl.take q) || decide (bl[q]=fk))=decide (fk∈bl.take (q+1)):=by
 have h:fk∈bl.take (q+1)↔(fk∈bl.take q∨bl[q]=fk):=by
  rw [List.take_succ_eq_append_getElem hq,List.mem_append,List.mem_singleton];exact ⟨fun h=>h.imp id Eq.symm,fun h=>h.imp id Eq.symm⟩
 rw [Bool.eq_iff_iff];simp only [Bool.or_eq_true,decide_eq_true_eq,h]
theorem goals_some {rules:List Rule} {rs:List Rec} {rev:Int} {inp:List Inp} (hs:Srt rs) (hf:∀i:Nat,i<rules.length→findR rs (ofK rules (i:Int))=some (rightR rules inp rev i)) {j:Nat} (hj:j<rs.length) {y':Rec} {f:Int} (hw:WrongR rs[j] y' f):∀k∈goalsOf rules rules.length,∃i:Nat,i<rules.length∧k=ofK rules (i:Int)∧(findR (rs.set j y') k).isSome=true:=fun k hk=>by
 obtain ⟨i,hi,rfl⟩:=List.mem_map.1 hk;have hi:=List.mem_range.1 hi;refine ⟨i,hi,rfl,?_⟩;rw [findR_set _ hs hj hw.key.1]
 split
 ·
  rfl
 rw [hf i hi];rfl
theorem goals_len {rules:List Rule} (hR:rulesOk rules):(goalsOf rules rules.length).length≤1000000:=by
 have:=hR.len
 unfold goalsOf
 simp
 omega
theorem pick_other {rs:List Rec} (hs:Srt rs) {j:Nat} (hj:j<rs.length) {y x:Rec} (hy:y.reads≠rs[j].reads) (hx:x∈rs.set j y):¬(x.key=rs[j].key∧x.reads=rs[j].reads):=fun ⟨h1,h2⟩=>by
 obtain ⟨i,hi,rfl⟩:=List.mem_iff_getElem.1 hx;rw [List.getElem_set] at h1 h2
 split at h1
 ·
  rename_i e
  rw [if_pos e] at h2;exact hy h2
 rename_i e
 have hi':i<rs.length:=by simpa using hi
 rcases Nat.lt_trichotomy i j with h | h | h
 ·
  have h3:cmpK rs[i].key rs[j].key<0:=List.pairwise_iff_getElem.1 hs i j hi' hj h;rw [h1] at h3
  have:=cmpK_swap rs[j].key rs[j].key
  omega
 ·
  exact e h.symm
 have h3:cmpK rs[j].key rs[i].key<0:=List.pairwise_iff_getElem.1 hs j i hj hi' h;rw [h1] at h3
 have:=cmpK_swap rs[j].key rs[j].key
 omega
theorem Ow.wrong {rs:List Rec} (hs:Srt rs) {j:Nat} (hj:j<rs.length) {y:Rec} (hk:y.key=rs[j].key) (hy:y.reads≠rs[j].reads) {Lt L1 L2:List RE} {z1 f:Option Addr} {z2 z3 g c:Nat} (hLt:Lt=L1++⟨rs[j].key,z1,z2,z3,rs[j].reads⟩::L2) {a:Option Addr} {n e E:Nat} {Z:Nat→Prop} {w:World} (hn:Rd RR.key 2 Z w a n e y.reads) (hf:∀x∈L1++L2,Rd RR.key 2 Z w x.a x.n x.c x.reads) (h:Ow (RR.rcdL (⟨rs[j].key,a,n,e,y.reads⟩::Lt)) E 8 Z w f g c (rs.set j y)):Ow RR.rcd E 8 Z w f g c (rs.set j y):=by
 refine Ow.relM h fun x hx row ⟨a',n',c',h1,h2,h3⟩=>⟨a',n',c',h1,?_,h3⟩
 rcases List.mem_cons.1 h2 with h2 | h2
 ·
  injection h2 with e1 e2 e3 e4 e5
  subst e2 e3 e4;rw [e5];exact hn
 rw [hLt] at h2
 rcases List.mem_append.1 h2 with h2 | h2
 ·
  exact hf _ (List.mem_append.2 (.inl h2))
 rcases List.mem_cons.1 h2 with h2 | h2
 ·
  injection h2 with e1 e2 e3 e4 e5
  exact absurd ⟨e1,e5⟩ (pick_other hs hj hy hx)
 exact hf _ (List.mem_append.2 (.inr h2))
theorem basOk0:basOk ⟨0,[],[]⟩:=⟨fun i y h=>by simp at h,fun i r h=>by simp at h,by decide,by decide,by decide,⟨by decide,fun i x h=>by simp at h⟩⟩
theorem InpG.basOk {rev:Int} {inp:List Inp} (h:InpG rev inp) (h0:0≤rev) (h1:rev≤1073741824) (h6:inp.length≤64):basOk ⟨rev,inp,[]⟩:=
 ⟨inpsOk_iff.2 ⟨h.1,h.2.1⟩,fun i r h=>by simp at h,h0,h1,h6,⟨Nat.zero_le _,fun i x h=>by simp at h⟩⟩
end Go.Rc

