/- Base of the proof: frames, memory, ownership, and the plain meaning of rule systems. Conditions: as each lemma says. -/
import Derived.Test.YthljjmhdkbeghaaGreatDoorIBg
import Derived.Test.YthljjmhdkbeghaaGreatDoorIBf
import Derived.Deep.Slices
import Derived.SizedLaws
import Derived.Lib.LaidU8
import Derived.Lib.LaidTab
import Derived.LaidLaws
import GoSem.ClaimFn
import Derived.JoinedOf
import Derived.LaidOnce
import Derived.TwinInFollowed
import Derived.WideShapes
set_option linter.unusedVariables false
set_option linter.unusedSimpArgs false
set_option linter.unusedSectionVars false
namespace Go.Rc
open Go
section
variable {rules:List Rule} {inp:List Inp} {k:Key} {L:List Key}
theorem below_len (hR:rulesOk rules) (hk:Knd rules k) (hn:L.Nodup) (hL:∀y,y∈L↔Rch rules inp k y):L.length≤124:=by
 have:=knd_len hn fun x hx=>((hL x).1 hx).knd hR hk
 have:=hR.len
 omega
end
end Go.Rc

namespace Go.Rc
open Go
section
variable {rules:List Rule} {inp:List Inp}
variable {lo n q v:Nat} {S:List Int} {r:Rule}
end
end Go.Rc

namespace Go.Rc
open Go
section
variable {rules:List Rule} {inp inp':List Inp}
theorem Rch.trans {k x y:Key} (h:Rch rules inp k x) (h2:Rch rules inp x y):Rch rules inp k y:=by
 induction h2 with
 | refl=>exact h
 | step _ hz ih=>exact .step ih hz
theorem ring_reads (hR:rulesOk rules) {i:Nat} (hi:i<rules.length) (hr:ringAt rules i=true) {x:Ask} (hx:x∈rules[i].asks):askKey rules x∈readsK rules inp (ofK rules (i:Int)):=by
 rw [readsK_ofK hR hi]
 unfold readsV
 rw [ring_runA hR hi hr _ _ (by rw [asksN_eq hi];exact Nat.le_refl _),asksN_eq hi,List.take_length];exact List.mem_map_of_mem hx
theorem reach_rch (hR:rulesOk rules) {i j:Nat} (hi:i<rules.length) (hr:ringAt rules i=true) (h:RReach rules i j):Rch rules inp (ofK rules (i:Int)) (ofK rules (j:Int)):=by
 induction h with
 | refl=>exact .refl
 | step h1 ha ih=>
  obtain ⟨h2,h3⟩:=reach_ring hi hr h1;obtain ⟨x,hx,_,hk⟩:=ask_inside h2 ha;exact .step ih (hk ▸ ring_reads hR h2 h3 hx)
def Same (rules:List Rule) (inp inp':List Inp) (k:Key):Prop:=∀y,Rch rules inp k y→isInput y=true→cellOf inp y=cellOf inp' y
theorem Same.at {k x:Key} (h:Same rules inp inp' k) (hx:Rch rules inp k x):Same rules inp inp' x:=fun y hy=>h y (hx.trans hy)
theorem same_val (hR:rulesOk rules):∀(i:Nat),i<rules.length→Same rules inp inp' (ofK rules (i:Int))→valOf rules inp (ofK rules (i:Int))=valOf rules inp' (ofK rules (i:Int)):=by
 have cell:∀y,isInput y=true→Same rules inp inp' y→valOf rules inp y=valOf rules inp' y:=fun y hy h=>by
  unfold valOf
  rw [if_pos hy,if_pos hy];exact h y .refl hy
 intro i
 induction i using Nat.strongRecOn with
 | _ i ih=>
  intro hi h
  cases hr:ringAt rules i with
  | false=>
   have e:runA (turnV rules (ofK rules (i:Int))) (valOf rules inp) (asksN rules i)=runA (turnV rules (ofK rules (i:Int))) (valOf rules inp') (asksN rules i):=runA_congr _ fun m hm=>by
    have hmem:=List.mem_of_getElem? (readsV_get (inp:=inp) hm);have hs:Same rules inp inp' (askQ rules inp i m):=h.at (.step .refl (by rw [readsK_ofK hR hi];exact hmem))
    show valOf rules inp (askQ rules inp i m)=valOf rules inp' (askQ rules inp i m)
    rcases readsV_knd hR hi _ hmem with ⟨n,hn,hk⟩ | ⟨j,hj,hk,_,hlt,_⟩
    ·
     exact cell _ (by rw [hk];exact isInput_cellK (by omega)) hs
    rw [hk] at hs ⊢;exact ih j (hlt hr) hj hs
   have h1:=valOf_turn (inp:=inp) hR hi;have h2:=valOf_turn (inp:=inp') hR hi;rw [e,h2] at h1;exact (congrArg Turn.value h1).symm
  | true=>
   have e:rv rules inp i=rv rules inp' i:=by
    apply Nat.eq_of_testBit_eq
    intro b;rw [Bool.eq_iff_iff]
    show (ringB rules (valOf rules inp) i).testBit b=true↔(ringB rules (valOf rules inp') i).testBit b=true
    rw [ringB_bit hR hi hr,ringB_bit hR hi hr];refine exists_congr fun j=>?_;refine and_congr_right fun hj=>?_;obtain ⟨hjl,hjr⟩:=reach_ring hi hr hj;rw [baseV_bit hjl,baseV_bit hjl];refine or_congr Iff.rfl (exists_congr fun x=>and_congr_right fun hx=>and_congr_right fun ho=>?_);have hs:Same rules inp inp' (askKey rules x):=h.at ((reach_rch hR hi hr hj).trans (.step .refl (ring_reads hR hjl hjr hx)));have hlo:=reach_lo hR hj;have hbl:=blockLo_le rules i
    have hv:valOf rules inp (askKey rules x)=valOf rules inp' (askKey rules x):=by
     have hl:=askKey_lower hR hjl hjr hx ho
     rcases may_key hR hjl (ring_asks hR hjl hjr hx) with ⟨n,hn,hk⟩ | ⟨m,hm,hk,_⟩
     ·
      have hk:askKey rules x=cellK (n:Int):=hk;exact cell _ (by rw [hk];exact isInput_cellK (by omega)) hs
     have hk:askKey rules x=ofK rules (m:Int):=hk;rw [hk] at hs hl ⊢;have h24:=hR.len;rw [isInput_ofK hm (by omega),number_ofK hm (by omega)] at hl
     simp at hl
     exact ih m (by omega) hm hs
    rw [hv]
   rw [valOf_ofK hR hi,valOf_ofK hR hi,valI_ring hR hi hr,valI_ring hR hi hr,e]
end
end Go.Rc
namespace Go.Rc
open Go
theorem itoa_20 {v:Int} (h0:0≤v) (h1:v<20):(itoa v).size≤100:=by
 obtain ⟨n,rfl⟩:∃n:Nat,v=n:=⟨v.toNat,by omega⟩
 have:=itoa_size (n:=n) (by omega)
 omega
end Go.Rc

namespace Go.Rc
open Go
abbrev K0:Key:=⟨31,itoa ((0:Nat):Int)⟩
abbrev v3:ByteArray:=itoa 3
abbrev s1:ES:=⟨⟨0,[],[rec1 0 v3]⟩,[],[K0],0⟩
end Go.Rc
namespace Go.Rc
open Go
abbrev v4:ByteArray:=⟨#[52]⟩
end Go.Rc

namespace Go.Rc
open Go
section
variable {P:Program} {kv:KV} {w:World} {T U ty:TypeId} {x y:Operand}
end
end Go.Rc
namespace Go.Rc
open Go
end Go.Rc

namespace Go.Rc
open Go
section
variable {H:Type} {enc:TypeId × Value→H} {P:Program} {w:World}
theorem weights_all {e:TypeId}:∀{l:List (DataW H)} {d:DataW H},d∈l→∀n∈d.weights P e,n∈DataW.weightsAll P e l
 | [],_,hd,_,_=>by cases hd
 | x::r,d,hd,n,hn=>by
  simp only [DataW.weightsAll,List.mem_append]
  rcases List.mem_cons.1 hd with rfl | hd
  ·
   exact .inl hn
  exact .inr (weights_all hd n hn)
def Lim (P:Program) (t:TypeId) (d:DataW H):Prop:=∀n∈d.weights P t,n≤reachBytes
theorem Lim.len {t e:TypeId} {xs ys:List (DataW H)} (h:Lim P t (.slice xs ys)) (ht:P.underlying t=some (.slice e)) (hb:1≤P.bytesOf e):xs.length≤140737488355328:=by
 have h1:=h ((xs.length+ys.length)*P.bytesOf e) (by simp only [DataW.weights,ht];exact List.mem_cons_self)
 unfold reachBytes at h1
 have h2:xs.length*1≤(xs.length+ys.length)*P.bytesOf e:=Nat.mul_le_mul (by omega) hb
 omega
theorem Lim.elem {t e:TypeId} {xs ys:List (DataW H)} (h:Lim P t (.slice xs ys)) (ht:P.underlying t=some (.slice e)) {d:DataW H} (hd:d∈xs):Lim P e d:=fun n hn=>
 h n (by simp only [DataW.weights,ht,List.mem_cons,List.mem_append];exact .inr (.inl (weights_all hd n hn)))
theorem Lim.each {ts:List TypeId} {ds:List (DataW H)} (h:(DataW.weightsEach P ts ds).all (·≤reachBytes)=true) {j:Nat} {t:TypeId} {d:DataW H} (ht:ts[j]?=some t) (hd:ds[j]?=some d):Lim P t d:=fun n hn=>by
 have:=List.all_eq_true.1 h n (DataW.weights_mem_each ht hd n hn)
 simpa using this
theorem open_lr {α:Type} [Inhabited α] {R:α→List Value→Prop} {t e:TypeId} {k fuel n c:Nat} {a:Option Addr} {d:DataW H} {p:List MemPlace} (ht:P.underlying t=some (.slice e)) (hk:P.cellsOf e=k) (hk1:1≤k) (hb:1≤P.bytesOf e)
  (hR:∀(m:Nat) (cs:List Value) (d:DataW H) (p:List MemPlace),DataW.trod enc P w 0 (fun _=>true) true m e cs=some (d,p)→cs.length=k→Lim P e d→∃x:α,R x cs)
  (h:DataW.trod enc P w 0 (fun _=>true) true fuel t [.slice a n c]=some (d,p)) (hl:Lim P t d):∃xs:List α,LR (fun b=>b<w.heap.size) w k R a n xs:=by
 rcases Deep.open_slice ht h with ⟨hc,_⟩ | ⟨a',len,cap,m,fu,D,Pl,hc,_,hle,_,hm,hx,hel⟩
 ·
  simp only [List.cons.injEq,Value.slice.injEq,and_true] at hc;obtain ⟨rfl,rfl,rfl⟩:=hc;exact ⟨[],⟨rfl,by omega,fun hx=>by simp at hx⟩⟩
 simp only [List.cons.injEq,Value.slice.injEq,and_true] at hc;obtain ⟨rfl,rfl,rfl⟩:=hc;simp only [Prod.mk.injEq] at hx;obtain ⟨rfl,_⟩:=hx;simp only [if_true] at hm
 have hn:n≤140737488355328:=by simpa using hl.len ht hb
 have each:∀i,i<n→∃q:α × List Value,w.cells? 0 (a'.add (i*k)) k=some q.2∧R q.1 q.2:=fun i hi=>by
  obtain ⟨cs',h1,h2⟩:=hel i (by omega);rw [hk] at h1;obtain ⟨x,hx⟩:=hR _ _ _ _ h2 (World.cells?_some h1).2.1 (hl.elem ht (List.mem_map.2 ⟨i,by simpa using hi,rfl⟩));exact ⟨(x,cs'),h1,hx⟩
 obtain ⟨q,hq⟩:=Deep.choose_lt each;refine ⟨(List.range n).map fun i=>(q i).1,⟨by simp,hn,fun {i x} hx=>?_⟩⟩
 obtain ⟨hi,rfl⟩:i<n∧(q i).1=x:=by
  rw [List.getElem?_map] at hx;obtain ⟨j,hj,hjx⟩:=Option.map_eq_some_iff.1 hx;rw [List.getElem?_eq_some_iff] at hj;obtain ⟨hj1,hj2⟩:=hj
  simp at hj1 hj2
  subst hj2;exact ⟨hj1,hjx⟩
 have hs:a'.spot=none:=by
  obtain ⟨_,hl0,hc0⟩:=World.cells?_some (hq 0 (by omega)).1;have h0:=hc0 0 (by omega);rw [List.getElem?_eq_getElem (by omega)] at h0
  have:=World.cell?_spot h0
  simpa [Addr.add] using this
 obtain ⟨b,o,s⟩:=a';simp only at hs;subst hs;obtain ⟨_,hcl,hcell⟩:=World.cells?_some (hq i hi).1
 have hr:w.rangeAt b (o+i*k) (q i).2:=fun j v hv=>by
  have hj:j<k:=by have:=(List.getElem?_eq_some_iff.1 hv).1;omega
  have:=hcell j hj
  rw [WideShapes.add_plain,WideShapes.add_plain] at this;rw [this,hv]
 refine ⟨b,o,(q i).2,rfl,hcl,(hq i hi).2,hr,?_,?_⟩ <;>
  exact World.block_lt_of_cell? w ⟨b,_,none⟩ (hr 0 _ (List.getElem?_eq_getElem (by omega)))
end
def ErrReads (P:Program) (w:World) (n:String):Prop:=∃(nm:String) (d:DataW Unit) (g t:Nat) (ms:Array (String × TypeId)),Lib.VarReads P w n (.iface nm d)∧P.globalNamed n=some g∧(P.globals[g]?).map (·.type)=some t∧P.underlying t=some (.interface ms)
theorem tab_of {P:Program} {w:World} {g t e:Nat} (hv:Lib.VarReads P w "internal/strconv.uint64pow10" (Lib.tabData .u64 Lib.pow10Tab)) (hg:P.globalNamed "internal/strconv.uint64pow10" = some g) (hty:(P.globals[g]?).map (·.type)=some t) (ht:P.underlying t=some (.array 20 e)) (he:P.underlying e=some (.int .u64))
  (hce:P.cellsOf e=1) (hct:P.cellsOf t=20) (hE1:ErrReads P w "strconv.ErrSyntax") (hE2:ErrReads P w "strconv.ErrRange"):Tab P (fun b=>b<w.heap.size) w:=by
 obtain ⟨g',t',cs,fuel,p,hg',ht',hvar,hd⟩:=hv;obtain rfl:=Option.some.inj (hg.symm.trans hg');obtain rfl:=Option.some.inj (hty.symm.trans ht');have hc:=Lib.cells_of_tab ht he hce hct hd
 have hT:Lib.TabIs P w "internal/strconv.uint64pow10" .u64 Lib.pow10Tab:=by
  unfold Lib.TabIs
  rw [hvar,← hc]
 have hlt:g<w.heap.size:=by
  unfold World.var? at hvar
  simp only [hg,Option.bind_some] at hvar
  split at hvar
  ·
   rename_i hh
   exact (Array.getElem?_eq_some_iff.1 hh).1
  cases hvar
 refine ⟨⟨g,hlt,hlt,fun w' e=>?_⟩,fun n hn g2 hg2=>?_⟩
 ·
  unfold Lib.TabIs World.var? at hT ⊢
  simp only [hg,Option.bind_some] at hT ⊢;rw [e];exact hT
 have hE:ErrReads P w n:=by
  rcases hn with rfl | rfl
  ·
   exact hE1
  exact hE2
 obtain ⟨nm,d,g3,t3,ms,⟨g4,t4,cs4,fuel4,p4,e1,e2,hv4,hd4⟩,e3,e4,e5⟩:=hE;obtain rfl:=Option.some.inj (e1.symm.trans hg2);obtain rfl:=Option.some.inj (e1.symm.trans e3);obtain rfl:=Option.some.inj (e2.symm.trans e4);obtain ⟨_,u,v,hcs,_,_⟩:=iface_of_trod e5 hd4
 unfold World.var? at hv4
 simp only [e1,Option.bind_some] at hv4
 split at hv4
 ·
  rename_i c0 x0 y0 hh
  obtain rfl:=Option.some.inj hv4;have hlt4:=(Array.getElem?_eq_some_iff.1 hh).1;refine ⟨hlt4,hlt4,.iface u v,.inr ⟨u,v,rfl⟩,fun w' e=>?_⟩;obtain rfl:c0=#[.iface u v]:=Array.toList_inj.1 hcs
  unfold World.cell?
  simp only [e,hh]
  first | done | rfl
 cases hv4
theorem Chg.belowB {w w':World} (h:Chg [] w w') (B:Nat) (hB:B≤w.heap.size):RowKit.Below B w w':=⟨h.os,h.tape,h.output,h.size,fun k hk=>h.block k (by omega) (by simp)⟩
end Go.Rc

namespace Go.Rc
open Go
def bitN (m f:Nat):Bool:=Nat.beq (Nat.land (Nat.shiftRight m f) 1) 1
def cloF (look:FuncId→Option Func) (P:Program):Nat→List FuncId→Nat→List FuncId→List FuncId
 | 0,_,_,seen=>seen.reverse
 | _,[],_,seen=>seen.reverse
 | n+1,f::todo,mask,seen=>
  match bitN mask f with
  | true=>cloF look P n todo mask seen
  | false=>cloF look P n ((look f).elim [] P.leadsTo++todo) (Nat.lor mask (Nat.shiftLeft 1 f)) (f::seen)
theorem bitN_eq (m f:Nat):bitN m f=m.testBit f:=by
 unfold bitN
 show Nat.beq ((m >>> f) &&& 1) 1=m.testBit f
 rw [Nat.testBit,Nat.and_comm];have h:=Nat.and_one_is_mod (m >>> f);rw [Nat.and_comm]
 have h2:(1 &&& m >>> f)=(m >>> f) % 2:=by rw [Nat.and_comm];exact h
 rw [Nat.and_comm,h2]
 rcases Nat.mod_two_eq_zero_or_one (m >>> f) with e | e <;> rw [e] <;> rfl
theorem cloF_eq {look:FuncId→Option Func} (P:Program) (hl:∀g,P.funcs[g]?=look g):∀(n:Nat) (todo:List FuncId) (mask:Nat) (seen:List FuncId),(∀x:Nat,mask.testBit x=seen.contains x)→cloF look P n todo mask seen=P.closureVia n todo seen
 | 0,_,_,_,_=>by unfold cloF Program.closureVia;rfl
 | n+1,[],_,_,_=>by unfold cloF Program.closureVia;rfl
 | n+1,f::todo,mask,seen,h=>by
  unfold cloF Program.closureVia
  rw [bitN_eq,h f]
  cases hc:seen.contains f with
  | true=>simp only [if_true];exact cloF_eq P hl n todo mask seen h
  | false=>
   simp only [Bool.false_eq_true,if_false];rw [hl f];refine cloF_eq P hl n _ _ _ fun x=>?_
   show (mask ||| (1 <<< f)).testBit x=(f::seen).contains x
   rw [Nat.testBit_or,h x,Nat.shiftLeft_eq,Nat.one_mul,Nat.testBit_two_pow,List.contains_cons,Bool.or_comm]
   congr 1
   by_cases e:f=x
   ·
    subst e;simp
   simp [e,Ne.symm e]
theorem closure_fast {look:FuncId→Option Func} (P:Program) (hl:∀g,P.funcs[g]?=look g) (f:FuncId):P.closure f=cloF look P (1+(P.funcs.toList.map fun g=>(P.leadsTo g).length+1).sum) [f] 0 []:=by
 unfold Program.closure
 exact (cloF_eq P hl _ _ _ _ fun x=>by simp).symm
end Go.Rc

namespace Go.Rc
open Go
def grownF (P:Program):Nat→List TypeId→List TypeId
 | 0,s=>s
 | d+1,s=>match decide (P.grow s=s) with
  | true=>s
  | false=>grownF P d (P.grow s)
theorem grown_fix {P:Program} {s:List TypeId} (h:P.grow s=s):∀n,P.grown n s=s
 | 0=>rfl
 | n+1=>by
  show P.grown n (P.grow s)=s
  rw [h];exact grown_fix h n
theorem grownF_eq (P:Program):∀(n:Nat) (s:List TypeId),P.grown n s=grownF P n s
 | 0,_=>rfl
 | n+1,s=>by
  show P.grown n (P.grow s)=match decide (P.grow s=s) with | true=>s | false=>grownF P n (P.grow s)
  by_cases h:P.grow s=s
  ·
   rw [decide_eq_true h]
   show P.grown n (P.grow s)=s
   rw [h];exact grown_fix h n
  rw [decide_eq_false h];exact grownF_eq P n _
def bookF (P:Program) (t:TypeId):List TypeId:=grownF P P.types.size [t]
theorem book_eq (P:Program) (t:TypeId):P.book t=bookF P t:=grownF_eq P _ _
def readF (P:Program) (t:TypeId):Bool:=(bookF P t).all fun u=>P.fineRow u && (P.partsOf u).all ((bookF P t).contains ·)
theorem read_eq (P:Program) (t:TypeId):P.readableRec t=readF P t:=by unfold Program.readableRec readF;simp only [book_eq]
def loopsF (P:Program) (t:TypeId):Bool:=(bookF P t).any fun u=>(P.partsOf u).any fun v=>(bookF P v).contains u
theorem loops_eq (P:Program) (t:TypeId):P.loopsFrom t=loopsF P t:=by unfold Program.loopsFrom loopsF;simp only [book_eq]
def mapsF (P:Program) (t:TypeId):Bool:=(bookF P t).any fun u=>match P.underlying u with | some (.map _ _)=>true | _=>false
theorem maps_eq (P:Program) (t:TypeId):P.mapsRec t=mapsF P t:=by unfold Program.mapsRec mapsF;rw [book_eq];try rfl
def ifacesF (P:Program) (t:TypeId):Bool:=(bookF P t).any fun u=>match P.underlying u with | some (.interface _)=>true | _=>false
theorem ifaces_eq (P:Program) (t:TypeId):P.ifacesRec t=ifacesF P t:=by unfold Program.ifacesRec ifacesF;rw [book_eq];try rfl
def veiledF (P:Program) (t:TypeId):Bool:=(bookF P t).any fun u=>match P.underlying u with | some (.func ..) | some (.chan ..) | some .unsafePointer=>true | _=>false
theorem veiled_eq (P:Program) (t:TypeId):P.veiledRec t=veiledF P t:=by unfold Program.veiledRec veiledF;rw [book_eq];try rfl
def wideF (P:Program) (t:TypeId):Bool:=
 (bookF P t).any fun u=>match P.underlying u with
  | some (.map k _)=>(match P.underlying k with | some (.array _ _) | some (.struct _)=>true | _=>false)
  | _=>false
theorem wide_eq (P:Program) (t:TypeId):P.wideKeysFrom t=wideF P t:=by unfold Program.wideKeysFrom wideF;rw [book_eq];try rfl
def veiledOwnF (P:Program) (t:TypeId):Bool:=!veiledF P t || (let L:=P.libraryStructs;(bookF P t).all fun u=>!(P.libraryStructIn L u && veiledF P u))
theorem veiledOwn_eq (P:Program) (t:TypeId):P.veiledOwn t=veiledOwnF P t:=by unfold Program.veiledOwn veiledOwnF;simp only [book_eq,veiled_eq];try rfl
def varReadF (P:Program) (n:String):Bool:=
 match P.globalNamed n with
 | some g=>((P.globals[g]?).map (·.type)).any fun t=>readF P t && veiledOwnF P t
 | none=>false
theorem varRead_eq (P:Program) (n:String):P.varReadable n=varReadF P n:=by unfold Program.varReadable varReadF;simp only [read_eq,veiledOwn_eq];try rfl
end Go.Rc

namespace Go.Rc
open Go
def blocks {α:Type _}:Nat→List α→List (List α)
 | 0,_=>[]
 | n+1,l=>l.take 32::blocks n (l.drop 32)
def pick {α:Type _} (b:List (List α)) (t:Nat):Option α:=(b[t / 32]?).bind (·[t % 32]?)
theorem pick_blocks {α:Type _}:∀(n:Nat) (l:List α) (t:Nat),l.length≤n*32→pick (blocks n l) t=l[t]?
 | 0,l,t,h=>by
  have:l=[]:=List.length_eq_zero_iff.1 (by omega)
  subst this
  simp [pick,blocks]
 | n+1,l,t,h=>by
  by_cases ht:t<32
  ·
   have h1:t / 32=0:=by omega
   have h2:t % 32=t:=by omega
   simp [pick,blocks,h1,h2,ht]
  have h1:t / 32=(t - 32) / 32+1:=by omega
  have h2:t % 32=(t - 32) % 32:=by omega
  have ih:=pick_blocks n (l.drop 32) (t - 32) (by simp;omega);simp only [pick] at ih;simp only [pick,blocks,h1,h2,List.getElem?_cons_succ,ih,List.getElem?_drop]
  congr 1
  omega
def rootOf (b:List (List TypeInfo)) (t:TypeId):Option TypeDesc:=
 (pick b t).bind fun i=>match i.desc with
  | .named _ u=>(pick b u).map (·.desc)
  | d=>some d
def wide (b:List (List TypeInfo)) (t:TypeId):Nat:=((pick b t).map (·.size)).getD 0
theorem info_pick {P:Program} {n:Nat} (hn:P.types.size≤n*32) {t:TypeId} {i:TypeInfo} (h:pick (blocks n P.types.toList) t=some i):P.info? t=some i:=by
 rw [pick_blocks n _ t (by simpa using hn),Array.getElem?_toList] at h;have ht:t<P.types.size:=(Array.getElem?_eq_some_iff.1 h).1
 unfold Tables.info?
 rw [if_pos ht,h]
theorem pick_in {P:Program} {n:Nat} (hn:P.types.size≤n*32) {t:TypeId} (h:t<P.types.size):∃i,pick (blocks n P.types.toList) t=some i:=by
 rw [pick_blocks n _ t (by simpa using hn),Array.getElem?_toList];exact ⟨_,Array.getElem?_eq_getElem h⟩
theorem rootOf_eq {P:Program} {n:Nat} (hn:P.types.size≤n*32) {t:TypeId} {d:TypeDesc} (h:rootOf (blocks n P.types.toList) t=some d):P.underlying t=some d:=by
 unfold rootOf at h
 unfold Program.underlying
 cases hp:pick (blocks n P.types.toList) t with
 | none=>rw [hp] at h;cases h
 | some i=>
  rw [hp] at h;rw [info_pick hn hp];obtain ⟨e,_⟩:=i
  cases e with
  | named a u=>
   simp only [Option.bind_some] at h
   cases hu:pick (blocks n P.types.toList) u with
   | none=>rw [hu] at h;cases h
   | some k=>
    rw [hu] at h;simp only [info_pick hn hu];exact h
  | _=>exact h
theorem wide_eq' {P:Program} {n:Nat} (hn:P.types.size≤n*32) {t:TypeId} (h:t<P.types.size):wide (blocks n P.types.toList) t=P.cellsOf t:=by
 obtain ⟨i,hi⟩:=pick_in hn h
 unfold wide Program.cellsOf
 rw [hi,info_pick hn hi]
def stands (b:List (List TypeInfo)) (N:Nat) (t:TypeId):Bool:=Nat.ble (t+1) N && kindOk (rootOf b t)
theorem stands_lt {b:List (List TypeInfo)} {N:Nat} {t:TypeId} (h:stands b N t=true):t<N:=by
 simp only [stands,Bool.and_eq_true] at h;exact Nat.le_of_ble_eq_true h.1
theorem stands_eq {P:Program} {n:Nat} (hn:P.types.size≤n*32) {t:TypeId} (h:stands (blocks n P.types.toList) P.types.size t=true):isVar P t=true:=by
 have hl:=stands_lt h;simp only [stands,Bool.and_eq_true] at h
 unfold isVar
 cases hr:rootOf (blocks n P.types.toList) t with
 | none=>rw [hr] at h;cases h.2
 | some d=>
  rw [hr] at h;rw [rootOf_eq hn hr,h.2,decide_eq_true hl]
  rfl
def laidFrom (b:List (List TypeInfo)) (N:Nat):Nat→List Field→Bool
 | _,[]=>true
 | o,f::r=>stands b N f.type && Nat.beq f.offset o && laidFrom b N (o+wide b f.type) r
def sumOf (b:List (List TypeInfo)):List Field→Nat
 | []=>0
 | f::r=>wide b f.type+sumOf b r
def rowB (b:List (List TypeInfo)) (N:Nat) (t:TypeId):Bool:=
 match rootOf b t with
 | none=>false
 | some (.struct fs)=>laidFrom b N 0 fs.toList && Nat.beq (wide b t) (sumOf b fs.toList)
 | some (.array k e)=>stands b N e && Nat.beq (wide b t) (k*wide b e)
 | some (.pointer e)=>stands b N e && Nat.beq (wide b t) 1
 | some (.slice e)=>stands b N e && Nat.beq (wide b t) 1
 | some (.tuple _)=>true
 | some .invalid=>true
 | some (.named _ _)=>true
 | _=>Nat.beq (wide b t) 1
def mapB (b:List (List TypeInfo)) (N:Nat) (t:TypeId):Bool:=
 match rootOf b t with
 | none=>false
 | some (.map _ e)=>Nat.ble (e+1) N
 | _=>true
theorem laidFrom_all {P:Program} {n:Nat} (hn:P.types.size≤n*32):∀(fs:List Field) (o:Nat),laidFrom (blocks n P.types.toList) P.types.size o fs=true→
  (∀f∈fs,isVar P f.type=true)∧(∀j f,fs[j]?=some f→f.offset=o+((fs.take j).map fun f=>P.cellsOf f.type).sum)∧sumOf (blocks n P.types.toList) fs=(fs.map fun f=>P.cellsOf f.type).sum
 | [],_,_=>⟨by simp,by simp,rfl⟩
 | g::r,o,h=>by
  simp only [laidFrom,Bool.and_eq_true] at h;obtain ⟨⟨h1,h2⟩,h3⟩:=h;rw [wide_eq' hn (stands_lt h1)] at h3;obtain ⟨i1,i2,i3⟩:=laidFrom_all hn r _ h3;refine ⟨fun f hf=>?_,fun j f hj=>?_,?_⟩
  ·
   rcases List.mem_cons.1 hf with rfl | hf
   ·
    exact stands_eq hn h1
   exact i1 f hf
  ·
   cases j with
   | zero=>
    simp only [List.getElem?_cons_zero,Option.some.injEq] at hj;subst hj
    simpa using Nat.eq_of_beq_eq_true h2
   | succ j=>
    have:=i2 j f (by simpa using hj)
    simp only [List.take_succ_cons,List.map_cons,List.sum_cons]
    omega
  simp only [sumOf,List.map_cons,List.sum_cons,i3,wide_eq' hn (stands_lt h1)]
theorem rowB_fine {P:Program} {n:Nat} (hn:P.types.size≤n*32) {t:TypeId} (ht:t<P.types.size) (h:rowB (blocks n P.types.toList) P.types.size t=true):rowFine P t=true:=by
 unfold rowB at h
 rw [wide_eq' hn ht] at h
 unfold rowFine
 rw [Bool.or_eq_true]
 cases hr:rootOf (blocks n P.types.toList) t with
 | none=>rw [hr] at h;cases h
 | some d=>
  have hu:=rootOf_eq hn hr;rw [hr] at h
  cases d with
  | struct fs=>
   right
   simp only [hu];simp only [Bool.and_eq_true] at h;obtain ⟨h1,h2,h3⟩:=laidFrom_all hn fs.toList 0 h.1;simp only [Bool.and_eq_true,List.all_eq_true,beq_iff_eq];refine ⟨⟨h1,(Nat.eq_of_beq_eq_true h.2).trans h3⟩,fun j hj=>?_⟩
   split
   ·
    rename_i f hf
    have:=h2 j f hf
    rw [beq_iff_eq]
    omega
   rfl
  | array k e=>
   right
   simp only [hu];simp only [Bool.and_eq_true] at h ⊢;rw [wide_eq' hn (stands_lt h.1)] at h;exact ⟨stands_eq hn h.1,by rw [beq_iff_eq];exact Nat.eq_of_beq_eq_true h.2⟩
  | pointer e=>
   right
   simp only [hu];simp only [Bool.and_eq_true] at h ⊢;exact ⟨stands_eq hn h.1,by rw [beq_iff_eq];exact Nat.eq_of_beq_eq_true h.2⟩
  | slice e=>
   right
   simp only [hu];simp only [Bool.and_eq_true] at h ⊢;exact ⟨stands_eq hn h.1,by rw [beq_iff_eq];exact Nat.eq_of_beq_eq_true h.2⟩
  | tuple e=>left;simp [isVar,hu,kindOk]
  | invalid=>left;simp [isVar,hu,kindOk]
  | named a e=>left;simp [isVar,hu,kindOk]
  | _=>
   right
   simp only [hu];rw [beq_iff_eq];exact Nat.eq_of_beq_eq_true h
def allTo (f:Nat→Bool):Nat→Bool
 | 0=>true
 | n+1=>f n && allTo f n
theorem allTo_range {f g:Nat→Bool}:∀(n:Nat),allTo f n=true→(∀t,t<n→f t=true→g t=true)→(List.range n).all g=true
 | 0,_,_=>by simp
 | n+1,h,hg=>by
  simp only [allTo,Bool.and_eq_true] at h;rw [List.range_succ,List.all_append,allTo_range n h.2 fun t ht=>hg t (by omega)]
  simp [hg n (by omega) h.1]
theorem rows_fine {P:Program} {N n:Nat} (hN:P.types.size=N) (hn:Nat.ble N (n*32)=true) (h:allTo (rowB (blocks n P.types.toList) N) N=true):(List.range P.types.size).all (rowFine P)=true:=by
 subst hN
 exact allTo_range _ h fun t hl ht=>rowB_fine (Nat.le_of_ble_eq_true hn) hl ht
theorem maps_rowed {P:Program} {N n:Nat} (hN:P.types.size=N) (hn:Nat.ble N (n*32)=true) (h:allTo (mapB (blocks n P.types.toList) N) N=true):mapsRowed P=true:=by
 subst hN
 unfold mapsRowed
 refine allTo_range _ h fun t hl ht=>?_
 unfold mapB at ht
 cases hr:rootOf (blocks n P.types.toList) t with
 | none=>rw [hr] at ht;cases ht
 | some d=>
  have hu:=rootOf_eq (Nat.le_of_ble_eq_true hn) hr;rw [hr] at ht;simp only [hu]
  cases d with
  | map k e=>exact decide_eq_true (Nat.le_of_ble_eq_true ht)
  | _=>rfl
theorem globals_in {P:Program} {N:Nat} (hN:P.types.size=N) (h:P.globals.toList.all (fun g=>Nat.ble (g.type+1) N)=true):P.globals.all (fun g=>decide (g.type<P.types.size))=true:=by
 subst hN;rw [← Array.all_toList];simp only [List.all_eq_true] at h ⊢
 exact fun g hg=>decide_eq_true (Nat.le_of_ble_eq_true (h g hg))
theorem params_in {P:Program} {N:Nat} (hN:P.types.size=N) (h:P.funcs.toList.all (fun f=>f.params.toList.all fun t=>Nat.ble (t+1) N)=true):P.funcs.all (fun f=>f.params.all fun t=>decide (t<P.types.size))=true:=by
 subst hN;rw [← Array.all_toList];simp only [List.all_eq_true] at h ⊢;intro f hf;rw [← Array.all_toList];simp only [List.all_eq_true]
 exact fun t ht=>decide_eq_true (Nat.le_of_ble_eq_true (h f hf t ht))
theorem laid_out {P:Program} (h1:(List.range P.types.size).all (rowFine P)=true) (h2:P.globals.all (fun g=>decide (g.type<P.types.size))=true) (h3:P.funcs.all (fun f=>f.params.all fun t=>decide (t<P.types.size))=true):laidOutB P=true:=by
 unfold laidOutB
 rw [h1,h2,h3]
 rfl
theorem both {a b:Bool} (ha:a=true) (hb:b=true):(a && b)=true:=by rw [ha,hb];rfl
end Go.Rc

namespace Go.Rc
open Go
theorem funcs_pick {P:Program} {N n:Nat} (hN:P.funcs.size=N) (hn:Nat.ble N (n*32)=true) (g:FuncId):P.funcs[g]?=pick (blocks n P.funcs.toList) g:=by
 subst hN;rw [pick_blocks n _ g (by simpa using Nat.le_of_ble_eq_true hn),Array.getElem?_toList]
def hits (name:String):Nat→List Func→List Nat
 | _,[]=>[]
 | k,f::r=>match f.name == name with
  | true=>k::hits name (k+1) r
  | false=>hits name (k+1) r
theorem hits_eq (name:String):∀(l:List Func) (k:Nat),hits name k l=((List.range l.length).filter fun i=>(l[i]?).any (·.name == name)).map (· + k)
 | [],_=>rfl
 | f::r,k=>by
  have h:=hits_eq name r (k+1);rw [List.length_cons,List.range_succ_eq_map,List.filter_cons,List.filter_map,List.getElem?_cons_zero]
  have e:((fun i=>((f::r)[i]?).any (·.name == name))∘Nat.succ)=fun i=>(r[i]?).any (·.name == name):=by
   funext i
   simp
  rw [e]
  have m:∀q:List Nat,(q.map Nat.succ).map (· + k)=q.map (· + (k+1)):=by
   intro q;rw [List.map_map]
   congr 1
   funext x
   show x.succ+k=x+(k+1)
   omega
  unfold hits
  cases hb:f.name == name with
  | true=>simp only [Option.any_some,hb,if_true,List.map_cons,Nat.zero_add,m,h]
  | false=>simp only [Option.any_some,hb,Bool.false_eq_true,if_false,m,h]
theorem funcNamed_list (P:Program) (name:String):P.funcNamed name=match hits name 0 P.funcs.toList with | [i]=>some i | _=>none:=by
 unfold Program.funcNamed
 rw [hits_eq];simp only [Nat.add_zero,List.map_id',Array.length_toList,Array.getElem?_toList]
 generalize (List.range P.funcs.size).filter (fun i=>(P.funcs[i]?).any (·.name == name))=q
 rcases q with _ | ⟨a,_ | ⟨b,r⟩⟩ <;> rfl
theorem worded_list (P:Program) (word:String):P.worded word=P.funcs.toList.any fun fn=>fn.body.isNone && fn.name == word:=by
 unfold Program.worded
 rw [Array.any_toList]
theorem laysLater_list (P:Program):P.laysLater=P.funcs.toList.any fun fn=>fn.body.isNone && (fn.name == "runtime.SetFinalizer" || fn.name == "runtime.AddCleanup" || fn.origin == "runtime.AddCleanup"):=by
 unfold Program.laysLater
 rw [Array.any_toList]
theorem stopsHeard_list (P:Program):P.stopsHeard=P.funcs.toList.all fun fn=>(Stop.rowOf fn).isNone || !fn.norace:=by
 unfold Program.stopsHeard
 rw [Array.all_toList]
def sameVars:List (String × DataW Unit)→List (String × DataW Unit)→Bool
 | [],[]=>true
 | (n,a)::r,(m,b)::s=>n == m && DataW.same a b && sameVars r s
 | _,_=>false
theorem sameVars_eq:∀(l m:List (String × DataW Unit)),sameVars l m=true→l=m
 | [],[],_=>rfl
 | (n,a)::r,(k,b)::s,h=>by
  simp only [sameVars,Bool.and_eq_true,beq_iff_eq] at h;rw [h.1.1,DataW.same_eq a b h.1.2,sameVars_eq r s h.2]
 | [],_::_,h=>by cases h
 | _::_,[],h=>by cases h
theorem door_of {P:Program} {n fuel M:Nat} {laid:List (String × DataW Unit)} {os:Os} {tape:Tape} {g:FuncId} (hg:varsId P=g) (he:funcsListed laid=[])
  (h:(match runN P n (Machine.entering P (World.unlaid P os) tape g ⟨#[],#[],[]⟩) with
   | .ended (.done _) w=>(DataW.laidRun P w.memory fuel ((laid.filter fun x=>x.2.handleName?.isNone).map (·.1))).any fun x=>nodupBits M x.2 0 && laidRowsB P w.memory x.2 && (laid.filter fun x=>x.2.handleName?.isSome && x.2.funcsIn?.isNone).all (handleAtB P w.memory) && sameVars x.1 (laid.filter fun x=>x.2.handleName?.isNone)
   | _=>false)=true):doorLeaves P n fuel M laid os tape=some (laid.filter fun x=>x.2.handleName?.isNone,(funcsListed laid).map (·.2.funcsOut)):=by
 unfold doorLeaves
 rw [hg]
 split at h
 ·
  rename_i v w hr
  rw [hr]
  simp only
  cases hx:DataW.laidRun P w.memory fuel ((laid.filter fun x=>x.2.handleName?.isNone).map (·.1)) with
  | none=>rw [hx] at h;cases h
  | some x=>
   rw [hx] at h;simp only [Option.any_some,Bool.and_eq_true] at h;obtain ⟨⟨⟨h1,h2⟩,h3⟩,h4⟩:=h;have e:=sameVars_eq _ _ h4;rw [he];simp only [Option.bind_some,h1,h2,h3,Bool.and_self,if_true,List.map_nil,funcsRun,Option.map_some,← e]
 cases h
end Go.Rc

namespace Go.Rc
open Go
theorem flat_ints:∀l:List Int,(l.map fun z=>[Value.int .i64 z]).flatten=l.map (Value.int .i64)
 | []=>rfl
 | x::r=>by rw [List.map_cons,List.map_cons,List.flatten_cons,flat_ints r];rfl
theorem open_il {H:Type} {enc:TypeId × Value→H} {P:Program} {w:World} {r:Reach} {base:Nat} {t e:TypeId} {fuel n c:Nat} {a:Option Addr} {d:DataW H} {p:List MemPlace} (ht:P.underlying t=some (.slice e)) (k1:P.cellsOf e=1) (b1:1≤P.bytesOf e) (he:P.underlying e=some (.int .i64))
  (hval:Value.okWide P w r base t (.slice a n c)) (h:DataW.trod enc P w 0 (fun _=>true) true fuel t [.slice a n c]=some (d,p)) (hl:Lim P t d):∃l:List Int,Rd RR.int 1 (fun b=>b<w.heap.size) w a n c l:=by
 obtain ⟨l,hlr⟩:=open_lr (R:=fun (z:Int) r=>r=[Value.int .i64 z]) ht k1 (Nat.le_refl _) b1 (fun m cs d p hm hcl _=>by
  obtain ⟨z,rfl,_,_⟩:=DataW.trod_int he hm;exact ⟨z,rfl⟩) h hl
 refine ⟨l,hlr.len,l.map fun z=>[Value.int .i64 z],by simp,fun r hr=>?_,?_,fun i x r hx hr=>?_⟩
 ·
  obtain ⟨z,_,rfl⟩:=List.mem_map.1 hr
  rfl
 ·
  rw [flat_ints];refine ⟨by simp [hlr.len],hlr.le,fun u hu=>?_,?_⟩
  ·
   obtain ⟨z,_,rfl⟩:=List.mem_map.1 hu
   rfl
  rcases Deep.open_slice ht h with ⟨hc,_⟩ | ⟨q,len,cap,m,fu,D,Pl,hc,_,hle,hmx,_⟩
  ·
   simp only [List.cons.injEq,Value.slice.injEq,and_true] at hc;exact .inl hc
  simp only [List.cons.injEq,Value.slice.injEq,and_true] at hc;obtain ⟨rfl,rfl,rfl⟩:=hc
  have hz:q.spot=none∧q.block<w.heap.size:=by
   simp only [Value.okWide,ht,Cell.okWide,Cell.ok] at hval;obtain ⟨_,_,_,h4,row,cells,h5,_⟩:=hval;refine ⟨h4,?_⟩
   unfold World.shape? at h5
   split at h5
   ·
    rename_i hh
    exact (Array.getElem?_eq_some_iff.1 hh).1
   cases h5
  obtain ⟨b,o,s⟩:=q;obtain ⟨hs,hb⟩:=hz;simp only at hs hb;subst hs;refine .inr ⟨b,o,rfl,hle,hmx,hb,hb,fun j v hv=>?_⟩;rw [List.getElem?_map] at hv;obtain ⟨z,hz,rfl⟩:=Option.map_eq_some_iff.1 hv;obtain ⟨b',o',r',e1,_,rfl,hr,_⟩:=hlr.at_ hz;simp only [Option.some.injEq,Addr.mk.injEq,and_true] at e1;obtain ⟨rfl,rfl⟩:=e1
  have:=hr 0 _ rfl
  simpa using this
 rw [List.getElem?_map,hx] at hr;exact (Option.some.inj hr).symm
end Go.Rc

