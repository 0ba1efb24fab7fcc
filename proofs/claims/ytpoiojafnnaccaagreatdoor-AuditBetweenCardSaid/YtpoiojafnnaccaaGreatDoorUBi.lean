/- Base of the proof: frames, memory, ownership, and the plain meaning of rule systems. Conditions: as each lemma says. -/
import Derived.Test.YtpoiojafnnaccaaGreatDoorUBh
import Derived.Test.YtpoiojafnnaccaaGreatDoorUBe
import Derived.Deep.Slices
import Derived.SizedLaws
import Derived.Lib.LaidU8
import Derived.Lib.LaidTab
import Derived.LaidLaws
import GoSem.ClaimFn
import Derived.JoinedOf
import Derived.LaidOnce
import Derived.TwinInFollowed
import Derived.WideShapes
set_option linter.all false
namespace Go.Rc
open Go
section
variable {H:Type}{enc:TypeId × Value→H}{P:Program}{w:World}
theorem yj{e:TypeId}:∀{l:List (DataW H)}{d:DataW H},d∈l→∀n∈d.weights P e,n∈DataW.weightsAll P e l
 | [],_,hd,_,_=>by cases hd
 | x::r,d,hd,n,hn=>by
  simp only [DataW.weightsAll,List.mem_append]
  rcases List.mem_cons.1 hd with rfl | hd
  ·
   exact .inl hn
  exact .inr (yj hd n hn)
def P0(P:Program) (t:TypeId) (d:DataW H):Prop:=∀n∈d.weights P t,n≤reachBytes
theorem P0.len{t e:TypeId}{xs ys:List (DataW H)}(h:P0 P t (.slice xs ys)) (ht:P.underlying t=some (.slice e)) (hb:1≤P.bytesOf e):xs.length≤140737488355328:=by
 have h1:=h ((xs.length+ys.length)*P.bytesOf e) (by simp only [DataW.weights,ht];exact List.mem_cons_self)
 unfold reachBytes at h1
 have h2:xs.length*1≤(xs.length+ys.length)*P.bytesOf e:=Nat.mul_le_mul (by omega) hb
 omega
theorem P0.elem{t e:TypeId}{xs ys:List (DataW H)}(h:P0 P t (.slice xs ys)) (ht:P.underlying t=some (.slice e)) {d:DataW H}(hd:d∈xs):P0 P e d:=fun n hn=>
 h n (by simp only [DataW.weights,ht,List.mem_cons,List.mem_append];exact .inr (.inl (yj hd n hn)))
theorem P0.each{ts:List TypeId}{ds:List (DataW H)}(h:(DataW.weightsEach P ts ds).all (·≤reachBytes)=true) {j:Nat}{t:TypeId}{d:DataW H}(ht:ts[j]?=some t) (hd:ds[j]?=some d):P0 P t d:=fun n hn=>by
 have:=List.all_eq_true.1 h n (DataW.weights_mem_each ht hd n hn)
 simpa using this
theorem Tb{α:Type} [Inhabited α] {R:α→List Value→Prop}{t e:TypeId}{k fuel n c:Nat}{a:Option Addr}{d:DataW H}{p:List MemPlace}(ht:P.underlying t=some (.slice e)) (hk:P.cellsOf e=k) (tD:1≤k) (hb:1≤P.bytesOf e)
  (hR:∀(m:Nat) (cs:List Value) (d:DataW H) (p:List MemPlace),DataW.trod enc P w 0 (fun _=>true) true m e cs=some (d,p)→cs.length=k→P0 P e d→∃x:α,R x cs)
  (h:DataW.trod enc P w 0 (fun _=>true) true fuel t [.slice a n c]=some (d,p)) (hl:P0 P t d):∃xs:List α,LR (fun b=>b<w.heap.size) w k R a n xs:=by
 rcases Deep.open_slice ht h with⟨hc,_⟩ | ⟨a',len,cap,m,fu,D,Pl,hc,_,hle,_,hm,hx,W7⟩
 ·
  simp only [List.cons.injEq,Value.slice.injEq,and_true] at hc;obtain⟨rfl,rfl,rfl⟩:=hc;exact⟨[],⟨rfl,by omega,fun hx=>by simp at hx⟩⟩
 simp only [List.cons.injEq,Value.slice.injEq,and_true] at hc;obtain⟨rfl,rfl,rfl⟩:=hc;simp only [Prod.mk.injEq] at hx;obtain⟨rfl,_⟩:=hx;simp only [if_true] at hm
 have hn:n≤140737488355328:=by simpa using hl.len ht hb
 have each:∀i,i<n→∃q:α × List Value,w.cells? 0 (a'.add (i*k)) k=some q.2∧R q.1 q.2:=fun i hi=>by
  obtain⟨MP,h1,h2⟩:=W7 i (by omega);rw [hk] at h1;obtain⟨x,hx⟩:=hR _ _ _ _ h2 (World.cells?_some h1).2.1 (hl.elem ht (List.mem_map.2 ⟨i,by simpa using hi,rfl⟩));exact⟨(x,MP),h1,hx⟩
 obtain⟨q,hq⟩:=Deep.choose_lt each;refine⟨(List.range n).map fun i=>(q i).1,⟨by simp,hn,fun {i x} hx=>?_⟩⟩
 obtain⟨hi,rfl⟩:i<n∧(q i).1=x:=by
  rw [List.getElem?_map] at hx;obtain⟨j,hj,hjx⟩:=Option.map_eq_some_iff.1 hx;rw [List.getElem?_eq_some_iff] at hj;obtain⟨Vg,kL⟩:=hj
  simp at Vg kL
  subst kL;exact⟨Vg,hjx⟩
 have hs:a'.spot=none:=by
  obtain⟨_,MF,Ol⟩:=World.cells?_some (hq 0 (by omega)).1;have h0:=Ol 0 (by omega);rw [List.getElem?_eq_getElem (by omega)] at h0
  have:=World.cell?_spot h0
  simpa [Addr.add] using this
 obtain⟨b,o,s⟩:=a';simp only at hs;subst hs;obtain⟨_,uT,Di⟩:=World.cells?_some (hq i hi).1
 have hr:w.rangeAt b (o+i*k) (q i).2:=fun j v hv=>by
  have hj:j<k:=by have:=(List.getElem?_eq_some_iff.1 hv).1;omega
  have:=Di j hj
  rw [WideShapes.add_plain,WideShapes.add_plain] at this;rw [this,hv]
 refine⟨b,o,(q i).2,rfl,uT,(hq i hi).2,hr,?_,?_⟩ <;>
  exact World.block_lt_of_cell? w ⟨b,_,none⟩ (hr 0 _ (List.getElem?_eq_getElem (by omega)))
end
def AR(P:Program) (w:World) (n:String):Prop:=∃(nm:String) (d:DataW Unit) (g t:Nat) (ms:Array (String × TypeId)),Lib.VarReads P w n (.iface nm d)∧P.globalNamed n=some g∧(P.globals[g]?).map (·.type)=some t∧P.underlying t=some (.interface ms)
theorem XK{P:Program}{w:World}{g t e:Nat}(hv:Lib.VarReads P w "internal/strconv.uint64pow10" (Lib.tabData .u64 Lib.pow10Tab)) (hg:P.globalNamed "internal/strconv.uint64pow10" = some g) (hty:(P.globals[g]?).map (·.type)=some t) (ht:P.underlying t=some (.array 20 e)) (he:P.underlying e=some (.int .u64))
  (Ai:P.cellsOf e=1) (Md:P.cellsOf t=20) (hE1:AR P w "strconv.ErrSyntax") (hE2:AR P w "strconv.ErrRange"):oy P (fun b=>b<w.heap.size) w:=by
 obtain⟨g',t',cs,fuel,p,hg',ht',P1,hd⟩:=hv;obtain rfl:=Option.some.inj (hg.symm.trans hg');obtain rfl:=Option.some.inj (hty.symm.trans ht');have hc:=Lib.cells_of_tab ht he Ai Md hd
 have hT:Lib.TabIs P w "internal/strconv.uint64pow10" .u64 Lib.pow10Tab:=by
  unfold Lib.TabIs
  rw [P1,← hc]
 have ed:g<w.heap.size:=by
  unfold World.var? at P1
  simp only [hg,Option.bind_some] at P1
  split at P1
  ·
   rename_i hh
   exact(Array.getElem?_eq_some_iff.1 hh).1
  cases P1
 refine⟨⟨g,ed,ed,fun w' e=>?_⟩,fun n hn g2 GJ=>?_⟩
 ·
  unfold Lib.TabIs World.var? at hT ⊢
  simp only [hg,Option.bind_some] at hT ⊢;rw [e];exact hT
 have hE:AR P w n:=by
  rcases hn with rfl | rfl
  ·
   exact hE1
  exact hE2
 obtain⟨nm,d,g3,t3,ms,⟨g4,t4,cs4,aoF,p4,e1,e2,Oo,hd4⟩,e3,e4,e5⟩:=hE;obtain rfl:=Option.some.inj (e1.symm.trans GJ);obtain rfl:=Option.some.inj (e1.symm.trans e3);obtain rfl:=Option.some.inj (e2.symm.trans e4);obtain⟨_,u,v,US,_,_⟩:=iface_of_trod e5 hd4
 unfold World.var? at Oo
 simp only [e1,Option.bind_some] at Oo
 split at Oo
 ·
  rename_i c0 x0 y0 hh
  obtain rfl:=Option.some.inj Oo;have ac0:=(Array.getElem?_eq_some_iff.1 hh).1;refine⟨ac0,ac0,.iface u v,.inr ⟨u,v,rfl⟩,fun w' e=>?_⟩;obtain rfl:c0=#[.iface u v]:=Array.toList_inj.1 US
  unfold World.cell?
  simp only [e,hh]
  first | done | rfl
 cases Oo
theorem bj.XL{w w':World}(h:bj [] w w') (B:Nat) (hB:B≤w.heap.size):RowKit.Below B w w':=⟨h.os,h.tape,h.output,h.size,fun k hk=>h.block k (by omega) (by simp)⟩
end Go.Rc

namespace Go.Rc
open Go
def XM(m f:Nat):Bool:=Nat.beq (Nat.land (Nat.shiftRight m f) 1) 1
def Kn(look:FuncId→Option Func) (P:Program):Nat→List FuncId→Nat→List FuncId→List FuncId
 | 0,_,_,seen=>seen.reverse
 | _,[],_,seen=>seen.reverse
 | n+1,f::todo,mask,seen=>
  match XM mask f with
  | true=>Kn look P n todo mask seen
  | false=>Kn look P n ((look f).elim [] P.leadsTo++todo) (Nat.lor mask (Nat.shiftLeft 1 f)) (f::seen)
theorem Tc(m f:Nat):XM m f=m.testBit f:=by
 unfold XM
 show Nat.beq ((m >>> f) &&& 1) 1=m.testBit f
 rw [Nat.testBit,Nat.and_comm];have h:=Nat.and_one_is_mod (m >>> f);rw [Nat.and_comm]
 have h2:(1 &&& m >>> f)=(m >>> f) % 2:=by rw [Nat.and_comm];exact h
 rw [Nat.and_comm,h2]
 rcases Nat.mod_two_eq_zero_or_one (m >>> f) with e | e <;> rw [e] <;> rfl
theorem Fh{look:FuncId→Option Func}(P:Program) (hl:∀g,P.funcs[g]?=look g):∀(n:Nat) (todo:List FuncId) (mask:Nat) (seen:List FuncId),(∀x:Nat,mask.testBit x=seen.contains x)→Kn look P n todo mask seen=P.closureVia n todo seen
 | 0,_,_,_,_=>by unfold Kn Program.closureVia;rfl
 | n+1,[],_,_,_=>by unfold Kn Program.closureVia;rfl
 | n+1,f::todo,mask,seen,h=>by
  unfold Kn Program.closureVia
  rw [Tc,h f]
  cases hc:seen.contains f with
  | true=>simp only [if_true];exact Fh P hl n todo mask seen h
  | false=>
   simp only [Bool.false_eq_true,if_false];rw [hl f];refine Fh P hl n _ _ _ fun x=>?_
   show(mask ||| (1 <<< f)).testBit x=(f::seen).contains x
   rw [Nat.testBit_or,h x,Nat.shiftLeft_eq,Nat.one_mul,Nat.testBit_two_pow,List.contains_cons,Bool.or_comm]
   grind
theorem Fi{look:FuncId→Option Func}(P:Program) (hl:∀g,P.funcs[g]?=look g) (f:FuncId):P.closure f=Kn look P (1+(P.funcs.toList.map fun g=>(P.leadsTo g).length+1).sum) [f] 0 []:=by grind [Program.closure,Fh]
end Go.Rc

namespace Go.Rc
open Go
def Fj(P:Program):Nat→List TypeId→List TypeId
 | 0,s=>s
 | d+1,s=>match decide (P.grow s=s) with
  | true=>s
  | false=>Fj P d (P.grow s)
theorem D5{P:Program}{s:List TypeId}(h:P.grow s=s):∀n,P.grown n s=s
 | 0=>rfl
 | n+1=>by
  show P.grown n (P.grow s)=s
  rw [h];exact D5 h n
theorem D6(P:Program):∀(n:Nat) (s:List TypeId),P.grown n s=Fj P n s
 | 0,_=>rfl
 | n+1,s=>by
  show P.grown n (P.grow s)=match decide (P.grow s=s) with | true=>s | false=>Fj P n (P.grow s)
  by_cases h:P.grow s=s
  ·
   grind [D5]
  rw [decide_eq_false h];exact D6 P n _
def tF(P:Program) (t:TypeId):List TypeId:=Fj P P.types.size [t]
theorem qi(P:Program) (t:TypeId):P.book t=tF P t:=D6 P _ _
def P2(P:Program) (t:TypeId):Bool:=(tF P t).all fun u=>P.fineRow u && (P.partsOf u).all ((tF P t).contains ·)
theorem vC(P:Program) (t:TypeId):P.readableRec t=P2 P t:=by grind [Program.readableRec,P2,qi]
def P3(P:Program) (t:TypeId):Bool:=(tF P t).any fun u=>(P.partsOf u).any fun v=>(tF P v).contains u
theorem HS(P:Program) (t:TypeId):P.loopsFrom t=P3 P t:=by grind [Program.loopsFrom,P3,qi]
def Vh(P:Program) (t:TypeId):Bool:=(tF P t).any fun u=>match P.underlying u with | some (.map _ _)=>true | _=>false
theorem Td(P:Program) (t:TypeId):P.mapsRec t=Vh P t:=by grind [Program.mapsRec,Vh,qi]
def Mf(P:Program) (t:TypeId):Bool:=(tF P t).any fun u=>match P.underlying u with | some (.interface _)=>true | _=>false
theorem D7(P:Program) (t:TypeId):P.ifacesRec t=Mf P t:=by grind [Program.ifacesRec,Mf,qi]
def zn(P:Program) (t:TypeId):Bool:=(tF P t).any fun u=>match P.underlying u with | some (.func ..) | some (.chan ..) | some .unsafePointer=>true | _=>false
theorem xl(P:Program) (t:TypeId):P.veiledRec t=zn P t:=by grind [Program.veiledRec,zn,qi]
def Vi(P:Program) (t:TypeId):Bool:=
 (tF P t).any fun u=>match P.underlying u with
  | some (.map k _)=>(match P.underlying k with | some (.array _ _) | some (.struct _)=>true | _=>false)
  | _=>false
theorem Te(P:Program) (t:TypeId):P.wideKeysFrom t=Vi P t:=by grind [Program.wideKeysFrom,Vi,qi]
def uo(P:Program) (t:TypeId):Bool:=!zn P t || (let L:=P.libraryStructs;(tF P t).all fun u=>!(P.libraryStructIn L u && zn P u))
theorem vD(P:Program) (t:TypeId):P.veiledOwn t=uo P t:=by grind [Program.veiledOwn,uo,qi,xl]
def HT(P:Program) (n:String):Bool:=
 match P.globalNamed n with
 | some g=>((P.globals[g]?).map (·.type)).any fun t=>P2 P t && uo P t
 | none=>false
theorem Ko(P:Program) (n:String):P.varReadable n=HT P n:=by grind [Program.varReadable,HT,vC,vD]
end Go.Rc

namespace Go.Rc
open Go
def blocks{α:Type _}:Nat→List α→List (List α)
 | 0,_=>[]
 | n+1,l=>l.take 32::blocks n (l.drop 32)
def pick{α:Type _}(b:List (List α)) (t:Nat):Option α:=(b[t / 32]?).bind (·[t % 32]?)
theorem og{α:Type _}:∀(n:Nat) (l:List α) (t:Nat),l.length≤n*32→pick (blocks n l) t=l[t]?
 | 0,l,t,h=>by grind [pick,blocks]
 | n+1,l,t,h=>by
  by_cases ht:t<32
  ·
   grind [pick,blocks]
  have h1:t / 32=(t - 32) / 32+1:=by omega
  have h2:t % 32=(t - 32) % 32:=by omega
  have ih:=og n (l.drop 32) (t - 32) (by simp;omega)
  grind [pick,blocks]
def rootOf(b:List (List TypeInfo)) (t:TypeId):Option TypeDesc:=
 (pick b t).bind fun i=>match i.desc with
  | .named _ u=>(pick b u).map (·.desc)
  | d=>some d
def wide(b:List (List TypeInfo)) (t:TypeId):Nat:=((pick b t).map (·.size)).getD 0
theorem xm{P:Program}{n:Nat}(hn:P.types.size≤n*32) {t:TypeId}{i:TypeInfo}(h:pick (blocks n P.types.toList) t=some i):P.info? t=some i:=by
 rw [og n _ t (by simpa using hn),Array.getElem?_toList] at h;have ht:t<P.types.size:=(Array.getElem?_eq_some_iff.1 h).1
 unfold Tables.info?
 rw [if_pos ht,h]
theorem Tf{P:Program}{n:Nat}(hn:P.types.size≤n*32) {t:TypeId}(h:t<P.types.size):∃i,pick (blocks n P.types.toList) t=some i:=by
 rw [og n _ t (by simpa using hn),Array.getElem?_toList]
 simp_all
theorem xn{P:Program}{n:Nat}(hn:P.types.size≤n*32) {t:TypeId}{d:TypeDesc}(h:rootOf (blocks n P.types.toList) t=some d):P.underlying t=some d:=by
 unfold rootOf at h
 unfold Program.underlying
 cases hp:pick (blocks n P.types.toList) t with
 | none=>rw [hp] at h;cases h
 | some i=>
  rw [hp] at h;rw [xm hn hp];obtain⟨e,_⟩:=i
  grind [pick,xm]
theorem vE{P:Program}{n:Nat}(hn:P.types.size≤n*32) {t:TypeId}(h:t<P.types.size):wide (blocks n P.types.toList) t=P.cellsOf t:=by grind [Tf,wide,Program.cellsOf,xm]
def rU(b:List (List TypeInfo)) (N:Nat) (t:TypeId):Bool:=Nat.ble (t+1) N && kindOk (rootOf b t)
theorem sU{b:List (List TypeInfo)}{N:Nat}{t:TypeId}(h:rU b N t=true):t<N:=by
 simp only [rU,Bool.and_eq_true] at h;exact Nat.le_of_ble_eq_true h.1
theorem sV{P:Program}{n:Nat}(hn:P.types.size≤n*32) {t:TypeId}(h:rU (blocks n P.types.toList) P.types.size t=true):isVar P t=true:=by
 have hl:=sU h;simp only [rU,Bool.and_eq_true] at h
 unfold isVar
 cases hr:rootOf (blocks n P.types.toList) t with
 | none=>rw [hr] at h;cases h.2
 | some d=>grind [xn]
def vF(b:List (List TypeInfo)) (N:Nat):Nat→List Field→Bool
 | _,[]=>true
 | o,f::r=>rU b N f.type && Nat.beq f.offset o && vF b N (o+wide b f.type) r
def sumOf(b:List (List TypeInfo)):List Field→Nat
 | []=>0
 | f::r=>wide b f.type+sumOf b r
def XN(b:List (List TypeInfo)) (N:Nat) (t:TypeId):Bool:=
 match rootOf b t with
 | none=>false
 | some (.struct fs)=>vF b N 0 fs.toList && Nat.beq (wide b t) (sumOf b fs.toList)
 | some (.array k e)=>rU b N e && Nat.beq (wide b t) (k*wide b e)
 | some (.pointer e)=>rU b N e && Nat.beq (wide b t) 1
 | some (.slice e)=>rU b N e && Nat.beq (wide b t) 1
 | some (.tuple _)=>true
 | some .invalid=>true
 | some (.named _ _)=>true
 | _=>Nat.beq (wide b t) 1
def Kf(b:List (List TypeInfo)) (N:Nat) (t:TypeId):Bool:=
 match rootOf b t with
 | none=>false
 | some (.map _ e)=>Nat.ble (e+1) N
 | _=>true
theorem vG{P:Program}{n:Nat}(hn:P.types.size≤n*32):∀(fs:List Field) (o:Nat),vF (blocks n P.types.toList) P.types.size o fs=true→
  (∀f∈fs,isVar P f.type=true)∧(∀j f,fs[j]?=some f→f.offset=o+((fs.take j).map fun f=>P.cellsOf f.type).sum)∧sumOf (blocks n P.types.toList) fs=(fs.map fun f=>P.cellsOf f.type).sum
 | [],_,_=>⟨by simp,by simp,rfl⟩
 | g::r,o,h=>by
  simp only [vF,Bool.and_eq_true] at h;obtain⟨⟨h1,h2⟩,h3⟩:=h;rw [vE hn (sU h1)] at h3;obtain⟨i1,i2,i3⟩:=vG hn r _ h3;refine⟨fun f hf=>?_,fun j f hj=>?_,?_⟩
  ·
   grind [sV]
  ·
   cases j with
   | zero=>simp_all
   | succ j=>grind
  grind [sumOf,vE,sU]
theorem Ny{P:Program}{n:Nat}(hn:P.types.size≤n*32) {t:TypeId}(ht:t<P.types.size) (h:XN (blocks n P.types.toList) P.types.size t=true):rowFine P t=true:=by
 unfold XN at h
 rw [vE hn ht] at h
 unfold rowFine
 rw [Bool.or_eq_true]
 cases hr:rootOf (blocks n P.types.toList) t with
 | none=>rw [hr] at h;cases h
 | some d=>
  have hu:=xn hn hr;rw [hr] at h
  cases d with
  | struct fs=>
   right
   simp only [hu];simp only [Bool.and_eq_true] at h;obtain⟨h1,h2,h3⟩:=vG hn fs.toList 0 h.1;simp only [Bool.and_eq_true,List.all_eq_true,beq_iff_eq];refine⟨⟨h1,(Nat.eq_of_beq_eq_true h.2).trans h3⟩,fun j hj=>?_⟩
   grind
  | array k e=>
   right
   simp only [hu];simp only [Bool.and_eq_true] at h ⊢;rw [vE hn (sU h.1)] at h;exact⟨sV hn h.1,by simp_all⟩
  | pointer e=>
   right
   simp only [hu];simp only [Bool.and_eq_true] at h ⊢;exact⟨sV hn h.1,by simp_all⟩
  | slice e=>
   right
   simp only [hu];simp only [Bool.and_eq_true] at h ⊢;exact⟨sV hn h.1,by simp_all⟩
  | tuple e=>left;simp [isVar,hu,kindOk]
  | invalid=>left;simp [isVar,hu,kindOk]
  | named a e=>left;simp [isVar,hu,kindOk]
  | _=>
   right
   simp only [hu];rw [beq_iff_eq];exact Nat.eq_of_beq_eq_true h
def HU(f:Nat→Bool):Nat→Bool
 | 0=>true
 | n+1=>f n && HU f n
theorem rV{f g:Nat→Bool}:∀(n:Nat),HU f n=true→(∀t,t<n→f t=true→g t=true)→(List.range n).all g=true
 | 0,_,_=>by simp
 | n+1,h,hg=>by
  simp only [HU,Bool.and_eq_true] at h;rw [List.range_succ,List.all_append,rV n h.2 fun t ht=>hg t (by omega)]
  simp [hg n (by omega) h.1]
theorem Nz{P:Program}{N n:Nat}(hN:P.types.size=N) (hn:Nat.ble N (n*32)=true) (h:HU (XN (blocks n P.types.toList) N) N=true):(List.range P.types.size).all (rowFine P)=true:=by
 subst hN
 exact rV _ h fun t hl ht=>Ny (Nat.le_of_ble_eq_true hn) hl ht
theorem Kp{P:Program}{N n:Nat}(hN:P.types.size=N) (hn:Nat.ble N (n*32)=true) (h:HU (Kf (blocks n P.types.toList) N) N=true):mapsRowed P=true:=by
 subst hN
 unfold mapsRowed
 refine rV _ h fun t hl ht=>?_
 unfold Kf at ht
 cases hr:rootOf (blocks n P.types.toList) t with
 | none=>rw [hr] at ht;cases ht
 | some d=>
  have hu:=xn (Nat.le_of_ble_eq_true hn) hr
  grind [Nat.le_of_ble_eq_true]
theorem Kq{P:Program}{N:Nat}(hN:P.types.size=N) (h:P.globals.toList.all (fun g=>Nat.ble (g.type+1) N)=true):P.globals.all (fun g=>decide (g.type<P.types.size))=true:=by grind [Nat.le_of_ble_eq_true]
theorem NB{P:Program}{N:Nat}(hN:P.types.size=N) (h:P.funcs.toList.all (fun f=>f.params.toList.all fun t=>Nat.ble (t+1) N)=true):P.funcs.all (fun f=>f.params.all fun t=>decide (t<P.types.size))=true:=by grind [Nat.le_of_ble_eq_true]
theorem P4{P:Program}(h1:(List.range P.types.size).all (rowFine P)=true) (h2:P.globals.all (fun g=>decide (g.type<P.types.size))=true) (h3:P.funcs.all (fun f=>f.params.all fun t=>decide (t<P.types.size))=true):laidOutB P=true:=by grind [laidOutB]
theorem both{a b:Bool}(ha:a=true) (hb:b=true):(a && b)=true:=by rw [ha,hb];rfl
end Go.Rc

namespace Go.Rc
open Go
theorem Kr{P:Program}{N n:Nat}(hN:P.funcs.size=N) (hn:Nat.ble N (n*32)=true) (g:FuncId):P.funcs[g]?=pick (blocks n P.funcs.toList) g:=by
 subst hN;rw [og n _ g (by simpa using Nat.le_of_ble_eq_true hn),Array.getElem?_toList]
def P5(name:String):Nat→List Func→List Nat
 | _,[]=>[]
 | k,f::r=>match f.name == name with
  | true=>k::P5 name (k+1) r
  | false=>P5 name (k+1) r
theorem Mg(name:String):∀(l:List Func) (k:Nat),P5 name k l=((List.range l.length).filter fun i=>(l[i]?).any (·.name == name)).map (· + k)
 | [],_=>rfl
 | f::r,k=>by
  have h:=Mg name r (k+1);rw [List.length_cons,List.range_succ_eq_map,List.filter_cons,List.filter_map,List.getElem?_cons_zero]
  have e:((fun i=>((f::r)[i]?).any (·.name == name))∘Nat.succ)=fun i=>(r[i]?).any (·.name == name):=by
   funext i
   simp
  rw [e]
  have m:∀q:List Nat,(q.map Nat.succ).map (· + k)=q.map (· + (k+1)):=by
   intro q;rw [List.map_map]
   congr 1
   funext x
   show x.succ+k=x+(k+1)
   omega
  unfold P5
  cases hb:f.name == name with
  | true=>simp only [Option.any_some,hb,if_true,List.map_cons,Nat.zero_add,m,h]
  | false=>simp only [Option.any_some,hb,Bool.false_eq_true,if_false,m,h]
theorem rW(P:Program) (name:String):P.funcNamed name=match P5 name 0 P.funcs.toList with | [i]=>some i | _=>none:=by
 unfold Program.funcNamed
 rw [Mg];simp only [Nat.add_zero,List.map_id',Array.length_toList,Array.getElem?_toList]
 generalize (List.range P.funcs.size).filter (fun i=>(P.funcs[i]?).any (·.name == name))=q
 rcases q with _ | ⟨a,_ | ⟨b,r⟩⟩ <;> rfl
theorem rX(P:Program) (word:String):P.worded word=P.funcs.toList.any fun fn=>fn.body.isNone && fn.name == word:=by
 unfold Program.worded
 rw [Array.any_toList]
theorem AU(P:Program):P.laysLater=P.funcs.toList.any fun fn=>fn.body.isNone && (fn.name == "runtime.SetFinalizer" || fn.name == "runtime.AddCleanup" || fn.origin == "runtime.AddCleanup"):=by
 unfold Program.laysLater
 rw [Array.any_toList]
theorem yQ(P:Program):P.stopsHeard=P.funcs.toList.all fun fn=>(Stop.rowOf fn).isNone || !fn.norace:=by
 unfold Program.stopsHeard
 rw [Array.all_toList]
def vH:List (String × DataW Unit)→List (String × DataW Unit)→Bool
 | [],[]=>true
 | (n,a)::r,(m,b)::s=>n == m && DataW.same a b && vH r s
 | _,_=>false
theorem yk:∀(l m:List (String × DataW Unit)),vH l m=true→l=m
 | [],[],_=>rfl
 | (n,a)::r,(k,b)::s,h=>by
  simp only [vH,Bool.and_eq_true,beq_iff_eq] at h;rw [h.1.1,DataW.same_eq a b h.1.2,yk r s h.2]
 | [],_::_,h=>by cases h
 | _::_,[],h=>by cases h
theorem Tg{P:Program}{n fuel M:Nat}{laid:List (String × DataW Unit)}{os:Os}{tape:Tape}{g:FuncId}(hg:varsId P=g) (he:funcsListed laid=[])
  (h:(match runN P n (Machine.entering P (World.unlaid P os) tape g ⟨#[],#[],[]⟩) with
   | .ended (.done _) w=>(DataW.laidRun P w.memory fuel ((laid.filter fun x=>x.2.handleName?.isNone).map (·.1))).any fun x=>nodupBits M x.2 0 && laidRowsB P w.memory x.2 && (laid.filter fun x=>x.2.handleName?.isSome && x.2.funcsIn?.isNone).all (handleAtB P w.memory) && vH x.1 (laid.filter fun x=>x.2.handleName?.isNone)
   | _=>false)=true):doorLeaves P n fuel M laid os tape=some (laid.filter fun x=>x.2.handleName?.isNone,(funcsListed laid).map (·.2.funcsOut)):=by
 unfold doorLeaves
 rw [hg]
 split at h
 ·
  rename_i v w hr
  rw [hr]
  simp only
  cases hx:DataW.laidRun P w.memory fuel ((laid.filter fun x=>x.2.handleName?.isNone).map (·.1)) with
  | none=>rw [hx] at h;cases h
  | some x=>
   rw [hx] at h;simp only [Option.any_some,Bool.and_eq_true] at h;obtain⟨⟨⟨h1,h2⟩,h3⟩,h4⟩:=h;have e:=yk _ _ h4;rw [he];simp only [Option.bind_some,h1,h2,h3,Bool.and_self,if_true,List.map_nil,funcsRun,Option.map_some,← e]
 cases h
end Go.Rc

namespace Go.Rc
open Go
theorem D8:∀l:List Int,(l.map fun z=>[Value.int .i64 z]).flatten=l.map (Value.int .i64)
 | []=>rfl
 | x::r=>by rw [List.map_cons,List.map_cons,List.flatten_cons,D8 r];rfl
theorem Th{H:Type}{enc:TypeId × Value→H}{P:Program}{w:World}{r:Reach}{base:Nat}{t e:TypeId}{fuel n c:Nat}{a:Option Addr}{d:DataW H}{p:List MemPlace}(ht:P.underlying t=some (.slice e)) (k1:P.cellsOf e=1) (b1:1≤P.bytesOf e) (he:P.underlying e=some (.int .i64))
  (iD:Value.okWide P w r base t (.slice a n c)) (h:DataW.trod enc P w 0 (fun _=>true) true fuel t [.slice a n c]=some (d,p)) (hl:P0 P t d):∃l:List Int,Rd RR.int 1 (fun b=>b<w.heap.size) w a n c l:=by
 obtain⟨l,hlr⟩:=Tb (R:=fun(z:Int) r=>r=[Value.int .i64 z]) ht k1 (Nat.le_refl _) b1 (fun m cs d p hm uT _=>by
  obtain⟨z,rfl,_,_⟩:=DataW.trod_int he hm;exact⟨z,rfl⟩) h hl
 refine⟨l,hlr.len,l.map fun z=>[Value.int .i64 z],by simp,fun r hr=>?_,?_,fun i x r hx hr=>?_⟩
 ·
  obtain⟨z,_,rfl⟩:=List.mem_map.1 hr
  rfl
 ·
  rw [D8];refine⟨by simp [hlr.len],hlr.le,fun u hu=>?_,?_⟩
  ·
   obtain⟨z,_,rfl⟩:=List.mem_map.1 hu
   rfl
  rcases Deep.open_slice ht h with⟨hc,_⟩ | ⟨q,len,cap,m,fu,D,Pl,hc,_,hle,hmx,_⟩
  ·
   simp only [List.cons.injEq,Value.slice.injEq,and_true] at hc;exact .inl hc
  simp only [List.cons.injEq,Value.slice.injEq,and_true] at hc;obtain⟨rfl,rfl,rfl⟩:=hc
  have hz:q.spot=none∧q.block<w.heap.size:=by
   simp only [Value.okWide,ht,Cell.okWide,Cell.ok] at iD;obtain⟨_,_,_,h4,row,cells,h5,_⟩:=iD;refine⟨h4,?_⟩
   unfold World.shape? at h5
   split at h5
   ·
    rename_i hh
    exact(Array.getElem?_eq_some_iff.1 hh).1
   cases h5
  obtain⟨b,o,s⟩:=q;obtain⟨hs,hb⟩:=hz;simp only at hs hb;subst hs;refine .inr ⟨b,o,rfl,hle,hmx,hb,hb,fun j v hv=>?_⟩;rw [List.getElem?_map] at hv;obtain⟨z,hz,rfl⟩:=Option.map_eq_some_iff.1 hv;obtain⟨b',o',r',e1,_,rfl,hr,_⟩:=hlr.at_ hz;simp only [Option.some.injEq,Addr.mk.injEq,and_true] at e1;obtain⟨rfl,rfl⟩:=e1
  have:=hr 0 _ rfl
  simpa using this
 rw [List.getElem?_map,hx] at hr;exact(Option.some.inj hr).symm
end Go.Rc

