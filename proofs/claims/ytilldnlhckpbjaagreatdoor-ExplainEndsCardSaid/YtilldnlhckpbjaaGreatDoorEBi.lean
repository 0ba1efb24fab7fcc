/- Base of the proof: frames, memory, ownership, and the plain meaning of rule systems. Conditions: as each lemma says. -/
import Derived.Test.YtilldnlhckpbjaaGreatDoorEBh
import Derived.Test.YtilldnlhckpbjaaGreatDoorEBe
import Derived.Deep.Slices
import Derived.SizedLaws
import Derived.Lib.LaidU8
import Derived.Lib.LaidTab
import Derived.LaidLaws
import GoSem.ClaimFn
import Derived.JoinedOf
import Derived.LaidOnce
import Derived.TwinInFollowed
import Derived.WideShapes
set_option linter.all false
namespace Go.Rc
open Go
section
variable {P:Program}{kv:KV}{w:World}{T U ty:TypeId}{x y:Operand}
theorem PV.VL{k:IntKind}{p q:Int}(a:ev kv x=some (.int k p)) (hy:ev kv y=some (.int k q)) (h:p≠q):PV P (.binOp .eql T x y U) ty kv w (.bool false):=by
 have b:PV P (.binOp .eql T x y U) ty kv w _:=PV.N0 a hy
 rwa [decide_eq_false h] at b
theorem PV.VM(hT:ze P T) {p q:Key}(a:ev kv x=some p.val) (hy:ev kv y=some q.val) (h:p=q):PV P (.binOp .neq T x y U) ty kv w (.bool false):=by
 have b:PV P (.binOp .neq T x y U) ty kv w _:=PV.DZ hT a hy
 rwa [decide_eq_false fun e=>e h] at b
end
end Go.Rc

namespace Go.Rc
open Go
section
variable {H:Type}{enc:TypeId × Value→H}{P:Program}{w:World}
theorem pw{e:TypeId}:∀{l:List (DataW H)}{d:DataW H},d∈l→∀n∈d.weights P e,n∈DataW.weightsAll P e l
 | [],_,a,_,_=>by cases a
 | x::r,d,a,n,hn=>by
  simp only [DataW.weightsAll,List.mem_append]
  rcases List.mem_cons.1 a with rfl | a
  ·
   exact .inl hn
  exact .inr (pw a n hn)
def E4(P:Program) (t:TypeId) (d:DataW H):Prop:=∀n∈d.weights P t,n≤reachBytes
theorem E4.len{t e:TypeId}{xs a:List (DataW H)}(h:E4 P t (.slice xs a)) (ht:P.underlying t=some (.slice e)) (hb:1≤P.bytesOf e):xs.length≤140737488355328:=by
 have h1:=h ((xs.length+a.length)*P.bytesOf e) (by simp only [DataW.weights,ht];exact List.mem_cons_self)
 unfold reachBytes at h1
 have b:xs.length*1≤(xs.length+a.length)*P.bytesOf e:=Nat.mul_le_mul (by omega) hb
 omega
theorem E4.elem{t e:TypeId}{xs a:List (DataW H)}(h:E4 P t (.slice xs a)) (ht:P.underlying t=some (.slice e)) {d:DataW H}(b:d∈xs):E4 P e d:=fun n hn=>
 h n (by simp only [DataW.weights,ht,List.mem_cons,List.mem_append];exact .inr (.inl (pw b n hn)))
theorem E4.each{a:List TypeId}{ds:List (DataW H)}(h:(DataW.weightsEach P a ds).all (·≤reachBytes)=true) {j:Nat}{t:TypeId}{d:DataW H}(ht:a[j]?=some t) (b:ds[j]?=some d):E4 P t d:=fun n hn=>by
 have:=List.all_eq_true.1 h n (DataW.weights_mem_each ht b n hn)
 simpa using this
theorem HA{α:Type} [Inhabited α] {R:α→List Value→Prop}{t e:TypeId}{k fuel n c:Nat}{a:Option Addr}{d:DataW H}{p:List MemPlace}(ht:P.underlying t=some (.slice e)) (hk:P.cellsOf e=k) (M:1≤k) (hb:1≤P.bytesOf e)
  (C:∀(m:Nat) (cs:List Value) (d:DataW H) (p:List MemPlace),DataW.trod enc P w 0 (fun _=>true) true m e cs=some (d,p)→cs.length=k→E4 P e d→∃x:α,R x cs)
  (h:DataW.trod enc P w 0 (fun _=>true) true fuel t [.slice a n c]=some (d,p)) (hl:E4 P t d):∃xs:List α,LR (fun b=>b<w.heap.size) w k R a n xs:=by
 rcases Deep.open_slice ht h with⟨hc,_⟩ | ⟨l,len,cap,m,N,D,O,hc,_,hle,_,hm,f,E⟩
 ·
  simp only [List.cons.injEq,Value.slice.injEq,and_true] at hc;obtain⟨rfl,rfl,rfl⟩:=hc;exact⟨[],⟨rfl,by omega,fun f=>by simp at f⟩⟩
 simp only [List.cons.injEq,Value.slice.injEq,and_true] at hc;obtain⟨rfl,rfl,rfl⟩:=hc;simp only [Prod.mk.injEq] at f;obtain⟨rfl,_⟩:=f;simp only [if_true] at hm
 have hn:n≤140737488355328:=by simpa using hl.len ht hb
 have each:∀i,i<n→∃q:α × List Value,w.cells? 0 (l.add (i*k)) k=some q.2∧R q.1 q.2:=fun i hi=>by
  obtain⟨F,h1,G⟩:=E i (by omega);rw [hk] at h1;obtain⟨x,f⟩:=C _ _ _ _ G (World.cells?_some h1).2.1 (hl.elem ht (List.mem_map.2 ⟨i,by simpa using hi,rfl⟩));exact⟨(x,F),h1,f⟩
 obtain⟨q,r⟩:=Deep.choose_lt each;refine⟨(List.range n).map fun i=>(q i).1,⟨by simp,hn,fun {i x} f=>?_⟩⟩
 obtain⟨hi,rfl⟩:i<n∧(q i).1=x:=by
  rw [List.getElem?_map] at f;obtain⟨j,g,I⟩:=Option.map_eq_some_iff.1 f;rw [List.getElem?_eq_some_iff] at g;obtain⟨u,z⟩:=g
  simp at u z
  subst z;exact⟨u,I⟩
 have A:l.spot=none:=by
  obtain⟨_,Q,J⟩:=World.cells?_some (r 0 (by omega)).1;have h0:=J 0 (by omega);rw [List.getElem?_eq_getElem (by omega)] at h0
  have:=World.cell?_spot h0
  simpa [Addr.add] using this
 obtain⟨b,o,s⟩:=l;simp only at A;subst A;obtain⟨_,K,L⟩:=World.cells?_some (r i hi).1
 have hr:w.rangeAt b (o+i*k) (q i).2:=fun j v B=>by
  have g:j<k:=by have:=(List.getElem?_eq_some_iff.1 B).1;omega
  have:=L j g
  rw [WideShapes.add_plain,WideShapes.add_plain] at this;rw [this,B]
 refine⟨b,o,(q i).2,rfl,K,(r i hi).2,hr,?_,?_⟩ <;>
  exact World.block_lt_of_cell? w ⟨b,_,none⟩ (hr 0 _ (List.getElem?_eq_getElem (by omega)))
end
def rJ(P:Program) (w:World) (n:String):Prop:=∃(nm:String) (d:DataW Unit) (g t:Nat) (ms:Array (String × TypeId)),Lib.VarReads P w n (.iface nm d)∧P.globalNamed n=some g∧(P.globals[g]?).map (·.type)=some t∧P.underlying t=some (.interface ms)
theorem La{P:Program}{w:World}{g t e:Nat}(k:Lib.VarReads P w "internal/strconv.uint64pow10" (Lib.tabData .u64 Lib.pow10Tab)) (h:P.globalNamed "internal/strconv.uint64pow10" = some g) (l:(P.globals[g]?).map (·.type)=some t) (ht:P.underlying t=some (.array 20 e)) (he:P.underlying e=some (.int .u64))
  (m:P.cellsOf e=1) (o:P.cellsOf t=20) (q:rJ P w "strconv.ErrSyntax") (r:rJ P w "strconv.ErrRange"):jM P (fun b=>b<w.heap.size) w:=by
 obtain⟨F,G,cs,fuel,p,s,z,a,A⟩:=k;obtain rfl:=Option.some.inj (h.symm.trans s);obtain rfl:=Option.some.inj (l.symm.trans z);have hc:=Lib.cells_of_tab ht he m o A
 have hT:Lib.TabIs P w "internal/strconv.uint64pow10" .u64 Lib.pow10Tab:=by
  unfold Lib.TabIs
  rw [a,← hc]
 have i:g<w.heap.size:=by
  unfold World.var? at a
  simp only [h,Option.bind_some] at a
  split at a
  ·
   rename_i f
   exact(Array.getElem?_eq_some_iff.1 f).1
  cases a
 refine⟨⟨g,i,i,fun w' e=>?_⟩,fun n hn g2 B=>?_⟩
 ·
  unfold Lib.TabIs World.var? at hT ⊢
  simp only [h,Option.bind_some] at hT ⊢;rw [e];exact hT
 have C:rJ P w n:=by
  rcases hn with rfl | rfl
  ·
   exact q
  exact r
 obtain⟨I,d,g3,t3,ms,⟨g4,t4,J,K,p4,e1,e2,c,D⟩,e3,e4,e5⟩:=C;obtain rfl:=Option.some.inj (e1.symm.trans B);obtain rfl:=Option.some.inj (e1.symm.trans e3);obtain rfl:=Option.some.inj (e2.symm.trans e4);obtain⟨_,u,v,E,_,_⟩:=iface_of_trod e5 D
 unfold World.var? at c
 simp only [e1,Option.bind_some] at c
 split at c
 ·
  rename_i c0 x0 L f
  obtain rfl:=Option.some.inj c;have j:=(Array.getElem?_eq_some_iff.1 f).1;refine⟨j,j,.iface u v,.inr ⟨u,v,rfl⟩,fun w' e=>?_⟩;obtain rfl:c0=#[.iface u v]:=Array.toList_inj.1 E
  unfold World.cell?
  simp only [e,f]
  first | done | rfl
 cases c
theorem aK.Lb{w w':World}(h:aK [] w w') (B:Nat) (a:B≤w.heap.size):RowKit.Below B w w':=⟨h.os,h.tape,h.output,h.size,fun k hk=>h.block k (by omega) (by simp)⟩
end Go.Rc

namespace Go.Rc
open Go
def Lc(m f:Nat):Bool:=Nat.beq (Nat.land (Nat.shiftRight m f) 1) 1
def zU(look:FuncId→Option Func) (P:Program):Nat→List FuncId→Nat→List FuncId→List FuncId
 | 0,_,_,seen=>seen.reverse
 | _,[],_,seen=>seen.reverse
 | n+1,f::todo,mask,seen=>
  match Lc mask f with
  | true=>zU look P n todo mask seen
  | false=>zU look P n ((look f).elim [] P.leadsTo++todo) (Nat.lor mask (Nat.shiftLeft 1 f)) (f::seen)
theorem HB(m f:Nat):Lc m f=m.testBit f:=by
 unfold Lc
 show Nat.beq ((m >>> f) &&& 1) 1=m.testBit f
 rw [Nat.testBit,Nat.and_comm];have h:=Nat.and_one_is_mod (m >>> f);rw [Nat.and_comm]
 have a:(1 &&& m >>> f)=(m >>> f) % 2:=by rw [Nat.and_comm];exact h
 rw [Nat.and_comm,a]
 rcases Nat.mod_two_eq_zero_or_one (m >>> f) with e | e <;> rw [e] <;> rfl
theorem vt{look:FuncId→Option Func}(P:Program) (hl:∀g,P.funcs[g]?=look g):∀(n:Nat) (todo:List FuncId) (mask:Nat) (seen:List FuncId),(∀x:Nat,mask.testBit x=seen.contains x)→zU look P n todo mask seen=P.closureVia n todo seen
 | 0,_,_,_,_=>by unfold zU Program.closureVia;rfl
 | n+1,[],_,_,_=>by unfold zU Program.closureVia;rfl
 | n+1,f::todo,mask,seen,h=>by
  unfold zU Program.closureVia
  rw [HB,h f]
  cases hc:seen.contains f with
  | true=>simp only [if_true];exact vt P hl n todo mask seen h
  | false=>
   simp only [Bool.false_eq_true,if_false];rw [hl f];refine vt P hl n _ _ _ fun x=>?_
   show(mask ||| (1 <<< f)).testBit x=(f::seen).contains x
   rw [Nat.testBit_or,h x,Nat.shiftLeft_eq,Nat.one_mul,Nat.testBit_two_pow,List.contains_cons,Bool.or_comm]
   grind
theorem vu{look:FuncId→Option Func}(P:Program) (hl:∀g,P.funcs[g]?=look g) (f:FuncId):P.closure f=zU look P (1+(P.funcs.toList.map fun g=>(P.leadsTo g).length+1).sum) [f] 0 []:=by grind [Program.closure,vt]
end Go.Rc

namespace Go.Rc
open Go
def vw(P:Program):Nat→List TypeId→List TypeId
 | 0,s=>s
 | d+1,s=>match decide (P.grow s=s) with
  | true=>s
  | false=>vw P d (P.grow s)
theorem uA{P:Program}{s:List TypeId}(h:P.grow s=s):∀n,P.grown n s=s
 | 0=>rfl
 | n+1=>by
  show P.grown n (P.grow s)=s
  rw [h];exact uA h n
theorem uB(P:Program):∀(n:Nat) (s:List TypeId),P.grown n s=vw P n s
 | 0,_=>rfl
 | n+1,s=>by
  show P.grown n (P.grow s)=match decide (P.grow s=s) with | true=>s | false=>vw P n (P.grow s)
  by_cases h:P.grow s=s
  ·
   grind [uA]
  rw [decide_eq_false h];exact uB P n _
def mg(P:Program) (t:TypeId):List TypeId:=vw P P.types.size [t]
theorem j8(P:Program) (t:TypeId):P.book t=mg P t:=uB P _ _
def E7(P:Program) (t:TypeId):Bool:=(mg P t).all fun u=>P.fineRow u && (P.partsOf u).all ((mg P t).contains ·)
theorem qw(P:Program) (t:TypeId):P.readableRec t=E7 P t:=by grind [Program.readableRec,E7,j8]
def E8(P:Program) (t:TypeId):Bool:=(mg P t).any fun u=>(P.partsOf u).any fun v=>(mg P v).contains u
theorem xT(P:Program) (t:TypeId):P.loopsFrom t=E8 P t:=by grind [Program.loopsFrom,E8,j8]
def Jh(P:Program) (t:TypeId):Bool:=(mg P t).any fun u=>match P.underlying u with | some (.map _ _)=>true | _=>false
theorem HC(P:Program) (t:TypeId):P.mapsRec t=Jh P t:=by grind [Program.mapsRec,Jh,j8]
def BU(P:Program) (t:TypeId):Bool:=(mg P t).any fun u=>match P.underlying u with | some (.interface _)=>true | _=>false
theorem uC(P:Program) (t:TypeId):P.ifacesRec t=BU P t:=by grind [Program.ifacesRec,BU,j8]
def qx(P:Program) (t:TypeId):Bool:=(mg P t).any fun u=>match P.underlying u with | some (.func ..) | some (.chan ..) | some .unsafePointer=>true | _=>false
theorem oH(P:Program) (t:TypeId):P.veiledRec t=qx P t:=by grind [Program.veiledRec,qx,j8]
def Ji(P:Program) (t:TypeId):Bool:=
 (mg P t).any fun u=>match P.underlying u with
  | some (.map k _)=>(match P.underlying k with | some (.array _ _) | some (.struct _)=>true | _=>false)
  | _=>false
theorem HD(P:Program) (t:TypeId):P.wideKeysFrom t=Ji P t:=by grind [Program.wideKeysFrom,Ji,j8]
def mW(P:Program) (t:TypeId):Bool:=!qx P t || (let L:=P.libraryStructs;(mg P t).all fun u=>!(P.libraryStructIn L u && qx P u))
theorem nQ(P:Program) (t:TypeId):P.veiledOwn t=mW P t:=by grind [Program.veiledOwn,mW,j8,oH]
def xU(P:Program) (n:String):Bool:=
 match P.globalNamed n with
 | some g=>((P.globals[g]?).map (·.type)).any fun t=>E7 P t && mW P t
 | none=>false
theorem zV(P:Program) (n:String):P.varReadable n=xU P n:=by grind [Program.varReadable,xU,qw,nQ]
end Go.Rc

namespace Go.Rc
open Go
def blocks{α:Type _}:Nat→List α→List (List α)
 | 0,_=>[]
 | n+1,l=>l.take 32::blocks n (l.drop 32)
def pick{α:Type _}(b:List (List α)) (t:Nat):Option α:=(b[t / 32]?).bind (·[t % 32]?)
theorem iY{α:Type _}:∀(n:Nat) (l:List α) (t:Nat),l.length≤n*32→pick (blocks n l) t=l[t]?
 | 0,l,t,h=>by grind [pick,blocks]
 | n+1,l,t,h=>by
  by_cases ht:t<32
  ·
   grind [pick,blocks]
  have h1:t / 32=(t - 32) / 32+1:=by omega
  have a:t % 32=(t - 32) % 32:=by omega
  have b:=iY n (l.drop 32) (t - 32) (by simp;omega)
  grind [pick,blocks]
def rootOf(b:List (List TypeInfo)) (t:TypeId):Option TypeDesc:=
 (pick b t).bind fun i=>match i.desc with
  | .named _ u=>(pick b u).map (·.desc)
  | d=>some d
def wide(b:List (List TypeInfo)) (t:TypeId):Nat:=((pick b t).map (·.size)).getD 0
theorem oI{P:Program}{n:Nat}(hn:P.types.size≤n*32) {t:TypeId}{i:TypeInfo}(h:pick (blocks n P.types.toList) t=some i):P.info? t=some i:=by
 rw [iY n _ t (by simpa using hn),Array.getElem?_toList] at h;have ht:t<P.types.size:=(Array.getElem?_eq_some_iff.1 h).1
 unfold Tables.info?
 rw [if_pos ht,h]
theorem HE{P:Program}{n:Nat}(hn:P.types.size≤n*32) {t:TypeId}(h:t<P.types.size):∃i,pick (blocks n P.types.toList) t=some i:=by
 rw [iY n _ t (by simpa using hn),Array.getElem?_toList]
 simp_all
theorem oJ{P:Program}{n:Nat}(hn:P.types.size≤n*32) {t:TypeId}{d:TypeDesc}(h:rootOf (blocks n P.types.toList) t=some d):P.underlying t=some d:=by
 unfold rootOf at h
 unfold Program.underlying
 cases a:pick (blocks n P.types.toList) t with
 | none=>rw [a] at h;cases h
 | some i=>
  rw [a] at h;rw [oI hn a];obtain⟨e,_⟩:=i
  grind [pick,oI]
theorem nR{P:Program}{n:Nat}(hn:P.types.size≤n*32) {t:TypeId}(h:t<P.types.size):wide (blocks n P.types.toList) t=P.cellsOf t:=by grind [HE,wide,Program.cellsOf,oI]
def stands(b:List (List TypeInfo)) (N:Nat) (t:TypeId):Bool:=Nat.ble (t+1) N && kindOk (rootOf b t)
theorem lP{b:List (List TypeInfo)}{N:Nat}{t:TypeId}(h:stands b N t=true):t<N:=by
 simp only [stands,Bool.and_eq_true] at h;exact Nat.le_of_ble_eq_true h.1
theorem lQ{P:Program}{n:Nat}(hn:P.types.size≤n*32) {t:TypeId}(h:stands (blocks n P.types.toList) P.types.size t=true):isVar P t=true:=by
 have hl:=lP h;simp only [stands,Bool.and_eq_true] at h
 unfold isVar
 cases hr:rootOf (blocks n P.types.toList) t with
 | none=>rw [hr] at h;cases h.2
 | some d=>grind [oJ]
def nS(b:List (List TypeInfo)) (N:Nat):Nat→List Field→Bool
 | _,[]=>true
 | o,f::r=>stands b N f.type && Nat.beq f.offset o && nS b N (o+wide b f.type) r
def sumOf(b:List (List TypeInfo)):List Field→Nat
 | []=>0
 | f::r=>wide b f.type+sumOf b r
def Le(b:List (List TypeInfo)) (N:Nat) (t:TypeId):Bool:=
 match rootOf b t with
 | none=>false
 | some (.struct fs)=>nS b N 0 fs.toList && Nat.beq (wide b t) (sumOf b fs.toList)
 | some (.array k e)=>stands b N e && Nat.beq (wide b t) (k*wide b e)
 | some (.pointer e)=>stands b N e && Nat.beq (wide b t) 1
 | some (.slice e)=>stands b N e && Nat.beq (wide b t) 1
 | some (.tuple _)=>true
 | some .invalid=>true
 | some (.named _ _)=>true
 | _=>Nat.beq (wide b t) 1
def zO(b:List (List TypeInfo)) (N:Nat) (t:TypeId):Bool:=
 match rootOf b t with
 | none=>false
 | some (.map _ e)=>Nat.ble (e+1) N
 | _=>true
theorem nT{P:Program}{n:Nat}(hn:P.types.size≤n*32):∀(fs:List Field) (o:Nat),nS (blocks n P.types.toList) P.types.size o fs=true→
  (∀f∈fs,isVar P f.type=true)∧(∀j f,fs[j]?=some f→f.offset=o+((fs.take j).map fun f=>P.cellsOf f.type).sum)∧sumOf (blocks n P.types.toList) fs=(fs.map fun f=>P.cellsOf f.type).sum
 | [],_,_=>⟨by simp,by simp,rfl⟩
 | g::r,o,h=>by
  simp only [nS,Bool.and_eq_true] at h;obtain⟨⟨h1,b⟩,a⟩:=h;rw [nR hn (lP h1)] at a;obtain⟨c,i2,i3⟩:=nT hn r _ a;refine⟨fun f d=>?_,fun j f e=>?_,?_⟩
  ·
   grind [lQ]
  ·
   cases j with
   | zero=>simp_all
   | succ j=>grind
  grind [sumOf,nR,lP]
theorem CS{P:Program}{n:Nat}(hn:P.types.size≤n*32) {t:TypeId}(ht:t<P.types.size) (h:Le (blocks n P.types.toList) P.types.size t=true):rowFine P t=true:=by
 unfold Le at h
 rw [nR hn ht] at h
 unfold rowFine
 rw [Bool.or_eq_true]
 cases hr:rootOf (blocks n P.types.toList) t with
 | none=>rw [hr] at h;cases h
 | some d=>
  have hu:=oJ hn hr;rw [hr] at h
  cases d with
  | struct fs=>
   right
   simp only [hu];simp only [Bool.and_eq_true] at h;obtain⟨h1,c,b⟩:=nT hn fs.toList 0 h.1;simp only [Bool.and_eq_true,List.all_eq_true,beq_iff_eq];refine⟨⟨h1,(Nat.eq_of_beq_eq_true h.2).trans b⟩,fun j f=>?_⟩
   grind
  | array k e=>
   right
   simp only [hu];simp only [Bool.and_eq_true] at h ⊢;rw [nR hn (lP h.1)] at h;exact⟨lQ hn h.1,by simp_all⟩
  | pointer e=>
   right
   simp only [hu];simp only [Bool.and_eq_true] at h ⊢;exact⟨lQ hn h.1,by simp_all⟩
  | slice e=>
   right
   simp only [hu];simp only [Bool.and_eq_true] at h ⊢;exact⟨lQ hn h.1,by simp_all⟩
  | tuple e=>left;simp [isVar,hu,kindOk]
  | invalid=>left;simp [isVar,hu,kindOk]
  | named a e=>left;simp [isVar,hu,kindOk]
  | _=>
   right
   simp only [hu];rw [beq_iff_eq];exact Nat.eq_of_beq_eq_true h
def xV(f:Nat→Bool):Nat→Bool
 | 0=>true
 | n+1=>f n && xV f n
theorem lp{f g:Nat→Bool}:∀(n:Nat),xV f n=true→(∀t,t<n→f t=true→g t=true)→(List.range n).all g=true
 | 0,_,_=>by simp
 | n+1,h,a=>by
  simp only [xV,Bool.and_eq_true] at h;rw [List.range_succ,List.all_append,lp n h.2 fun t ht=>a t (by omega)]
  simp [a n (by omega) h.1]
theorem CT{P:Program}{N n:Nat}(a:P.types.size=N) (hn:Nat.ble N (n*32)=true) (h:xV (Le (blocks n P.types.toList) N) N=true):(List.range P.types.size).all (rowFine P)=true:=by
 subst a
 exact lp _ h fun t hl ht=>CS (Nat.le_of_ble_eq_true hn) hl ht
theorem zW{P:Program}{N n:Nat}(a:P.types.size=N) (hn:Nat.ble N (n*32)=true) (h:xV (zO (blocks n P.types.toList) N) N=true):mapsRowed P=true:=by
 subst a
 unfold mapsRowed
 refine lp _ h fun t hl ht=>?_
 unfold zO at ht
 cases hr:rootOf (blocks n P.types.toList) t with
 | none=>rw [hr] at ht;cases ht
 | some d=>
  have hu:=oJ (Nat.le_of_ble_eq_true hn) hr
  grind [Nat.le_of_ble_eq_true]
theorem zX{P:Program}{N:Nat}(a:P.types.size=N) (h:P.globals.toList.all (fun g=>Nat.ble (g.type+1) N)=true):P.globals.all (fun g=>decide (g.type<P.types.size))=true:=by grind [Nat.le_of_ble_eq_true]
theorem CU{P:Program}{N:Nat}(a:P.types.size=N) (h:P.funcs.toList.all (fun f=>f.params.toList.all fun t=>Nat.ble (t+1) N)=true):P.funcs.all (fun f=>f.params.all fun t=>decide (t<P.types.size))=true:=by grind [Nat.le_of_ble_eq_true]
theorem E9{P:Program}(h1:(List.range P.types.size).all (rowFine P)=true) (a:P.globals.all (fun g=>decide (g.type<P.types.size))=true) (b:P.funcs.all (fun f=>f.params.all fun t=>decide (t<P.types.size))=true):laidOutB P=true:=by grind [laidOutB]
theorem both{a b:Bool}(c:a=true) (hb:b=true):(a && b)=true:=by rw [c,hb];rfl
end Go.Rc

namespace Go.Rc
open Go
theorem zY{P:Program}{N n:Nat}(a:P.funcs.size=N) (hn:Nat.ble N (n*32)=true) (g:FuncId):P.funcs[g]?=pick (blocks n P.funcs.toList) g:=by
 subst a;rw [iY n _ g (by simpa using Nat.le_of_ble_eq_true hn),Array.getElem?_toList]
def Fa(name:String):Nat→List Func→List Nat
 | _,[]=>[]
 | k,f::r=>match f.name == name with
  | true=>k::Fa name (k+1) r
  | false=>Fa name (k+1) r
theorem BV(name:String):∀(l:List Func) (k:Nat),Fa name k l=((List.range l.length).filter fun i=>(l[i]?).any (·.name == name)).map (· + k)
 | [],_=>rfl
 | f::r,k=>by
  have h:=BV name r (k+1);rw [List.length_cons,List.range_succ_eq_map,List.filter_cons,List.filter_map,List.getElem?_cons_zero]
  have e:((fun i=>((f::r)[i]?).any (·.name == name))∘Nat.succ)=fun i=>(r[i]?).any (·.name == name):=by
   funext i
   simp
  rw [e]
  have m:∀q:List Nat,(q.map Nat.succ).map (· + k)=q.map (· + (k+1)):=by
   intro q;rw [List.map_map]
   congr 1
   funext x
   show x.succ+k=x+(k+1)
   omega
  unfold Fa
  cases hb:f.name == name with
  | true=>simp only [Option.any_some,hb,if_true,List.map_cons,Nat.zero_add,m,h]
  | false=>simp only [Option.any_some,hb,Bool.false_eq_true,if_false,m,h]
theorem lq(P:Program) (name:String):P.funcNamed name=match Fa name 0 P.funcs.toList with | [i]=>some i | _=>none:=by
 unfold Program.funcNamed
 rw [BV];simp only [Nat.add_zero,List.map_id',Array.length_toList,Array.getElem?_toList]
 generalize (List.range P.funcs.size).filter (fun i=>(P.funcs[i]?).any (·.name == name))=q
 rcases q with _ | ⟨a,_ | ⟨b,r⟩⟩ <;> rfl
theorem lu(P:Program) (word:String):P.worded word=P.funcs.toList.any fun fn=>fn.body.isNone && fn.name == word:=by
 unfold Program.worded
 rw [Array.any_toList]
theorem rK(P:Program):P.laysLater=P.funcs.toList.any fun fn=>fn.body.isNone && (fn.name == "runtime.SetFinalizer" || fn.name == "runtime.AddCleanup" || fn.origin == "runtime.AddCleanup"):=by
 unfold Program.laysLater
 rw [Array.any_toList]
theorem qb(P:Program):P.stopsHeard=P.funcs.toList.all fun fn=>(Stop.rowOf fn).isNone || !fn.norace:=by
 unfold Program.stopsHeard
 rw [Array.all_toList]
def nU:List (String × DataW Unit)→List (String × DataW Unit)→Bool
 | [],[]=>true
 | (n,a)::r,(m,b)::s=>n == m && DataW.same a b && nU r s
 | _,_=>false
theorem px:∀(l m:List (String × DataW Unit)),nU l m=true→l=m
 | [],[],_=>rfl
 | (n,a)::r,(k,b)::s,h=>by
  simp only [nU,Bool.and_eq_true,beq_iff_eq] at h;rw [h.1.1,DataW.same_eq a b h.1.2,px r s h.2]
 | [],_::_,h=>by cases h
 | _::_,[],h=>by cases h
theorem HF{P:Program}{n fuel M:Nat}{laid:List (String × DataW Unit)}{os:Os}{tape:Tape}{g:FuncId}(b:varsId P=g) (he:funcsListed laid=[])
  (h:(match runN P n (Machine.entering P (World.unlaid P os) tape g ⟨#[],#[],[]⟩) with
   | .ended (.done _) w=>(DataW.laidRun P w.memory fuel ((laid.filter fun x=>x.2.handleName?.isNone).map (·.1))).any fun x=>nodupBits M x.2 0 && laidRowsB P w.memory x.2 && (laid.filter fun x=>x.2.handleName?.isSome && x.2.funcsIn?.isNone).all (handleAtB P w.memory) && nU x.1 (laid.filter fun x=>x.2.handleName?.isNone)
   | _=>false)=true):doorLeaves P n fuel M laid os tape=some (laid.filter fun x=>x.2.handleName?.isNone,(funcsListed laid).map (·.2.funcsOut)):=by
 unfold doorLeaves
 rw [b]
 split at h
 ·
  rename_i v w hr
  rw [hr]
  simp only
  cases a:DataW.laidRun P w.memory fuel ((laid.filter fun x=>x.2.handleName?.isNone).map (·.1)) with
  | none=>rw [a] at h;cases h
  | some x=>
   rw [a] at h;simp only [Option.any_some,Bool.and_eq_true] at h;obtain⟨⟨⟨h1,c⟩,d⟩,f⟩:=h;have e:=px _ _ f;rw [he];simp only [Option.bind_some,h1,c,d,Bool.and_self,if_true,List.map_nil,funcsRun,Option.map_some,← e]
 cases h
end Go.Rc

namespace Go.Rc
open Go
theorem uD:∀l:List Int,(l.map fun z=>[Value.int .i64 z]).flatten=l.map (Value.int .i64)
 | []=>rfl
 | x::r=>by rw [List.map_cons,List.map_cons,List.flatten_cons,uD r];rfl
theorem HG{H:Type}{enc:TypeId × Value→H}{P:Program}{w:World}{r:Reach}{base:Nat}{t e:TypeId}{fuel n c:Nat}{a:Option Addr}{d:DataW H}{p:List MemPlace}(ht:P.underlying t=some (.slice e)) (k1:P.cellsOf e=1) (b1:1≤P.bytesOf e) (he:P.underlying e=some (.int .i64))
  (A:Value.okWide P w r base t (.slice a n c)) (h:DataW.trod enc P w 0 (fun _=>true) true fuel t [.slice a n c]=some (d,p)) (hl:E4 P t d):∃l:List Int,Rd RR.int 1 (fun b=>b<w.heap.size) w a n c l:=by
 obtain⟨l,f⟩:=HA (R:=fun(z:Int) r=>r=[Value.int .i64 z]) ht k1 (Nat.le_refl _) b1 (fun m cs d p hm J _=>by
  obtain⟨z,rfl,_,_⟩:=DataW.trod_int he hm;exact⟨z,rfl⟩) h hl
 refine⟨l,f.len,l.map fun z=>[Value.int .i64 z],by simp,fun r hr=>?_,?_,fun i x r E hr=>?_⟩
 ·
  obtain⟨z,_,rfl⟩:=List.mem_map.1 hr
  rfl
 ·
  rw [uD];refine⟨by simp [f.len],f.le,fun u hu=>?_,?_⟩
  ·
   obtain⟨z,_,rfl⟩:=List.mem_map.1 hu
   rfl
  rcases Deep.open_slice ht h with⟨hc,_⟩ | ⟨q,len,cap,m,K,D,L,hc,_,hle,F,_⟩
  ·
   simp only [List.cons.injEq,Value.slice.injEq,and_true] at hc;exact .inl hc
  simp only [List.cons.injEq,Value.slice.injEq,and_true] at hc;obtain⟨rfl,rfl,rfl⟩:=hc
  have g:q.spot=none∧q.block<w.heap.size:=by
   simp only [Value.okWide,ht,Cell.okWide,Cell.ok] at A;obtain⟨_,_,_,G,row,cells,k,_⟩:=A;refine⟨G,?_⟩
   unfold World.shape? at k
   split at k
   ·
    rename_i I
    exact(Array.getElem?_eq_some_iff.1 I).1
   cases k
  obtain⟨b,o,s⟩:=q;obtain⟨B,hb⟩:=g;simp only at B hb;subst B;refine .inr ⟨b,o,rfl,hle,F,hb,hb,fun j v C=>?_⟩;rw [List.getElem?_map] at C;obtain⟨z,g,rfl⟩:=Option.map_eq_some_iff.1 C;obtain⟨b',M,N,e1,_,rfl,hr,_⟩:=f.at_ g;simp only [Option.some.injEq,Addr.mk.injEq,and_true] at e1;obtain⟨rfl,rfl⟩:=e1
  have:=hr 0 _ rfl
  simpa using this
 rw [List.getElem?_map,E] at hr;exact(Option.some.inj hr).symm
end Go.Rc

