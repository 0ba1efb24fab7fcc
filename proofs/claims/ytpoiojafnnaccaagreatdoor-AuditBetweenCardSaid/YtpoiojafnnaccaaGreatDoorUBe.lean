/- Base of the proof: frames, memory, ownership, and the plain meaning of rule systems. Conditions: as each lemma says. -/
import Derived.Test.YtpoiojafnnaccaaGreatDoorUBd
import Derived.Lib.IfaceEq
import Derived.Lib.BufferWrite
import Derived.Lib.UnsafeStr
import Derived.Laws.MakeOwn
import Derived.Test.YtpoiojafnnaccaaGreatDoorUBc
set_option linter.all false
namespace Go.Rc
open Go
theorem bj.Hj{w w':World}(h:RowKit.Below w.heap.size w w') (hd:w.drawn≤w'.drawn):bj [] w w':=⟨h.os,h.tape,h.output,h.size,hd,fun k hk _=>h.block k hk⟩
theorem vi(w:World) (p:Addr) (n:Nat):(w.freeze p n).drawn=w.drawn:=by grind [World.freeze]
section
variable {P:Program}{n:Nat}{kv:KV}{w w':World}{K:KV→World→Prop}{d:Tmp}{ty:TypeId}{pos:String}{af:Array Edge}{g:Option (Nat × Bool)}{T U:TypeId}{op:Op}{v:Value}{x y:Operand}
theorem OX.val(hs:bW op=false) (hd:Nat.blt d n=true) (hk:known kv op=true) (hr:(execOp (mi kv) ⟨some d,op,ty,pos,af,g⟩).run P w=.ok (.value v) w') (h:K ((d,v)::kv) w'):OX P ⟨some d,op,ty,pos,af,g⟩ n kv w K:=⟨hs,hd,hk,by rw [hr];exact h⟩
theorem PV.Pb{de:TypeDesc}(hT:P.underlying T=some de) (hd:∀ms,de≠.interface ms) (hx:ev kv x=some v):PV P (.makeInterface T x) ty kv w (.iface T v):=
 ⟨rfl,by simp [known,opers,hx],fun _ _ _ _=>by
  simp only [execOp,aK hx,Instr.makeInterface,Sem.run_bind,run_underlying hT,Result.andThen_ok]
  simp_all⟩
theorem PV.Xe{ms:Array (String × TypeId)}{tx:TypeId}{q:IntKind}{a b:Int}(hT:P.underlying T=some (.interface ms)) (hc:(P.info? tx).map (·.comparable)=some true) (Of:P.underlying tx=some (.int q)) (hx:ev kv x=some (.iface tx (.int .i64 a))) (hy:ev kv y=some (.iface tx (.int .i64 b))):PV P (.binOp .eql T x y U) ty kv w (.bool (a == b)):=
 ⟨rfl,by simp [known,opers,hx,hy],fun _ _ _ _=>by
  have h:=Lib.run_eql_iface_int w (k:=.i64) a b hT hc Of;simp only [execOp,aK hx,aK hy]
  simp [eqGuard,h]⟩
theorem OX.aci{r:Value}(hd:Nat.blt d n=true) {u v:Value}(hx:ev kv x=some u) (hy:ev kv y=some v) (hr:(Instr.makeSlice T u v).run P w=.ok r w') (h:K ((d,r)::kv) w'):OX P ⟨some d,.makeSlice T x y,ty,pos,af,g⟩ n kv w K:=
 OX.val rfl hd (by simp [known,opers,hx,hy]) (by simp only [execOp,aK hx,aK hy,Sem.run_bind,hr,Result.andThen_ok];rfl) h
theorem OX.acj{r u v:Value}(hd:Nat.blt d n=true) (hx:ev kv x=some u) (hy:ev kv y=some v) (hr:(Builtin.copy_ #[T,U] ty #[u,v]).run P w=.ok r w') (h:K ((d,r)::kv) w'):OX P ⟨some d,.call {callee:=.builtin .copy,args:=#[x,y],argTypes:=#[T,U]},ty,pos,af,g⟩ n kv w K:=
 OX.val rfl hd (by simp [known,opers,hx,hy]) (by simp [execOp,aK hx,aK hy,resolve,invoke,builtin,hr]) h
theorem OX.aiB{r u v:Value}(hd:Nat.blt d n=true) (hx:ev kv x=some u) (hy:ev kv y=some v) (hr:(Builtin.unsafeString_ #[T,U] ty #[u,v]).run P w=.ok r w') (h:K ((d,r)::kv) w'):OX P ⟨some d,.call {callee:=.builtin .unsafeString,args:=#[x,y],argTypes:=#[T,U]},ty,pos,af,g⟩ n kv w K:=
 OX.val rfl hd (by simp [known,opers,hx,hy]) (by simp [execOp,aK hx,aK hy,resolve,invoke,builtin,hr]) h
end
theorem EO{P:Program}{T S e pt it ty1 ty2:TypeId}{i:TypeInfo}(hT:P.underlying T=some (.slice e)) (hi:P.info? e=some i) (hz:i.zero=some (.int .u8 0)) (h1:i.size=1) (hb:i.bytes=1) (hp:P.underlying pt=some (.pointer e)) {s:ByteArray}(h0:s.size≠0) (hs:s.size≤1000) (w:World) :
  ∃w1 w2 w3:World,(Instr.makeSlice T (.int .i64 (s.size:Int)) (.int .i64 (s.size:Int))).run P w=.ok (.slice (some ⟨w.heap.size,0,none⟩) s.size s.size) w1∧
   (Builtin.copy_ #[T,S] ty1 #[.slice (some ⟨w.heap.size,0,none⟩) s.size s.size,.string s]).run P w1=.ok (goInt s.size) w2∧
   (Builtin.unsafeString_ #[pt,it] ty2 #[.pointer (some ⟨w.heap.size,0,none⟩),.int .i64 (s.size:Int)]).run P w2=.ok (.string s) w3∧bj [] w w3:=by
 have ack:(P.info? e).map (·.size)=some 1:=by rw [hi];simp [h1]
 have hco:P.cellsOf e=1:=by simp [Program.cellsOf,hi,h1]
 have LF:(Lib.byteCells s.data.toList).length=s.size:=by rw [Lib.byteCells_length,← Lib.size_eq]
 have UL:=run_make (P:=P) w T e i (.int .u8 0) hT hi hz .i64 .i64 (s.size:Int) (s.size:Int) (by omega) (by omega) (by rw [hb];omega) (by omega)
 have hMs:(madeCells (Value.int .u8 0).cells (((s.size:Nat):Int).toNat*i.size)).size=s.size:=by rw [size_madeCells,h1];simp
 generalize madeCells (Value.int .u8 0).cells (((s.size:Nat):Int).toNat*i.size)=M at UL hMs
 rw [Int.toNat_natCast] at UL;have hcp:=Lib.run_copy_row_string (P:=P) (w.alloc (.cells M e)) T S ty1 e w.heap.size 0 s.size s.size s M e hT ack (heap_alloc_new w _) (Nat.le_refl _) (by omega)
 have hY:(M.toList.take 0++Lib.byteCells s.data.toList++M.toList.drop (0+s.size)).toArray=(Lib.byteCells s.data.toList).toArray:=by grind
 rw [hY] at hcp;have hg:((w.alloc (.cells M e)).setRow w.heap.size (Lib.byteCells s.data.toList).toArray).heap[w.heap.size]?=some (.cells (Lib.byteCells s.data.toList).toArray e (0,0)):=setRow_heap _ _ M _ e (0,0) (heap_alloc_new w _);have kh:s.data.toList≠[]:=fun h=>h0 (by rw [Lib.size_eq,h];rfl);have hus:=Lib.run_unsafeString_row (P:=P) ((w.alloc (.cells M e)).setRow w.heap.size (Lib.byteCells s.data.toList).toArray) pt it ty2 e hp hco w.heap.size s.size (by grind [World.shape?]) s.data.toList kh (by rw [← Lib.size_eq];omega) (by rw [← Lib.size_eq];omega)
  (fun j z hz=>Lib.cells_of_row hg s.size j _ (by grind [Lib.byteCells]))
 rw [← Lib.size_eq] at hus;have hB:RowKit.Below w.heap.size (w.alloc (.cells M e)) ((w.alloc (.cells M e)).setRow w.heap.size (Lib.byteCells s.data.toList).toArray):=⟨rfl,rfl,rfl,by simp [World.setRow],fun k hk=>setRow_other _ _ _ _ (by omega)⟩;refine⟨_,_,_,UL,hcp,hus,bj.Hj (Lib.below_freeze (((RowKit.Below.refl _ w).alloc (Nat.le_refl _) _).trans hB) (p:=⟨w.heap.size,0,none⟩) (Nat.le_refl _) _) ?_⟩;rw [vi];exact Nat.le_refl _
end Go.Rc

namespace Go.Rc
open Go
instance:Inhabited dE:=⟨⟨fW,⟨#[]⟩,0⟩⟩
def dV.row(x:dV) (a1:Option Addr) (n1 c1:Nat) (a2:Option Addr) (n2 c2:Nat):List Value:=[.int .i64 x.ae,.slice a1 n1 c1,.slice a2 n2 c2]
def j5(rev:Int) (l:List dE) (i:Nat):Bool:=
 !ik l[i]!.key || (!aB l[i]!.key || ((decide (0<(i:Int)) && decide (0≤cE l[i - 1]!.key l[i]!.key)) || (decide (1073741824<(l[i]!.value.size:Int)) || (decide (l[i]!.changed<0) || decide (rev<l[i]!.changed)))))
def EP(rev:Int) (l:List dE):Prop:=∀i y,l[i]?=some y→j5 rev l i=false
open Classical in
noncomputable def vj(l:List Rec):Bool:=decide (rC l)
theorem JO{l:List Rec}{b:Bool}(h:b=true↔rC l):b=vj l:=by
 unfold vj
 grind
def mB(x:dV):Prop:=EP x.ae x.ah∧(∀(i:Nat) (r:Rec),x.ak[i]?=some r→r.az≤x.ae)∧0≤x.ae∧x.ae≤1073741824∧x.ah.length≤64∧rC x.ak
noncomputable def pX(x:dV):Bool:=decide (0≤x.ae) && (decide (x.ae≤1073741824) && (decide ((x.ah.length:Int)≤64) && vj x.ak))
theorem xU(x:dV):pX x=true↔0≤x.ae∧x.ae≤1073741824∧x.ah.length≤64∧rC x.ak:=by
 simp only [pX,vj,Bool.and_eq_true,decide_eq_true_eq]
 grind
theorem PV.wT{P:Program}{kv:KV}{w:World}{T ty:TypeId}{f off:Nat}{fs:List Field}{fd:Field}(hu:P.underlying T=some (.struct fs.toArray)) (hf:fs[f]?=some fd) (ho:fd.offset=off) (h1:∀w,(isAgg fd.type).run P w=.ok false w)
  {x:Operand}{us:List Value}{v:Value}(hx:ev kv x=some (.agg us.toArray)) (hv:nth us off=some v):PV P (.field T x f) ty kv w v:=
 PV.Sn hu (by simpa using hf) ho h1 hx (by rw [← zA];exact hv)
end Go.Rc
namespace Go.Rc
open Go
def gY(k:Key):Prop:=k.kind<1∨22<k.kind
def aZ(ab:List aJ) (k:Key) (ao:List ByteArray):Hb:=if k.kind=31∨k.kind=32 then dP ab k ao else ⟨true,⟨#[]⟩,fW⟩
def zl(n:Int):ByteArray:=if n=14 then ⟨#[48]⟩ else ⟨#[]⟩
def ub(k:Key):ByteArray:=if k.kind=32 then ⟨#[48]⟩ else if aA k then zl k.kind else ⟨#[]⟩
def jP(ab:List aJ) (k:Key):Bool:=ik k && ((decide (k.kind≠31) && decide (k.kind≠32)) || decide (aQ ab (number k)=k))
def aG(l:List Rec) (k:Key):Rec:=(aD l k).getD pd
def cY(l:List Rec) (rev:Int) (k:Key):Bool:=(aD l k).isSome && (aA k && (decide ((aG l k).az<rev) && !(aG l k).cq))
def rF(x:dV) (k:Key):Bool:=aB k || ((aD x.ak k).isSome && decide ((aG x.ak k).az=x.ae))
def zZ(x:dV) (k:Key):ByteArray:=if aB k then (ek x.ah k).value else if rF x k then (aG x.ak k).value else ⟨#[]⟩
def et(x:dV) (k:Key) (v:ByteArray) (reads:List Key):Rec:=
 ⟨k,v,reads,if (aD x.ak k).isSome && decide ((aG x.ak k).value=v) then (aG x.ak k).changed else x.ae,x.ae,1+(reads.length:Int),false⟩
end Go.Rc
namespace Go.Rc
open Go
open Classical in
noncomputable def iC(ab:List aJ) (x:dV) (goals:List Key):Int:=
 if ¬ay ab then 41 else if ¬mB x then 42 else if 32<goals.length then 3 else if goals.all (jP ab) then 0 else 40
end Go.Rc
namespace Go.Rc
open Go
structure tz where
 fy:Key
 read:Key
 deriving DecidableEq
def tz.cells(x:tz):List Value:=[.int .i64 x.fy.kind,.string x.fy.text,.int .i64 x.read.kind,.string x.read.text]
def eE(group:List Key) (m:Key) (l:List Key):List tz:=(l.filter fun x=>!decide (x∈group)).map fun x=>⟨m,x⟩
def cC(l:List Rec) (group:List Key):List tz:=group.flatMap fun m=>eE group m (aG l m).reads
theorem lT{group:List Key}{m:Key}{l:List Key}{j:Nat}(h:j<l.length):eE group m (l.take (j+1))=if l[j]∈group then eE group m (l.take j) else eE group m (l.take j)++[⟨m,l[j]⟩]:=by
 rw [List.take_succ_eq_append_getElem h];simp only [eE,List.filter_append,List.map_append]
 grind
theorem mJ(group:List Key) (m:Key) (l:List Key):(eE group m l).length≤l.length:=by grind [eE]
end Go.Rc
namespace Go.Rc
end Go.Rc

namespace Go.Rc
open Go
variable {E EK ER EI ES EF base:Nat}{w w':World}{a:Option Addr}{n c:Nat}{S:List Nat}
structure eH where
 key:Key
 running:Bool
 at_:Int
 reads:List Key
 ao:List ByteArray
 deriving DecidableEq
def eH.row(x:eH) (a1:Option Addr) (n1 c1:Nat) (a2:Option Addr) (n2 c2:Nat):List Value:=[.int .i64 x.key.kind,.string x.key.text,.bool x.running,.int .i64 x.at_,.slice a1 n1 c1,.slice a2 n2 c2]
/-! the plain meaning -/
def lj(l:List eH) (k:Key):Bool:=l.any fun f=>decide (f.key=k)
def gH(x:dV) (l:List eH) (k:Key):Bool:=!(aB k || lj l k) && (!(aD x.ak k).isSome || decide ((aG x.ak k).az≠x.ae))
def dG(x:dV) (l others:List eH) (k:Key):Int:=
 if !aA k && lj l k then 3 else if !gH x l k then 0 else if !lj others k then 1 else if aA k then 0 else 2
end Go.Rc
namespace Go.Rc
open Go
variable {EA ERu:Nat}{w w':World}{a:Option Addr}{n c base:Nat}{S:List Nat}
def aJ.row(x:aJ) (a:Option Addr) (n c:Nat):List Value:=[.bool x.ring,.slice a n c,.int .i64 x.final,.int .i64 x.c]
theorem aJ.one(x:aJ) (a:Option Addr) (n c:Nat):∀u∈x.row a n c,u.oneCell'=true:=by simp [aJ.row,Value.oneCell']
end Go.Rc

namespace Go.Rc
open Go
def RR.key:RR Key:=RR.flat Key.cells
def RR.str:RR ByteArray:=RR.flat fun s=>[.string s]
def RR.ask:RR Ask:=RR.flat Ask.cells
def RR.aH:RR dE:=RR.flat dE.cells
def RR.MR:RR tz:=RR.flat tz.cells
def RR.int:RR Int:=RR.flat fun n=>[.int .i64 n]
def RR.gN:RR aJ where
 r Z w x row:=G1 Z w x row
 mono hZ h:=by obtain⟨a,n,c,h1,h2⟩:=h;exact⟨a,n,c,h1,h2.mono (fun b hb _=>hZ b hb) fun _ _ h=>h⟩
 st hs hc h:=by obtain⟨a,n,c,h1,h2⟩:=h;exact⟨a,n,c,h1,SR.st hs hc (fun _ _ h=>h) h2⟩
 cut h:=by obtain⟨a,n,c,h1,h2⟩:=h;exact⟨a,n,c,h1,h2.mono (fun b hb ed=>⟨hb,ed⟩) fun _ _ h=>h⟩
def RR.fl:RR Rec where
 r Z w x row:=∃a n c,row=x.row a n c∧Rd RR.key 2 Z w a n c x.reads∧x.reads.length≤4000
 mono hZ h:=by obtain⟨a,n,c,h1,h2,h3⟩:=h;exact⟨a,n,c,h1,h2.mono hZ,h3⟩
 st hs hc h:=by obtain⟨a,n,c,h1,h2,h3⟩:=h;exact⟨a,n,c,h1,h2.st hs hc,h3⟩
 cut h:=by grind [Rd.cut]
def RR.qU:RR eH where
 r Z w x row:=∃a1 n1 c1 a2 n2 c2,row=x.row a1 n1 c1 a2 n2 c2∧Rd RR.key 2 Z w a1 n1 c1 x.reads∧Rd RR.str 1 Z w a2 n2 c2 x.ao∧x.reads.length≤4000∧x.ao.length≤4000
 mono hZ h:=by obtain⟨a,n,c,a2,n2,c2,h1,h2,h3,h4⟩:=h;exact⟨a,n,c,a2,n2,c2,h1,h2.mono hZ,h3.mono hZ,h4⟩
 st hs hc h:=by obtain⟨a,n,c,a2,n2,c2,h1,h2,h3,h4⟩:=h;exact⟨a,n,c,a2,n2,c2,h1,h2.st hs hc,h3.st hs hc,h4⟩
 cut h:=by grind [Rd.cut]
end Go.Rc

namespace Go.Rc
open Go
/-! ### numbers and their texts -/
theorem Aa:∀(u:Nat) (n:Nat) (rest:List UInt8),decFrom (Lib.decDigits u++rest) (n:Int)=decFrom rest ((n*10 ^ Lib.nDigits u+u:Nat):Int):=by
 intro u
 induction u using Nat.strongRecOn with
 | _ u ih=>
  intro n rest
  by_cases h:u<10
  ·
   rw [Lib.decDigits_one h,Lib.nDigits_small h]
   have e:(UInt8.ofNat (48+u)).toNat=48+u:=by rw [UInt8.toNat_ofNat'];omega
   simp only [List.cons_append,List.nil_append,decFrom,e]
   grind
  rw [Lib.decDigits,dif_neg h,Lib.nDigits_big h,List.append_assoc,ih (u / 10) (by omega)]
  have e:(UInt8.ofNat (48+u % 10)).toNat=48+u % 10:=by rw [UInt8.toNat_ofNat'];omega
  simp only [List.cons_append,List.nil_append,decFrom,e]
  grind
theorem Ab:∀u:Nat,∃d r,Lib.decDigits u=d::r∧(0<u→d≠48):=by
 intro u
 induction u using Nat.strongRecOn with
 | _ u ih=>
  by_cases h:u<10
  ·
   refine⟨_,[],Lib.decDigits_one h,fun hu e=>?_⟩
   have:=congrArg UInt8.toNat e
   rw [UInt8.toNat_ofNat'] at this
   grind
  obtain⟨d,r,h1,h2⟩:=ih (u / 10) (by omega);exact⟨d,r++[UInt8.ofNat (48+u % 10)],by rw [Lib.decDigits,dif_neg h,h1];rfl,fun _=>h2 (by omega)⟩
theorem Ac:∀(k u:Nat),u<10 ^ (k+1)→Lib.nDigits u≤k+1
 | 0,u,h=>by grind [Lib.nDigits_small]
 | k+1,u,h=>by
  by_cases h1:u<10
  ·
   rw [Lib.nDigits_small h1];omega
  rw [Lib.nDigits_big h1]
  have:=Ac k (u / 10) (by rw [Nat.pow_succ] at h;omega)
  omega
theorem mK{n:Nat}(h:n<1000000000):fA (itoa (n:Int))=n:=by
 have e:Lib.itoa (n:Int)=Lib.decDigits n:=by unfold Lib.itoa;rw [if_neg (by omega)];rfl
 have hl:(Lib.decDigits n).length≤9:=by rw [Lib.decDigits_length];exact Ac 8 n h
 have hp:1≤(Lib.decDigits n).length:=by grind [Lib.decDigits_length,Lib.nDigits_pos]
 have hs:(itoa (n:Int)).size=(Lib.decDigits n).length:=by grind [itoa,ByteArray.size]
 have hd:(itoa (n:Int)).data.toList=Lib.decDigits n:=by unfold itoa;rw [e]
 unfold fA
 rw [if_neg]
 ·
  rw [hd,← List.append_nil (Lib.decDigits n)]
  have:=Aa n 0 []
  simp only [Nat.zero_mul,Nat.zero_add] at this;exact this
 rw [hs,hd];rintro(h1 | h1 | ⟨h1,h2⟩)
 ·
  omega
 ·
  omega
 obtain⟨d,r,h3,h4⟩:=Ab n;rw [h3] at h1
 simp at h1
 by_cases h0:0<n
 ·
  exact h4 h0 h1
 grind [Lib.decDigits_one]
theorem gR{n:Nat}(h:n≤65535):eh (itoa (n:Int))=n:=by
 unfold eh
 rw [mK (by omega),if_neg (by omega)]
 rfl
theorem Hk{m n:Nat}(hm:m<1000000000) (hn:n<1000000000) (h:itoa (m:Int)=itoa (n:Int)):m=n:=by grind [mK]
/-! ### keys -/
theorem dK{ab:List aJ}{i:Nat}(hi:i<ab.length) (mn:i≤99):number (aQ ab (i:Int))=i:=by
 have hk:aQ ab (i:Int)=⟨if aI ab i then 32 else 31,itoa i⟩:=by unfold aQ;rw [if_neg (by omega)];rfl
 rw [hk]
 unfold number
 simp only
 rw [mK (by omega),if_pos]
 split <;> omega
theorem fX{ab:List aJ}{i:Nat}(hi:i<ab.length) (mn:i≤99):(aQ ab (i:Int)).kind=if aI ab i then 32 else 31:=by
 unfold aQ;rw [if_neg (by omega)];rfl
theorem dI{ab:List aJ}{i:Nat}(hi:i<ab.length) (mn:i≤99):aB (aQ ab (i:Int))=false:=by grind [aB,fX]
theorem dj{n:Nat}(h:n≤99):aB (eL (n:Int))=true:=by
 unfold aB eL;rw [if_neg (by omega)];simp
theorem cA{ab:List aJ}{i:Nat}(hi:i<ab.length) (mn:i≤99):aA (aQ ab (i:Int))=aI ab i:=by grind [aA,fX]
theorem nq{n:Nat}(h:n≤99):aA (eL (n:Int))=false:=by
 unfold aA eL;rw [if_neg (by omega)];simp
inductive gS (ab:List aJ):Key→Prop where
 | cell {n:Nat}(h:n≤99):gS ab (eL (n:Int))
 | gN {i:Nat}(h:i<ab.length) (mn:i≤99):gS ab (aQ ab (i:Int))
/-! ### values -/
def cellOf(aH:List dE) (k:Key):ByteArray:=(ek aH k).value
def gq(turn:List ByteArray→Hb) (jZ:Key→ByteArray):Nat→List Key × List ByteArray
 | 0=>([],[])
 | n+1=>((gq turn jZ n).1++[(turn (gq turn jZ n).2).ask],(gq turn jZ n).2++[jZ (turn (gq turn jZ n).2).ask])
def Pc(aH:List dE) (prev:List ByteArray) (k:Key):ByteArray:=if aB k then cellOf aH k else prev.getD (number k).toNat ⟨#[]⟩
def dW(ab:List aJ) (i:Nat):Nat:=(ab[i]?.map (·.asks.length)).getD 0
def cL(ab:List aJ) (x:Ask):Key:=if x.cell then eL x.n else aQ ab x.n
def iA(ab:List aJ) (i j:Nat):Prop:=∃r x,ab[i]?=some r∧r.ring=true∧x∈r.asks∧x.cell=false∧x.n=(j:Int)∧aI ab j=true
inductive dZ (ab:List aJ) (i:Nat):Nat→Prop where
 | refl:dZ ab i i
 | step {j k:Nat}:dZ ab i j→iA ab j k→dZ ab i k
def outside(ab:List aJ) (x:Ask):Bool:=x.cell || !aI ab x.n.toNat
def ob(ab:List aJ) (jZ:Key→ByteArray) (j:Nat):Nat:=
 match ab[j]? with
 | some r=>gK r.c.toNat ((r.asks.filter (outside ab)).map fun x=>eh (jZ (cL ab x)))
 | none=>0
open Classical in
noncomputable def ofBits(P:Nat→Prop):Nat→Nat
 | 0=>0
 | n+1=>ofBits P n ||| (if P n then 2 ^ n else 0)
theorem MS(P:Nat→Prop):∀n,ofBits P n<2 ^ n:=by
 intro n
 induction n with
 | zero=>simp [ofBits]
 | succ n ih=>
  unfold ofBits
  refine Nat.or_lt_two_pow (Nat.lt_of_lt_of_le ih (Nat.pow_le_pow_right (by omega) (by omega))) ?_
  grind
theorem JP(P:Nat→Prop):∀n b,(ofBits P n).testBit b=true↔b<n∧P b:=by
 intro n
 induction n with
 | zero=>intro b;simp [ofBits]
 | succ n ih=>
  intro b
  unfold ofBits
  grind
noncomputable def Ad(ab:List aJ) (jZ:Key→ByteArray) (i:Nat):Nat:=ofBits (fun b=>∃j,dZ ab i j∧(ob ab jZ j).testBit b=true) 16
noncomputable def vk(ab:List aJ) (aH:List dE) (prev:List ByteArray) (i:Nat):ByteArray:=
 if aI ab i then itoa (Ad ab (Pc aH prev) i:Int)
 else (dP ab (aQ ab (i:Int)) (gq (dP ab (aQ ab (i:Int))) (Pc aH prev) (dW ab i)).2).value
noncomputable def cj(ab:List aJ) (aH:List dE):Nat→List ByteArray
 | 0=>[]
 | n+1=>cj ab aH n++[vk ab aH (cj ab aH n) n]
noncomputable def yK(ab:List aJ) (aH:List dE) (i:Nat):ByteArray:=vk ab aH (cj ab aH i) i
noncomputable def valOf(ab:List aJ) (aH:List dE) (k:Key):ByteArray:=if aB k then cellOf aH k else yK ab aH (number k).toNat
section
variable {ab:List aJ}{aH:List dE}
theorem Pd:∀n,(cj ab aH n).length=n:=by
 intro n;induction n with
 | zero=>rfl
 | succ n ih=>simp [cj,ih]
theorem Pe:∀n m,m<n→(cj ab aH n).getD m ⟨#[]⟩=yK ab aH m:=by
 intro n
 induction n with
 | zero=>intro m h;omega
 | succ n ih=>grind [cj,Pd,yK]
theorem Dy{n:Nat}{k:Key}(h:aB k=true∨(number k).toNat<n):Pc aH (cj ab aH n) k=valOf ab aH k:=by
 unfold Pc valOf
 by_cases hi:aB k=true
 ·
  rw [if_pos hi,if_pos hi]
 rw [if_neg hi,if_neg hi,Pe]
 grind
theorem iZ(turn:List ByteArray→Hb) (jZ:Key→ByteArray):∀n,(gq turn jZ n).1.length=n∧(gq turn jZ n).2.length=n:=by
 intro n;induction n with
 | zero=>simp [gq]
 | succ n ih=>simp [gq,ih.1,ih.2]
theorem Ae{turn:List ByteArray→Hb}{jZ acm:Key→ByteArray}:∀n,(∀m,m<n→jZ (turn (gq turn jZ m).2).ask=acm (turn (gq turn jZ m).2).ask)→gq turn jZ n=gq turn acm n:=by
 intro n
 induction n with
 | zero=>intro _;rfl
 | succ n ih=>grind [gq]
end
/-! ### what valid rules ask for -/
section
variable {ab:List aJ}{aH:List dE}
theorem iL(l:List aJ):∀k,cz l k≤k:=by
 intro k;induction k with
 | zero=>simp [cz]
 | succ k ih=>unfold cz;split <;> omega
theorem Dz(l:List aJ) {m:Nat}(h:m≤l.length):fw l m≤l.length:=by grind [fw,List.takeWhile_sublist]
theorem Hl{i:Nat}(hi:i<ab.length):block ab (i:Int)=if aI ab i then ((cz ab i:Int),(fw ab (i+1):Int)) else ((i:Int),(i:Int)+1):=by
 unfold block;rw [if_neg (by omega)];rfl
theorem uc{i j:Nat}(hi:aI ab i=true) (h1:cz ab i≤j) (h2:j<fw ab (i+1)):aI ab j=true:=by
 have Jo:∀k,cz ab k≤j→j<k→aI ab j=true:=by
  intro k
  induction k with
  | zero=>intro _ h;omega
  | succ k ih=>
   intro h3 h4
   unfold cz at h3
   grind
 rcases Nat.lt_trichotomy j i with h | h | h
 ·
  exact Jo i h1 h
 ·
  rw [h];exact hi
 have key:∀(l:List aJ) (m j:Nat),m≤j→j<m+((l.drop m).takeWhile (·.ring)).length→aI l j=true:=by
  intro l m j hm hj
  have ed:j - m<((l.drop m).takeWhile (·.ring)).length:=by omega
  have lx:=List.getElem_mem ed;have hr:=List.all_eq_true.1 (List.all_takeWhile (p:=fun x:aJ=>x.ring) (l:=l.drop m)) _ lx;have jq:((l.drop m).takeWhile (·.ring)) <+: l.drop m:=List.takeWhile_prefix _;have pN:=jq.getElem ed
  grind [da]
 exact key ab (i+1) j (by omega) h2
theorem pg{i:Nat}(hi:i<ab.length) (hlen:ab.length≤24) {c:Bool}{n:Int}(h:iX ab i c n=true) :
  ∃m:Nat,n=m∧if c then m≤15 else m<ab.length∧(aI ab m=true∧aI ab i=true∨m<i)∧(aI ab i=false→m<i)∧(aI ab m=false→m<i):=by
 unfold iX at h
 cases c
 ·
  simp only [Bool.false_eq_true,if_false,Bool.and_eq_true,decide_eq_true_eq] at h ⊢;obtain⟨m,rfl⟩:∃m:Nat,n=m:=⟨n.toNat,by omega⟩;refine⟨m,rfl,?_⟩;have h2:=h.2
  unfold il at h2
  rw [Hl hi] at h2
  by_cases hr:aI ab i=true
  ·
   rw [if_pos hr] at h2;simp only [hr,if_true] at h2
   have jT:m<fw ab (i+1):=by omega
   have Xf:=Dz ab (show i+1≤ab.length by omega);refine⟨by omega,?_,(fun h=>by rw [hr] at h;cases h),?_⟩
   ·
    by_cases RH:m<i
    ·
     exact .inr RH
    grind [uc,iL]
   grind [uc,iL]
  grind
 simp only [if_true,Bool.and_eq_true,decide_eq_true_eq] at h ⊢;exact⟨n.toNat,by omega,by omega⟩
end
end Go.Rc

namespace Go.Rc
open Go
section
variable {ab:List aJ}{aH:List dE}
theorem ay.len(h:ay ab):ab.length≤24:=h.1
theorem ay.at(h:ay ab) {i:Nat}(hi:i<ab.length):pT ab i ab[i]:=h.2 i _ (aq hi)
theorem fY{i:Nat}(hi:i<ab.length):dW ab i=ab[i].asks.length:=by grind [dW]
theorem JQ{m lo:Nat}(h1:lo≤m) (h:∀j,lo≤j→j<m→aI ab j=true):cz ab m≤lo:=by
 induction m with
 | zero=>simp [cz]
 | succ m ih=>
  by_cases e:lo=m+1
  ·
   rw [e];exact iL _ _
  unfold cz
  grind
theorem vl(_hR:ay ab) {i:Nat}(hi:i<ab.length) (hr:aI ab i=true) {m:Nat}(h:iX ab i false (m:Int)=true) :
  m<ab.length∧(aI ab m=true→cz ab m≤cz ab i)∧(aI ab m=false→m<cz ab i):=by
 unfold iX at h
 simp only [Bool.false_eq_true,if_false,Bool.and_eq_true,decide_eq_true_eq] at h;have h2:=h.2
 unfold il at h2
 rw [Hl hi,if_pos hr] at h2;simp only [hr,if_true] at h2
 grind [Dz,JQ,uc]
def gx(ab:List aJ) (i:Nat) (k:Key):Prop:=
 (∃n:Nat,n≤15∧k=eL (n:Int))∨
 (∃m:Nat,m<ab.length∧k=aQ ab (m:Int)∧(aI ab m=true∧aI ab i=true∨m<i)∧(aI ab i=false→m<i)∧(aI ab m=false→m<i)∧(aI ab m=false→aI ab i=true→m<cz ab i))
theorem LG(hR:ay ab) {i:Nat}(hi:i<ab.length) {c:Bool}{n:Int}(h:iX ab i c n=true):gx ab i (if c then eL n else aQ ab n):=by
 obtain⟨m,rfl,h2⟩:=pg hi hR.len h
 cases c
 ·
  exact .inr ⟨m,h2.1,rfl,h2.2.1,h2.2.2.1,h2.2.2.2,fun h3 h4=>(vl hR hi h4 h).2.2 h3⟩
 exact .inl ⟨m,h2,rfl⟩
theorem gx.MT(hR:ay ab) {i:Nat}{k:Key}(h:gx ab i k):gS ab k:=by
 have:=hR.len
 rcases h with⟨n,h1,rfl⟩ | ⟨m,h1,rfl,_⟩
 ·
  exact .cell (by omega)
 exact .gN h1 (by omega)
theorem Xg(hR:ay ab) {i n:Nat}(hi:i<ab.length) (hn:n<ab[i].asks.length) (ao:List ByteArray) (hl:ao.length=n) :
  gx ab i (if ab[i].asks[n].cell then eL (tZ ab[i].asks[n] ao) else aQ ab (tZ ab[i].asks[n] ao)):=by
 obtain⟨_,h2,_⟩:=hR.at hi;have h3:=h2 n _ (aq hn)
 unfold gV at h3
 rw [Bool.and_eq_true] at h3
 unfold tZ
 by_cases hp:gU ab[i].asks[n] ao=true
 ·
  rw [if_pos hp]
  have hpk:ab[i].asks[n].pick=true:=by grind [gU]
  rw [hpk] at h3;simp only [if_true,Bool.and_eq_true] at h3;exact LG hR hi h3.2.2
 rw [if_neg hp];exact LG hR hi h3.1
theorem fI(hR:ay ab) {i:Nat}(hi:i<ab.length) {ao:List ByteArray}(hn:ao.length<dW ab i) :
  ∃a,dP ab (aQ ab (i:Int)) ao=⟨false,⟨#[]⟩,a⟩∧gx ab i a∧(aI ab i=true→∃x,ab[i].asks[ao.length]?=some x∧a=cL ab x):=by
 have pY:=hR.len;rw [fY hi] at hn;have hk:=dK hi (by omega:i≤99);refine⟨_,wM hk hi (by rw [hk]) hn,Xg hR hi hn ao rfl,fun hr=>⟨_,aq hn,?_⟩⟩;obtain⟨_,h2,_⟩:=hR.at hi;have h3:=h2 _ _ (aq hn)
 unfold gV at h3
 rw [Bool.and_eq_true] at h3
 grind [da,cL,tZ,gU]
theorem jv(hR:ay ab) {i:Nat}(hi:i<ab.length) {ao:List ByteArray}(hn:ao.length=dW ab i) :
  dP ab (aQ ab (i:Int)) ao=⟨true,itoa (gi ab[i].final ab[i].c.toNat (ao.map eh)),fW⟩:=by grind [ay.len,fY,dK,sK]
theorem lZ(hR:ay ab) {i:Nat}(hi:i<ab.length):dW ab i≤6:=by rw [fY hi];exact(hR.at hi).1
theorem ET(hR:ay ab) {i:Nat}{k:Key}(h:gx ab i k) (hr:aI ab i=false∨aA k=false):aB k=true∨(number k).toNat<i:=by
 have pY:=hR.len
 rcases h with⟨n,h1,rfl⟩ | ⟨m,h1,rfl,h2,h3,h4,_⟩
 ·
  grind [dj]
 grind [dK,cA]
theorem MU(hR:ay ab) {i:Nat}(hi:i<ab.length) (hr:aI ab i=false) :
  dP ab (aQ ab (i:Int)) (gq (dP ab (aQ ab (i:Int))) (valOf ab aH) (dW ab i)).2=⟨true,yK ab aH i,fW⟩:=by
 have h:yK ab aH i=(dP ab (aQ ab (i:Int)) (gq (dP ab (aQ ab (i:Int))) (valOf ab aH) (dW ab i)).2).value:=by
  unfold yK vk
  rw [if_neg (by simp [hr])]
  grind [Ae,fI,iZ,Dy,ET]
 grind [jv,iZ]
/-! rings -/
theorem mT(hR:ay ab) {i:Nat}(hi:i<ab.length) (_hr:aI ab i=true) {x:Ask}(hx:x∈ab[i].asks):iX ab i x.cell x.n=true:=by
 obtain⟨k,hk,rfl⟩:=List.mem_iff_getElem.1 hx
 have:=(hR.at hi).2.1 k _ (aq hk)
 unfold gV at this
 grind
theorem iA.lt{i j:Nat}(h:iA ab i j):i<ab.length∧j<ab.length∧aI ab i=true∧aI ab j=true:=by
 obtain⟨r,x,h1,h2,_,_,_,h6⟩:=h
 grind [pQ,da]
theorem lG{i j:Nat}(hi:i<ab.length) (hr:aI ab i=true) (h:dZ ab i j):j<ab.length∧aI ab j=true:=by
 induction h with
 | refl=>exact⟨hi,hr⟩
 | step _ h2 _=>exact⟨h2.lt.2.1,h2.lt.2.2.2⟩
theorem nt(hR:ay ab) {i j:Nat}(h:dZ ab i j):cz ab j≤cz ab i:=by
 induction h with
 | refl=>exact Nat.le_refl _
 | step h1 h2 ih=>
  have hl:=h2.lt;obtain⟨r,x,h3,h4,h5,h6,h7,h8⟩:=h2
  grind [mT,vl]
theorem dZ.head{i j k:Nat}(h:iA ab i j) (h2:dZ ab j k):dZ ab i k:=by
 induction h2 with
 | refl=>exact .step .refl h
 | step _ h4 ih=>exact .step ih h4
theorem dZ.cases{i k:Nat}(h:dZ ab i k):k=i∨∃j,iA ab i j∧dZ ab j k:=by
 induction h with
 | refl=>exact .inl rfl
 | step h1 h2 ih=>
  right
  rcases ih with rfl | ⟨j,h3,h4⟩
  ·
   exact⟨_,h2,.refl⟩
  exact⟨j,h3,.step h4 h2⟩
theorem ph:∀(l:List Nat) (c b:Nat),(gK c l).testBit b=true↔c.testBit b=true∨∃x∈l,x.testBit b=true:=by
 intro l
 induction l with
 | nil=>intro c b;simp [gK]
 | cons x r ih=>
  intro c b
  have:=ih (c ||| x) b
  simp only [gK,List.foldl_cons] at this ⊢
  grind
theorem Af(hR:ay ab) {i:Nat}(hi:i<ab.length) (hr:aI ab i=true):ab[i].final=5∧ab[i].c.toNat≤65535:=by
 have h:=(hR.at hi).2.2
 grind [jV,da]
theorem DA{n b:Nat}(h:n≤65535) (hb:n.testBit b=true):b<16:=by
 rcases Nat.lt_or_ge b 16 with h1 | h1
 ·
  exact h1
 have:=Nat.ge_two_pow_of_testBit hb
 have h2:2 ^ 16≤2 ^ b:=Nat.pow_le_pow_right (by omega) h1
 omega
theorem gT{jZ:Key→ByteArray}{i:Nat}(hi:i<ab.length) (b:Nat) :
  (ob ab jZ i).testBit b=true↔ab[i].c.toNat.testBit b=true∨∃x∈ab[i].asks,outside ab x=true∧(eh (jZ (cL ab x))).testBit b=true:=by
 unfold ob
 rw [aq hi];simp only [ph,List.mem_map,List.mem_filter]
 grind
theorem Pf(hR:ay ab) {jZ:Key→ByteArray}{i:Nat}(hi:i<ab.length) (hr:aI ab i=true) {b:Nat}(h:(ob ab jZ i).testBit b=true):b<16:=by
 rcases(gT hi b).1 h with h1 | ⟨x,_,_,h1⟩
 ·
  exact DA (Af hR hi hr).2 h1
 exact DA (n9 _) h1
theorem fR(hR:ay ab) {jZ:Key→ByteArray}{i:Nat}(hi:i<ab.length) (hr:aI ab i=true) (b:Nat) :
  (Ad ab jZ i).testBit b=true↔∃j,dZ ab i j∧(ob ab jZ j).testBit b=true:=by
 unfold Ad
 rw [JP]
 constructor
 ·
  exact fun h=>h.2
 rintro⟨j,h1,h2⟩;have hj:=lG hi hr h1;exact⟨Pf hR hj.1 hj.2 h2,j,h1,h2⟩
theorem Hm{jZ:Key→ByteArray}(i:Nat):Ad ab jZ i≤65535:=by
 have:=MS (fun b=>∃j,dZ ab i j∧(ob ab jZ j).testBit b=true) 16
 unfold Ad;omega
noncomputable def rv(ab:List aJ) (aH:List dE) (i:Nat):Nat:=Ad ab (valOf ab aH) i
theorem EU(hR:ay ab) {i:Nat}(hi:i<ab.length) (hr:aI ab i=true) {x:Ask}(hx:x∈ab[i].asks) (ho:outside ab x=true):aB (cL ab x)=true∨(number (cL ab x)).toNat<cz ab i:=by
 have pY:=hR.len;have hm:=mT hR hi hr hx;obtain⟨m,h1,h2⟩:=pg hi hR.len hm
 unfold cL
 unfold outside at ho
 cases hc:x.cell
 ·
  rw [hc] at hm ho h2
  right
  simp only [Bool.false_eq_true,if_false] at h2 ⊢
  grind [dK,vl]
 left
 rw [hc] at h2;simp only [if_true] at h2 ⊢
 grind [dj]
theorem kn(hR:ay ab) {i:Nat}(hi:i<ab.length) (hr:aI ab i=true):yK ab aH i=itoa (rv ab aH i:Int):=by
 unfold yK vk rv
 rw [if_pos hr]
 congr 2
 refine Nat.eq_of_testBit_eq fun b=>?_;rw [Bool.eq_iff_iff,fR hR hi hr,fR hR hi hr]
 have key:∀j,dZ ab i j→((ob ab (Pc aH (cj ab aH i)) j).testBit b=true↔(ob ab (valOf ab aH) j).testBit b=true):=by
  intro j h;have hj:=lG hi hr h;have Jo:=nt hR h;have hle:=iL ab i;rw [gT hj.1,gT hj.1];refine or_congr_right (exists_congr fun x=>and_congr_right fun hx=>and_congr_right fun ho=>?_);rw [Dy]
  grind [EU]
 grind
theorem jE(hR:ay ab) {i:Nat}(hi:i<ab.length):valOf ab aH (aQ ab (i:Int))=yK ab aH i:=by
 have pY:=hR.len
 unfold valOf
 rw [if_neg (by grind [dI]),dK hi (by omega)]
 rfl
def sM(ab:List aJ) (jZ:Key→ByteArray) (i:Nat):List Nat:=((ab[i]?.map (·.asks)).getD []).map fun x=>eh (jZ (cL ab x))
theorem MV(hR:ay ab) {i:Nat}(hi:i<ab.length) (hr:aI ab i=true) (jZ:Key→ByteArray):∀n,n≤ab[i].asks.length→
  gq (dP ab (aQ ab (i:Int))) jZ n=((ab[i].asks.take n).map (cL ab),(ab[i].asks.take n).map fun x=>jZ (cL ab x)):=by
 intro n
 induction n with
 | zero=>intro _;simp [gq]
 | succ n ih=>
  intro hn;have e:=ih (by omega);simp only [gq]
  have hlen:((ab[i].asks.take n).map fun x=>jZ (cL ab x)).length=n:=by simp;omega
  obtain⟨a,h1,_,h3⟩:=fI hR hi (ao:=(ab[i].asks.take n).map fun x=>jZ (cL ab x)) (by rw [hlen,fY hi];omega)
  grind [List.take_succ_eq_append_getElem]
theorem MW(hR:ay ab) {i:Nat}(hi:i<ab.length) (hr:aI ab i=true) (jZ:Key→ByteArray) :
  dP ab (aQ ab (i:Int)) (gq (dP ab (aQ ab (i:Int))) jZ (dW ab i)).2=⟨true,itoa (gK ab[i].c.toNat (sM ab jZ i):Int),fW⟩:=by
 rw [jv hR hi ((iZ _ _ _).2),MV hR hi hr jZ _ (by rw [fY hi];exact Nat.le_refl _),(Af hR hi hr).1,fY hi]
 unfold sM
 rw [aq hi];simp only [List.take_length,List.map_map,Option.map_some,Option.getD_some]
 rfl
theorem xV{jZ:Key→ByteArray}{i:Nat}(hi:i<ab.length) (b:Nat) :
  (gK ab[i].c.toNat (sM ab jZ i)).testBit b=true↔(ob ab jZ i).testBit b=true∨∃x∈ab[i].asks,outside ab x=false∧(eh (jZ (cL ab x))).testBit b=true:=by
 rw [ph,gT hi]
 unfold sM
 grind
theorem j6(hR:ay ab) {i:Nat}(hi:i<ab.length) (hr:aI ab i=true) {x:Ask}(hx:x∈ab[i].asks) (ho:outside ab x=false):∃j:Nat,iA ab i j∧cL ab x=aQ ab (j:Int)∧j<ab.length:=by
 have hm:=mT hR hi hr hx
 unfold outside at ho
 rw [Bool.or_eq_false_iff] at ho;obtain⟨m,h1,h2⟩:=pg hi hR.len hm;rw [ho.1] at h2;simp only [Bool.false_eq_true,if_false] at h2
 have hmr:aI ab m=true:=by grind
 refine⟨m,⟨_,x,aq hi,by rw [← da hi];exact hr,hx,ho.1,h1,hmr⟩,?_,h2.1⟩
 grind [cL]
theorem ud{i j:Nat}(hi:i<ab.length) (h:iA ab i j):∃x∈ab[i].asks,outside ab x=false∧cL ab x=aQ ab (j:Int):=by
 obtain⟨r,x,h1,_,h3,h4,h5,h6⟩:=h
 grind [outside,cL]
theorem Xh(hR:ay ab) {i:Nat}(hi:i<ab.length) (hr:aI ab i=true):gK ab[i].c.toNat (sM ab (valOf ab aH) i)=rv ab aH i:=by
 refine Nat.eq_of_testBit_eq fun b=>?_;rw [Bool.eq_iff_iff,xV hi]
 unfold rv
 rw [fR hR hi hr]
 have iD:∀j,j<ab.length→aI ab j=true→eh (valOf ab aH (aQ ab (j:Int)))=Ad ab (valOf ab aH) j:=fun j hj Jy=>by
  rw [jE hR hj,kn hR hj Jy];exact gR (Hm j)
 constructor
 ·
  rintro(h | ⟨x,h1,h2,h3⟩)
  ·
   exact⟨i,.refl,h⟩
  obtain⟨j,h4,h5,h6⟩:=j6 hR hi hr h1 h2;rw [h5,iD j h6 h4.lt.2.2.2,fR hR h6 h4.lt.2.2.2] at h3;obtain⟨k,h7,h8⟩:=h3;exact⟨k,.head h4 h7,h8⟩
 rintro⟨k,h1,h2⟩
 rcases h1.cases with rfl | ⟨j,h3,h4⟩
 ·
  exact .inl h2
 right
 obtain⟨x,h5,h6,h7⟩:=ud hi h3;refine⟨x,h5,h6,?_⟩;rw [h7,iD j h3.lt.2.1 h3.lt.2.2.2,fR hR h3.lt.2.1 h3.lt.2.2.2];exact⟨k,h4,h2⟩
theorem Pg(hR:ay ab) {i:Nat}(hi:i<ab.length) (hr:aI ab i=true) (v:Nat→Nat)
  (h1:∀j b,dZ ab i j→(ob ab (valOf ab aH) j).testBit b=true→(v j).testBit b=true)
  (h2:∀j k b,dZ ab i j→iA ab j k→(v k).testBit b=true→(v j).testBit b=true) (b:Nat) (hb:(rv ab aH i).testBit b=true):(v i).testBit b=true:=by
 unfold rv at hb
 rw [fR hR hi hr] at hb;obtain⟨j,h3,h4⟩:=hb;have h5:=h1 j b h3 h4
 clear h4
 induction h3 with
 | refl=>exact h5
 | step h6 h7 ih=>exact ih (h2 _ _ b h6 h7 h5)
theorem jw(hR:ay ab) {i:Nat}(hi:i<ab.length) :
  dP ab (aQ ab (i:Int)) (gq (dP ab (aQ ab (i:Int))) (valOf ab aH) (dW ab i)).2=⟨true,valOf ab aH (aQ ab (i:Int)),fW⟩:=by grind [jE,MU,MW,Xh,kn]
end
end Go.Rc

namespace Go.Rc
open Go
structure FZ where
 p:(Nat→Prop)→World→Prop
 mono:∀{Z Z':Nat→Prop}{w},(∀x,Z x→Z' x)→p Z w→p Z' w
 st:∀{Z:Nat→Prop}{w w':World},w.heap.size≤w'.heap.size→(∀x,Z x→x<w.heap.size→w'.heap[x]?=w.heap[x]?)→p Z w→p Z w'
def FZ.rd{α:Type}(R:RR α) (k:Nat) (a:Option Addr) (n c:Nat) (xs:List α):FZ:=⟨fun Z w=>Rd R k Z w a n c xs,fun h=>Rd.mono h,fun h1 h2=>Rd.st h1 h2⟩
def FZ.and(F G:FZ):FZ:=⟨fun Z w=>F.p Z w∧G.p Z w,fun h ⟨a,b⟩=>⟨F.mono h a,G.mono h b⟩,fun h1 h2 ⟨a,b⟩=>⟨F.st h1 h2 a,G.st h1 h2 b⟩⟩
def FZ.LH(P:Program):FZ where
 p Z w:=oy P Z w
 mono h:=fun h1=>h1.of h (Nat.le_refl _) fun _ _ _=>rfl
 st h1 h2:=fun h=>h.of (fun _ h=>h) h1 h2
def As.fz(F:FZ):As where
 fp _:=False
 ok Z w:=F.p Z w
 lt _ _ hx:=hx.elim
 mono h:=F.mono h
 st h1 h2:=F.st h1 fun x hx=>h2 x (.inr hx)
theorem As.gf{F:FZ}{Z:Nat→Prop}{w:World}(h:(As.fz F).ok Z w):F.p Z w:=h
structure SD where
 (ar a1 a2:Option Addr) (r cr n1 c1 n2 c2 m q s:Nat)
def SD.F(D:SD) (P:Program) (ab:List aJ) (x:dV):FZ:=
 .and (.rd RR.gN 4 D.ar D.r D.cr ab) (.and (.rd RR.aH 4 D.a1 D.n1 D.c1 x.ah) (.and (.rd RR.fl 8 D.a2 D.n2 D.c2 x.ak) (.LH P)))
def SD.cells(D:SD) (x:dV):List Value:=
 [.slice D.ar D.r D.cr,.int .i64 x.ae,.slice D.a1 D.n1 D.c1,.slice D.a2 D.n2 D.c2,.map (some D.m),.map (some D.q)]
section
variable {D:SD}{P:Program}{ab:List aJ}{x:dV}{Z:Nat→Prop}{w:World}
theorem SD.hu(h:(D.F P ab x).p Z w):Rd RR.gN 4 Z w D.ar D.r D.cr ab:=h.1
theorem SD.hi(h:(D.F P ab x).p Z w):Rd RR.aH 4 Z w D.a1 D.n1 D.c1 x.ah:=h.2.1
theorem SD.hr(h:(D.F P ab x).p Z w):Rd RR.fl 8 Z w D.a2 D.n2 D.c2 x.ak:=h.2.2.1
theorem SD.ht(h:(D.F P ab x).p Z w):oy P Z w:=h.2.2.2
end
def ba(ab:List aJ) (aH:List dE) (ml:List (Key × Value)):Prop:=∀k v,ck ml k=some v→v=.string (valOf ab aH k)
section
variable {ab:List aJ}{aH:List dE}
theorem ba.nil:ba ab aH []:=fun k v h=>by simp [ck] at h
theorem ba.put{ml:List (Key × Value)}(h:ba ab aH ml) (k:Key):ba ab aH (dH ml k (.string (valOf ab aH k))):=fun k' v hv=>by
 rw [eQ] at hv
 split at hv
 ·
  grind
 exact h k' v hv
def gy(m n:Nat):Prop:=∀b,m.testBit b=true→n.testBit b=true
theorem gy.le{m n:Nat}(h:gy m n):m≤n:=by
 have e:m ||| n=n:=Nat.eq_of_testBit_eq fun b=>by
  rw [Nat.testBit_or]
  cases hm:m.testBit b
  ·
   simp
  simp [h b hm]
 rw [← e];exact Nat.left_le_or
noncomputable def Sw(ab:List aJ) (aH:List dE) (v:Nat→Nat) (k:Key):ByteArray:=if aA k then itoa (v (number k).toNat:Int) else valOf ab aH k
noncomputable def FF(ab:List aJ) (aH:List dE) (v:Nat→Nat) (j:Nat):Nat:=gK ((ab[j]?.map (·.c.toNat)).getD 0) (sM ab (Sw ab aH v) j)
theorem lH(hR:ay ab) {i:Nat}(hi:i<ab.length) (hr:aI ab i=true) {x:Ask}(hx:x∈ab[i].asks) (ho:outside ab x=true):aA (cL ab x)=false:=by
 have pY:=hR.len;have hm:=mT hR hi hr hx;obtain⟨m,h1,h2⟩:=pg hi hR.len hm
 unfold outside at ho
 unfold cL
 cases hc:x.cell
 ·
  rw [hc] at h2 ho;simp only [Bool.false_eq_true,if_false] at h2 ⊢
  grind [cA]
 rw [hc] at h2;simp only [if_true] at h2 ⊢
 grind [nq]
theorem Ag(hR:ay ab) {v:Nat→Nat}(hv:∀j,v j≤65535) {i:Nat}(hi:i<ab.length) (hr:aI ab i=true) (b:Nat) :
  (FF ab aH v i).testBit b=true↔(ob ab (valOf ab aH) i).testBit b=true∨∃j,iA ab i j∧(v j).testBit b=true:=by
 have pY:=hR.len
 unfold FF
 rw [aq hi];simp only [Option.map_some,Option.getD_some];rw [xV hi];refine or_congr ?_ ?_
 ·
  rw [gT hi,gT hi];refine or_congr_right (exists_congr fun x=>and_congr_right fun hx=>and_congr_right fun ho=>?_)
  unfold Sw
  rw [if_neg (by grind [lH])]
 constructor
 ·
  rintro⟨x,h1,h2,h3⟩;obtain⟨j,h4,h5,h6⟩:=j6 hR hi hr h1 h2;refine⟨j,h4,?_⟩
  unfold Sw at h3
  rw [h5,if_pos (by rw [cA h6 (by omega)];exact h4.lt.2.2.2),dK h6 (by omega),Int.toNat_natCast,gR (hv j)] at h3;exact h3
 rintro⟨j,h4,h5⟩;obtain⟨x,h1,h2,h3⟩:=ud hi h4;refine⟨x,h1,h2,?_⟩
 unfold Sw
 rw [h3,if_pos (by rw [cA h4.lt.2.1 (by have:=h4.lt.2.1;omega)];exact h4.lt.2.2.2),dK h4.lt.2.1 (by have:=h4.lt.2.1;omega),Int.toNat_natCast,gR (hv j)];exact h5
theorem xW(i:Nat):rv ab aH i≤65535:=Hm i
theorem JR(hR:ay ab) {i:Nat}(hi:i<ab.length) (hr:aI ab i=true) (b:Nat) :
  (rv ab aH i).testBit b=true↔(ob ab (valOf ab aH) i).testBit b=true∨∃j,iA ab i j∧(rv ab aH j).testBit b=true:=by
 unfold rv
 rw [fR hR hi hr]
 constructor
 ·
  rintro⟨k,h1,h2⟩
  rcases h1.cases with rfl | ⟨j,h3,h4⟩
  ·
   exact .inl h2
  exact .inr ⟨j,h3,(fR hR h3.lt.2.1 h3.lt.2.2.2 b).2 ⟨k,h4,h2⟩⟩
 rintro(h | ⟨j,h3,h4⟩)
 ·
  exact⟨i,.refl,h⟩
 obtain⟨k,h5,h6⟩:=(fR hR h3.lt.2.1 h3.lt.2.2.2 b).1 h4;exact⟨k,.head h3 h5,h6⟩
theorem LI(hR:ay ab) {v v':Nat→Nat}(hv:∀j,v j≤65535) (UM:∀j,v' j≤65535) (h:∀j,gy (v j) (v' j)) {i:Nat}(hi:i<ab.length) (hr:aI ab i=true):gy (FF ab aH v i) (FF ab aH v' i):=fun b hb=>by
 rw [Ag hR hv hi hr] at hb;rw [Ag hR UM hi hr]
 rcases hb with hb | ⟨j,h1,h2⟩
 ·
  exact .inl hb
 exact .inr ⟨j,h1,h j b h2⟩
structure eT (ab:List aJ) (aH:List dE) (i0:Nat) (L:List Nat) (u:Nat→Nat):Prop where
 nodup:L.Nodup
 first:i0∈L
 ring:∀j∈L,j<ab.length∧aI ab j=true
 out:∀j,j∉L→u j=0
 le:∀j,u j≤65535
 low:∀j,gy (u j) (rv ab aH j)
 reach:∀j∈L,dZ ab i0 j
noncomputable def Es(ab:List aJ) (aH:List dE) (u:Nat→Nat) (ml:List (Key × Value)) (k:Nat):Nat:=if (ck ml (aQ ab (k:Int))).isSome then rv ab aH k else u k
def iI(ml eb:List (Key × Value)):Prop:=∀k v,ck ml k=some v→ck eb k=some v
def oA(ab:List aJ) (aH:List dE) (L:List Nat) (u:Nat→Nat) (ml:List (Key × Value)):Prop:=∀j∈L,gy (u j) (FF ab aH (Es ab aH u ml) j)
def sO(ab:List aJ) (aH:List dE) (L:List Nat) (u:Nat→Nat) (j:Nat):Prop:=
 gy (ob ab (valOf ab aH) j) (u j)∧∀k,iA ab j k→(k∈L→gy (u k) (u j))∧(k∉L→gy (rv ab aH k) (u j))
def JS(n:Nat) (v:Nat→Nat):Nat:=((List.range n).map fun j=>65535 - v j).sum
def tA(ab:List aJ) (L:List Nat) (v:Nat→Nat):Nat:=JS ab.length v+(ab.length - L.length)
theorem iI.refl(ml:List (Key × Value)):iI ml ml:=fun _ _ h=>h
theorem iI.trans{a b c:List (Key × Value)}(h:iI a b) (k:iI b c):iI a c:=fun x v e=>k x v (h x v e)
theorem iI.put{ml:List (Key × Value)}(hm:ba ab aH ml) (k:Key):iI ml (dH ml k (.string (valOf ab aH k))):=fun x v h=>by
 rw [eQ]
 split
 ·
  rename_i e;subst e;rw [hm _ _ h]
 exact h
theorem wU{u:Nat→Nat}{ml:List (Key × Value)}(h:∀j,u j≤65535) (k:Nat):Es ab aH u ml k≤65535:=by grind [Es,xW]
theorem Sx{u:Nat→Nat}{ml:List (Key × Value)}(h:∀j,gy (u j) (rv ab aH j)) (k:Nat):gy (Es ab aH u ml k) (rv ab aH k):=by unfold Es;split;exact fun _ h=>h;exact h k
theorem Hn{u u':Nat→Nat}{ml eb:List (Key × Value)}(h:∀j,gy (u j) (rv ab aH j)) (hu:∀j,gy (u j) (u' j)) (hm:iI ml eb) (k:Nat):gy (Es ab aH u ml k) (Es ab aH u' eb k):=by
 unfold Es
 cases h1:ck ml (aQ ab (k:Int)) with
 | some v=>rw [hm _ _ h1];simp;exact fun _ h=>h
 | none=>grind
theorem oA.mono(hR:ay ab) {i0:Nat}{L:List Nat}{u:Nat→Nat}{ml eb:List (Key × Value)}(hr:eT ab aH i0 L u) (h:oA ab aH L u ml) (hm:iI ml eb):oA ab aH L u eb:=fun j hj b hb=>
 LI hR (wU hr.le) (wU hr.le) (Hn hr.low (fun _ _ h=>h) hm) (hr.ring j hj).1 (hr.ring j hj).2 b (h j hj b hb)
theorem eT.start{i0:Nat}(hi:i0<ab.length) (hr:aI ab i0=true):eT ab aH i0 [i0] fun _=>0 where
 nodup:=by simp
 first:=by simp
 ring j hj:=by grind
 out _ _:=rfl
 le _:=by omega
 low _ b h:=by simp at h
 reach j hj:=by simp at hj;subst hj;exact .refl
theorem oA.start{i0:Nat}{ml:List (Key × Value)}:oA ab aH [i0] (fun _=>0) ml:=fun _ _ b h=>by simp at h
theorem Ph:∀{n:Nat}{L:List Nat},L.Nodup→(∀j∈L,j<n)→L.length≤n:=by
 intro n
 induction n with
 | zero=>intro L _ hl;cases L with
  | nil=>simp
  | cons a r=>exact absurd (hl a (by simp)) (by omega)
 | succ n ih=>
  intro L h hl
  have h1:=ih (h.erase n) fun j hj=>by grind
  grind
theorem eT.len{i0:Nat}{L:List Nat}{v:Nat→Nat}(h:eT ab aH i0 L v):L.length≤ab.length:=Ph h.nodup fun j hj=>(h.ring j hj).1
theorem eT.meet{i0:Nat}{L:List Nat}{v:Nat→Nat}(h:eT ab aH i0 L v) {j:Nat}(hj:j<ab.length) (hr:aI ab j=true) (hn:j∉L) (Pj:dZ ab i0 j):eT ab aH i0 (L++[j]) v where
 nodup:=by grind [nodup]
 first:=by simp [h.first]
 ring k hk:=by
  rcases List.mem_append.1 hk with hk | hk
  ·
   exact h.ring k hk
  grind
 out k hk:=h.out k fun hm=>hk (by simp [hm])
 le:=h.le
 low:=h.low
 reach k hk:=by
  rcases List.mem_append.1 hk with hk | hk
  ·
   exact h.reach k hk
  grind
theorem oA.meet{L:List Nat}{u:Nat→Nat}{ml:List (Key × Value)}(h:oA ab aH L u ml) {j:Nat}(hu:u j=0):oA ab aH (L++[j]) u ml:=fun k hk=>by
 rcases List.mem_append.1 hk with hk | hk
 ·
  exact h k hk
 simp at hk;subst hk;rw [hu];intro b hb;simp at hb
theorem eT.LJ{i0:Nat}{L:List Nat}{v:Nat→Nat}(h:eT ab aH i0 L v) {j:Nat}(hj:j<ab.length) (hr:aI ab j=true) (hn:j∉L) (Pj:dZ ab i0 j):L.length<ab.length:=by
 have:=(h.meet hj hr hn Pj).len
 grind
theorem Ho{L:List Nat}{v:Nat→Nat}{j:Nat}(hl:L.length<ab.length):tA ab (L++[j]) v<tA ab L v:=by grind [tA]
def pZ(v:Nat→Nat) (j u:Nat):Nat→Nat:=fun k=>if k=j then u else v k
theorem Pk:∀n (v:Nat→Nat) (j u:Nat),v j≤u→JS n (pZ v j u)≤JS n v∧(j<n→v j<u→u≤65535→JS n (pZ v j u)<JS n v):=by
 intro n
 induction n with
 | zero=>intro v j u _;simp [JS]
 | succ n ih=>
  intro v j u h;obtain⟨h1,h2⟩:=ih v j u h
  unfold JS at h1 h2 ⊢
  simp only [List.range_succ,List.map_append,List.map_cons,List.map_nil,List.sum_append,List.sum_cons,List.sum_nil]
  have h3:65535 - pZ v j u n≤65535 - v n:=by
   unfold pZ;grind
  refine⟨by omega,fun h4 h5 h6=>?_⟩
  by_cases e:j=n
  ·
   have:65535 - pZ v j u n<65535 - v n:=by unfold pZ;grind
   omega
  have:=h2 (by omega) h5 h6
  omega
theorem MX{u:Nat→Nat}{j x:Nat}(h:gy (u j) x):∀k,gy (u k) (pZ u j x k):=fun k b hb=>by
 unfold pZ;split
 ·
  rename_i e;subst e;exact h b hb
 exact hb
theorem eT.set{i0:Nat}{L:List Nat}{u:Nat→Nat}(h:eT ab aH i0 L u) {j x:Nat}(hj:j∈L) (hx:x≤65535) (h2:gy x (rv ab aH j)):eT ab aH i0 L (pZ u j x) where
 nodup:=h.nodup
 first:=h.first
 ring:=h.ring
 out k hk:=by unfold pZ;rw [if_neg (fun e=>hk (by rw [e];exact hj))];exact h.out k hk
 le k:=by unfold pZ;split;exact hx;exact h.le k
 low k b hb:=by
  unfold pZ at hb;split at hb
  ·
   rename_i e;subst e;exact h2 b hb
  exact h.low k b hb
 reach:=h.reach
theorem oA.set(hR:ay ab) {i0:Nat}{L:List Nat}{u:Nat→Nat}{ml:List (Key × Value)}(hr:eT ab aH i0 L u) (h:oA ab aH L u ml) {j x:Nat}(hj:j∈L) (hx:x≤65535) (h2:gy x (rv ab aH j)) (h3:gy (u j) x) (h4:gy x (FF ab aH (Es ab aH u ml) j)) :
  oA ab aH L (pZ u j x) ml:=fun k hk=>by
 have zd:=hr.set hj hx h2;have hm:=LI (aH:=aH) hR (wU (aH:=aH) (ab:=ab) (ml:=ml) hr.le) (wU zd.le) (Hn hr.low (MX h3) (iI.refl ml)) (hr.ring k hk).1 (hr.ring k hk).2;intro b hb;refine hm b ?_
 unfold pZ at hb;split at hb
 ·
  rename_i e;subst e;exact h4 b hb
 exact h k hk b hb
theorem LK{i0:Nat}{L:List Nat}{u:Nat→Nat}(h:eT ab aH i0 L u) {j x:Nat}(hj:j∈L) (hx:x≤65535) (h3:gy (u j) x) (kh:u j≠x):tA ab L (pZ u j x)<tA ab L u:=by
 have h1:=h3.le
 have:=(Pk ab.length u j x h1).2 (h.ring j hj).1 (by omega) hx
 unfold tA;omega
theorem eT.done(hR:ay ab) {i0:Nat}{L:List Nat}{u:Nat→Nat}(h:eT ab aH i0 L u) (hs:∀j∈L,sO ab aH L u j):∀j∈L,u j=rv ab aH j:=by
 intro j hj;obtain⟨mu,Ah⟩:=h.ring j hj;refine Nat.le_antisymm (h.low j).le (gy.le fun b hb=>?_);have key:=Pg hR mu Ah (fun k=>if k∈L then u k else rv ab aH k) (fun k b hk hb=>?_) (fun k m b hk hkm hb=>?_) b hb
 ·
  simpa [hj] using key
 ·
  have vm:=lG mu Ah hk
  by_cases hm:k∈L
  ·
   simp only [if_pos hm];exact(hs k hm).1 b hb
  simp only [if_neg hm];grind [JR]
 have vm:=lG mu Ah hk
 by_cases nQ:k∈L
 ·
  simp only [if_pos nQ]
  by_cases hm:m∈L
  ·
   simp only [if_pos hm] at hb;exact((hs k nQ).2 m hkm).1 hm b hb
  simp only [if_neg hm] at hb;exact((hs k nQ).2 m hkm).2 hm b hb
 simp only [if_neg nQ];refine(JR hR vm.1 vm.2 b).2 (.inr ⟨m,hkm,?_⟩)
 by_cases hm:m∈L
 ·
  simp only [if_pos hm] at hb;exact h.low m b hb
 grind
structure Ev (ab:List aJ) (aH:List dE) (u:Nat→Nat) (L:List Nat) (Pm ml:List (Key × Value)) (qs:List Ask) (n:Nat) (acc:List ByteArray):Prop where
 len:acc.length=n
 out:∀m (h:m<qs.length),m<n→outside ab qs[m]=true→acc[m]?=some (valOf ab aH (cL ab qs[m]))
 ins:∀m (h:m<qs.length),m<n→outside ab qs[m]=false→∀k:Nat,qs[m].n=k→
  (acc[m]?=some (itoa (rv ab aH k:Int))∧(ck ml (aQ ab (k:Int))).isSome=true)∨(acc[m]?=some (itoa (u k:Int))∧k∈L∧ck Pm (aQ ab (k:Int))=none)
theorem Ev.start{u:Nat→Nat}{L:List Nat}{ml:List (Key × Value)}{qs:List Ask}:Ev ab aH u L ml ml qs 0 []:=⟨rfl,fun _ _ h=>by omega,fun _ _ h=>by omega⟩
theorem Ev.mono{u:Nat→Nat}{L L':List Nat}{Pm ml eb:List (Key × Value)}{qs:List Ask}{n:Nat}{acc:List ByteArray}(h:Ev ab aH u L Pm ml qs n acc) (hL:∀k∈L,k∈L') (hm:iI ml eb):Ev ab aH u L' Pm eb qs n acc:=
 ⟨h.len,h.out,fun m h1 h2 h3 k h4=>by
  rcases h.ins m h1 h2 h3 k h4 with⟨h5,h6⟩ | ⟨h5,h6,h7⟩
  ·
   obtain⟨v,hv⟩:=Option.isSome_iff_exists.1 h6;exact .inl ⟨h5,by rw [hm _ _ hv];rfl⟩
  grind⟩
theorem Ev.snoc{u:Nat→Nat}{L:List Nat}{Pm ml:List (Key × Value)}{qs:List Ask}{n:Nat}{acc:List ByteArray}(h:Ev ab aH u L Pm ml qs n acc) (s:ByteArray)
  (ho:∀(h:n<qs.length),outside ab qs[n]=true→s=valOf ab aH (cL ab qs[n]))
  (hi:∀(h:n<qs.length),outside ab qs[n]=false→∀k:Nat,qs[n].n=k→(s=itoa (rv ab aH k:Int)∧(ck ml (aQ ab (k:Int))).isSome=true)∨(s=itoa (u k:Int)∧k∈L∧ck Pm (aQ ab (k:Int))=none)) :
  Ev ab aH u L Pm ml qs (n+1) (acc++[s]) where
 len:=by simp [h.len]
 out m h1 h2 h3:=by
  rcases Nat.lt_or_ge m n with h4 | h4
  ·
   rw [List.getElem?_append_left (by rw [h.len];exact h4)];exact h.out m h1 h4 h3
  grind [len]
 ins m h1 h2 h3 k hk:=by
  rcases Nat.lt_or_ge m n with h4 | h4
  ·
   rw [List.getElem?_append_left (by rw [h.len];exact h4)];exact h.ins m h1 h4 h3 k hk
  have:m=n:=by omega
  subst this;rw [List.getElem?_append_right (by rw [h.len];omega),h.len]
  simpa using hi h1 h3 k hk
theorem Ev.val(hR:ay ab) {i0:Nat}{L:List Nat}{u:Nat→Nat}{Pm ml:List (Key × Value)}{j:Nat}{acc:List ByteArray}(hr:eT ab aH i0 L u) (hj:j<ab.length) (Jy:aI ab j=true) (h:Ev ab aH u L Pm ml ab[j].asks ab[j].asks.length acc) :
  gK ab[j].c.toNat (acc.map eh)≤65535∧gy (gK ab[j].c.toNat (acc.map eh)) (rv ab aH j)∧gy (FF ab aH (Es ab aH u Pm) j) (gK ab[j].c.toNat (acc.map eh))∧
  gy (gK ab[j].c.toNat (acc.map eh)) (FF ab aH (Es ab aH u ml) j)∧(gK ab[j].c.toNat (acc.map eh)=u j→sO ab aH L u j):=by
 obtain⟨hlen,ho,gQ⟩:=h;have pY:=hR.len
 -- an answer, by its place
 have pN:∀m (hm:m<ab[j].asks.length),∃s,acc[m]?=some s∧s∈acc:=fun m hm=>⟨acc[m],aq (by omega),List.getElem_mem _⟩
 have xM:gy (ob ab (valOf ab aH) j) (gK ab[j].c.toNat (acc.map eh)):=fun b hb=>by
  rw [ph]
  rcases(gT hj b).1 hb with h1 | ⟨x,h1,h2,h3⟩
  ·
   exact .inl h1
  obtain⟨m,hm,rfl⟩:=List.mem_iff_getElem.1 h1
  grind
 have LL:∀k,iA ab j k→∃m,∃hm:m<ab[j].asks.length,outside ab ab[j].asks[m]=false∧ab[j].asks[m].n=(k:Int):=fun k hk=>by
  obtain⟨r,x,h1,_,h3,h4,h5,h6⟩:=hk;rw [aq hj] at h1
  simp at h1
  subst h1;obtain⟨m,hm,rfl⟩:=List.mem_iff_getElem.1 h3;exact⟨m,hm,by unfold outside;rw [h4,h5];simp [h6],h5⟩
 have lx:∀(m:Nat) (s:ByteArray) (b:Nat),acc[m]?=some s→(eh s).testBit b=true→(gK ab[j].c.toNat (acc.map eh)).testBit b=true:=fun m s b h1 h2=>by
  rw [ph];grind
 have ll:∀(v:Nat→Nat),(∀k,v k≤65535)→(∀k:Nat,(ck ml (aQ ab (k:Int))).isSome=true→gy (rv ab aH k) (v k))→(∀k:Nat,gy (u k) (v k))→gy (gK ab[j].c.toNat (acc.map eh)) (FF ab aH v j):=fun v hv h1 h2 b hb=>by
  rw [Ag hR hv hj Jy];rw [ph] at hb
  rcases hb with hb | ⟨_,hs,hb⟩
  ·
   grind [gT]
  obtain⟨s,td,rfl⟩:=List.mem_map.1 hs;obtain⟨m,hm,rfl⟩:=List.mem_iff_getElem.1 td
  have RJ:m<ab[j].asks.length:=by omega
  cases gX:outside ab ab[j].asks[m]
  ·
   obtain⟨k,h3,h4,h5⟩:=j6 hR hj Jy (List.getElem_mem RJ) gX
   have Dn:ab[j].asks[m].n=(k:Int):=by
    obtain⟨q,h6,h7⟩:=pg hj hR.len (mT hR hj Jy (List.getElem_mem RJ))
    have hc:ab[j].asks[m].cell=false:=by grind [outside]
    rw [hc] at h7;simp only [Bool.false_eq_true,if_false] at h7
    unfold cL at h4
    rw [hc,h6] at h4;simp only [Bool.false_eq_true,if_false] at h4
    grind [dK]
   refine .inr ⟨k,h3,?_⟩
   rcases gQ m RJ RJ gX k Dn with⟨h6,h7⟩ | ⟨h6,h7,_⟩
   ·
    rw [aq hm] at h6
    simp at h6
    rw [h6,gR (xW k)] at hb;exact h1 k h7 b hb
   rw [aq hm] at h6
   simp at h6
   rw [h6,gR (hr.le k)] at hb;exact h2 k b hb
  grind [gT]
 refine⟨?_,?_,?_,?_,fun he=>⟨?_,fun k hk=>⟨fun Hp=>?_,fun Hp=>?_⟩⟩⟩
 ·
  grind [pc,Af,n9]
 ·
  intro b hb;have h1:=ll (rv ab aH) xW (fun _ _ _ h=>h) hr.low b hb
  grind [Ag,xW,JR]
 ·
  intro b hb;rw [Ag hR (wU hr.le) hj Jy] at hb
  rcases hb with hb | ⟨k,h1,h2⟩
  ·
   exact xM b hb
  obtain⟨m,hm,h3,h4⟩:=LL k h1
  rcases gQ m hm hm h3 k h4 with⟨h6,h7⟩ | ⟨h6,h7,h8⟩
  ·
   exact lx m _ b h6 (by rw [gR (xW k)];exact Sx hr.low k b h2)
  refine lx m _ b h6 (by rw [gR (hr.le k)];grind [Es])
 ·
  refine ll _ (wU hr.le) (fun k hk b hb=>?_) fun k b hb=>?_
  ·
   unfold Es;rw [if_pos hk];exact hb
  unfold Es;split
  ·
   exact hr.low k b hb
  exact hb
 ·
  rw [← he];exact xM
 ·
  intro b hb;rw [← he];obtain⟨m,hm,h3,h4⟩:=LL k hk
  rcases gQ m hm hm h3 k h4 with⟨h6,h7⟩ | ⟨h6,h7,h8⟩
  ·
   exact lx m _ b h6 (by rw [gR (xW k)];exact hr.low k b hb)
  exact lx m _ b h6 (by rw [gR (hr.le k)];exact hb)
 intro b hb
 grind [gR,xW]
def qV(ab:List aJ) (L:List Nat) (v:Nat→Nat) (am:List (Key × Value)):Prop:=
 (∀j∈L,ck am (aQ ab (j:Int))=some (.string (itoa (v j:Int))))∧∀k,(∀j∈L,k≠aQ ab (j:Int))→ck am k=none
theorem fF(hR:ay ab) {i j:Nat}(hi:i<ab.length) (hj:j<ab.length) (h:aQ ab (i:Int)=aQ ab (j:Int)):i=j:=by grind [ay.len,dK]
theorem qV.meet(hR:ay ab) {L:List Nat}{v:Nat→Nat}{am:List (Key × Value)}(h:qV ab L v am) (hL:∀j∈L,j<ab.length) {j:Nat}(hj:j<ab.length) (hn:j∉L) (hv:v j=0):qV ab (L++[j]) v (dH am (aQ ab (j:Int)) (.string ⟨#[48]⟩)):=by
 have e0:itoa ((0:Nat):Int)=⟨#[48]⟩:=by decide +kernel
 refine⟨fun k hk=>?_,fun k hk=>?_⟩
 ·
  rw [eQ]
  rcases List.mem_append.1 hk with hk | hk
  ·
   rw [if_neg (fun e=>hn (by grind [fF]))];exact h.1 k hk
  grind
 rw [eQ,if_neg (fun e=>hk j (by simp) e.symm)]
 exact h.2 k fun m hm=>hk m (by simp [hm])
theorem qV.set(hR:ay ab) {L:List Nat}{v:Nat→Nat}{am:List (Key × Value)}(h:qV ab L v am) (hL:∀j∈L,j<ab.length) {j:Nat}(hj:j∈L) (u:Nat):qV ab L (pZ v j u) (dH am (aQ ab (j:Int)) (.string (itoa (u:Int)))):=by
 refine⟨fun k hk=>?_,fun k hk=>?_⟩
 ·
  rw [eQ]
  unfold pZ
  by_cases e:k=j
  ·
   grind
  rw [if_neg (fun e2=>e (fF hR (hL k hk) (hL j hj) e2.symm)),if_neg e];exact h.1 k hk
 rw [eQ,if_neg (fun e=>hk j hj e.symm)];exact h.2 k hk
end
theorem lI{ab:List aJ}(hR:ay ab) {i:Nat}(hi:i<ab.length) (hr:aI ab i=true) {x:Ask}(hx:x∈ab[i].asks) (ho:outside ab x=false) {k:Nat}(hk:x.n=(k:Int)):k<ab.length∧aI ab k=true∧cL ab x=aQ ab (k:Int):=by
 have hm:=mT hR hi hr hx
 unfold outside at ho
 rw [Bool.or_eq_false_iff] at ho;rw [ho.1,hk] at hm;refine⟨(vl hR hi hr hm).1,?_,?_⟩
 ·
  grind
 grind [cL]
theorem ay.hb{ab:List aJ}(h:ay ab):∀x∈ab,0≤x.c∧x.c≤65535∧x.asks.length≤1000:=fun x hx=>by
 obtain⟨i,hi,rfl⟩:=List.mem_iff_getElem.1 hx;obtain⟨h1,_,h3⟩:=h.at hi
 grind [jV]
theorem im{ab:List aJ}{i:Nat}(hi:i<ab.length) (mn:i≤99) (l:List ByteArray):aZ ab (aQ ab (i:Int)) l=dP ab (aQ ab (i:Int)) l:=by
 unfold aZ;rw [if_pos (by grind [fX])]
theorem xX{ab:List aJ}{i:Nat}(hi:i<ab.length) (mn:i≤99) (hr:aI ab i=true):ub (aQ ab (i:Int))=⟨#[48]⟩:=by grind [ub,fX]
theorem DB:∀{l:List (Key × Value)}{k:Key}{v:Value},ck l k=some v→dH l k v=l:=by
 intro l
 induction l with
 | nil=>intro k v h;simp [ck] at h
 | cons p r ih=>
  obtain⟨k0,v0⟩:=p;intro k v h;simp only [ck] at h;simp only [dH]
  grind
theorem iJ{ab:List aJ}{i:Nat}(hi:i<ab.length) (mn:i≤99):gY (aQ ab (i:Int)):=by grind [gY,fX]
end Go.Rc

namespace Go.Rc
open Go
theorem tB:∀(l:List UInt8) (u:Nat),0<u→0≤decFrom l (u:Int)→∃v:Nat,decFrom l (u:Int)=v∧Lib.decDigits v=Lib.decDigits u++l
 | [],u,_,_=>⟨u,rfl,by simp⟩
 | c::r,u,hu,h=>by
  unfold decFrom at h ⊢
  by_cases hc:c.toNat<48∨57<c.toNat
  ·
   rw [if_pos hc] at h;omega
  rw [if_neg hc] at h ⊢;obtain⟨d,hd⟩:∃d:Nat,c.toNat=48+d:=⟨c.toNat - 48,by omega⟩
  have hd9:d<10:=by omega
  have e:10*(u:Int)+((c.toNat:Int) - 48)=((10*u+d:Nat):Int):=by omega
  rw [e] at h ⊢;obtain⟨v,h1,h2⟩:=tB r (10*u+d) (by omega) h;refine⟨v,h1,?_⟩;rw [h2,Lib.decDigits,dif_neg (by omega),show(10*u+d) / 10=u by omega,show(10*u+d) % 10=d by omega,List.append_assoc]
  grind [UInt8.ofNat_toNat]
theorem Cw{s:ByteArray}(h:0≤fA s):∃v:Nat,fA s=v∧s=itoa (v:Int):=by
 unfold fA at h ⊢
 by_cases hc:s.size=0∨9<s.size∨(s.data.toList.head?=some 48∧s.size≠1)
 ·
  rw [if_pos hc] at h;omega
 rw [if_neg hc] at h ⊢;obtain⟨d⟩:=s
 have key:∃v:Nat,decFrom d.toList 0=v∧Lib.decDigits v=d.toList:=by
  have hsz:(⟨d⟩:ByteArray).size=d.toList.length:=by simp [ByteArray.size]
  rw [hsz] at hc;simp only at hc h ⊢
  cases hl:d.toList with
  | nil=>rw [hl] at hc;simp at hc
  | cons c r=>
   rw [hl] at hc h
   unfold decFrom at h ⊢
   by_cases hn:c.toNat<48∨57<c.toNat
   ·
    rw [if_pos hn] at h;omega
   rw [if_neg hn] at h ⊢;obtain⟨e,he⟩:∃e:Nat,c.toNat=48+e:=⟨c.toNat - 48,by omega⟩
   have h1:10*(0:Int)+((c.toNat:Int) - 48)=(e:Nat):=by omega
   rw [h1] at h ⊢
   have Ai:UInt8.ofNat (48+e)=c:=by grind [UInt8.ofNat_toNat]
   by_cases h0:e=0
   ·
    subst h0
    have aqJ:c=48:=by rw [← Ai];rfl
    have hr:r=[]:=by grind
    subst hr;exact⟨0,rfl,by rw [Lib.decDigits,dif_pos (by omega),Ai]⟩
   obtain⟨v,h2,h3⟩:=tB r e (by omega) h;refine⟨v,h2,?_⟩;rw [h3,Lib.decDigits,dif_pos (by omega),Ai]
   rfl
 obtain⟨v,h1,h2⟩:=key;refine⟨v,h1,?_⟩
 have e:Lib.itoa (v:Int)=Lib.decDigits v:=by unfold Lib.itoa;rw [if_neg (by omega)];rfl
 unfold itoa
 rw [e,h2]
theorem MY{s:ByteArray}(h:∀n:Nat,n≤65535→s≠itoa (n:Int)):eh s=0:=by
 unfold eh
 split
 ·
  rfl
 grind [Cw]
theorem MZ(l:List aJ) (m:Nat):m≤fw l m:=by unfold fw;omega
theorem JT{ab:List aJ}{i:Nat}(hi:i<ab.length):(block ab (i:Int)).1≤(block ab (i:Int)).2:=by
 have hb:block ab (i:Int)=if aI ab i then ((cz ab i:Int),(fw ab (i+1):Int)) else ((i:Int),(i:Int)+1):=by
  unfold block;rw [if_neg (by omega)];rfl
 grind [iL,MZ]
theorem Hq(kind:Int) (c:Nat) (l:List Nat):gi kind 0 (c::l)=gi kind c l:=by
 unfold gi zQ xQ gK
 simp
end Go.Rc

namespace Go.Rc
open Go
theorem Hr{κ:Type} [DecidableEq κ]:∀{l:List (κ × Value)}{k:κ}{v:Value},ck l k=none→kP (dH l k v) k=l
 | [],k,v,_=>by simp [dH,kP]
 | (k0,v0)::r,k,v,h=>by
  by_cases e:k0=k
  ·
   subst e;simp [ck] at h
  simp only [ck,if_neg e] at h;simp only [dH,if_neg e,kP,Hr h]
def FZ.row(b:Nat) (r:List Value):FZ:=
 ⟨fun Z w=>Z b∧b<w.heap.size∧w.rangeAt b 0 r,fun hZ h=>⟨hZ _ h.1,h.2⟩,fun hs hc h=>⟨h.1,Nat.lt_of_lt_of_le h.2.1 hs,fun j v hv=>by rw [← h.2.2 j v hv];grind [World.cell?_of_block]⟩⟩
def SD.FV(D:SD) (P:Program) (ab:List aJ) (x:dV):FZ:=(D.F P ab x).and (FZ.row D.s (D.cells x))
theorem SD.FV.rg{D:SD}{P:Program}{ab:List aJ}{x:dV}{Z:Nat→Prop}{w:World}(h:(D.FV P ab x).p Z w):(As.rg D.s 0 (D.cells x)).ok Z w:=As.ab0 h.2.1 h.2.2.1 h.2.2.2
theorem DC{κ:Type} [DecidableEq κ]:∀(l:List (κ × Value)) (k:κ) (v u:Value),dH (dH l k v) k u=dH l k u
 | [],k,v,u=>by simp [dH]
 | (k0,v0)::r,k,v,u=>by
  by_cases e:k0=k
  ·
   simp [dH,e]
  simp [dH,e,DC r k v u]
section
variable {ab:List aJ}{aH:List dE}
def nU(ab:List aJ) (i:Nat) (al:List (Key × Value)):Prop:=∀j:Nat,j≤i→j<ab.length→ck al (aQ ab (j:Int))=none
theorem nU.mono{i m:Nat}{al:List (Key × Value)}(h:nU ab i al) (hm:m≤i):nU ab m al:=fun j hj hl=>h j (by omega) hl
theorem nU.put(hR:ay ab) {i m:Nat}{al:List (Key × Value)}(h:nU ab i al) (hi:i<ab.length) (hm:m<i) (v:Value):nU ab m (dH al (aQ ab (i:Int)) v):=fun j hj hl=>by
 rw [eQ,if_neg (fun e=>by have:=fF hR hi hl e;omega)];exact h j (by omega) hl
theorem nU.nil(i:Nat):nU ab i []:=fun _ _ _=>rfl
noncomputable def dC(ab:List aJ) (aH:List dE) (i:Nat):List Key:=(gq (dP ab (aQ ab (i:Int))) (valOf ab aH) (dW ab i)).1
noncomputable def wV(ab:List aJ) (aH:List dE) (k:Key):List Key:=if aB k then [] else dC ab aH (number k).toNat
theorem iM(hR:ay ab) {i:Nat}(hi:i<ab.length):wV ab aH (aQ ab (i:Int))=dC ab aH i:=by
 have pY:=hR.len
 unfold wV
 rw [if_neg (by grind [dI]),dK hi (by omega),Int.toNat_natCast]
theorem gx.cyc(hR:ay ab) {i:Nat}{a:Key}(h:gx ab i a):aA a=decide (a.kind=32):=by
 have pY:=hR.len
 rcases h with⟨n,h1,rfl⟩ | ⟨m,h1,rfl,_⟩
 ·
  rw [nq (by omega)]
  unfold eL
  rw [if_neg (by omega)]
  rfl
 grind [cA,fX]
theorem gx.al(hR:ay ab) {i0 j:Nat}{a:Key}{al:List (Key × Value)}(h:gx ab j a) (hr:aI ab j=true) (hc:aA a=false) (gQ:aB a=false) (hb:cz ab j≤i0) (tC:nU ab i0 al):nU ab (number a).toNat al:=by
 have pY:=hR.len
 rcases h with⟨n,h1,rfl⟩ | ⟨m,h1,rfl,_,_,_,h5⟩
 ·
  grind [dj]
 rw [cA h1 (by omega)] at hc;rw [dK h1 (by omega),Int.toNat_natCast];exact tC.mono (by have:=h5 hc hr;omega)
structure RI (ab:List aJ) (aH:List dE) (i0:Nat) (qs:List Ask) (u1:Nat→Nat) (L1:List Nat) (oB:Bool) (fq:List (Key × Value)) (n:Nat) (L2:List Nat) (nv:List (Key × Value)) (qD:Bool) (kK:List (Key × Value)) (acc:List ByteArray):Prop where
 hn:n≤qs.length
 rd:eT ab aH i0 L2 u1
 up:oA ab aH L2 u1 kK
 at_:qV ab L2 u1 nv
 m:ba ab aH kK
 le:iI fq kK
 p:tA ab L2 u1≤tA ab L1 u1∧(qD=true→oB=true∨tA ab L2 u1<tA ab L1 u1)
 c:qD=false→L2=L1∧oB=false
 pre:L1 <+: L2
 ev:Ev ab aH u1 L2 fq kK qs n acc
variable {i0 j n:Nat}{u1:Nat→Nat}{L1 L2:List Nat}{oB qD:Bool}{fq kK Sy nv:List (Key × Value)}{acc:List ByteArray}
theorem RI.start{Aj:List (Key × Value)}{qs:List Ask}(h1:eT ab aH i0 L1 u1) (h2:oA ab aH L1 u1 fq) (h3:qV ab L1 u1 Aj) (h4:ba ab aH fq):RI ab aH i0 qs u1 L1 oB fq 0 L1 Aj oB fq []:=
 ⟨Nat.zero_le _,h1,h2,h3,h4,iI.refl _,⟨Nat.le_refl _,fun h=>.inl h⟩,fun h=>⟨rfl,h⟩,List.prefix_refl _,Ev.start⟩
theorem RI.done(hR:ay ab) (hj:j<ab.length) (hr:aI ab j=true) (h:RI ab aH i0 ab[j].asks u1 L1 oB fq n L2 nv qD kK acc) (hn:n<ab[j].asks.length) {vv:Value}(hv:ck kK (cL ab ab[j].asks[n])=some vv) :
  RI ab aH i0 ab[j].asks u1 L1 oB fq (n+1) L2 nv qD kK (acc++[valOf ab aH (cL ab ab[j].asks[n])]):=
 {h with
  hn:=hn
  ev:=h.ev.snoc _ (fun _ _=>rfl) fun _ ho k hk=>.inl (by
   obtain⟨tD,nQ,xY⟩:=lI hR hj hr (List.getElem_mem hn) ho hk
   grind [jE,kn])}
theorem RI.low(hR:ay ab) (hj:j<ab.length) (hr:aI ab j=true) (h:RI ab aH i0 ab[j].asks u1 L1 oB fq n L2 nv qD kK acc) (hn:n<ab[j].asks.length) (hc:aA (cL ab ab[j].asks[n])=false) (h4:ba ab aH Sy) (hle:iI kK Sy) :
  RI ab aH i0 ab[j].asks u1 L1 oB fq (n+1) L2 nv qD Sy (acc++[valOf ab aH (cL ab ab[j].asks[n])]):=
 {h with
  hn:=hn
  up:=h.up.mono hR h.rd hle
  m:=h4
  le:=h.le.trans hle
  ev:=(h.ev.mono (fun _ h=>h) hle).snoc _ (fun _ _=>rfl) fun _ ho k hk=>by grind [ay.len,lI,cA]}
theorem RI.inside(hR:ay ab) (hj:j<ab.length) (hr:aI ab j=true) (hn:n<ab[j].asks.length) (hc:aA (cL ab ab[j].asks[n])=true) :
  ∃kk:Nat,cL ab ab[j].asks[n]=aQ ab (kk:Int)∧kk<ab.length∧aI ab kk=true∧iA ab j kk∧outside ab ab[j].asks[n]=false:=by
 have lx:=List.getElem_mem hn
 have gX:outside ab ab[j].asks[n]=false:=by grind [lH]
 obtain⟨kk,LM,qE,nS⟩:=j6 hR hj hr lx gX;exact⟨kk,qE,nS,LM.lt.2.2.2,LM,gX⟩
theorem RI.U1(hR:ay ab) (hj:j<ab.length) (hr:aI ab j=true) {L3:List Nat}(h:Ev ab aH u1 L3 fq kK ab[j].asks n acc) (hle:iI fq kK) (hn:n<ab[j].asks.length) {kk:Nat}(qE:cL ab ab[j].asks[n]=aQ ab (kk:Int)) (nS:kk<ab.length) (gX:outside ab ab[j].asks[n]=false)
  (gh:ck kK (cL ab ab[j].asks[n])=none) (hL:kk∈L3):Ev ab aH u1 L3 fq kK ab[j].asks (n+1) (acc++[itoa (u1 kk:Int)]):=by
 have EV:ck fq (aQ ab (kk:Int))=none:=by
  cases h:ck fq (aQ ab (kk:Int)) with
  | none=>rfl
  | some v=>have:=hle _ _ h;grind
 refine h.snoc _ (fun _ ho=>by rw [gX] at ho;cases ho) fun _ ho k hk=>?_;obtain⟨tD,nQ,xY⟩:=lI hR hj hr (List.getElem_mem hn) gX hk;rw [qE] at xY
 have:=fF hR nS tD xY
 grind
theorem RI.meet(hR:ay ab) (hj:j<ab.length) (hr:aI ab j=true) (h:RI ab aH i0 ab[j].asks u1 L1 oB fq n L2 nv qD kK acc) (qz:j∈L1) (hn:n<ab[j].asks.length) (hc:aA (cL ab ab[j].asks[n])=true)
  (gh:ck kK (cL ab ab[j].asks[n])=none) (Sm:ck nv (cL ab ab[j].asks[n])=none) :
  ∃kk:Nat,cL ab ab[j].asks[n]=aQ ab (kk:Int)∧kk<ab.length∧aI ab kk=true∧RI ab aH i0 ab[j].asks u1 L1 oB fq (n+1) (L2++[kk]) (dH nv (cL ab ab[j].asks[n]) (.string ⟨#[48]⟩)) true kK (acc++[⟨#[48]⟩]):=by
 obtain⟨kk,qE,nS,vm,LM,gX⟩:=RI.inside hR hj hr hn hc
 have Hp:kk∉L2:=fun hm=>by have:=h.at_.1 kk hm;grind
 have Og:=h.rd.out kk Hp;have Pj:dZ ab i0 kk:=.step (h.rd.reach j (h.pre.subset qz)) LM;have Xi:=h.rd.meet nS vm Hp Pj;have ed:=h.rd.LJ nS vm Hp Pj;have Sc:=Ho (v:=u1) (j:=kk) ed;have dR:=RI.U1 hR hj hr (h.ev.mono (L':=L2++[kk]) (fun _ h=>by simp [h]) (iI.refl _)) h.le hn qE nS gX gh (by simp)
 have e0:itoa ((0:Nat):Int)=⟨#[48]⟩:=by decide +kernel
 rw [Og,e0] at dR;refine⟨kk,qE,nS,vm,⟨hn,Xi,h.up.meet Og,?_,h.m,h.le,⟨Nat.le_of_lt (Nat.lt_of_lt_of_le Sc h.p.1),fun _=>.inr (Nat.lt_of_lt_of_le Sc h.p.1)⟩,fun h=>(by cases h),h.pre.trans (List.prefix_append _ _),dR⟩⟩;rw [qE];exact h.at_.meet hR (fun k hk=>(h.rd.ring k hk).1) nS Hp Og
theorem RI.acp(hR:ay ab) (hj:j<ab.length) (hr:aI ab j=true) (h:RI ab aH i0 ab[j].asks u1 L1 oB fq n L2 nv qD kK acc) (hn:n<ab[j].asks.length) (hc:aA (cL ab ab[j].asks[n])=true)
  (gh:ck kK (cL ab ab[j].asks[n])=none) {v:Value}(Sm:ck nv (cL ab ab[j].asks[n])=some v) :
  ∃s:ByteArray,v=.string s∧s.size≤1000∧RI ab aH i0 ab[j].asks u1 L1 oB fq (n+1) L2 nv qD kK (acc++[s]):=by
 obtain⟨kk,qE,nS,vm,LM,gX⟩:=RI.inside hR hj hr hn hc
 have Hp:kk∈L2:=by
  by_cases hm:kk∈L2
  ·
   exact hm
  have:=h.at_.2 (aQ ab (kk:Int)) (fun k hk e=>hm (by have:=fF hR nS (h.rd.ring k hk).1 e;rw [this];exact hk))
  grind
 have hg:=h.at_.1 kk Hp;rw [← qE,Sm] at hg;simp only [Option.some.injEq] at hg;refine⟨_,hg,?_,{h with hn:=hn,ev:=RI.U1 hR hj hr h.ev h.le hn qE nS gX gh Hp}⟩;have hle:=h.rd.le kk
 have e:Lib.itoa (u1 kk:Int)=Lib.decDigits (u1 kk):=by unfold Lib.itoa;rw [if_neg (by omega)];rfl
 grind [itoa,Lib.decDigits,ByteArray.size]
end
end Go.Rc

namespace Go.Rc
open Go
/-! ### keys in order -/
def qW(k:Key):List Key→List Key
 | []=>[k]
 | x::r=>if cE x k<0 then x::qW k r else if x=k then x::r else k::x::r
def iv(l:List Key):List Key:=l.foldl (fun out k=>qW k out) []
theorem SA:∀(l:List Key) (k:Key) (p:Nat),p≤l.length→(∀q x,q<p→l[q]?=some x→cE x k<0)→(∀x,l[p]?=some x→0≤cE x k)→qW k l=if l[p]?=some k then l else l.take p++[k]++l.drop p:=by
 intro l
 induction l with
 | nil=>intro k p hp _ _;simp at hp;subst hp;rfl
 | cons x r ih=>
  intro k p hp h1 h2
  cases p with
  | zero=>
   have:=h2 x rfl
   simp only [qW]
   grind
  | succ p=>
   have:=h1 0 x (by omega) rfl
   simp only [qW];rw [if_pos this,ih k p (by simpa using hp) (fun q y hq hy=>h1 (q+1) y (by omega) (by simpa using hy)) (fun y hy=>h2 y (by simpa using hy))]
   grind
theorem Pn(k:Key):∀l,(qW k l).length≤l.length+1:=by
 intro l
 induction l with
 | nil=>simp [qW]
 | cons x r ih=>grind [qW]
theorem Ak(l:List Key) (k:Key):iv (l++[k])=qW k (iv l):=by simp [iv]
theorem wW(l:List Key):(iv l).length≤l.length:=by
 have key:∀(l acc:List Key),(l.foldl (fun out k=>qW k out) acc).length≤acc.length+l.length:=by
  intro l
  induction l with
  | nil=>intro acc;simp
  | cons x r ih=>grind [Pn]
 simpa [iv] using key l []
theorem Hs(k:Key):∀(l:List Key) (x:Key),x∈qW k l↔x=k∨x∈l:=by
 intro l
 induction l with
 | nil=>intro x;simp [qW]
 | cons y r ih=>grind [qW]
theorem pj(l:List Key) (x:Key):x∈iv l↔x∈l:=by
 have key:∀(l acc:List Key),x∈l.foldl (fun out k=>qW k out) acc↔x∈acc∨x∈l:=by
  intro l
  induction l with
  | nil=>intro acc;simp
  | cons y r ih=>grind [Hs]
 simpa [iv] using key l []
def Ht(out:List Key) (p:Nat) (x:Key):Bool:=match out[p]? with | some y=>decide (cE y x<0) | none=>false
/-! ### groups -/
def Ld(l:List Rec) (rev:Int) (a x:Key):Prop:=x∈(aG l a).reads∧cY l rev x=true
inductive cN (l:List Rec) (rev:Int) (k:Key):Key→Prop where
 | one {x:Key}:Ld l rev k x→cN l rev k x
 | step {x y:Key}:cN l rev k x→Ld l rev x y→cN l rev k y
def j7(m:List (Key × Value)) (P:Key→Prop):Prop:=∀k,(ck m k=some (.bool true)↔P k)∧(ck m k=none∨ck m k=some (.bool true))
open Classical in
noncomputable def EW(l:List Rec) (rev:Int) (k x:Key):Bool:=decide (cN l rev k x)
theorem ny{l:List Rec}{rev:Int}{k x:Key}:EW l rev k x=true↔cN l rev k x:=by unfold EW;simp
noncomputable def Hu(l:List Rec) (rev:Int) (k:Key) (r:Rec):Bool:=decide (r.key≠k) && (EW l rev k r.key && EW l rev r.key k)
noncomputable def lJ(l:List Rec) (rev:Int) (k:Key) (rs:List Rec):List Key:=(rs.filter (Hu l rev k)).map (·.key)
theorem xZ{l:List Rec}{rev:Int}{k:Key}{i:Nat}(h:i<l.length):lJ l rev k (l.take (i+1))=if Hu l rev k l[i]=true then lJ l rev k (l.take i)++[l[i].key] else lJ l rev k (l.take i):=by
 rw [List.take_succ_eq_append_getElem h];simp only [lJ,List.filter_append,List.map_append]
 grind
theorem ue(l:List Rec) (rev:Int) (k:Key) (rs:List Rec):(lJ l rev k rs).length≤rs.length:=by grind [lJ]
theorem j7.get{m:List (Key × Value)}{P:Key→Prop}(h:j7 m P) (k:Key) {b:Bool}(hb:b=true↔P k):(ck m k).getD (.bool false)=.bool b:=by
 obtain⟨h1,h2⟩:=h k
 grind
theorem j7.put{m:List (Key × Value)}{ys:List Key}(h:j7 m (·∈ys)) (x:Key):j7 (dH m x (.bool true)) (·∈ys++[x]):=fun k=>by
 rw [eQ]
 by_cases e:x=k
 ·
  rw [if_pos e];simp [e]
 rw [if_neg e];obtain⟨h1,h2⟩:=h k
 grind
theorem j7.congr{m:List (Key × Value)}{P Q:Key→Prop}(h:j7 m P) (hpq:∀k,P k↔Q k):j7 m Q:=fun k=>⟨(h k).1.trans (hpq k),(h k).2⟩
theorem j7.nil:j7 [] (·∈([]:List Key)):=fun k=>by simp [ck]
theorem jW{L S:List Key}(h:L.Nodup) (hs:∀x∈L,x∈S):L.length≤S.length:=by
 induction L generalizing S with
 | nil=>simp
 | cons a r ih=>
  have ha:=hs a (by simp);rw [List.nodup_cons] at h
  have:=ih (S:=S.erase a) h.2 fun x hx=>by grind
  grind
theorem rG{l:List Rec}{rev:Int}{x:Key}(h:cY l rev x=true):x∈l.map (·.key):=by
 unfold cY at h
 rw [Bool.and_eq_true] at h
 grind [aD]
theorem cN.jh{l:List Rec}{rev:Int}{k x:Key}(h:cN l rev k x):cY l rev x=true:=by
 cases h with
 | one h=>exact h.2
 | step _ h=>exact h.2
theorem EY{l:List Rec}{rev:Int}{k:Key}{ys:List Key}(hs:∀x∈ys,cN l rev k x) (hc:∀y∈k::ys,∀x,Ld l rev y x→x∈ys) (x:Key):x∈ys↔cN l rev k x:=by
 refine⟨hs x,fun h=>?_⟩
 induction h with
 | one h=>exact hc k (by simp) _ h
 | step _ h2 ih=>exact hc _ (by simp [ih]) _ h2
noncomputable def aF(l:List Rec) (rev:Int) (k:Key):List Key:=if cY l rev k then iv (k::lJ l rev k l) else [k]
def cZ(rev:Int) (group:List Key) (cq:Bool) (r:Rec):Rec:=if r.key∈group then (if cq then {r with cq:=true} else {r with az:=rev}) else r
def dX(x:dV) (group:List Key) (cq:Bool):dV:={x with ak:=x.ak.map (cZ x.ae group cq)}
def aO(x:dV) (k:Key):Bool:=(aD x.ak k).isSome && decide ((aG x.ak k).az=x.ae)
def bR(val:Key→ByteArray) (x:dV) (k:Key):Int:=
 if aB k then (ek x.ah k).changed
 else if (aD x.ak k).isSome && (decide ((aG x.ak k).az=x.ae) || decide (val k=(aG x.ak k).value)) then (aG x.ak k).changed else x.ae
def eJ(val:Key→ByteArray) (x:dV) (k:Key):ByteArray:=if aA k then val k else zZ x k
/-! ### a request -/
structure ES where
 b:dV
 busy:List (Key × Value)
 bU:List Key
 e:Int
def ES.on(s:ES) (k:Key):Bool:=(ck s.busy k).isSome
def fJ(s:ES) (k:Key):Bool:=aB k || ((s.on k && aA k) || aO s.b k)
mutual
noncomputable def oc(ab:List aJ) (val:Key→ByteArray):Nat→ES→Key→Option ES
 | 0,_,_=>none
 | f+1,s,k=>
  if s.e≠0∨aB k=true then some s
  else if aO s.b k then some s
  else if s.on k then (if aA k then some s else some {s with e:=43})
  else (dL ab val f {s with busy:=dH s.busy k (.bool true)} k 0).bind fun p=>
   (if p.2 then jr ab val f p.1 k [] [] else some p.1).bind fun s3=>some {s3 with busy:=kP s3.busy k}
noncomputable def dL(ab:List aJ) (val:Key→ByteArray):Nat→ES→Key→Nat→Option (ES × Bool)
 | 0,_,_,_=>none
 | f+1,s,k,at_=>
  if s.e≠0 then some (s,false)
  else if !(aD s.b.ak k).isSome || (aG s.b.ak k).cq then some (s,true)
  else if (aG s.b.ak k).az=s.b.ae then some (s,false)
  else
   match (cC s.b.ak (aF s.b.ak s.b.ae k))[at_]? with
   | none=>some ({s with b:=dX s.b (aF s.b.ak s.b.ae k) false},false)
   | some c=>
    if fJ s c.read=false then (oc ab val f s c.read).bind fun s'=>dL ab val f s' k at_
    else if (aG s.b.ak c.fy).az<bR val s.b c.read then
     some ((if aA k then {s with b:=dX s.b (aF s.b.ak s.b.ae k) true} else s),true)
    else dL ab val f s k (at_+1)
noncomputable def jr(ab:List aJ) (val:Key→ByteArray):Nat→ES→Key→List Key→List ByteArray→Option ES
 | 0,_,_,_,_=>none
 | f+1,s,k,reads,ao=>
  if s.e≠0 then some s
  else if (aZ ab k ao).done then
   (if !(aD s.b.ak k).isSome && decide (4000≤s.b.ak.length) then some {s with e:=45}
   else some {s with b:={s.b with ak:=gW s.b.ak (et s.b k (aZ ab k ao).value reads)},bU:=s.bU++[k]})
  else (oc ab val f s (aZ ab k ao).ask).bind fun s'=>
   if s'.e=0 then jr ab val f s' k (reads++[(aZ ab k ao).ask]) (ao++[eJ val s'.b (aZ ab k ao).ask]) else jr ab val f s' k reads ao
end
/-! ### a solver, as one thing -/
def As.mx(P:Program) (ST:Nat) (ab:List aJ) (x:dV) (D:SD):As where
 fp y:=y=D.s∨y=D.m
 ok Z w:=D.s≠D.m∧cJ w D.s ST (D.cells x)∧(∃ml,ba ab x.ah ml∧KM Key.val w D.m ml)∧(D.F P ab x).p Z w
 lt:=fun⟨_,h1,⟨_,_,h2⟩,_⟩ y hy=>by rcases hy with rfl | rfl;exact h1.lt;exact h2.lt
 mono hZ:=fun⟨h0,h1,h2,h3⟩=>⟨h0,h1,h2,(D.F P ab x).mono hZ h3⟩
 st:=fun hs hc ⟨h0,h1,⟨ml,h2,h3⟩,h4⟩=>⟨h0,(As.blk D.s ST (D.cells x)).st (Z:=fun _=>False) hs (fun y hy hl=>hc y (.inl (.inl (by rcases hy with hy | hy;exact hy;exact hy.elim))) hl) h1,
  ⟨ml,h2,(As.map Key.val D.m ml).st (Z:=fun _=>False) hs (fun y hy hl=>hc y (.inl (.inr (by rcases hy with hy | hy;exact hy;exact hy.elim))) hl) h3⟩,(D.F P ab x).st hs (fun y hy hl=>hc y (.inr hy) hl) h4⟩
section
variable {w0 w w':World}{M Z:Nat→Prop}{l:List As}{A B C:As}
theorem St.split(h:St w0 M Z w (C::l)) (hA:A.ok Z w) (hB:B.ok Z w) (hfA:∀x,A.fp x→C.fp x) (hfB:∀x,B.fp x→C.fp x) (hd:∀x,A.fp x→¬B.fp x):St w0 M Z w (A::B::l):=by
 obtain⟨Sr,RF⟩:=List.pairwise_cons.1 h.wA;refine⟨h.cX,h.mj,?_,?_,?_,?_⟩
 ·
  intro D hD x hx hz;simp only [List.mem_cons] at hD
  rcases hD with rfl | rfl | hD
  ·
   exact h.pI C (by simp) x (hfA x hx) hz
  ·
   exact h.pI C (by simp) x (hfB x hx) hz
  exact h.pI D (by simp [hD]) x hx hz
 ·
  intro D hD x hx;simp only [List.mem_cons] at hD
  rcases hD with rfl | rfl | hD
  ·
   exact h.rf C (by simp) x (hfA x hx)
  ·
   exact h.rf C (by simp) x (hfB x hx)
  exact h.rf D (by simp [hD]) x hx
 ·
  simp_all
 intro D hD;simp only [List.mem_cons] at hD
 rcases hD with rfl | rfl | hD
 ·
  exact hA
 ·
  exact hB
 exact h.ok D (by simp [hD])
theorem St.join(h:St w0 M Z w (A::B::l)) (hC:C.ok Z w) (hf:∀x,C.fp x→A.fp x∨B.fp x):St w0 M Z w (C::l):=by
 obtain⟨Sr,RF⟩:=List.pairwise_cons.1 h.wA;obtain⟨hd3,hd4⟩:=List.pairwise_cons.1 RF;refine⟨h.cX,h.mj,?_,?_,?_,?_⟩
 ·
  intro D hD x hx hz;simp only [List.mem_cons] at hD
  rcases hD with rfl | hD
  ·
   rcases hf x hx with h1 | h1
   ·
    exact h.pI A (by simp) x h1 hz
   exact h.pI B (by simp) x h1 hz
  exact h.pI D (by simp [hD]) x hx hz
 ·
  intro D hD x hx;simp only [List.mem_cons] at hD
  rcases hD with rfl | hD
  ·
   rcases hf x hx with h1 | h1
   ·
    exact h.rf A (by simp) x h1
   exact h.rf B (by simp) x h1
  exact h.rf D (by simp [hD]) x hx
 ·
  grind [List.pairwise_cons]
 intro D hD;simp only [List.mem_cons] at hD
 rcases hD with rfl | hD
 ·
  exact hC
 exact h.ok D (by simp [hD])
theorem St.one(h:St w0 M Z w l) (hA:A∈l):St w (rh [A]) Z w [A] where
 cX:=jf.refl _ _
 mj:=h.mj
 pI D hD:=by simp at hD;subst hD;exact h.pI _ hA
 rf D hD x hx:=.inl ⟨D,hD,hx⟩
 wA:=by simp
 ok D hD:=by simp at hD;subst hD;exact h.ok _ hA
theorem St.DD(h:St w0 M Z w l) (hA:A∈l) (h':St w (rh [A]) Z w' [A]):St w0 M Z w' l:=
 h.same hA (h'.cX.mono fun x _ ⟨D,hD,hx⟩=>by simp at hD;subst hD;exact hx) (h'.ok A (by simp))
theorem LN(hA:A∈l) {x:Nat}(hx:rh [A] x):rh l x:=by obtain⟨D,hD,hx⟩:=hx;simp at hD;subst hD;exact⟨D,hA,hx⟩
end
theorem As.gv{P:Program}{ST:Nat}{ab:List aJ}{x:dV}{D:SD}{Z:Nat→Prop}{w:World}(h:(As.mx P ST ab x D).ok Z w):(D.F P ab x).p Z w:=h.2.2.2
theorem As.gvb{P:Program}{ST:Nat}{ab:List aJ}{x:dV}{D:SD}{Z:Nat→Prop}{w:World}(h:(As.mx P ST ab x D).ok Z w):cJ w D.s ST (D.cells x):=h.2.1
structure EA where
 (a1 a2 a3:Option Addr) (n1 c1 n2 c2 n3 c3:Nat)
def EA.cells(E:EA) (sb bb:Nat) (s:ES):List Value:=
 [.pointer (some ⟨sb,0,none⟩),.int .i64 s.b.ae,.slice E.a1 E.n1 E.c1,.slice E.a2 E.n2 E.c2,.map (some bb),.slice E.a3 E.n3 E.c3,.int .i64 s.e]
theorem JU{x:dV}{group:List Key}{cq:Bool}{i:Nat}(h:i<x.ak.length) (hi:i≤x.ak.length):(((x.ak.take i).map (cZ x.ae group cq))++x.ak.drop i).set i (cZ x.ae group cq x.ak[i])=((x.ak.take (i+1)).map (cZ x.ae group cq))++x.ak.drop (i+1):=by
 rw [List.set_append_right _ _ (by simp;omega)];simp only [List.length_map,List.length_take,Nat.min_eq_left hi,Nat.sub_self]
 grind [List.drop_eq_getElem_cons]
end Go.Rc

namespace Go.Rc
open Go
structure Good (ab:List aJ) (aH:List dE) (s:ES):Prop where
 aH:s.b.ah=aH
 len:s.b.ak.length≤4000
 key:∀r∈s.b.ak,gS ab r.key
 Jp:∀r∈s.b.ak,r.reads.length≤4000∧∀a∈r.reads,gS ab a
 nY:(s.busy.map (·.1)).Nodup
 busy:∀k,ck s.busy k=none∨ck s.busy k=some (.bool true)
structure LO (s s':ES):Prop where
 bU:s.bU.length≤s'.bU.length
 rev:s'.b.ae=s.b.ae
theorem LO.refl(s:ES):LO s s:=⟨Nat.le_refl _,rfl⟩
theorem LO.trans{s t u:ES}(h:LO s t) (h':LO t u):LO s u:=⟨Nat.le_trans h.bU h'.bU,h'.rev.trans h.rev⟩
section
variable {ab:List aJ}{aH:List dE}{s:ES}{k:Key}
theorem Good.on(h:Good ab aH s) (k:Key):Good ab aH {s with busy:=dH s.busy k (.bool true)}:=
 {h with nY:=iK h.nY _ _,busy:=fun k'=>by show ck (dH s.busy k (.bool true)) k'=none∨_;rw [eQ];split;exact .inr rfl;exact h.busy k'}
theorem Good.off(h:Good ab aH s) (k:Key):Good ab aH {s with busy:=kP s.busy k}:=
 {h with nY:=by grind [OU,nY],busy:=fun k'=>by show ck (kP s.busy k) k'=none∨_;rw [G6 h.nY];split;exact .inl rfl;exact h.busy k'}
theorem Good.err(h:Good ab aH s) (e:Int):Good ab aH {s with e:=e}:={h with}
theorem dU(rev:Int) (g:List Key) (d:Bool) (r:Rec):(cZ rev g d r).key=r.key∧(cZ rev g d r).reads=r.reads:=by unfold cZ;grind
theorem Good.mark(h:Good ab aH s) (g:List Key) (d:Bool):Good ab aH {s with b:=dX s.b g d}:=
 {h with
  len:=by show((s.b.ak.map _).length≤4000);rw [List.length_map];exact h.len
  key:=fun r hr=>by obtain⟨q,hq,rfl⟩:=List.mem_map.1 hr;rw [(dU _ _ _ q).1];exact h.key q hq
  Jp:=fun r hr=>by obtain⟨q,hq,rfl⟩:=List.mem_map.1 hr;rw [(dU _ _ _ q).2];exact h.Jp q hq}
theorem LO.mark(g:List Key) (d:Bool):LO s {s with b:=dX s.b g d}:=⟨Nat.le_refl _,rfl⟩
theorem jc(r:Rec):∀(l:List Rec) (b:Bool) (x:Rec),x∈gL r l b→x=r∨x∈l:=by
 intro l
 induction l with
 | nil=>grind [gL]
 | cons y ys ih=>grind [gL]
theorem Hv(r:Rec):∀(l:List Rec) (b:Bool),(gL r l b).length+(l.filter fun x=>decide (cE x.key r.key=0)).length=l.length+(if b then 0 else 1):=by
 intro l
 induction l with
 | nil=>intro b;cases b <;> simp [gL]
 | cons y ys ih=>
  intro b;have h1:=ih (b || decide (0≤cE y.key r.key));simp only [gL,List.length_append,List.length_cons]
  grind
theorem Po{l:List Rec}{r:Rec}(h:(aD l r.key).isSome=true) (hc:cE r.key r.key=0):(gW l r).length≤l.length:=by
 have h1:=Hv r l false;obtain⟨x,hx⟩:=Option.isSome_iff_exists.1 h;have h2:=List.mem_of_find?_eq_some hx;have h3:=List.find?_some hx
 simp at h3
 have h4:0<(l.filter fun x=>decide (cE x.key r.key=0)).length:=List.length_pos_of_mem (List.mem_filter.2 ⟨h2,by rw [h3];simp [hc]⟩)
 unfold gW
 simp at h1
 omega
theorem DE:∀l:List UInt8,Lib.compareBytes l l=0
 | []=>by simp [Lib.compareBytes]
 | a::r=>by simp [Lib.compareBytes,DE r]
theorem jF(k:Key):cE k k=0:=by unfold cE;simp [DE]
theorem Good.put(h:Good ab aH s) {r:Rec}{bU:List Key}(hk:gS ab r.key) (hr:r.reads.length≤4000∧∀a∈r.reads,gS ab a) (h4:(!(aD s.b.ak r.key).isSome && decide (4000≤s.b.ak.length))=false) :
  Good ab aH {s with b:={s.b with ak:=gW s.b.ak r},bU:=bU}:=
 {h with
  len:=by grind [gW,len,Po,jF,wN]
  key:=fun x hx=>by rcases jc r _ _ x hx with rfl | hx;exact hk;exact h.key x hx
  Jp:=fun x hx=>by rcases jc r _ _ x hx with rfl | hx;exact hr;exact h.Jp x hx}
def jL(ab:List aJ) (k:Key) (n:Nat):Prop:=∃i,i<ab.length∧k=aQ ab (i:Int)∧n≤dW ab i
theorem gS.jZ(h:gS ab k) (hi:aB k=false):jL ab k 0:=by
 cases h with
 | cell h=>grind [dj]
 | gN h mn=>exact⟨_,h,rfl,Nat.zero_le _⟩
theorem jL.next(hR:ay ab) {ao:List ByteArray}(h:jL ab k ao.length) (hd:(aZ ab k ao).done=false):jL ab k (ao.length+1)∧gS ab (aZ ab k ao).ask:=by
 obtain⟨i,hi,rfl,hn⟩:=h
 have mn:i≤99:=by have:=hR.len;omega
 rw [im hi mn] at hd ⊢
 rcases Nat.lt_or_ge ao.length (dW ab i) with ed | rp
 ·
  obtain⟨a,h1,h2,_⟩:=fI hR hi ed;rw [h1];exact⟨⟨i,hi,rfl,ed⟩,h2.MT hR⟩
 grind [jv]
theorem jL.le(hR:ay ab) {n:Nat}(h:jL ab k n):n≤6:=by obtain⟨i,hi,_,hn⟩:=h;have:=lZ hR hi;omega
theorem jL.not(hR:ay ab) {n:Nat}(h:jL ab k n):gY k∧aB k=false:=by
 obtain⟨i,hi,rfl,hn⟩:=h;grind [ay.len,iJ,dI]
theorem jL.MT(hR:ay ab) {n:Nat}(h:jL ab k n):gS ab k:=by obtain⟨i,hi,rfl,_⟩:=h;have:=hR.len;exact .gN hi (by omega)
end
section
variable {ab:List aJ}{val:Key→ByteArray}{aH:List dE}
def UpG(ab:List aJ) (val:Key→ByteArray) (aH:List dE) (f:Nat):Prop:=∀s k s',oc ab val f s k=some s'→Good ab aH s→gS ab k→Good ab aH s'∧LO s s'
def ChG(ab:List aJ) (val:Key→ByteArray) (aH:List dE) (f:Nat):Prop:=∀s k n s' b,dL ab val f s k n=some (s',b)→Good ab aH s→Good ab aH s'∧LO s s'
def RuG(ab:List aJ) (val:Key→ByteArray) (aH:List dE) (f:Nat):Prop:=∀s k reads ao s',jr ab val f s k reads ao=some s'→Good ab aH s→jL ab k ao.length→reads.length=ao.length→(∀a∈reads,gS ab a)→Good ab aH s'∧LO s s'
theorem i6{ab:List aJ}{aH:List dE}{s:ES}(h:Good ab aH s) {group:List Key}{n:Nat}{c:tz}(hc:(cC s.b.ak group)[n]?=some c):gS ab c.read:=by
 have h1:=List.mem_of_getElem? hc;obtain⟨m,hm,h2⟩:=List.mem_flatMap.1 h1;obtain⟨a,ha,rfl⟩:=List.mem_map.1 h2;have h3:=(List.mem_filter.1 ha).1
 show gS ab a
 unfold aG at h3
 cases hf:aD s.b.ak m with
 | none=>rw [hf] at h3;simp [pd] at h3
 | some r=>rw [hf] at h3;exact(h.Jp r (List.mem_of_find?_eq_some hf)).2 a h3
theorem qa(l:List Rec) (rev:Int) (k:Key):(aF l rev k).length≤l.length+1:=by grind [aF,wW,ue]
theorem EZ{ab:List aJ}{aH:List dE}{s:ES}(h:Good ab aH s) {group:List Key}(hg:group.length≤4001):∀i,((group.take i).flatMap fun m=>eE group m (aG s.b.ak m).reads).length≤100000000:=by
 intro i
 have h1:∀l:List Key,(l.flatMap fun m=>eE group m (aG s.b.ak m).reads).length≤l.length*4000:=by
  intro l
  induction l with
  | nil=>simp
  | cons m r ih=>
   simp only [List.flatMap_cons,List.length_append,List.length_cons];have h2:=mJ group m (aG s.b.ak m).reads
   have h3:(aG s.b.ak m).reads.length≤4000:=by
    unfold aG
    cases hf:aD s.b.ak m with
    | none=>simp [pd]
    | some r=>exact(h.Jp r (List.mem_of_find?_eq_some hf)).1
   rw [Nat.add_mul]
   omega
 grind
theorem E0{ab:List aJ}{aH:List dE}{s:ES}(h:Good ab aH s) {group:List Key}(hg:group.length≤4001):(cC s.b.ak group).length≤100000000:=by
 have h1:=EZ h hg group.length;rw [List.take_of_length_le (Nat.le_refl _)] at h1;exact h1
theorem dr(hR:ay ab):∀f,UpG ab val aH f∧ChG ab val aH f∧RuG ab val aH f:=by
 intro f
 induction f with
 | zero=>exact⟨fun s k s' h=>by simp [oc] at h,fun s k n s' b h=>by simp [dL] at h,fun s k r a s' h=>by simp [jr] at h⟩
 | succ f ih=>
  obtain⟨Na,GI,Jq⟩:=ih;refine⟨?_,?_,?_⟩
  ·
   intro s k s' h hg hk
   unfold oc at h
   split at h
   ·
    cases h;exact⟨hg,.refl _⟩
   rename_i he
   split at h
   ·
    cases h;exact⟨hg,.refl _⟩
   split at h
   ·
    split at h <;> cases h
    ·
     exact⟨hg,.refl _⟩
    exact⟨hg.err _,⟨Nat.le_refl _,rfl⟩⟩
   obtain⟨p,hp,h⟩:=Option.bind_eq_some_iff.1 h;obtain⟨t,ht,h⟩:=Option.bind_eq_some_iff.1 h
   cases h
   obtain⟨h1,h2⟩:=GI _ _ _ p.1 p.2 (by rw [hp]) (hg.on k);have h2':LO s p.1:=⟨h2.bU,h2.rev⟩
   have h3:Good ab aH t∧LO s t:=by
    split at ht
    ·
     obtain⟨h4,h5⟩:=Jq _ _ _ _ _ ht h1 (hk.jZ (by simp at he;exact he.2)) rfl (fun a ha=>by cases ha);exact⟨h4,h2'.trans h5⟩
    cases ht;exact⟨h1,h2'⟩
   exact⟨h3.1.off k,⟨h3.2.bU,h3.2.rev⟩⟩
  ·
   intro s k n s' b h hg
   unfold dL at h
   split at h
   ·
    cases h;exact⟨hg,.refl _⟩
   split at h
   ·
    cases h;exact⟨hg,.refl _⟩
   split at h
   ·
    cases h;exact⟨hg,.refl _⟩
   split at h
   ·
    cases h;exact⟨hg.mark _ _,.mark _ _⟩
   rename_i c hc
   split at h
   ·
    obtain⟨t,ht,h⟩:=Option.bind_eq_some_iff.1 h;obtain⟨h1,h2⟩:=Na _ _ _ ht hg (i6 hg hc);obtain⟨h3,h4⟩:=GI _ _ _ _ _ h h1;exact⟨h3,h2.trans h4⟩
   split at h
   ·
    split at h <;> cases h
    ·
     exact⟨hg.mark _ _,.mark _ _⟩
    exact⟨hg,.refl _⟩
   exact GI _ _ _ _ _ h hg
  intro s k reads ao s' h hg ha hl hr
  unfold jr at h
  split at h
  ·
   cases h;exact⟨hg,.refl _⟩
  split at h
  ·
   split at h
   ·
    cases h;exact⟨hg.err _,⟨Nat.le_refl _,rfl⟩⟩
   rename_i h4
   cases h
   have h6:=ha.le hR;exact⟨hg.put (r:=et s.b k (aZ ab k ao).value reads) (ha.MT hR) ⟨by show reads.length≤4000;omega,hr⟩ (by show(!(aD s.b.ak k).isSome && _)=false;simpa using h4),⟨by simp,rfl⟩⟩
  rename_i hd
  obtain⟨t,ht,h⟩:=Option.bind_eq_some_iff.1 h;have hn:=ha.next hR (by simpa using hd);obtain⟨h1,h2⟩:=Na _ _ _ ht hg hn.2
  split at h
  ·
   obtain⟨h3,h4⟩:=Jq _ _ _ _ _ h h1 (by simpa using hn.1) (by simp [hl]) (fun a ha=>by grind);exact⟨h3,h2.trans h4⟩
  obtain⟨h3,h4⟩:=Jq _ _ _ _ _ h h1 ha hl hr;exact⟨h3,h2.trans h4⟩
end
end Go.Rc

