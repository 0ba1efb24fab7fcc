/- Base of the proof: frames, memory, ownership, and the plain meaning of rule systems. Conditions: as each lemma says. -/
import Derived.Test.YtpoiojafnnaccaaGreatDoorTBd
import Derived.Lib.IfaceEq
import Derived.Lib.BufferWrite
import Derived.Lib.UnsafeStr
import Derived.Laws.MakeOwn
import Derived.Test.YtpoiojafnnaccaaGreatDoorTBc
set_option linter.all false
namespace Go.Rc
open Go
theorem bm.Hv{w w':World}(h:RowKit.Below w.heap.size w w') (hd:w.drawn≤w'.drawn):bm [] w w':=⟨h.os,h.tape,h.output,h.size,hd,fun k hk _=>h.block k hk⟩
theorem vq(w:World) (p:Addr) (n:Nat):(w.freeze p n).drawn=w.drawn:=by grind [World.freeze]
section
variable {P:Program}{n:Nat}{kv:KV}{w w':World}{K:KV→World→Prop}{d:Tmp}{ty:TypeId}{pos:String}{af:Array Edge}{g:Option (Nat × Bool)}{T U:TypeId}{op:Op}{v:Value}{x y:Operand}
theorem OX.val(hs:bW op=false) (hd:Nat.blt d n=true) (hk:known kv op=true) (hr:(execOp (mw kv) ⟨some d,op,ty,pos,af,g⟩).run P w=.ok (.value v) w') (h:K ((d,v)::kv) w'):OX P ⟨some d,op,ty,pos,af,g⟩ n kv w K:=⟨hs,hd,hk,by rw [hr];exact h⟩
theorem PV.PA{de:TypeDesc}(hT:P.underlying T=some de) (hd:∀ms,de≠.interface ms) (hx:ev kv x=some v):PV P (.makeInterface T x) ty kv w (.iface T v):=
 ⟨rfl,by simp [known,opers,hx],fun _ _ _ _=>by
  simp only [execOp,aN hx,Instr.makeInterface,Sem.run_bind,run_underlying hT,Result.andThen_ok]
  simp_all⟩
theorem PV.Xq{ms:Array (String × TypeId)}{tx:TypeId}{q:IntKind}{a b:Int}(hT:P.underlying T=some (.interface ms)) (hc:(P.info? tx).map (·.comparable)=some true) (OG:P.underlying tx=some (.int q)) (hx:ev kv x=some (.iface tx (.int .i64 a))) (hy:ev kv y=some (.iface tx (.int .i64 b))):PV P (.binOp .eql T x y U) ty kv w (.bool (a == b)):=
 ⟨rfl,by simp [known,opers,hx,hy],fun _ _ _ _=>by
  have h:=Lib.run_eql_iface_int w (k:=.i64) a b hT hc OG;simp only [execOp,aN hx,aN hy]
  simp [eqGuard,h]⟩
theorem OX.acw{r:Value}(hd:Nat.blt d n=true) {u v:Value}(hx:ev kv x=some u) (hy:ev kv y=some v) (hr:(Instr.makeSlice T u v).run P w=.ok r w') (h:K ((d,r)::kv) w'):OX P ⟨some d,.makeSlice T x y,ty,pos,af,g⟩ n kv w K:=
 OX.val rfl hd (by simp [known,opers,hx,hy]) (by simp only [execOp,aN hx,aN hy,Sem.run_bind,hr,Result.andThen_ok];rfl) h
theorem OX.acx{r u v:Value}(hd:Nat.blt d n=true) (hx:ev kv x=some u) (hy:ev kv y=some v) (hr:(Builtin.copy_ #[T,U] ty #[u,v]).run P w=.ok r w') (h:K ((d,r)::kv) w'):OX P ⟨some d,.call {callee:=.builtin .copy,args:=#[x,y],argTypes:=#[T,U]},ty,pos,af,g⟩ n kv w K:=
 OX.val rfl hd (by simp [known,opers,hx,hy]) (by simp [execOp,aN hx,aN hy,resolve,invoke,builtin,hr]) h
theorem OX.aja{r u v:Value}(hd:Nat.blt d n=true) (hx:ev kv x=some u) (hy:ev kv y=some v) (hr:(Builtin.unsafeString_ #[T,U] ty #[u,v]).run P w=.ok r w') (h:K ((d,r)::kv) w'):OX P ⟨some d,.call {callee:=.builtin .unsafeString,args:=#[x,y],argTypes:=#[T,U]},ty,pos,af,g⟩ n kv w K:=
 OX.val rfl hd (by simp [known,opers,hx,hy]) (by simp [execOp,aN hx,aN hy,resolve,invoke,builtin,hr]) h
end
theorem Fb{P:Program}{T S e pt it ty1 ty2:TypeId}{i:TypeInfo}(hT:P.underlying T=some (.slice e)) (hi:P.info? e=some i) (hz:i.zero=some (.int .u8 0)) (h1:i.size=1) (hb:i.bytes=1) (hp:P.underlying pt=some (.pointer e)) {s:ByteArray}(h0:s.size≠0) (hs:s.size≤1000) (w:World) :
  ∃w1 w2 w3:World,(Instr.makeSlice T (.int .i64 (s.size:Int)) (.int .i64 (s.size:Int))).run P w=.ok (.slice (some ⟨w.heap.size,0,none⟩) s.size s.size) w1∧
   (Builtin.copy_ #[T,S] ty1 #[.slice (some ⟨w.heap.size,0,none⟩) s.size s.size,.string s]).run P w1=.ok (goInt s.size) w2∧
   (Builtin.unsafeString_ #[pt,it] ty2 #[.pointer (some ⟨w.heap.size,0,none⟩),.int .i64 (s.size:Int)]).run P w2=.ok (.string s) w3∧bm [] w w3:=by
 have acy:(P.info? e).map (·.size)=some 1:=by rw [hi];simp [h1]
 have hco:P.cellsOf e=1:=by simp [Program.cellsOf,hi,h1]
 have LZ:(Lib.byteCells s.data.toList).length=s.size:=by rw [Lib.byteCells_length,← Lib.size_eq]
 have U4:=run_make (P:=P) w T e i (.int .u8 0) hT hi hz .i64 .i64 (s.size:Int) (s.size:Int) (by omega) (by omega) (by rw [hb];omega) (by omega)
 have hMs:(madeCells (Value.int .u8 0).cells (((s.size:Nat):Int).toNat*i.size)).size=s.size:=by rw [size_madeCells,h1];simp
 generalize madeCells (Value.int .u8 0).cells (((s.size:Nat):Int).toNat*i.size)=M at U4 hMs
 rw [Int.toNat_natCast] at U4;have hcp:=Lib.run_copy_row_string (P:=P) (w.alloc (.cells M e)) T S ty1 e w.heap.size 0 s.size s.size s M e hT acy (heap_alloc_new w _) (Nat.le_refl _) (by omega)
 have hY:(M.toList.take 0++Lib.byteCells s.data.toList++M.toList.drop (0+s.size)).toArray=(Lib.byteCells s.data.toList).toArray:=by grind
 rw [hY] at hcp;have hg:((w.alloc (.cells M e)).setRow w.heap.size (Lib.byteCells s.data.toList).toArray).heap[w.heap.size]?=some (.cells (Lib.byteCells s.data.toList).toArray e (0,0)):=setRow_heap _ _ M _ e (0,0) (heap_alloc_new w _);have ku:s.data.toList≠[]:=fun h=>h0 (by rw [Lib.size_eq,h];rfl);have hus:=Lib.run_unsafeString_row (P:=P) ((w.alloc (.cells M e)).setRow w.heap.size (Lib.byteCells s.data.toList).toArray) pt it ty2 e hp hco w.heap.size s.size (by grind [World.shape?]) s.data.toList ku (by rw [← Lib.size_eq];omega) (by rw [← Lib.size_eq];omega)
  (fun j z hz=>Lib.cells_of_row hg s.size j _ (by grind [Lib.byteCells]))
 rw [← Lib.size_eq] at hus;have hB:RowKit.Below w.heap.size (w.alloc (.cells M e)) ((w.alloc (.cells M e)).setRow w.heap.size (Lib.byteCells s.data.toList).toArray):=⟨rfl,rfl,rfl,by simp [World.setRow],fun k hk=>setRow_other _ _ _ _ (by omega)⟩;refine⟨_,_,_,U4,hcp,hus,bm.Hv (Lib.below_freeze (((RowKit.Below.refl _ w).alloc (Nat.le_refl _) _).trans hB) (p:=⟨w.heap.size,0,none⟩) (Nat.le_refl _) _) ?_⟩;rw [vq];exact Nat.le_refl _
end Go.Rc

namespace Go.Rc
open Go
instance:Inhabited dE:=⟨⟨fW,⟨#[]⟩,0⟩⟩
def dT.row(x:dT) (a1:Option Addr) (n1 c1:Nat) (a2:Option Addr) (n2 c2:Nat):List Value:=[.int .i64 x.ae,.slice a1 n1 c1,.slice a2 n2 c2]
def ke(rev:Int) (l:List dE) (i:Nat):Bool:=
 !ig l[i]!.key || (!aB l[i]!.key || ((decide (0<(i:Int)) && decide (0≤cE l[i - 1]!.key l[i]!.key)) || (decide (1073741824<(l[i]!.value.size:Int)) || (decide (l[i]!.changed<0) || decide (rev<l[i]!.changed)))))
def Fc(rev:Int) (l:List dE):Prop:=∀i y,l[i]?=some y→ke rev l i=false
open Classical in
noncomputable def vt(l:List Rec):Bool:=decide (rR l)
theorem J8{l:List Rec}{b:Bool}(h:b=true↔rR l):b=vt l:=by
 unfold vt
 grind
def lE(x:dT):Prop:=Fc x.ae x.ah∧(∀(i:Nat) (r:Rec),x.ao[i]?=some r→r.az≤x.ae)∧0≤x.ae∧x.ae≤1073741824∧x.ah.length≤64∧rR x.ao
noncomputable def qe(x:dT):Bool:=decide (0≤x.ae) && (decide (x.ae≤1073741824) && (decide ((x.ah.length:Int)≤64) && vt x.ao))
theorem yj(x:dT):qe x=true↔0≤x.ae∧x.ae≤1073741824∧x.ah.length≤64∧rR x.ao:=by
 simp only [qe,vt,Bool.and_eq_true,decide_eq_true_eq]
 grind
theorem PV.xj{P:Program}{kv:KV}{w:World}{T ty:TypeId}{f off:Nat}{fs:List Field}{fd:Field}(hu:P.underlying T=some (.struct fs.toArray)) (hf:fs[f]?=some fd) (ho:fd.offset=off) (h1:∀w,(isAgg fd.type).run P w=.ok false w)
  {x:Operand}{us:List Value}{v:Value}(hx:ev kv x=some (.agg us.toArray)) (hv:nth us off=some v):PV P (.field T x f) ty kv w v:=
 PV.SI hu (by simpa using hf) ho h1 hx (by rw [← zT];exact hv)
end Go.Rc
namespace Go.Rc
open Go
def gY(k:Key):Prop:=k.kind<1∨22<k.kind
def bf(ab:List aJ) (k:Key) (ak:List ByteArray):Hn:=if k.kind=31∨k.kind=32 then dN ab k ak else ⟨true,⟨#[]⟩,fW⟩
def zH(n:Int):ByteArray:=if n=14 then ⟨#[48]⟩ else ⟨#[]⟩
def uk(k:Key):ByteArray:=if k.kind=32 then ⟨#[48]⟩ else if aC k then zH k.kind else ⟨#[]⟩
def jR(ab:List aJ) (k:Key):Bool:=ig k && ((decide (k.kind≠31) && decide (k.kind≠32)) || decide (aS ab (number k)=k))
def aG(l:List Rec) (k:Key):Rec:=(aD l k).getD qN
def cY(l:List Rec) (rev:Int) (k:Key):Bool:=(aD l k).isSome && (aC k && (decide ((aG l k).az<rev) && !(aG l k).ct))
def iC(x:dT) (k:Key):Bool:=aB k || ((aD x.ao k).isSome && decide ((aG x.ao k).az=x.ae))
def mK(x:dT) (k:Key):ByteArray:=if aB k then (dX x.ah k).value else if iC x k then (aG x.ao k).value else ⟨#[]⟩
def ek(x:dT) (k:Key) (v:ByteArray) (reads:List Key):Rec:=
 ⟨k,v,reads,if (aD x.ao k).isSome && decide ((aG x.ao k).value=v) then (aG x.ao k).changed else x.ae,x.ae,1+(reads.length:Int),false⟩
end Go.Rc
namespace Go.Rc
open Go
open Classical in
noncomputable def iD(ab:List aJ) (x:dT) (goals:List Key):Int:=
 if ¬ay ab then 41 else if ¬lE x then 42 else if 32<goals.length then 3 else if goals.all (jR ab) then 0 else 40
end Go.Rc
namespace Go.Rc
open Go
structure tI where
 ft:Key
 read:Key
 deriving DecidableEq
def tI.cells(x:tI):List Value:=[.int .i64 x.ft.kind,.string x.ft.text,.int .i64 x.read.kind,.string x.read.text]
def eB(group:List Key) (m:Key) (l:List Key):List tI:=(l.filter fun x=>!decide (x∈group)).map fun x=>⟨m,x⟩
def cC(l:List Rec) (group:List Key):List tI:=group.flatMap fun m=>eB group m (aG l m).reads
theorem lY{group:List Key}{m:Key}{l:List Key}{j:Nat}(h:j<l.length):eB group m (l.take (j+1))=if l[j]∈group then eB group m (l.take j) else eB group m (l.take j)++[⟨m,l[j]⟩]:=by
 rw [List.take_succ_eq_append_getElem h];simp only [eB,List.filter_append,List.map_append]
 grind
theorem mV(group:List Key) (m:Key) (l:List Key):(eB group m l).length≤l.length:=by grind [eB]
end Go.Rc
namespace Go.Rc
end Go.Rc

namespace Go.Rc
open Go
variable {E EK ER EI ES EF base:Nat}{w w':World}{a:Option Addr}{n c:Nat}{S:List Nat}
structure eH where
 key:Key
 running:Bool
 at_:Int
 reads:List Key
 ak:List ByteArray
 deriving DecidableEq
def eH.row(x:eH) (a1:Option Addr) (n1 c1:Nat) (a2:Option Addr) (n2 c2:Nat):List Value:=[.int .i64 x.key.kind,.string x.key.text,.bool x.running,.int .i64 x.at_,.slice a1 n1 c1,.slice a2 n2 c2]
/-! the plain meaning -/
def lq(l:List eH) (k:Key):Bool:=l.any fun f=>decide (f.key=k)
def gG(x:dT) (l:List eH) (k:Key):Bool:=!(aB k || lq l k) && (!(aD x.ao k).isSome || decide ((aG x.ao k).az≠x.ae))
def dG(x:dT) (l others:List eH) (k:Key):Int:=
 if !aC k && lq l k then 3 else if !gG x l k then 0 else if !lq others k then 1 else if aC k then 0 else 2
end Go.Rc
namespace Go.Rc
open Go
variable {EA ERu:Nat}{w w':World}{a:Option Addr}{n c base:Nat}{S:List Nat}
def aJ.row(x:aJ) (a:Option Addr) (n c:Nat):List Value:=[.bool x.ring,.slice a n c,.int .i64 x.final,.int .i64 x.c]
theorem aJ.one(x:aJ) (a:Option Addr) (n c:Nat):∀u∈x.row a n c,u.oneCell'=true:=by simp [aJ.row,Value.oneCell']
end Go.Rc

namespace Go.Rc
open Go
def RR.key:RR Key:=RR.flat Key.cells
def RR.str:RR ByteArray:=RR.flat fun s=>[.string s]
def RR.ask:RR Ask:=RR.flat Ask.cells
def RR.aH:RR dE:=RR.flat dE.cells
def RR.Ni:RR tI:=RR.flat tI.cells
def RR.int:RR Int:=RR.flat fun n=>[.int .i64 n]
def RR.gx:RR aJ where
 r Z w x row:=Hd Z w x row
 mono hZ h:=by obtain⟨a,n,c,h1,h2⟩:=h;exact⟨a,n,c,h1,h2.mono (fun b hb _=>hZ b hb) fun _ _ h=>h⟩
 st hs hc h:=by obtain⟨a,n,c,h1,h2⟩:=h;exact⟨a,n,c,h1,SR.st hs hc (fun _ _ h=>h) h2⟩
 cut h:=by obtain⟨a,n,c,h1,h2⟩:=h;exact⟨a,n,c,h1,h2.mono (fun b hb ee=>⟨hb,ee⟩) fun _ _ h=>h⟩
def RR.ff:RR Rec where
 r Z w x row:=∃a n c,row=x.row a n c∧Rd RR.key 2 Z w a n c x.reads∧x.reads.length≤4000
 mono hZ h:=by obtain⟨a,n,c,h1,h2,h3⟩:=h;exact⟨a,n,c,h1,h2.mono hZ,h3⟩
 st hs hc h:=by obtain⟨a,n,c,h1,h2,h3⟩:=h;exact⟨a,n,c,h1,h2.st hs hc,h3⟩
 cut h:=by grind [Rd.cut]
def RR.rh:RR eH where
 r Z w x row:=∃a1 n1 c1 a2 n2 c2,row=x.row a1 n1 c1 a2 n2 c2∧Rd RR.key 2 Z w a1 n1 c1 x.reads∧Rd RR.str 1 Z w a2 n2 c2 x.ak∧x.reads.length≤4000∧x.ak.length≤4000
 mono hZ h:=by obtain⟨a,n,c,a2,n2,c2,h1,h2,h3,h4⟩:=h;exact⟨a,n,c,a2,n2,c2,h1,h2.mono hZ,h3.mono hZ,h4⟩
 st hs hc h:=by obtain⟨a,n,c,a2,n2,c2,h1,h2,h3,h4⟩:=h;exact⟨a,n,c,a2,n2,c2,h1,h2.st hs hc,h3.st hs hc,h4⟩
 cut h:=by grind [Rd.cut]
end Go.Rc

namespace Go.Rc
open Go
/-! ### numbers and their texts -/
theorem Au:∀(u:Nat) (n:Nat) (rest:List UInt8),decFrom (Lib.decDigits u++rest) (n:Int)=decFrom rest ((n*10 ^ Lib.nDigits u+u:Nat):Int):=by
 intro u
 induction u using Nat.strongRecOn with
 | _ u ih=>
  intro n rest
  by_cases h:u<10
  ·
   rw [Lib.decDigits_one h,Lib.nDigits_small h]
   have e:(UInt8.ofNat (48+u)).toNat=48+u:=by rw [UInt8.toNat_ofNat'];omega
   simp only [List.cons_append,List.nil_append,decFrom,e]
   grind
  rw [Lib.decDigits,dif_neg h,Lib.nDigits_big h,List.append_assoc,ih (u / 10) (by omega)]
  have e:(UInt8.ofNat (48+u % 10)).toNat=48+u % 10:=by rw [UInt8.toNat_ofNat'];omega
  simp only [List.cons_append,List.nil_append,decFrom,e]
  grind
theorem Av:∀u:Nat,∃d r,Lib.decDigits u=d::r∧(0<u→d≠48):=by
 intro u
 induction u using Nat.strongRecOn with
 | _ u ih=>
  by_cases h:u<10
  ·
   refine⟨_,[],Lib.decDigits_one h,fun hu e=>?_⟩
   have:=congrArg UInt8.toNat e
   rw [UInt8.toNat_ofNat'] at this
   grind
  obtain⟨d,r,h1,h2⟩:=ih (u / 10) (by omega);exact⟨d,r++[UInt8.ofNat (48+u % 10)],by rw [Lib.decDigits,dif_neg h,h1];rfl,fun _=>h2 (by omega)⟩
theorem Aw:∀(k u:Nat),u<10 ^ (k+1)→Lib.nDigits u≤k+1
 | 0,u,h=>by grind [Lib.nDigits_small]
 | k+1,u,h=>by
  by_cases h1:u<10
  ·
   rw [Lib.nDigits_small h1];omega
  rw [Lib.nDigits_big h1]
  have:=Aw k (u / 10) (by rw [Nat.pow_succ] at h;omega)
  omega
theorem mW{n:Nat}(h:n<1000000000):fw (itoa (n:Int))=n:=by
 have e:Lib.itoa (n:Int)=Lib.decDigits n:=by unfold Lib.itoa;rw [if_neg (by omega)];rfl
 have hl:(Lib.decDigits n).length≤9:=by rw [Lib.decDigits_length];exact Aw 8 n h
 have hp:1≤(Lib.decDigits n).length:=by grind [Lib.decDigits_length,Lib.nDigits_pos]
 have hs:(itoa (n:Int)).size=(Lib.decDigits n).length:=by grind [itoa,ByteArray.size]
 have hd:(itoa (n:Int)).data.toList=Lib.decDigits n:=by unfold itoa;rw [e]
 unfold fw
 rw [if_neg]
 ·
  rw [hd,← List.append_nil (Lib.decDigits n)]
  have:=Au n 0 []
  simp only [Nat.zero_mul,Nat.zero_add] at this;exact this
 rw [hs,hd];rintro(h1 | h1 | ⟨h1,h2⟩)
 ·
  omega
 ·
  omega
 obtain⟨d,r,h3,h4⟩:=Av n;rw [h3] at h1
 simp at h1
 by_cases h0:0<n
 ·
  exact h4 h0 h1
 grind [Lib.decDigits_one]
theorem gR{n:Nat}(h:n≤65535):eh (itoa (n:Int))=n:=by
 unfold eh
 rw [mW (by omega),if_neg (by omega)]
 rfl
theorem Hw{m n:Nat}(hm:m<1000000000) (hn:n<1000000000) (h:itoa (m:Int)=itoa (n:Int)):m=n:=by grind [mW]
/-! ### keys -/
theorem dK{ab:List aJ}{i:Nat}(hi:i<ab.length) (lZ:i≤99):number (aS ab (i:Int))=i:=by
 have hk:aS ab (i:Int)=⟨if aI ab i then 32 else 31,itoa i⟩:=by unfold aS;rw [if_neg (by omega)];rfl
 rw [hk]
 unfold number
 simp only
 rw [mW (by omega),if_pos]
 split <;> omega
theorem fX{ab:List aJ}{i:Nat}(hi:i<ab.length) (lZ:i≤99):(aS ab (i:Int)).kind=if aI ab i then 32 else 31:=by
 unfold aS;rw [if_neg (by omega)];rfl
theorem dI{ab:List aJ}{i:Nat}(hi:i<ab.length) (lZ:i≤99):aB (aS ab (i:Int))=false:=by grind [aB,fX]
theorem dj{n:Nat}(h:n≤99):aB (dQ (n:Int))=true:=by
 unfold aB dQ;rw [if_neg (by omega)];simp
theorem cA{ab:List aJ}{i:Nat}(hi:i<ab.length) (lZ:i≤99):aC (aS ab (i:Int))=aI ab i:=by grind [aC,fX]
theorem nG{n:Nat}(h:n≤99):aC (dQ (n:Int))=false:=by
 unfold aC dQ;rw [if_neg (by omega)];simp
inductive gH (ab:List aJ):Key→Prop where
 | cell {n:Nat}(h:n≤99):gH ab (dQ (n:Int))
 | gx {i:Nat}(h:i<ab.length) (lZ:i≤99):gH ab (aS ab (i:Int))
/-! ### values -/
def cellOf(aH:List dE) (k:Key):ByteArray:=(dX aH k).value
def gy(turn:List ByteArray→Hn) (j7:Key→ByteArray):Nat→List Key × List ByteArray
 | 0=>([],[])
 | n+1=>((gy turn j7 n).1++[(turn (gy turn j7 n).2).ask],(gy turn j7 n).2++[j7 (turn (gy turn j7 n).2).ask])
def PC(aH:List dE) (prev:List ByteArray) (k:Key):ByteArray:=if aB k then cellOf aH k else prev.getD (number k).toNat ⟨#[]⟩
def dY(ab:List aJ) (i:Nat):Nat:=(ab[i]?.map (·.asks.length)).getD 0
def cJ(ab:List aJ) (x:Ask):Key:=if x.cell then dQ x.n else aS ab x.n
def iA(ab:List aJ) (i j:Nat):Prop:=∃r x,ab[i]?=some r∧r.ring=true∧x∈r.asks∧x.cell=false∧x.n=(j:Int)∧aI ab j=true
inductive eb (ab:List aJ) (i:Nat):Nat→Prop where
 | refl:eb ab i i
 | step {j k:Nat}:eb ab i j→iA ab j k→eb ab i k
def outside(ab:List aJ) (x:Ask):Bool:=x.cell || !aI ab x.n.toNat
def oA(ab:List aJ) (j7:Key→ByteArray) (j:Nat):Nat:=
 match ab[j]? with
 | some r=>gL r.c.toNat ((r.asks.filter (outside ab)).map fun x=>eh (j7 (cJ ab x)))
 | none=>0
open Classical in
noncomputable def ofBits(P:Nat→Prop):Nat→Nat
 | 0=>0
 | n+1=>ofBits P n ||| (if P n then 2 ^ n else 0)
theorem Nj(P:Nat→Prop):∀n,ofBits P n<2 ^ n:=by
 intro n
 induction n with
 | zero=>simp [ofBits]
 | succ n ih=>
  unfold ofBits
  refine Nat.or_lt_two_pow (Nat.lt_of_lt_of_le ih (Nat.pow_le_pow_right (by omega) (by omega))) ?_
  grind
theorem J9(P:Nat→Prop):∀n b,(ofBits P n).testBit b=true↔b<n∧P b:=by
 intro n
 induction n with
 | zero=>intro b;simp [ofBits]
 | succ n ih=>
  intro b
  unfold ofBits
  grind
noncomputable def Ax(ab:List aJ) (j7:Key→ByteArray) (i:Nat):Nat:=ofBits (fun b=>∃j,eb ab i j∧(oA ab j7 j).testBit b=true) 16
noncomputable def vu(ab:List aJ) (aH:List dE) (prev:List ByteArray) (i:Nat):ByteArray:=
 if aI ab i then itoa (Ax ab (PC aH prev) i:Int)
 else (dN ab (aS ab (i:Int)) (gy (dN ab (aS ab (i:Int))) (PC aH prev) (dY ab i)).2).value
noncomputable def cm(ab:List aJ) (aH:List dE):Nat→List ByteArray
 | 0=>[]
 | n+1=>cm ab aH n++[vu ab aH (cm ab aH n) n]
noncomputable def y8(ab:List aJ) (aH:List dE) (i:Nat):ByteArray:=vu ab aH (cm ab aH i) i
noncomputable def valOf(ab:List aJ) (aH:List dE) (k:Key):ByteArray:=if aB k then cellOf aH k else y8 ab aH (number k).toNat
section
variable {ab:List aJ}{aH:List dE}
theorem PD:∀n,(cm ab aH n).length=n:=by
 intro n;induction n with
 | zero=>rfl
 | succ n ih=>simp [cm,ih]
theorem PE:∀n m,m<n→(cm ab aH n).getD m ⟨#[]⟩=y8 ab aH m:=by
 intro n
 induction n with
 | zero=>intro m h;omega
 | succ n ih=>grind [cm,PD,y8]
theorem DU{n:Nat}{k:Key}(h:aB k=true∨(number k).toNat<n):PC aH (cm ab aH n) k=valOf ab aH k:=by
 unfold PC valOf
 by_cases hi:aB k=true
 ·
  rw [if_pos hi,if_pos hi]
 rw [if_neg hi,if_neg hi,PE]
 grind
theorem iZ(turn:List ByteArray→Hn) (j7:Key→ByteArray):∀n,(gy turn j7 n).1.length=n∧(gy turn j7 n).2.length=n:=by
 intro n;induction n with
 | zero=>simp [gy]
 | succ n ih=>simp [gy,ih.1,ih.2]
theorem Ay{turn:List ByteArray→Hn}{j7 acz:Key→ByteArray}:∀n,(∀m,m<n→j7 (turn (gy turn j7 m).2).ask=acz (turn (gy turn j7 m).2).ask)→gy turn j7 n=gy turn acz n:=by
 intro n
 induction n with
 | zero=>intro _;rfl
 | succ n ih=>grind [gy]
end
/-! ### what valid rules ask for -/
section
variable {ab:List aJ}{aH:List dE}
theorem iN(l:List aJ):∀k,cz l k≤k:=by
 intro k;induction k with
 | zero=>simp [cz]
 | succ k ih=>unfold cz;split <;> omega
theorem DV(l:List aJ) {m:Nat}(h:m≤l.length):fq l m≤l.length:=by grind [fq,List.takeWhile_sublist]
theorem Hx{i:Nat}(hi:i<ab.length):block ab (i:Int)=if aI ab i then ((cz ab i:Int),(fq ab (i+1):Int)) else ((i:Int),(i:Int)+1):=by
 unfold block;rw [if_neg (by omega)];rfl
theorem um{i j:Nat}(hi:aI ab i=true) (h1:cz ab i≤j) (h2:j<fq ab (i+1)):aI ab j=true:=by
 have JF:∀k,cz ab k≤j→j<k→aI ab j=true:=by
  intro k
  induction k with
  | zero=>intro _ h;omega
  | succ k ih=>
   intro h3 h4
   unfold cz at h3
   grind
 rcases Nat.lt_trichotomy j i with h | h | h
 ·
  exact JF i h1 h
 ·
  rw [h];exact hi
 have key:∀(l:List aJ) (m j:Nat),m≤j→j<m+((l.drop m).takeWhile (·.ring)).length→aI l j=true:=by
  intro l m j hm hj
  have ee:j - m<((l.drop m).takeWhile (·.ring)).length:=by omega
  have ly:=List.getElem_mem ee;have hr:=List.all_eq_true.1 (List.all_takeWhile (p:=fun x:aJ=>x.ring) (l:=l.drop m)) _ ly;have jq:((l.drop m).takeWhile (·.ring)) <+: l.drop m:=List.takeWhile_prefix _;have pU:=jq.getElem ee
  grind [da]
 exact key ab (i+1) j (by omega) h2
theorem pz{i:Nat}(hi:i<ab.length) (hlen:ab.length≤24) {c:Bool}{n:Int}(h:iX ab i c n=true) :
  ∃m:Nat,n=m∧if c then m≤15 else m<ab.length∧(aI ab m=true∧aI ab i=true∨m<i)∧(aI ab i=false→m<i)∧(aI ab m=false→m<i):=by
 unfold iX at h
 cases c
 ·
  simp only [Bool.false_eq_true,if_false,Bool.and_eq_true,decide_eq_true_eq] at h ⊢;obtain⟨m,rfl⟩:∃m:Nat,n=m:=⟨n.toNat,by omega⟩;refine⟨m,rfl,?_⟩;have h2:=h.2
  unfold ik at h2
  rw [Hx hi] at h2
  by_cases hr:aI ab i=true
  ·
   rw [if_pos hr] at h2;simp only [hr,if_true] at h2
   have jV:m<fq ab (i+1):=by omega
   have Xr:=DV ab (show i+1≤ab.length by omega);refine⟨by omega,?_,(fun h=>by rw [hr] at h;cases h),?_⟩
   ·
    by_cases R6:m<i
    ·
     exact .inr R6
    grind [um,iN]
   grind [um,iN]
  grind
 simp only [if_true,Bool.and_eq_true,decide_eq_true_eq] at h ⊢;exact⟨n.toNat,by omega,by omega⟩
end
end Go.Rc

namespace Go.Rc
open Go
section
variable {ab:List aJ}{aH:List dE}
theorem ay.len(h:ay ab):ab.length≤24:=h.1
theorem ay.at(h:ay ab) {i:Nat}(hi:i<ab.length):qa ab i ab[i]:=h.2 i _ (aq hi)
theorem fY{i:Nat}(hi:i<ab.length):dY ab i=ab[i].asks.length:=by grind [dY]
theorem Ka{m lo:Nat}(h1:lo≤m) (h:∀j,lo≤j→j<m→aI ab j=true):cz ab m≤lo:=by
 induction m with
 | zero=>simp [cz]
 | succ m ih=>
  by_cases e:lo=m+1
  ·
   rw [e];exact iN _ _
  unfold cz
  grind
theorem vw(_hR:ay ab) {i:Nat}(hi:i<ab.length) (hr:aI ab i=true) {m:Nat}(h:iX ab i false (m:Int)=true) :
  m<ab.length∧(aI ab m=true→cz ab m≤cz ab i)∧(aI ab m=false→m<cz ab i):=by
 unfold iX at h
 simp only [Bool.false_eq_true,if_false,Bool.and_eq_true,decide_eq_true_eq] at h;have h2:=h.2
 unfold ik at h2
 rw [Hx hi,if_pos hr] at h2;simp only [hr,if_true] at h2
 grind [DV,Ka,um]
def gB(ab:List aJ) (i:Nat) (k:Key):Prop:=
 (∃n:Nat,n≤15∧k=dQ (n:Int))∨
 (∃m:Nat,m<ab.length∧k=aS ab (m:Int)∧(aI ab m=true∧aI ab i=true∨m<i)∧(aI ab i=false→m<i)∧(aI ab m=false→m<i)∧(aI ab m=false→aI ab i=true→m<cz ab i))
theorem L0(hR:ay ab) {i:Nat}(hi:i<ab.length) {c:Bool}{n:Int}(h:iX ab i c n=true):gB ab i (if c then dQ n else aS ab n):=by
 obtain⟨m,rfl,h2⟩:=pz hi hR.len h
 cases c
 ·
  exact .inr ⟨m,h2.1,rfl,h2.2.1,h2.2.2.1,h2.2.2.2,fun h3 h4=>(vw hR hi h4 h).2.2 h3⟩
 exact .inl ⟨m,h2,rfl⟩
theorem gB.Nk(hR:ay ab) {i:Nat}{k:Key}(h:gB ab i k):gH ab k:=by
 have:=hR.len
 rcases h with⟨n,h1,rfl⟩ | ⟨m,h1,rfl,_⟩
 ·
  exact .cell (by omega)
 exact .gx h1 (by omega)
theorem Xs(hR:ay ab) {i n:Nat}(hi:i<ab.length) (hn:n<ab[i].asks.length) (ak:List ByteArray) (hl:ak.length=n) :
  gB ab i (if ab[i].asks[n].cell then dQ (ui ab[i].asks[n] ak) else aS ab (ui ab[i].asks[n] ak)):=by
 obtain⟨_,h2,_⟩:=hR.at hi;have h3:=h2 n _ (aq hn)
 unfold gV at h3
 rw [Bool.and_eq_true] at h3
 unfold ui
 by_cases hp:gU ab[i].asks[n] ak=true
 ·
  rw [if_pos hp]
  have hpk:ab[i].asks[n].pick=true:=by grind [gU]
  rw [hpk] at h3;simp only [if_true,Bool.and_eq_true] at h3;exact L0 hR hi h3.2.2
 rw [if_neg hp];exact L0 hR hi h3.1
theorem fJ(hR:ay ab) {i:Nat}(hi:i<ab.length) {ak:List ByteArray}(hn:ak.length<dY ab i) :
  ∃a,dN ab (aS ab (i:Int)) ak=⟨false,⟨#[]⟩,a⟩∧gB ab i a∧(aI ab i=true→∃x,ab[i].asks[ak.length]?=some x∧a=cJ ab x):=by
 have qf:=hR.len;rw [fY hi] at hn;have hk:=dK hi (by omega:i≤99);refine⟨_,wZ hk hi (by rw [hk]) hn,Xs hR hi hn ak rfl,fun hr=>⟨_,aq hn,?_⟩⟩;obtain⟨_,h2,_⟩:=hR.at hi;have h3:=h2 _ _ (aq hn)
 unfold gV at h3
 rw [Bool.and_eq_true] at h3
 grind [da,cJ,ui,gU]
theorem jy(hR:ay ab) {i:Nat}(hi:i<ab.length) {ak:List ByteArray}(hn:ak.length=dY ab i) :
  dN ab (aS ab (i:Int)) ak=⟨true,itoa (gj ab[i].final ab[i].c.toNat (ak.map eh)),fW⟩:=by grind [ay.len,fY,dK,sT]
theorem l7(hR:ay ab) {i:Nat}(hi:i<ab.length):dY ab i≤6:=by rw [fY hi];exact(hR.at hi).1
theorem Fe(hR:ay ab) {i:Nat}{k:Key}(h:gB ab i k) (hr:aI ab i=false∨aC k=false):aB k=true∨(number k).toNat<i:=by
 have qf:=hR.len
 rcases h with⟨n,h1,rfl⟩ | ⟨m,h1,rfl,h2,h3,h4,_⟩
 ·
  grind [dj]
 grind [dK,cA]
theorem Nl(hR:ay ab) {i:Nat}(hi:i<ab.length) (hr:aI ab i=false) :
  dN ab (aS ab (i:Int)) (gy (dN ab (aS ab (i:Int))) (valOf ab aH) (dY ab i)).2=⟨true,y8 ab aH i,fW⟩:=by
 have h:y8 ab aH i=(dN ab (aS ab (i:Int)) (gy (dN ab (aS ab (i:Int))) (valOf ab aH) (dY ab i)).2).value:=by
  unfold y8 vu
  rw [if_neg (by simp [hr])]
  grind [Ay,fJ,iZ,DU,Fe]
 grind [jy,iZ]
/-! rings -/
theorem nq(hR:ay ab) {i:Nat}(hi:i<ab.length) (_hr:aI ab i=true) {x:Ask}(hx:x∈ab[i].asks):iX ab i x.cell x.n=true:=by
 obtain⟨k,hk,rfl⟩:=List.mem_iff_getElem.1 hx
 have:=(hR.at hi).2.1 k _ (aq hk)
 unfold gV at this
 grind
theorem iA.lt{i j:Nat}(h:iA ab i j):i<ab.length∧j<ab.length∧aI ab i=true∧aI ab j=true:=by
 obtain⟨r,x,h1,h2,_,_,_,h6⟩:=h
 grind [pX,da]
theorem lK{i j:Nat}(hi:i<ab.length) (hr:aI ab i=true) (h:eb ab i j):j<ab.length∧aI ab j=true:=by
 induction h with
 | refl=>exact⟨hi,hr⟩
 | step _ h2 _=>exact⟨h2.lt.2.1,h2.lt.2.2.2⟩
theorem nH(hR:ay ab) {i j:Nat}(h:eb ab i j):cz ab j≤cz ab i:=by
 induction h with
 | refl=>exact Nat.le_refl _
 | step h1 h2 ih=>
  have hl:=h2.lt;obtain⟨r,x,h3,h4,h5,h6,h7,h8⟩:=h2
  grind [nq,vw]
theorem eb.head{i j k:Nat}(h:iA ab i j) (h2:eb ab j k):eb ab i k:=by
 induction h2 with
 | refl=>exact .step .refl h
 | step _ h4 ih=>exact .step ih h4
theorem eb.cases{i k:Nat}(h:eb ab i k):k=i∨∃j,iA ab i j∧eb ab j k:=by
 induction h with
 | refl=>exact .inl rfl
 | step h1 h2 ih=>
  right
  rcases ih with rfl | ⟨j,h3,h4⟩
  ·
   exact⟨_,h2,.refl⟩
  exact⟨j,h3,.step h4 h2⟩
theorem pA:∀(l:List Nat) (c b:Nat),(gL c l).testBit b=true↔c.testBit b=true∨∃x∈l,x.testBit b=true:=by
 intro l
 induction l with
 | nil=>intro c b;simp [gL]
 | cons x r ih=>
  intro c b
  have:=ih (c ||| x) b
  simp only [gL,List.foldl_cons] at this ⊢
  grind
theorem Az(hR:ay ab) {i:Nat}(hi:i<ab.length) (hr:aI ab i=true):ab[i].final=5∧ab[i].c.toNat≤65535:=by
 have h:=(hR.at hi).2.2
 grind [jX,da]
theorem DX{n b:Nat}(h:n≤65535) (hb:n.testBit b=true):b<16:=by
 rcases Nat.lt_or_ge b 16 with h1 | h1
 ·
  exact h1
 have:=Nat.ge_two_pow_of_testBit hb
 have h2:2 ^ 16≤2 ^ b:=Nat.pow_le_pow_right (by omega) h1
 omega
theorem gS{j7:Key→ByteArray}{i:Nat}(hi:i<ab.length) (b:Nat) :
  (oA ab j7 i).testBit b=true↔ab[i].c.toNat.testBit b=true∨∃x∈ab[i].asks,outside ab x=true∧(eh (j7 (cJ ab x))).testBit b=true:=by
 unfold oA
 rw [aq hi];simp only [pA,List.mem_map,List.mem_filter]
 grind
theorem PF(hR:ay ab) {j7:Key→ByteArray}{i:Nat}(hi:i<ab.length) (hr:aI ab i=true) {b:Nat}(h:(oA ab j7 i).testBit b=true):b<16:=by
 rcases(gS hi b).1 h with h1 | ⟨x,_,_,h1⟩
 ·
  exact DX (Az hR hi hr).2 h1
 exact DX (oz _) h1
theorem fQ(hR:ay ab) {j7:Key→ByteArray}{i:Nat}(hi:i<ab.length) (hr:aI ab i=true) (b:Nat) :
  (Ax ab j7 i).testBit b=true↔∃j,eb ab i j∧(oA ab j7 j).testBit b=true:=by
 unfold Ax
 rw [J9]
 constructor
 ·
  exact fun h=>h.2
 rintro⟨j,h1,h2⟩;have hj:=lK hi hr h1;exact⟨PF hR hj.1 hj.2 h2,j,h1,h2⟩
theorem Hy{j7:Key→ByteArray}(i:Nat):Ax ab j7 i≤65535:=by
 have:=Nj (fun b=>∃j,eb ab i j∧(oA ab j7 j).testBit b=true) 16
 unfold Ax;omega
noncomputable def rv(ab:List aJ) (aH:List dE) (i:Nat):Nat:=Ax ab (valOf ab aH) i
theorem Ff(hR:ay ab) {i:Nat}(hi:i<ab.length) (hr:aI ab i=true) {x:Ask}(hx:x∈ab[i].asks) (ho:outside ab x=true):aB (cJ ab x)=true∨(number (cJ ab x)).toNat<cz ab i:=by
 have qf:=hR.len;have hm:=nq hR hi hr hx;obtain⟨m,h1,h2⟩:=pz hi hR.len hm
 unfold cJ
 unfold outside at ho
 cases hc:x.cell
 ·
  rw [hc] at hm ho h2
  right
  simp only [Bool.false_eq_true,if_false] at h2 ⊢
  grind [dK,vw]
 left
 rw [hc] at h2;simp only [if_true] at h2 ⊢
 grind [dj]
theorem ky(hR:ay ab) {i:Nat}(hi:i<ab.length) (hr:aI ab i=true):y8 ab aH i=itoa (rv ab aH i:Int):=by
 unfold y8 vu rv
 rw [if_pos hr]
 congr 2
 refine Nat.eq_of_testBit_eq fun b=>?_;rw [Bool.eq_iff_iff,fQ hR hi hr,fQ hR hi hr]
 have key:∀j,eb ab i j→((oA ab (PC aH (cm ab aH i)) j).testBit b=true↔(oA ab (valOf ab aH) j).testBit b=true):=by
  intro j h;have hj:=lK hi hr h;have JF:=nH hR h;have hle:=iN ab i;rw [gS hj.1,gS hj.1];refine or_congr_right (exists_congr fun x=>and_congr_right fun hx=>and_congr_right fun ho=>?_);rw [DU]
  grind [Ff]
 grind
theorem jG(hR:ay ab) {i:Nat}(hi:i<ab.length):valOf ab aH (aS ab (i:Int))=y8 ab aH i:=by
 have qf:=hR.len
 unfold valOf
 rw [if_neg (by grind [dI]),dK hi (by omega)]
 rfl
def sV(ab:List aJ) (j7:Key→ByteArray) (i:Nat):List Nat:=((ab[i]?.map (·.asks)).getD []).map fun x=>eh (j7 (cJ ab x))
theorem Nn(hR:ay ab) {i:Nat}(hi:i<ab.length) (hr:aI ab i=true) (j7:Key→ByteArray):∀n,n≤ab[i].asks.length→
  gy (dN ab (aS ab (i:Int))) j7 n=((ab[i].asks.take n).map (cJ ab),(ab[i].asks.take n).map fun x=>j7 (cJ ab x)):=by
 intro n
 induction n with
 | zero=>intro _;simp [gy]
 | succ n ih=>
  intro hn;have e:=ih (by omega);simp only [gy]
  have hlen:((ab[i].asks.take n).map fun x=>j7 (cJ ab x)).length=n:=by simp;omega
  obtain⟨a,h1,_,h3⟩:=fJ hR hi (ak:=(ab[i].asks.take n).map fun x=>j7 (cJ ab x)) (by rw [hlen,fY hi];omega)
  grind [List.take_succ_eq_append_getElem]
theorem Np(hR:ay ab) {i:Nat}(hi:i<ab.length) (hr:aI ab i=true) (j7:Key→ByteArray) :
  dN ab (aS ab (i:Int)) (gy (dN ab (aS ab (i:Int))) j7 (dY ab i)).2=⟨true,itoa (gL ab[i].c.toNat (sV ab j7 i):Int),fW⟩:=by
 rw [jy hR hi ((iZ _ _ _).2),Nn hR hi hr j7 _ (by rw [fY hi];exact Nat.le_refl _),(Az hR hi hr).1,fY hi]
 unfold sV
 rw [aq hi];simp only [List.take_length,List.map_map,Option.map_some,Option.getD_some]
 rfl
theorem yk{j7:Key→ByteArray}{i:Nat}(hi:i<ab.length) (b:Nat) :
  (gL ab[i].c.toNat (sV ab j7 i)).testBit b=true↔(oA ab j7 i).testBit b=true∨∃x∈ab[i].asks,outside ab x=false∧(eh (j7 (cJ ab x))).testBit b=true:=by
 rw [pA,gS hi]
 unfold sV
 grind
theorem kf(hR:ay ab) {i:Nat}(hi:i<ab.length) (hr:aI ab i=true) {x:Ask}(hx:x∈ab[i].asks) (ho:outside ab x=false):∃j:Nat,iA ab i j∧cJ ab x=aS ab (j:Int)∧j<ab.length:=by
 have hm:=nq hR hi hr hx
 unfold outside at ho
 rw [Bool.or_eq_false_iff] at ho;obtain⟨m,h1,h2⟩:=pz hi hR.len hm;rw [ho.1] at h2;simp only [Bool.false_eq_true,if_false] at h2
 have hmr:aI ab m=true:=by grind
 refine⟨m,⟨_,x,aq hi,by rw [← da hi];exact hr,hx,ho.1,h1,hmr⟩,?_,h2.1⟩
 grind [cJ]
theorem uo{i j:Nat}(hi:i<ab.length) (h:iA ab i j):∃x∈ab[i].asks,outside ab x=false∧cJ ab x=aS ab (j:Int):=by
 obtain⟨r,x,h1,_,h3,h4,h5,h6⟩:=h
 grind [outside,cJ]
theorem Xt(hR:ay ab) {i:Nat}(hi:i<ab.length) (hr:aI ab i=true):gL ab[i].c.toNat (sV ab (valOf ab aH) i)=rv ab aH i:=by
 refine Nat.eq_of_testBit_eq fun b=>?_;rw [Bool.eq_iff_iff,yk hi]
 unfold rv
 rw [fQ hR hi hr]
 have iH:∀j,j<ab.length→aI ab j=true→eh (valOf ab aH (aS ab (j:Int)))=Ax ab (valOf ab aH) j:=fun j hj JQ=>by
  rw [jG hR hj,ky hR hj JQ];exact gR (Hy j)
 constructor
 ·
  rintro(h | ⟨x,h1,h2,h3⟩)
  ·
   exact⟨i,.refl,h⟩
  obtain⟨j,h4,h5,h6⟩:=kf hR hi hr h1 h2;rw [h5,iH j h6 h4.lt.2.2.2,fQ hR h6 h4.lt.2.2.2] at h3;obtain⟨k,h7,h8⟩:=h3;exact⟨k,.head h4 h7,h8⟩
 rintro⟨k,h1,h2⟩
 rcases h1.cases with rfl | ⟨j,h3,h4⟩
 ·
  exact .inl h2
 right
 obtain⟨x,h5,h6,h7⟩:=uo hi h3;refine⟨x,h5,h6,?_⟩;rw [h7,iH j h3.lt.2.1 h3.lt.2.2.2,fQ hR h3.lt.2.1 h3.lt.2.2.2];exact⟨k,h4,h2⟩
theorem PG(hR:ay ab) {i:Nat}(hi:i<ab.length) (hr:aI ab i=true) (v:Nat→Nat)
  (h1:∀j b,eb ab i j→(oA ab (valOf ab aH) j).testBit b=true→(v j).testBit b=true)
  (h2:∀j k b,eb ab i j→iA ab j k→(v k).testBit b=true→(v j).testBit b=true) (b:Nat) (hb:(rv ab aH i).testBit b=true):(v i).testBit b=true:=by
 unfold rv at hb
 rw [fQ hR hi hr] at hb;obtain⟨j,h3,h4⟩:=hb;have h5:=h1 j b h3 h4
 clear h4
 induction h3 with
 | refl=>exact h5
 | step h6 h7 ih=>exact ih (h2 _ _ b h6 h7 h5)
theorem jz(hR:ay ab) {i:Nat}(hi:i<ab.length) :
  dN ab (aS ab (i:Int)) (gy (dN ab (aS ab (i:Int))) (valOf ab aH) (dY ab i)).2=⟨true,valOf ab aH (aS ab (i:Int)),fW⟩:=by grind [jG,Nl,Np,Xt,ky]
end
end Go.Rc

namespace Go.Rc
open Go
structure FZ where
 p:(Nat→Prop)→World→Prop
 mono:∀{Z Z':Nat→Prop}{w},(∀x,Z x→Z' x)→p Z w→p Z' w
 st:∀{Z:Nat→Prop}{w w':World},w.heap.size≤w'.heap.size→(∀x,Z x→x<w.heap.size→w'.heap[x]?=w.heap[x]?)→p Z w→p Z w'
def FZ.rd{α:Type}(R:RR α) (k:Nat) (a:Option Addr) (n c:Nat) (xs:List α):FZ:=⟨fun Z w=>Rd R k Z w a n c xs,fun h=>Rd.mono h,fun h1 h2=>Rd.st h1 h2⟩
def FZ.and(F G:FZ):FZ:=⟨fun Z w=>F.p Z w∧G.p Z w,fun h ⟨a,b⟩=>⟨F.mono h a,G.mono h b⟩,fun h1 h2 ⟨a,b⟩=>⟨F.st h1 h2 a,G.st h1 h2 b⟩⟩
def FZ.JG(P:Program):FZ where
 p Z w:=oj P Z w
 mono h:=fun h1=>h1.of h (Nat.le_refl _) fun _ _ _=>rfl
 st h1 h2:=fun h=>h.of (fun _ h=>h) h1 h2
def As.fz(F:FZ):As where
 fp _:=False
 ok Z w:=F.p Z w
 lt _ _ hx:=hx.elim
 mono h:=F.mono h
 st h1 h2:=F.st h1 fun x hx=>h2 x (.inr hx)
theorem As.gf{F:FZ}{Z:Nat→Prop}{w:World}(h:(As.fz F).ok Z w):F.p Z w:=h
structure SD where
 (ar a1 a2:Option Addr) (r cr n1 c1 n2 c2 m q s:Nat)
def SD.F(D:SD) (P:Program) (ab:List aJ) (x:dT):FZ:=
 .and (.rd RR.gx 4 D.ar D.r D.cr ab) (.and (.rd RR.aH 4 D.a1 D.n1 D.c1 x.ah) (.and (.rd RR.ff 8 D.a2 D.n2 D.c2 x.ao) (.JG P)))
def SD.cells(D:SD) (x:dT):List Value:=
 [.slice D.ar D.r D.cr,.int .i64 x.ae,.slice D.a1 D.n1 D.c1,.slice D.a2 D.n2 D.c2,.map (some D.m),.map (some D.q)]
section
variable {D:SD}{P:Program}{ab:List aJ}{x:dT}{Z:Nat→Prop}{w:World}
theorem SD.hu(h:(D.F P ab x).p Z w):Rd RR.gx 4 Z w D.ar D.r D.cr ab:=h.1
theorem SD.hi(h:(D.F P ab x).p Z w):Rd RR.aH 4 Z w D.a1 D.n1 D.c1 x.ah:=h.2.1
theorem SD.hr(h:(D.F P ab x).p Z w):Rd RR.ff 8 Z w D.a2 D.n2 D.c2 x.ao:=h.2.2.1
theorem SD.ht(h:(D.F P ab x).p Z w):oj P Z w:=h.2.2.2
end
def bd(ab:List aJ) (aH:List dE) (ml:List (Key × Value)):Prop:=∀k v,cq ml k=some v→v=.string (valOf ab aH k)
section
variable {ab:List aJ}{aH:List dE}
theorem bd.nil:bd ab aH []:=fun k v h=>by simp [cq] at h
theorem bd.put{ml:List (Key × Value)}(h:bd ab aH ml) (k:Key):bd ab aH (dH ml k (.string (valOf ab aH k))):=fun k' v hv=>by
 rw [eR] at hv
 split at hv
 ·
  grind
 exact h k' v hv
def gC(m n:Nat):Prop:=∀b,m.testBit b=true→n.testBit b=true
theorem gC.le{m n:Nat}(h:gC m n):m≤n:=by
 have e:m ||| n=n:=Nat.eq_of_testBit_eq fun b=>by
  rw [Nat.testBit_or]
  cases hm:m.testBit b
  ·
   simp
  simp [h b hm]
 rw [← e];exact Nat.left_le_or
noncomputable def SS(ab:List aJ) (aH:List dE) (v:Nat→Nat) (k:Key):ByteArray:=if aC k then itoa (v (number k).toNat:Int) else valOf ab aH k
noncomputable def FF(ab:List aJ) (aH:List dE) (v:Nat→Nat) (j:Nat):Nat:=gL ((ab[j]?.map (·.c.toNat)).getD 0) (sV ab (SS ab aH v) j)
theorem lL(hR:ay ab) {i:Nat}(hi:i<ab.length) (hr:aI ab i=true) {x:Ask}(hx:x∈ab[i].asks) (ho:outside ab x=true):aC (cJ ab x)=false:=by
 have qf:=hR.len;have hm:=nq hR hi hr hx;obtain⟨m,h1,h2⟩:=pz hi hR.len hm
 unfold outside at ho
 unfold cJ
 cases hc:x.cell
 ·
  rw [hc] at h2 ho;simp only [Bool.false_eq_true,if_false] at h2 ⊢
  grind [cA]
 rw [hc] at h2;simp only [if_true] at h2 ⊢
 grind [nG]
theorem AA(hR:ay ab) {v:Nat→Nat}(hv:∀j,v j≤65535) {i:Nat}(hi:i<ab.length) (hr:aI ab i=true) (b:Nat) :
  (FF ab aH v i).testBit b=true↔(oA ab (valOf ab aH) i).testBit b=true∨∃j,iA ab i j∧(v j).testBit b=true:=by
 have qf:=hR.len
 unfold FF
 rw [aq hi];simp only [Option.map_some,Option.getD_some];rw [yk hi];refine or_congr ?_ ?_
 ·
  rw [gS hi,gS hi];refine or_congr_right (exists_congr fun x=>and_congr_right fun hx=>and_congr_right fun ho=>?_)
  unfold SS
  rw [if_neg (by grind [lL])]
 constructor
 ·
  rintro⟨x,h1,h2,h3⟩;obtain⟨j,h4,h5,h6⟩:=kf hR hi hr h1 h2;refine⟨j,h4,?_⟩
  unfold SS at h3
  rw [h5,if_pos (by rw [cA h6 (by omega)];exact h4.lt.2.2.2),dK h6 (by omega),Int.toNat_natCast,gR (hv j)] at h3;exact h3
 rintro⟨j,h4,h5⟩;obtain⟨x,h1,h2,h3⟩:=uo hi h4;refine⟨x,h1,h2,?_⟩
 unfold SS
 rw [h3,if_pos (by rw [cA h4.lt.2.1 (by have:=h4.lt.2.1;omega)];exact h4.lt.2.2.2),dK h4.lt.2.1 (by have:=h4.lt.2.1;omega),Int.toNat_natCast,gR (hv j)];exact h5
theorem yl(i:Nat):rv ab aH i≤65535:=Hy i
theorem Kb(hR:ay ab) {i:Nat}(hi:i<ab.length) (hr:aI ab i=true) (b:Nat) :
  (rv ab aH i).testBit b=true↔(oA ab (valOf ab aH) i).testBit b=true∨∃j,iA ab i j∧(rv ab aH j).testBit b=true:=by
 unfold rv
 rw [fQ hR hi hr]
 constructor
 ·
  rintro⟨k,h1,h2⟩
  rcases h1.cases with rfl | ⟨j,h3,h4⟩
  ·
   exact .inl h2
  exact .inr ⟨j,h3,(fQ hR h3.lt.2.1 h3.lt.2.2.2 b).2 ⟨k,h4,h2⟩⟩
 rintro(h | ⟨j,h3,h4⟩)
 ·
  exact⟨i,.refl,h⟩
 obtain⟨k,h5,h6⟩:=(fQ hR h3.lt.2.1 h3.lt.2.2.2 b).1 h4;exact⟨k,.head h3 h5,h6⟩
theorem L4(hR:ay ab) {v v':Nat→Nat}(hv:∀j,v j≤65535) (U5:∀j,v' j≤65535) (h:∀j,gC (v j) (v' j)) {i:Nat}(hi:i<ab.length) (hr:aI ab i=true):gC (FF ab aH v i) (FF ab aH v' i):=fun b hb=>by
 rw [AA hR hv hi hr] at hb;rw [AA hR U5 hi hr]
 rcases hb with hb | ⟨j,h1,h2⟩
 ·
  exact .inl hb
 exact .inr ⟨j,h1,h j b h2⟩
structure eV (ab:List aJ) (aH:List dE) (i0:Nat) (L:List Nat) (u:Nat→Nat):Prop where
 nodup:L.Nodup
 first:i0∈L
 ring:∀j∈L,j<ab.length∧aI ab j=true
 out:∀j,j∉L→u j=0
 le:∀j,u j≤65535
 low:∀j,gC (u j) (rv ab aH j)
 reach:∀j∈L,eb ab i0 j
noncomputable def EM(ab:List aJ) (aH:List dE) (u:Nat→Nat) (ml:List (Key × Value)) (k:Nat):Nat:=if (cq ml (aS ab (k:Int))).isSome then rv ab aH k else u k
def iJ(ml ed:List (Key × Value)):Prop:=∀k v,cq ml k=some v→cq ed k=some v
def oN(ab:List aJ) (aH:List dE) (L:List Nat) (u:Nat→Nat) (ml:List (Key × Value)):Prop:=∀j∈L,gC (u j) (FF ab aH (EM ab aH u ml) j)
def sX(ab:List aJ) (aH:List dE) (L:List Nat) (u:Nat→Nat) (j:Nat):Prop:=
 gC (oA ab (valOf ab aH) j) (u j)∧∀k,iA ab j k→(k∈L→gC (u k) (u j))∧(k∉L→gC (rv ab aH k) (u j))
def Kc(n:Nat) (v:Nat→Nat):Nat:=((List.range n).map fun j=>65535 - v j).sum
def tJ(ab:List aJ) (L:List Nat) (v:Nat→Nat):Nat:=Kc ab.length v+(ab.length - L.length)
theorem iJ.refl(ml:List (Key × Value)):iJ ml ml:=fun _ _ h=>h
theorem iJ.trans{a b c:List (Key × Value)}(h:iJ a b) (k:iJ b c):iJ a c:=fun x v e=>k x v (h x v e)
theorem iJ.put{ml:List (Key × Value)}(hm:bd ab aH ml) (k:Key):iJ ml (dH ml k (.string (valOf ab aH k))):=fun x v h=>by
 rw [eR]
 split
 ·
  rename_i e;subst e;rw [hm _ _ h]
 exact h
theorem xl{u:Nat→Nat}{ml:List (Key × Value)}(h:∀j,u j≤65535) (k:Nat):EM ab aH u ml k≤65535:=by grind [EM,yl]
theorem SU{u:Nat→Nat}{ml:List (Key × Value)}(h:∀j,gC (u j) (rv ab aH j)) (k:Nat):gC (EM ab aH u ml k) (rv ab aH k):=by unfold EM;split;exact fun _ h=>h;exact h k
theorem Hz{u u':Nat→Nat}{ml ed:List (Key × Value)}(h:∀j,gC (u j) (rv ab aH j)) (hu:∀j,gC (u j) (u' j)) (hm:iJ ml ed) (k:Nat):gC (EM ab aH u ml k) (EM ab aH u' ed k):=by
 unfold EM
 cases h1:cq ml (aS ab (k:Int)) with
 | some v=>rw [hm _ _ h1];simp;exact fun _ h=>h
 | none=>grind
theorem oN.mono(hR:ay ab) {i0:Nat}{L:List Nat}{u:Nat→Nat}{ml ed:List (Key × Value)}(hr:eV ab aH i0 L u) (h:oN ab aH L u ml) (hm:iJ ml ed):oN ab aH L u ed:=fun j hj b hb=>
 L4 hR (xl hr.le) (xl hr.le) (Hz hr.low (fun _ _ h=>h) hm) (hr.ring j hj).1 (hr.ring j hj).2 b (h j hj b hb)
theorem eV.start{i0:Nat}(hi:i0<ab.length) (hr:aI ab i0=true):eV ab aH i0 [i0] fun _=>0 where
 nodup:=by simp
 first:=by simp
 ring j hj:=by grind
 out _ _:=rfl
 le _:=by omega
 low _ b h:=by simp at h
 reach j hj:=by simp at hj;subst hj;exact .refl
theorem oN.start{i0:Nat}{ml:List (Key × Value)}:oN ab aH [i0] (fun _=>0) ml:=fun _ _ b h=>by simp at h
theorem PH:∀{n:Nat}{L:List Nat},L.Nodup→(∀j∈L,j<n)→L.length≤n:=by
 intro n
 induction n with
 | zero=>intro L _ hl;cases L with
  | nil=>simp
  | cons a r=>exact absurd (hl a (by simp)) (by omega)
 | succ n ih=>
  intro L h hl
  have h1:=ih (h.erase n) fun j hj=>by grind
  grind
theorem eV.len{i0:Nat}{L:List Nat}{v:Nat→Nat}(h:eV ab aH i0 L v):L.length≤ab.length:=PH h.nodup fun j hj=>(h.ring j hj).1
theorem eV.meet{i0:Nat}{L:List Nat}{v:Nat→Nat}(h:eV ab aH i0 L v) {j:Nat}(hj:j<ab.length) (hr:aI ab j=true) (hn:j∉L) (PI:eb ab i0 j):eV ab aH i0 (L++[j]) v where
 nodup:=by grind [nodup]
 first:=by simp [h.first]
 ring k hk:=by
  rcases List.mem_append.1 hk with hk | hk
  ·
   exact h.ring k hk
  grind
 out k hk:=h.out k fun hm=>hk (by simp [hm])
 le:=h.le
 low:=h.low
 reach k hk:=by
  rcases List.mem_append.1 hk with hk | hk
  ·
   exact h.reach k hk
  grind
theorem oN.meet{L:List Nat}{u:Nat→Nat}{ml:List (Key × Value)}(h:oN ab aH L u ml) {j:Nat}(hu:u j=0):oN ab aH (L++[j]) u ml:=fun k hk=>by
 rcases List.mem_append.1 hk with hk | hk
 ·
  exact h k hk
 simp at hk;subst hk;rw [hu];intro b hb;simp at hb
theorem eV.L5{i0:Nat}{L:List Nat}{v:Nat→Nat}(h:eV ab aH i0 L v) {j:Nat}(hj:j<ab.length) (hr:aI ab j=true) (hn:j∉L) (PI:eb ab i0 j):L.length<ab.length:=by
 have:=(h.meet hj hr hn PI).len
 grind
theorem HA{L:List Nat}{v:Nat→Nat}{j:Nat}(hl:L.length<ab.length):tJ ab (L++[j]) v<tJ ab L v:=by grind [tJ]
def qg(v:Nat→Nat) (j u:Nat):Nat→Nat:=fun k=>if k=j then u else v k
theorem PJ:∀n (v:Nat→Nat) (j u:Nat),v j≤u→Kc n (qg v j u)≤Kc n v∧(j<n→v j<u→u≤65535→Kc n (qg v j u)<Kc n v):=by
 intro n
 induction n with
 | zero=>intro v j u _;simp [Kc]
 | succ n ih=>
  intro v j u h;obtain⟨h1,h2⟩:=ih v j u h
  unfold Kc at h1 h2 ⊢
  simp only [List.range_succ,List.map_append,List.map_cons,List.map_nil,List.sum_append,List.sum_cons,List.sum_nil]
  have h3:65535 - qg v j u n≤65535 - v n:=by
   unfold qg;grind
  refine⟨by omega,fun h4 h5 h6=>?_⟩
  by_cases e:j=n
  ·
   have:65535 - qg v j u n<65535 - v n:=by unfold qg;grind
   omega
  have:=h2 (by omega) h5 h6
  omega
theorem Nq{u:Nat→Nat}{j x:Nat}(h:gC (u j) x):∀k,gC (u k) (qg u j x k):=fun k b hb=>by
 unfold qg;split
 ·
  rename_i e;subst e;exact h b hb
 exact hb
theorem eV.set{i0:Nat}{L:List Nat}{u:Nat→Nat}(h:eV ab aH i0 L u) {j x:Nat}(hj:j∈L) (hx:x≤65535) (h2:gC x (rv ab aH j)):eV ab aH i0 L (qg u j x) where
 nodup:=h.nodup
 first:=h.first
 ring:=h.ring
 out k hk:=by unfold qg;rw [if_neg (fun e=>hk (by rw [e];exact hj))];exact h.out k hk
 le k:=by unfold qg;split;exact hx;exact h.le k
 low k b hb:=by
  unfold qg at hb;split at hb
  ·
   rename_i e;subst e;exact h2 b hb
  exact h.low k b hb
 reach:=h.reach
theorem oN.set(hR:ay ab) {i0:Nat}{L:List Nat}{u:Nat→Nat}{ml:List (Key × Value)}(hr:eV ab aH i0 L u) (h:oN ab aH L u ml) {j x:Nat}(hj:j∈L) (hx:x≤65535) (h2:gC x (rv ab aH j)) (h3:gC (u j) x) (h4:gC x (FF ab aH (EM ab aH u ml) j)) :
  oN ab aH L (qg u j x) ml:=fun k hk=>by
 have zC:=hr.set hj hx h2;have hm:=L4 (aH:=aH) hR (xl (aH:=aH) (ab:=ab) (ml:=ml) hr.le) (xl zC.le) (Hz hr.low (Nq h3) (iJ.refl ml)) (hr.ring k hk).1 (hr.ring k hk).2;intro b hb;refine hm b ?_
 unfold qg at hb;split at hb
 ·
  rename_i e;subst e;exact h4 b hb
 exact h k hk b hb
theorem L6{i0:Nat}{L:List Nat}{u:Nat→Nat}(h:eV ab aH i0 L u) {j x:Nat}(hj:j∈L) (hx:x≤65535) (h3:gC (u j) x) (ku:u j≠x):tJ ab L (qg u j x)<tJ ab L u:=by
 have h1:=h3.le
 have:=(PJ ab.length u j x h1).2 (h.ring j hj).1 (by omega) hx
 unfold tJ;omega
theorem eV.done(hR:ay ab) {i0:Nat}{L:List Nat}{u:Nat→Nat}(h:eV ab aH i0 L u) (hs:∀j∈L,sX ab aH L u j):∀j∈L,u j=rv ab aH j:=by
 intro j hj;obtain⟨mB,AB⟩:=h.ring j hj;refine Nat.le_antisymm (h.low j).le (gC.le fun b hb=>?_);have key:=PG hR mB AB (fun k=>if k∈L then u k else rv ab aH k) (fun k b hk hb=>?_) (fun k m b hk hkm hb=>?_) b hb
 ·
  simpa [hj] using key
 ·
  have xm:=lK mB AB hk
  by_cases hm:k∈L
  ·
   simp only [if_pos hm];exact(hs k hm).1 b hb
  simp only [if_neg hm];grind [Kb]
 have xm:=lK mB AB hk
 by_cases og:k∈L
 ·
  simp only [if_pos og]
  by_cases hm:m∈L
  ·
   simp only [if_pos hm] at hb;exact((hs k og).2 m hkm).1 hm b hb
  simp only [if_neg hm] at hb;exact((hs k og).2 m hkm).2 hm b hb
 simp only [if_neg og];refine(Kb hR xm.1 xm.2 b).2 (.inr ⟨m,hkm,?_⟩)
 by_cases hm:m∈L
 ·
  simp only [if_pos hm] at hb;exact h.low m b hb
 grind
structure Ev (ab:List aJ) (aH:List dE) (u:Nat→Nat) (L:List Nat) (PK ml:List (Key × Value)) (qs:List Ask) (n:Nat) (acc:List ByteArray):Prop where
 len:acc.length=n
 out:∀m (h:m<qs.length),m<n→outside ab qs[m]=true→acc[m]?=some (valOf ab aH (cJ ab qs[m]))
 ins:∀m (h:m<qs.length),m<n→outside ab qs[m]=false→∀k:Nat,qs[m].n=k→
  (acc[m]?=some (itoa (rv ab aH k:Int))∧(cq ml (aS ab (k:Int))).isSome=true)∨(acc[m]?=some (itoa (u k:Int))∧k∈L∧cq PK (aS ab (k:Int))=none)
theorem Ev.start{u:Nat→Nat}{L:List Nat}{ml:List (Key × Value)}{qs:List Ask}:Ev ab aH u L ml ml qs 0 []:=⟨rfl,fun _ _ h=>by omega,fun _ _ h=>by omega⟩
theorem Ev.mono{u:Nat→Nat}{L L':List Nat}{PK ml ed:List (Key × Value)}{qs:List Ask}{n:Nat}{acc:List ByteArray}(h:Ev ab aH u L PK ml qs n acc) (hL:∀k∈L,k∈L') (hm:iJ ml ed):Ev ab aH u L' PK ed qs n acc:=
 ⟨h.len,h.out,fun m h1 h2 h3 k h4=>by
  rcases h.ins m h1 h2 h3 k h4 with⟨h5,h6⟩ | ⟨h5,h6,h7⟩
  ·
   obtain⟨v,hv⟩:=Option.isSome_iff_exists.1 h6;exact .inl ⟨h5,by rw [hm _ _ hv];rfl⟩
  grind⟩
theorem Ev.snoc{u:Nat→Nat}{L:List Nat}{PK ml:List (Key × Value)}{qs:List Ask}{n:Nat}{acc:List ByteArray}(h:Ev ab aH u L PK ml qs n acc) (s:ByteArray)
  (ho:∀(h:n<qs.length),outside ab qs[n]=true→s=valOf ab aH (cJ ab qs[n]))
  (hi:∀(h:n<qs.length),outside ab qs[n]=false→∀k:Nat,qs[n].n=k→(s=itoa (rv ab aH k:Int)∧(cq ml (aS ab (k:Int))).isSome=true)∨(s=itoa (u k:Int)∧k∈L∧cq PK (aS ab (k:Int))=none)) :
  Ev ab aH u L PK ml qs (n+1) (acc++[s]) where
 len:=by simp [h.len]
 out m h1 h2 h3:=by
  rcases Nat.lt_or_ge m n with h4 | h4
  ·
   rw [List.getElem?_append_left (by rw [h.len];exact h4)];exact h.out m h1 h4 h3
  grind [len]
 ins m h1 h2 h3 k hk:=by
  rcases Nat.lt_or_ge m n with h4 | h4
  ·
   rw [List.getElem?_append_left (by rw [h.len];exact h4)];exact h.ins m h1 h4 h3 k hk
  have:m=n:=by omega
  subst this;rw [List.getElem?_append_right (by rw [h.len];omega),h.len]
  simpa using hi h1 h3 k hk
theorem Ev.val(hR:ay ab) {i0:Nat}{L:List Nat}{u:Nat→Nat}{PK ml:List (Key × Value)}{j:Nat}{acc:List ByteArray}(hr:eV ab aH i0 L u) (hj:j<ab.length) (JQ:aI ab j=true) (h:Ev ab aH u L PK ml ab[j].asks ab[j].asks.length acc) :
  gL ab[j].c.toNat (acc.map eh)≤65535∧gC (gL ab[j].c.toNat (acc.map eh)) (rv ab aH j)∧gC (FF ab aH (EM ab aH u PK) j) (gL ab[j].c.toNat (acc.map eh))∧
  gC (gL ab[j].c.toNat (acc.map eh)) (FF ab aH (EM ab aH u ml) j)∧(gL ab[j].c.toNat (acc.map eh)=u j→sX ab aH L u j):=by
 obtain⟨hlen,ho,gk⟩:=h;have qf:=hR.len
 -- an answer, by its place
 have pU:∀m (hm:m<ab[j].asks.length),∃s,acc[m]?=some s∧s∈acc:=fun m hm=>⟨acc[m],aq (by omega),List.getElem_mem _⟩
 have x9:gC (oA ab (valOf ab aH) j) (gL ab[j].c.toNat (acc.map eh)):=fun b hb=>by
  rw [pA]
  rcases(gS hj b).1 hb with h1 | ⟨x,h1,h2,h3⟩
  ·
   exact .inl h1
  obtain⟨m,hm,rfl⟩:=List.mem_iff_getElem.1 h1
  grind
 have L7:∀k,iA ab j k→∃m,∃hm:m<ab[j].asks.length,outside ab ab[j].asks[m]=false∧ab[j].asks[m].n=(k:Int):=fun k hk=>by
  obtain⟨r,x,h1,_,h3,h4,h5,h6⟩:=hk;rw [aq hj] at h1
  simp at h1
  subst h1;obtain⟨m,hm,rfl⟩:=List.mem_iff_getElem.1 h3;exact⟨m,hm,by unfold outside;rw [h4,h5];simp [h6],h5⟩
 have ly:∀(m:Nat) (s:ByteArray) (b:Nat),acc[m]?=some s→(eh s).testBit b=true→(gL ab[j].c.toNat (acc.map eh)).testBit b=true:=fun m s b h1 h2=>by
  rw [pA];grind
 have j8:∀(v:Nat→Nat),(∀k,v k≤65535)→(∀k:Nat,(cq ml (aS ab (k:Int))).isSome=true→gC (rv ab aH k) (v k))→(∀k:Nat,gC (u k) (v k))→gC (gL ab[j].c.toNat (acc.map eh)) (FF ab aH v j):=fun v hv h1 h2 b hb=>by
  rw [AA hR hv hj JQ];rw [pA] at hb
  rcases hb with hb | ⟨_,hs,hb⟩
  ·
   grind [gS]
  obtain⟨s,tj,rfl⟩:=List.mem_map.1 hs;obtain⟨m,hm,rfl⟩:=List.mem_iff_getElem.1 tj
  have R7:m<ab[j].asks.length:=by omega
  cases gX:outside ab ab[j].asks[m]
  ·
   obtain⟨k,h3,h4,h5⟩:=kf hR hj JQ (List.getElem_mem R7) gX
   have CP:ab[j].asks[m].n=(k:Int):=by
    obtain⟨q,h6,h7⟩:=pz hj hR.len (nq hR hj JQ (List.getElem_mem R7))
    have hc:ab[j].asks[m].cell=false:=by grind [outside]
    rw [hc] at h7;simp only [Bool.false_eq_true,if_false] at h7
    unfold cJ at h4
    rw [hc,h6] at h4;simp only [Bool.false_eq_true,if_false] at h4
    grind [dK]
   refine .inr ⟨k,h3,?_⟩
   rcases gk m R7 R7 gX k CP with⟨h6,h7⟩ | ⟨h6,h7,_⟩
   ·
    rw [aq hm] at h6
    simp at h6
    rw [h6,gR (yl k)] at hb;exact h1 k h7 b hb
   rw [aq hm] at h6
   simp at h6
   rw [h6,gR (hr.le k)] at hb;exact h2 k b hb
  grind [gS]
 refine⟨?_,?_,?_,?_,fun he=>⟨?_,fun k hk=>⟨fun HB=>?_,fun HB=>?_⟩⟩⟩
 ·
  grind [pr,Az,oz]
 ·
  intro b hb;have h1:=j8 (rv ab aH) yl (fun _ _ _ h=>h) hr.low b hb
  grind [AA,yl,Kb]
 ·
  intro b hb;rw [AA hR (xl hr.le) hj JQ] at hb
  rcases hb with hb | ⟨k,h1,h2⟩
  ·
   exact x9 b hb
  obtain⟨m,hm,h3,h4⟩:=L7 k h1
  rcases gk m hm hm h3 k h4 with⟨h6,h7⟩ | ⟨h6,h7,h8⟩
  ·
   exact ly m _ b h6 (by rw [gR (yl k)];exact SU hr.low k b h2)
  refine ly m _ b h6 (by rw [gR (hr.le k)];grind [EM])
 ·
  refine j8 _ (xl hr.le) (fun k hk b hb=>?_) fun k b hb=>?_
  ·
   unfold EM;rw [if_pos hk];exact hb
  unfold EM;split
  ·
   exact hr.low k b hb
  exact hb
 ·
  rw [← he];exact x9
 ·
  intro b hb;rw [← he];obtain⟨m,hm,h3,h4⟩:=L7 k hk
  rcases gk m hm hm h3 k h4 with⟨h6,h7⟩ | ⟨h6,h7,h8⟩
  ·
   exact ly m _ b h6 (by rw [gR (yl k)];exact hr.low k b hb)
  exact ly m _ b h6 (by rw [gR (hr.le k)];exact hb)
 intro b hb
 grind [gR,yl]
def rj(ab:List aJ) (L:List Nat) (v:Nat→Nat) (am:List (Key × Value)):Prop:=
 (∀j∈L,cq am (aS ab (j:Int))=some (.string (itoa (v j:Int))))∧∀k,(∀j∈L,k≠aS ab (j:Int))→cq am k=none
theorem fG(hR:ay ab) {i j:Nat}(hi:i<ab.length) (hj:j<ab.length) (h:aS ab (i:Int)=aS ab (j:Int)):i=j:=by grind [ay.len,dK]
theorem rj.meet(hR:ay ab) {L:List Nat}{v:Nat→Nat}{am:List (Key × Value)}(h:rj ab L v am) (hL:∀j∈L,j<ab.length) {j:Nat}(hj:j<ab.length) (hn:j∉L) (hv:v j=0):rj ab (L++[j]) v (dH am (aS ab (j:Int)) (.string ⟨#[48]⟩)):=by
 have e0:itoa ((0:Nat):Int)=⟨#[48]⟩:=by decide +kernel
 refine⟨fun k hk=>?_,fun k hk=>?_⟩
 ·
  rw [eR]
  rcases List.mem_append.1 hk with hk | hk
  ·
   rw [if_neg (fun e=>hn (by grind [fG]))];exact h.1 k hk
  grind
 rw [eR,if_neg (fun e=>hk j (by simp) e.symm)]
 exact h.2 k fun m hm=>hk m (by simp [hm])
theorem rj.set(hR:ay ab) {L:List Nat}{v:Nat→Nat}{am:List (Key × Value)}(h:rj ab L v am) (hL:∀j∈L,j<ab.length) {j:Nat}(hj:j∈L) (u:Nat):rj ab L (qg v j u) (dH am (aS ab (j:Int)) (.string (itoa (u:Int)))):=by
 refine⟨fun k hk=>?_,fun k hk=>?_⟩
 ·
  rw [eR]
  unfold qg
  by_cases e:k=j
  ·
   grind
  rw [if_neg (fun e2=>e (fG hR (hL k hk) (hL j hj) e2.symm)),if_neg e];exact h.1 k hk
 rw [eR,if_neg (fun e=>hk j hj e.symm)];exact h.2 k hk
end
theorem lM{ab:List aJ}(hR:ay ab) {i:Nat}(hi:i<ab.length) (hr:aI ab i=true) {x:Ask}(hx:x∈ab[i].asks) (ho:outside ab x=false) {k:Nat}(hk:x.n=(k:Int)):k<ab.length∧aI ab k=true∧cJ ab x=aS ab (k:Int):=by
 have hm:=nq hR hi hr hx
 unfold outside at ho
 rw [Bool.or_eq_false_iff] at ho;rw [ho.1,hk] at hm;refine⟨(vw hR hi hr hm).1,?_,?_⟩
 ·
  grind
 grind [cJ]
theorem ay.hb{ab:List aJ}(h:ay ab):∀x∈ab,0≤x.c∧x.c≤65535∧x.asks.length≤1000:=fun x hx=>by
 obtain⟨i,hi,rfl⟩:=List.mem_iff_getElem.1 hx;obtain⟨h1,_,h3⟩:=h.at hi
 grind [jX]
theorem il{ab:List aJ}{i:Nat}(hi:i<ab.length) (lZ:i≤99) (l:List ByteArray):bf ab (aS ab (i:Int)) l=dN ab (aS ab (i:Int)) l:=by
 unfold bf;rw [if_pos (by grind [fX])]
theorem ym{ab:List aJ}{i:Nat}(hi:i<ab.length) (lZ:i≤99) (hr:aI ab i=true):uk (aS ab (i:Int))=⟨#[48]⟩:=by grind [uk,fX]
theorem DY:∀{l:List (Key × Value)}{k:Key}{v:Value},cq l k=some v→dH l k v=l:=by
 intro l
 induction l with
 | nil=>intro k v h;simp [cq] at h
 | cons p r ih=>
  obtain⟨k0,v0⟩:=p;intro k v h;simp only [cq] at h;simp only [dH]
  grind
theorem iK{ab:List aJ}{i:Nat}(hi:i<ab.length) (lZ:i≤99):gY (aS ab (i:Int)):=by grind [gY,fX]
end Go.Rc

namespace Go.Rc
open Go
theorem tK:∀(l:List UInt8) (u:Nat),0<u→0≤decFrom l (u:Int)→∃v:Nat,decFrom l (u:Int)=v∧Lib.decDigits v=Lib.decDigits u++l
 | [],u,_,_=>⟨u,rfl,by simp⟩
 | c::r,u,hu,h=>by
  unfold decFrom at h ⊢
  by_cases hc:c.toNat<48∨57<c.toNat
  ·
   rw [if_pos hc] at h;omega
  rw [if_neg hc] at h ⊢;obtain⟨d,hd⟩:∃d:Nat,c.toNat=48+d:=⟨c.toNat - 48,by omega⟩
  have hd9:d<10:=by omega
  have e:10*(u:Int)+((c.toNat:Int) - 48)=((10*u+d:Nat):Int):=by omega
  rw [e] at h ⊢;obtain⟨v,h1,h2⟩:=tK r (10*u+d) (by omega) h;refine⟨v,h1,?_⟩;rw [h2,Lib.decDigits,dif_neg (by omega),show(10*u+d) / 10=u by omega,show(10*u+d) % 10=d by omega,List.append_assoc]
  grind [UInt8.ofNat_toNat]
theorem CT{s:ByteArray}(h:0≤fw s):∃v:Nat,fw s=v∧s=itoa (v:Int):=by
 unfold fw at h ⊢
 by_cases hc:s.size=0∨9<s.size∨(s.data.toList.head?=some 48∧s.size≠1)
 ·
  rw [if_pos hc] at h;omega
 rw [if_neg hc] at h ⊢;obtain⟨d⟩:=s
 have key:∃v:Nat,decFrom d.toList 0=v∧Lib.decDigits v=d.toList:=by
  have hsz:(⟨d⟩:ByteArray).size=d.toList.length:=by simp [ByteArray.size]
  rw [hsz] at hc;simp only at hc h ⊢
  cases hl:d.toList with
  | nil=>rw [hl] at hc;simp at hc
  | cons c r=>
   rw [hl] at hc h
   unfold decFrom at h ⊢
   by_cases hn:c.toNat<48∨57<c.toNat
   ·
    rw [if_pos hn] at h;omega
   rw [if_neg hn] at h ⊢;obtain⟨e,he⟩:∃e:Nat,c.toNat=48+e:=⟨c.toNat - 48,by omega⟩
   have h1:10*(0:Int)+((c.toNat:Int) - 48)=(e:Nat):=by omega
   rw [h1] at h ⊢
   have y9:UInt8.ofNat (48+e)=c:=by grind [UInt8.ofNat_toNat]
   by_cases h0:e=0
   ·
    subst h0
    have aq7:c=48:=by rw [← y9];rfl
    have hr:r=[]:=by grind
    subst hr;exact⟨0,rfl,by rw [Lib.decDigits,dif_pos (by omega),y9]⟩
   obtain⟨v,h2,h3⟩:=tK r e (by omega) h;refine⟨v,h2,?_⟩;rw [h3,Lib.decDigits,dif_pos (by omega),y9]
   rfl
 obtain⟨v,h1,h2⟩:=key;refine⟨v,h1,?_⟩
 have e:Lib.itoa (v:Int)=Lib.decDigits v:=by unfold Lib.itoa;rw [if_neg (by omega)];rfl
 unfold itoa
 rw [e,h2]
theorem Nr{s:ByteArray}(h:∀n:Nat,n≤65535→s≠itoa (n:Int)):eh s=0:=by
 unfold eh
 split
 ·
  rfl
 grind [CT]
theorem Ns(l:List aJ) (m:Nat):m≤fq l m:=by unfold fq;omega
theorem Ke{ab:List aJ}{i:Nat}(hi:i<ab.length):(block ab (i:Int)).1≤(block ab (i:Int)).2:=by
 have hb:block ab (i:Int)=if aI ab i then ((cz ab i:Int),(fq ab (i+1):Int)) else ((i:Int),(i:Int)+1):=by
  unfold block;rw [if_neg (by omega)];rfl
 grind [iN,Ns]
theorem HC(kind:Int) (c:Nat) (l:List Nat):gj kind 0 (c::l)=gj kind c l:=by
 unfold gj Aj ye gL
 simp
end Go.Rc

namespace Go.Rc
open Go
theorem HD{κ:Type} [DecidableEq κ]:∀{l:List (κ × Value)}{k:κ}{v:Value},cq l k=none→kQ (dH l k v) k=l
 | [],k,v,_=>by simp [dH,kQ]
 | (k0,v0)::r,k,v,h=>by
  by_cases e:k0=k
  ·
   subst e;simp [cq] at h
  simp only [cq,if_neg e] at h;simp only [dH,if_neg e,kQ,HD h]
def FZ.row(b:Nat) (r:List Value):FZ:=
 ⟨fun Z w=>Z b∧b<w.heap.size∧w.rangeAt b 0 r,fun hZ h=>⟨hZ _ h.1,h.2⟩,fun hs hc h=>⟨h.1,Nat.lt_of_lt_of_le h.2.1 hs,fun j v hv=>by rw [← h.2.2 j v hv];grind [World.cell?_of_block]⟩⟩
def SD.FV(D:SD) (P:Program) (ab:List aJ) (x:dT):FZ:=(D.F P ab x).and (FZ.row D.s (D.cells x))
theorem SD.FV.rg{D:SD}{P:Program}{ab:List aJ}{x:dT}{Z:Nat→Prop}{w:World}(h:(D.FV P ab x).p Z w):(As.rg D.s 0 (D.cells x)).ok Z w:=As.acd h.2.1 h.2.2.1 h.2.2.2
theorem DZ{κ:Type} [DecidableEq κ]:∀(l:List (κ × Value)) (k:κ) (v u:Value),dH (dH l k v) k u=dH l k u
 | [],k,v,u=>by simp [dH]
 | (k0,v0)::r,k,v,u=>by
  by_cases e:k0=k
  ·
   simp [dH,e]
  simp [dH,e,DZ r k v u]
section
variable {ab:List aJ}{aH:List dE}
def nI(ab:List aJ) (i:Nat) (al:List (Key × Value)):Prop:=∀j:Nat,j≤i→j<ab.length→cq al (aS ab (j:Int))=none
theorem nI.mono{i m:Nat}{al:List (Key × Value)}(h:nI ab i al) (hm:m≤i):nI ab m al:=fun j hj hl=>h j (by omega) hl
theorem nI.put(hR:ay ab) {i m:Nat}{al:List (Key × Value)}(h:nI ab i al) (hi:i<ab.length) (hm:m<i) (v:Value):nI ab m (dH al (aS ab (i:Int)) v):=fun j hj hl=>by
 rw [eR,if_neg (fun e=>by have:=fG hR hi hl e;omega)];exact h j (by omega) hl
theorem nI.nil(i:Nat):nI ab i []:=fun _ _ _=>rfl
noncomputable def dD(ab:List aJ) (aH:List dE) (i:Nat):List Key:=(gy (dN ab (aS ab (i:Int))) (valOf ab aH) (dY ab i)).1
noncomputable def xn(ab:List aJ) (aH:List dE) (k:Key):List Key:=if aB k then [] else dD ab aH (number k).toNat
theorem iO(hR:ay ab) {i:Nat}(hi:i<ab.length):xn ab aH (aS ab (i:Int))=dD ab aH i:=by
 have qf:=hR.len
 unfold xn
 rw [if_neg (by grind [dI]),dK hi (by omega),Int.toNat_natCast]
theorem gB.cyc(hR:ay ab) {i:Nat}{a:Key}(h:gB ab i a):aC a=decide (a.kind=32):=by
 have qf:=hR.len
 rcases h with⟨n,h1,rfl⟩ | ⟨m,h1,rfl,_⟩
 ·
  rw [nG (by omega)]
  unfold dQ
  rw [if_neg (by omega)]
  rfl
 grind [cA,fX]
theorem gB.al(hR:ay ab) {i0 j:Nat}{a:Key}{al:List (Key × Value)}(h:gB ab j a) (hr:aI ab j=true) (hc:aC a=false) (gk:aB a=false) (hb:cz ab j≤i0) (uq:nI ab i0 al):nI ab (number a).toNat al:=by
 have qf:=hR.len
 rcases h with⟨n,h1,rfl⟩ | ⟨m,h1,rfl,_,_,_,h5⟩
 ·
  grind [dj]
 rw [cA h1 (by omega)] at hc;rw [dK h1 (by omega),Int.toNat_natCast];exact uq.mono (by have:=h5 hc hr;omega)
structure RI (ab:List aJ) (aH:List dE) (i0:Nat) (qs:List Ask) (u1:Nat→Nat) (L1:List Nat) (oO:Bool) (fm:List (Key × Value)) (n:Nat) (L2:List Nat) (nJ:List (Key × Value)) (qP:Bool) (kM:List (Key × Value)) (acc:List ByteArray):Prop where
 hn:n≤qs.length
 rd:eV ab aH i0 L2 u1
 up:oN ab aH L2 u1 kM
 at_:rj ab L2 u1 nJ
 m:bd ab aH kM
 le:iJ fm kM
 p:tJ ab L2 u1≤tJ ab L1 u1∧(qP=true→oO=true∨tJ ab L2 u1<tJ ab L1 u1)
 c:qP=false→L2=L1∧oO=false
 pre:L1 <+: L2
 ev:Ev ab aH u1 L2 fm kM qs n acc
variable {i0 j n:Nat}{u1:Nat→Nat}{L1 L2:List Nat}{oO qP:Bool}{fm kM SX nJ:List (Key × Value)}{acc:List ByteArray}
theorem RI.start{AD:List (Key × Value)}{qs:List Ask}(h1:eV ab aH i0 L1 u1) (h2:oN ab aH L1 u1 fm) (h3:rj ab L1 u1 AD) (h4:bd ab aH fm):RI ab aH i0 qs u1 L1 oO fm 0 L1 AD oO fm []:=
 ⟨Nat.zero_le _,h1,h2,h3,h4,iJ.refl _,⟨Nat.le_refl _,fun h=>.inl h⟩,fun h=>⟨rfl,h⟩,List.prefix_refl _,Ev.start⟩
theorem RI.done(hR:ay ab) (hj:j<ab.length) (hr:aI ab j=true) (h:RI ab aH i0 ab[j].asks u1 L1 oO fm n L2 nJ qP kM acc) (hn:n<ab[j].asks.length) {vv:Value}(hv:cq kM (cJ ab ab[j].asks[n])=some vv) :
  RI ab aH i0 ab[j].asks u1 L1 oO fm (n+1) L2 nJ qP kM (acc++[valOf ab aH (cJ ab ab[j].asks[n])]):=
 {h with
  hn:=hn
  ev:=h.ev.snoc _ (fun _ _=>rfl) fun _ ho k hk=>.inl (by
   obtain⟨tL,og,yn⟩:=lM hR hj hr (List.getElem_mem hn) ho hk
   grind [jG,ky])}
theorem RI.low(hR:ay ab) (hj:j<ab.length) (hr:aI ab j=true) (h:RI ab aH i0 ab[j].asks u1 L1 oO fm n L2 nJ qP kM acc) (hn:n<ab[j].asks.length) (hc:aC (cJ ab ab[j].asks[n])=false) (h4:bd ab aH SX) (hle:iJ kM SX) :
  RI ab aH i0 ab[j].asks u1 L1 oO fm (n+1) L2 nJ qP SX (acc++[valOf ab aH (cJ ab ab[j].asks[n])]):=
 {h with
  hn:=hn
  up:=h.up.mono hR h.rd hle
  m:=h4
  le:=h.le.trans hle
  ev:=(h.ev.mono (fun _ h=>h) hle).snoc _ (fun _ _=>rfl) fun _ ho k hk=>by grind [ay.len,lM,cA]}
theorem RI.inside(hR:ay ab) (hj:j<ab.length) (hr:aI ab j=true) (hn:n<ab[j].asks.length) (hc:aC (cJ ab ab[j].asks[n])=true) :
  ∃kk:Nat,cJ ab ab[j].asks[n]=aS ab (kk:Int)∧kk<ab.length∧aI ab kk=true∧iA ab j kk∧outside ab ab[j].asks[n]=false:=by
 have ly:=List.getElem_mem hn
 have gX:outside ab ab[j].asks[n]=false:=by grind [lL]
 obtain⟨kk,L8,qQ,oh⟩:=kf hR hj hr ly gX;exact⟨kk,qQ,oh,L8.lt.2.2.2,L8,gX⟩
theorem RI.Vi(hR:ay ab) (hj:j<ab.length) (hr:aI ab j=true) {L3:List Nat}(h:Ev ab aH u1 L3 fm kM ab[j].asks n acc) (hle:iJ fm kM) (hn:n<ab[j].asks.length) {kk:Nat}(qQ:cJ ab ab[j].asks[n]=aS ab (kk:Int)) (oh:kk<ab.length) (gX:outside ab ab[j].asks[n]=false)
  (gh:cq kM (cJ ab ab[j].asks[n])=none) (hL:kk∈L3):Ev ab aH u1 L3 fm kM ab[j].asks (n+1) (acc++[itoa (u1 kk:Int)]):=by
 have Fg:cq fm (aS ab (kk:Int))=none:=by
  cases h:cq fm (aS ab (kk:Int)) with
  | none=>rfl
  | some v=>have:=hle _ _ h;grind
 refine h.snoc _ (fun _ ho=>by rw [gX] at ho;cases ho) fun _ ho k hk=>?_;obtain⟨tL,og,yn⟩:=lM hR hj hr (List.getElem_mem hn) gX hk;rw [qQ] at yn
 have:=fG hR oh tL yn
 grind
theorem RI.meet(hR:ay ab) (hj:j<ab.length) (hr:aI ab j=true) (h:RI ab aH i0 ab[j].asks u1 L1 oO fm n L2 nJ qP kM acc) (qL:j∈L1) (hn:n<ab[j].asks.length) (hc:aC (cJ ab ab[j].asks[n])=true)
  (gh:cq kM (cJ ab ab[j].asks[n])=none) (SH:cq nJ (cJ ab ab[j].asks[n])=none) :
  ∃kk:Nat,cJ ab ab[j].asks[n]=aS ab (kk:Int)∧kk<ab.length∧aI ab kk=true∧RI ab aH i0 ab[j].asks u1 L1 oO fm (n+1) (L2++[kk]) (dH nJ (cJ ab ab[j].asks[n]) (.string ⟨#[48]⟩)) true kM (acc++[⟨#[48]⟩]):=by
 obtain⟨kk,qQ,oh,xm,L8,gX⟩:=RI.inside hR hj hr hn hc
 have HB:kk∉L2:=fun hm=>by have:=h.at_.1 kk hm;grind
 have OH:=h.rd.out kk HB;have PI:eb ab i0 kk:=.step (h.rd.reach j (h.pre.subset qL)) L8;have Xu:=h.rd.meet oh xm HB PI;have ee:=h.rd.L5 oh xm HB PI;have Sv:=HA (v:=u1) (j:=kk) ee;have dP:=RI.Vi hR hj hr (h.ev.mono (L':=L2++[kk]) (fun _ h=>by simp [h]) (iJ.refl _)) h.le hn qQ oh gX gh (by simp)
 have e0:itoa ((0:Nat):Int)=⟨#[48]⟩:=by decide +kernel
 rw [OH,e0] at dP;refine⟨kk,qQ,oh,xm,⟨hn,Xu,h.up.meet OH,?_,h.m,h.le,⟨Nat.le_of_lt (Nat.lt_of_lt_of_le Sv h.p.1),fun _=>.inr (Nat.lt_of_lt_of_le Sv h.p.1)⟩,fun h=>(by cases h),h.pre.trans (List.prefix_append _ _),dP⟩⟩;rw [qQ];exact h.at_.meet hR (fun k hk=>(h.rd.ring k hk).1) oh HB OH
theorem RI.acC(hR:ay ab) (hj:j<ab.length) (hr:aI ab j=true) (h:RI ab aH i0 ab[j].asks u1 L1 oO fm n L2 nJ qP kM acc) (hn:n<ab[j].asks.length) (hc:aC (cJ ab ab[j].asks[n])=true)
  (gh:cq kM (cJ ab ab[j].asks[n])=none) {v:Value}(SH:cq nJ (cJ ab ab[j].asks[n])=some v) :
  ∃s:ByteArray,v=.string s∧s.size≤1000∧RI ab aH i0 ab[j].asks u1 L1 oO fm (n+1) L2 nJ qP kM (acc++[s]):=by
 obtain⟨kk,qQ,oh,xm,L8,gX⟩:=RI.inside hR hj hr hn hc
 have HB:kk∈L2:=by
  by_cases hm:kk∈L2
  ·
   exact hm
  have:=h.at_.2 (aS ab (kk:Int)) (fun k hk e=>hm (by have:=fG hR oh (h.rd.ring k hk).1 e;rw [this];exact hk))
  grind
 have hg:=h.at_.1 kk HB;rw [← qQ,SH] at hg;simp only [Option.some.injEq] at hg;refine⟨_,hg,?_,{h with hn:=hn,ev:=RI.Vi hR hj hr h.ev h.le hn qQ oh gX gh HB}⟩;have hle:=h.rd.le kk
 have e:Lib.itoa (u1 kk:Int)=Lib.decDigits (u1 kk):=by unfold Lib.itoa;rw [if_neg (by omega)];rfl
 grind [itoa,Lib.decDigits,ByteArray.size]
end
end Go.Rc

namespace Go.Rc
open Go
/-! ### keys in order -/
def rl(k:Key):List Key→List Key
 | []=>[k]
 | x::r=>if cE x k<0 then x::rl k r else if x=k then x::r else k::x::r
def jZ(l:List Key):List Key:=l.foldl (fun out k=>rl k out) []
theorem SY:∀(l:List Key) (k:Key) (p:Nat),p≤l.length→(∀q x,q<p→l[q]?=some x→cE x k<0)→(∀x,l[p]?=some x→0≤cE x k)→rl k l=if l[p]?=some k then l else l.take p++[k]++l.drop p:=by
 intro l
 induction l with
 | nil=>intro k p hp _ _;simp at hp;subst hp;rfl
 | cons x r ih=>
  intro k p hp h1 h2
  cases p with
  | zero=>
   have:=h2 x rfl
   simp only [rl]
   grind
  | succ p=>
   have:=h1 0 x (by omega) rfl
   simp only [rl];rw [if_pos this,ih k p (by simpa using hp) (fun q y hq hy=>h1 (q+1) y (by omega) (by simpa using hy)) (fun y hy=>h2 y (by simpa using hy))]
   grind
theorem PN(k:Key):∀l,(rl k l).length≤l.length+1:=by
 intro l
 induction l with
 | nil=>simp [rl]
 | cons x r ih=>grind [rl]
theorem AE(l:List Key) (k:Key):jZ (l++[k])=rl k (jZ l):=by simp [jZ]
theorem xo(l:List Key):(jZ l).length≤l.length:=by
 have key:∀(l acc:List Key),(l.foldl (fun out k=>rl k out) acc).length≤acc.length+l.length:=by
  intro l
  induction l with
  | nil=>intro acc;simp
  | cons x r ih=>grind [PN]
 simpa [jZ] using key l []
theorem HE(k:Key):∀(l:List Key) (x:Key),x∈rl k l↔x=k∨x∈l:=by
 intro l
 induction l with
 | nil=>intro x;simp [rl]
 | cons y r ih=>grind [rl]
theorem nt(l:List Key) (x:Key):x∈jZ l↔x∈l:=by
 have key:∀(l acc:List Key),x∈l.foldl (fun out k=>rl k out) acc↔x∈acc∨x∈l:=by
  intro l
  induction l with
  | nil=>intro acc;simp
  | cons y r ih=>grind [HE]
 simpa [jZ] using key l []
def HF(out:List Key) (p:Nat) (x:Key):Bool:=match out[p]? with | some y=>decide (cE y x<0) | none=>false
/-! ### groups -/
def Ld(l:List Rec) (rev:Int) (a x:Key):Prop:=x∈(aG l a).reads∧cY l rev x=true
inductive cM (l:List Rec) (rev:Int) (k:Key):Key→Prop where
 | one {x:Key}:Ld l rev k x→cM l rev k x
 | step {x y:Key}:cM l rev k x→Ld l rev x y→cM l rev k y
def kg(m:List (Key × Value)) (P:Key→Prop):Prop:=∀k,(cq m k=some (.bool true)↔P k)∧(cq m k=none∨cq m k=some (.bool true))
open Classical in
noncomputable def Fh(l:List Rec) (rev:Int) (k x:Key):Bool:=decide (cM l rev k x)
theorem nK{l:List Rec}{rev:Int}{k x:Key}:Fh l rev k x=true↔cM l rev k x:=by unfold Fh;simp
noncomputable def HG(l:List Rec) (rev:Int) (k:Key) (r:Rec):Bool:=decide (r.key≠k) && (Fh l rev k r.key && Fh l rev r.key k)
noncomputable def lN(l:List Rec) (rev:Int) (k:Key) (rs:List Rec):List Key:=(rs.filter (HG l rev k)).map (·.key)
theorem yo{l:List Rec}{rev:Int}{k:Key}{i:Nat}(h:i<l.length):lN l rev k (l.take (i+1))=if HG l rev k l[i]=true then lN l rev k (l.take i)++[l[i].key] else lN l rev k (l.take i):=by
 rw [List.take_succ_eq_append_getElem h];simp only [lN,List.filter_append,List.map_append]
 grind
theorem ur(l:List Rec) (rev:Int) (k:Key) (rs:List Rec):(lN l rev k rs).length≤rs.length:=by grind [lN]
theorem kg.get{m:List (Key × Value)}{P:Key→Prop}(h:kg m P) (k:Key) {b:Bool}(hb:b=true↔P k):(cq m k).getD (.bool false)=.bool b:=by
 obtain⟨h1,h2⟩:=h k
 grind
theorem kg.put{m:List (Key × Value)}{ys:List Key}(h:kg m (·∈ys)) (x:Key):kg (dH m x (.bool true)) (·∈ys++[x]):=fun k=>by
 rw [eR]
 by_cases e:x=k
 ·
  rw [if_pos e];simp [e]
 rw [if_neg e];obtain⟨h1,h2⟩:=h k
 grind
theorem kg.congr{m:List (Key × Value)}{P Q:Key→Prop}(h:kg m P) (hpq:∀k,P k↔Q k):kg m Q:=fun k=>⟨(h k).1.trans (hpq k),(h k).2⟩
theorem kg.nil:kg [] (·∈([]:List Key)):=fun k=>by simp [cq]
theorem j0{L S:List Key}(h:L.Nodup) (hs:∀x∈L,x∈S):L.length≤S.length:=by
 induction L generalizing S with
 | nil=>simp
 | cons a r ih=>
  have ha:=hs a (by simp);rw [List.nodup_cons] at h
  have:=ih (S:=S.erase a) h.2 fun x hx=>by grind
  grind
theorem rU{l:List Rec}{rev:Int}{x:Key}(h:cY l rev x=true):x∈l.map (·.key):=by
 unfold cY at h
 rw [Bool.and_eq_true] at h
 grind [aD]
theorem cM.jh{l:List Rec}{rev:Int}{k x:Key}(h:cM l rev k x):cY l rev x=true:=by
 cases h with
 | one h=>exact h.2
 | step _ h=>exact h.2
theorem Fi{l:List Rec}{rev:Int}{k:Key}{ys:List Key}(hs:∀x∈ys,cM l rev k x) (hc:∀y∈k::ys,∀x,Ld l rev y x→x∈ys) (x:Key):x∈ys↔cM l rev k x:=by
 refine⟨hs x,fun h=>?_⟩
 induction h with
 | one h=>exact hc k (by simp) _ h
 | step _ h2 ih=>exact hc _ (by simp [ih]) _ h2
noncomputable def aF(l:List Rec) (rev:Int) (k:Key):List Key:=if cY l rev k then jZ (k::lN l rev k l) else [k]
def cZ(rev:Int) (group:List Key) (ct:Bool) (r:Rec):Rec:=if r.key∈group then (if ct then {r with ct:=true} else {r with az:=rev}) else r
def dZ(x:dT) (group:List Key) (ct:Bool):dT:={x with ao:=x.ao.map (cZ x.ae group ct)}
def aK(x:dT) (k:Key):Bool:=(aD x.ao k).isSome && decide ((aG x.ao k).az=x.ae)
def bT(val:Key→ByteArray) (x:dT) (k:Key):Int:=
 if aB k then (dX x.ah k).changed
 else if (aD x.ao k).isSome && (decide ((aG x.ao k).az=x.ae) || decide (val k=(aG x.ao k).value)) then (aG x.ao k).changed else x.ae
def eM(val:Key→ByteArray) (x:dT) (k:Key):ByteArray:=if aC k then val k else mK x k
/-! ### a request -/
structure ES where
 b:dT
 busy:List (Key × Value)
 cy:List Key
 e:Int
def ES.on(s:ES) (k:Key):Bool:=(cq s.busy k).isSome
def fK(s:ES) (k:Key):Bool:=aB k || ((s.on k && aC k) || aK s.b k)
mutual
noncomputable def oB(ab:List aJ) (val:Key→ByteArray):Nat→ES→Key→Option ES
 | 0,_,_=>none
 | f+1,s,k=>
  if s.e≠0∨aB k=true then some s
  else if aK s.b k then some s
  else if s.on k then (if aC k then some s else some {s with e:=43})
  else (dL ab val f {s with busy:=dH s.busy k (.bool true)} k 0).bind fun p=>
   (if p.2 then jr ab val f p.1 k [] [] else some p.1).bind fun s3=>some {s3 with busy:=kQ s3.busy k}
noncomputable def dL(ab:List aJ) (val:Key→ByteArray):Nat→ES→Key→Nat→Option (ES × Bool)
 | 0,_,_,_=>none
 | f+1,s,k,at_=>
  if s.e≠0 then some (s,false)
  else if !(aD s.b.ao k).isSome || (aG s.b.ao k).ct then some (s,true)
  else if (aG s.b.ao k).az=s.b.ae then some (s,false)
  else
   match (cC s.b.ao (aF s.b.ao s.b.ae k))[at_]? with
   | none=>some ({s with b:=dZ s.b (aF s.b.ao s.b.ae k) false},false)
   | some c=>
    if fK s c.read=false then (oB ab val f s c.read).bind fun s'=>dL ab val f s' k at_
    else if (aG s.b.ao c.ft).az<bT val s.b c.read then
     some ((if aC k then {s with b:=dZ s.b (aF s.b.ao s.b.ae k) true} else s),true)
    else dL ab val f s k (at_+1)
noncomputable def jr(ab:List aJ) (val:Key→ByteArray):Nat→ES→Key→List Key→List ByteArray→Option ES
 | 0,_,_,_,_=>none
 | f+1,s,k,reads,ak=>
  if s.e≠0 then some s
  else if (bf ab k ak).done then
   (if !(aD s.b.ao k).isSome && decide (4000≤s.b.ao.length) then some {s with e:=45}
   else some {s with b:={s.b with ao:=gW s.b.ao (ek s.b k (bf ab k ak).value reads)},cy:=s.cy++[k]})
  else (oB ab val f s (bf ab k ak).ask).bind fun s'=>
   if s'.e=0 then jr ab val f s' k (reads++[(bf ab k ak).ask]) (ak++[eM val s'.b (bf ab k ak).ask]) else jr ab val f s' k reads ak
end
/-! ### a solver, as one thing -/
def As.mD(P:Program) (ST:Nat) (ab:List aJ) (x:dT) (D:SD):As where
 fp y:=y=D.s∨y=D.m
 ok Z w:=D.s≠D.m∧cI w D.s ST (D.cells x)∧(∃ml,bd ab x.ah ml∧KM Key.val w D.m ml)∧(D.F P ab x).p Z w
 lt:=fun⟨_,h1,⟨_,_,h2⟩,_⟩ y hy=>by rcases hy with rfl | rfl;exact h1.lt;exact h2.lt
 mono hZ:=fun⟨h0,h1,h2,h3⟩=>⟨h0,h1,h2,(D.F P ab x).mono hZ h3⟩
 st:=fun hs hc ⟨h0,h1,⟨ml,h2,h3⟩,h4⟩=>⟨h0,(As.blk D.s ST (D.cells x)).st (Z:=fun _=>False) hs (fun y hy hl=>hc y (.inl (.inl (by rcases hy with hy | hy;exact hy;exact hy.elim))) hl) h1,
  ⟨ml,h2,(As.map Key.val D.m ml).st (Z:=fun _=>False) hs (fun y hy hl=>hc y (.inl (.inr (by rcases hy with hy | hy;exact hy;exact hy.elim))) hl) h3⟩,(D.F P ab x).st hs (fun y hy hl=>hc y (.inr hy) hl) h4⟩
section
variable {w0 w w':World}{M Z:Nat→Prop}{l:List As}{A B C:As}
theorem St.split(h:St w0 M Z w (C::l)) (hA:A.ok Z w) (hB:B.ok Z w) (hfA:∀x,A.fp x→C.fp x) (hfB:∀x,B.fp x→C.fp x) (hd:∀x,A.fp x→¬B.fp x):St w0 M Z w (A::B::l):=by
 obtain⟨SM,R1⟩:=List.pairwise_cons.1 h.wN;refine⟨h.cT,h.mx,?_,?_,?_,?_⟩
 ·
  intro D hD x hx hz;simp only [List.mem_cons] at hD
  rcases hD with rfl | rfl | hD
  ·
   exact h.pO C (by simp) x (hfA x hx) hz
  ·
   exact h.pO C (by simp) x (hfB x hx) hz
  exact h.pO D (by simp [hD]) x hx hz
 ·
  intro D hD x hx;simp only [List.mem_cons] at hD
  rcases hD with rfl | rfl | hD
  ·
   exact h.rE C (by simp) x (hfA x hx)
  ·
   exact h.rE C (by simp) x (hfB x hx)
  exact h.rE D (by simp [hD]) x hx
 ·
  simp_all
 intro D hD;simp only [List.mem_cons] at hD
 rcases hD with rfl | rfl | hD
 ·
  exact hA
 ·
  exact hB
 exact h.ok D (by simp [hD])
theorem St.join(h:St w0 M Z w (A::B::l)) (hC:C.ok Z w) (hf:∀x,C.fp x→A.fp x∨B.fp x):St w0 M Z w (C::l):=by
 obtain⟨SM,R1⟩:=List.pairwise_cons.1 h.wN;obtain⟨hd3,hd4⟩:=List.pairwise_cons.1 R1;refine⟨h.cT,h.mx,?_,?_,?_,?_⟩
 ·
  intro D hD x hx hz;simp only [List.mem_cons] at hD
  rcases hD with rfl | hD
  ·
   rcases hf x hx with h1 | h1
   ·
    exact h.pO A (by simp) x h1 hz
   exact h.pO B (by simp) x h1 hz
  exact h.pO D (by simp [hD]) x hx hz
 ·
  intro D hD x hx;simp only [List.mem_cons] at hD
  rcases hD with rfl | hD
  ·
   rcases hf x hx with h1 | h1
   ·
    exact h.rE A (by simp) x h1
   exact h.rE B (by simp) x h1
  exact h.rE D (by simp [hD]) x hx
 ·
  grind [List.pairwise_cons]
 intro D hD;simp only [List.mem_cons] at hD
 rcases hD with rfl | hD
 ·
  exact hC
 exact h.ok D (by simp [hD])
theorem St.one(h:St w0 M Z w l) (hA:A∈l):St w (rF [A]) Z w [A] where
 cT:=je.refl _ _
 mx:=h.mx
 pO D hD:=by simp at hD;subst hD;exact h.pO _ hA
 rE D hD x hx:=.inl ⟨D,hD,hx⟩
 wN:=by simp
 ok D hD:=by simp at hD;subst hD;exact h.ok _ hA
theorem St.D0(h:St w0 M Z w l) (hA:A∈l) (h':St w (rF [A]) Z w' [A]):St w0 M Z w' l:=
 h.same hA (h'.cT.mono fun x _ ⟨D,hD,hx⟩=>by simp at hD;subst hD;exact hx) (h'.ok A (by simp))
theorem Ma(hA:A∈l) {x:Nat}(hx:rF [A] x):rF l x:=by obtain⟨D,hD,hx⟩:=hx;simp at hD;subst hD;exact⟨D,hA,hx⟩
end
theorem As.gv{P:Program}{ST:Nat}{ab:List aJ}{x:dT}{D:SD}{Z:Nat→Prop}{w:World}(h:(As.mD P ST ab x D).ok Z w):(D.F P ab x).p Z w:=h.2.2.2
theorem As.gvb{P:Program}{ST:Nat}{ab:List aJ}{x:dT}{D:SD}{Z:Nat→Prop}{w:World}(h:(As.mD P ST ab x D).ok Z w):cI w D.s ST (D.cells x):=h.2.1
structure EA where
 (a1 a2 a3:Option Addr) (n1 c1 n2 c2 n3 c3:Nat)
def EA.cells(E:EA) (sb bb:Nat) (s:ES):List Value:=
 [.pointer (some ⟨sb,0,none⟩),.int .i64 s.b.ae,.slice E.a1 E.n1 E.c1,.slice E.a2 E.n2 E.c2,.map (some bb),.slice E.a3 E.n3 E.c3,.int .i64 s.e]
theorem Kf{x:dT}{group:List Key}{ct:Bool}{i:Nat}(h:i<x.ao.length) (hi:i≤x.ao.length):(((x.ao.take i).map (cZ x.ae group ct))++x.ao.drop i).set i (cZ x.ae group ct x.ao[i])=((x.ao.take (i+1)).map (cZ x.ae group ct))++x.ao.drop (i+1):=by
 rw [List.set_append_right _ _ (by simp;omega)];simp only [List.length_map,List.length_take,Nat.min_eq_left hi,Nat.sub_self]
 grind [List.drop_eq_getElem_cons]
end Go.Rc

namespace Go.Rc
open Go
structure Good (ab:List aJ) (aH:List dE) (s:ES):Prop where
 aH:s.b.ah=aH
 len:s.b.ao.length≤4000
 key:∀r∈s.b.ao,gH ab r.key
 JH:∀r∈s.b.ao,r.reads.length≤4000∧∀a∈r.reads,gH ab a
 ou:(s.busy.map (·.1)).Nodup
 busy:∀k,cq s.busy k=none∨cq s.busy k=some (.bool true)
structure Mb (s s':ES):Prop where
 cy:s.cy.length≤s'.cy.length
 rev:s'.b.ae=s.b.ae
theorem Mb.refl(s:ES):Mb s s:=⟨Nat.le_refl _,rfl⟩
theorem Mb.trans{s t u:ES}(h:Mb s t) (h':Mb t u):Mb s u:=⟨Nat.le_trans h.cy h'.cy,h'.rev.trans h.rev⟩
section
variable {ab:List aJ}{aH:List dE}{s:ES}{k:Key}
theorem Good.on(h:Good ab aH s) (k:Key):Good ab aH {s with busy:=dH s.busy k (.bool true)}:=
 {h with ou:=iM h.ou _ _,busy:=fun k'=>by show cq (dH s.busy k (.bool true)) k'=none∨_;rw [eR];split;exact .inr rfl;exact h.busy k'}
theorem Good.off(h:Good ab aH s) (k:Key):Good ab aH {s with busy:=kQ s.busy k}:=
 {h with ou:=by grind [Pj,ou],busy:=fun k'=>by show cq (kQ s.busy k) k'=none∨_;rw [Hh h.ou];split;exact .inl rfl;exact h.busy k'}
theorem Good.err(h:Good ab aH s) (e:Int):Good ab aH {s with e:=e}:={h with}
theorem dU(rev:Int) (g:List Key) (d:Bool) (r:Rec):(cZ rev g d r).key=r.key∧(cZ rev g d r).reads=r.reads:=by unfold cZ;grind
theorem Good.mark(h:Good ab aH s) (g:List Key) (d:Bool):Good ab aH {s with b:=dZ s.b g d}:=
 {h with
  len:=by show((s.b.ao.map _).length≤4000);rw [List.length_map];exact h.len
  key:=fun r hr=>by obtain⟨q,hq,rfl⟩:=List.mem_map.1 hr;rw [(dU _ _ _ q).1];exact h.key q hq
  JH:=fun r hr=>by obtain⟨q,hq,rfl⟩:=List.mem_map.1 hr;rw [(dU _ _ _ q).2];exact h.JH q hq}
theorem Mb.mark(g:List Key) (d:Bool):Mb s {s with b:=dZ s.b g d}:=⟨Nat.le_refl _,rfl⟩
theorem jb(r:Rec):∀(l:List Rec) (b:Bool) (x:Rec),x∈gM r l b→x=r∨x∈l:=by
 intro l
 induction l with
 | nil=>grind [gM]
 | cons y ys ih=>grind [gM]
theorem HH(r:Rec):∀(l:List Rec) (b:Bool),(gM r l b).length+(l.filter fun x=>decide (cE x.key r.key=0)).length=l.length+(if b then 0 else 1):=by
 intro l
 induction l with
 | nil=>intro b;cases b <;> simp [gM]
 | cons y ys ih=>
  intro b;have h1:=ih (b || decide (0≤cE y.key r.key));simp only [gM,List.length_append,List.length_cons]
  grind
theorem PO{l:List Rec}{r:Rec}(h:(aD l r.key).isSome=true) (hc:cE r.key r.key=0):(gW l r).length≤l.length:=by
 have h1:=HH r l false;obtain⟨x,hx⟩:=Option.isSome_iff_exists.1 h;have h2:=List.mem_of_find?_eq_some hx;have h3:=List.find?_some hx
 simp at h3
 have h4:0<(l.filter fun x=>decide (cE x.key r.key=0)).length:=List.length_pos_of_mem (List.mem_filter.2 ⟨h2,by rw [h3];simp [hc]⟩)
 unfold gW
 simp at h1
 omega
theorem D1:∀l:List UInt8,Lib.compareBytes l l=0
 | []=>by simp [Lib.compareBytes]
 | a::r=>by simp [Lib.compareBytes,D1 r]
theorem jc(k:Key):cE k k=0:=by unfold cE;simp [D1]
theorem Good.put(h:Good ab aH s) {r:Rec}{cy:List Key}(hk:gH ab r.key) (hr:r.reads.length≤4000∧∀a∈r.reads,gH ab a) (h4:(!(aD s.b.ao r.key).isSome && decide (4000≤s.b.ao.length))=false) :
  Good ab aH {s with b:={s.b with ao:=gW s.b.ao r},cy:=cy}:=
 {h with
  len:=by grind [gW,len,PO,jc,xa]
  key:=fun x hx=>by rcases jb r _ _ x hx with rfl | hx;exact hk;exact h.key x hx
  JH:=fun x hx=>by rcases jb r _ _ x hx with rfl | hx;exact hr;exact h.JH x hx}
def jL(ab:List aJ) (k:Key) (n:Nat):Prop:=∃i,i<ab.length∧k=aS ab (i:Int)∧n≤dY ab i
theorem gH.j7(h:gH ab k) (hi:aB k=false):jL ab k 0:=by
 cases h with
 | cell h=>grind [dj]
 | gx h lZ=>exact⟨_,h,rfl,Nat.zero_le _⟩
theorem jL.next(hR:ay ab) {ak:List ByteArray}(h:jL ab k ak.length) (hd:(bf ab k ak).done=false):jL ab k (ak.length+1)∧gH ab (bf ab k ak).ask:=by
 obtain⟨i,hi,rfl,hn⟩:=h
 have lZ:i≤99:=by have:=hR.len;omega
 rw [il hi lZ] at hd ⊢
 rcases Nat.lt_or_ge ak.length (dY ab i) with ee | rK
 ·
  obtain⟨a,h1,h2,_⟩:=fJ hR hi ee;rw [h1];exact⟨⟨i,hi,rfl,ee⟩,h2.Nk hR⟩
 grind [jy]
theorem jL.le(hR:ay ab) {n:Nat}(h:jL ab k n):n≤6:=by obtain⟨i,hi,_,hn⟩:=h;have:=l7 hR hi;omega
theorem jL.not(hR:ay ab) {n:Nat}(h:jL ab k n):gY k∧aB k=false:=by
 obtain⟨i,hi,rfl,hn⟩:=h;grind [ay.len,iK,dI]
theorem jL.Nk(hR:ay ab) {n:Nat}(h:jL ab k n):gH ab k:=by obtain⟨i,hi,rfl,_⟩:=h;have:=hR.len;exact .gx hi (by omega)
end
section
variable {ab:List aJ}{val:Key→ByteArray}{aH:List dE}
def UpG(ab:List aJ) (val:Key→ByteArray) (aH:List dE) (f:Nat):Prop:=∀s k s',oB ab val f s k=some s'→Good ab aH s→gH ab k→Good ab aH s'∧Mb s s'
def ChG(ab:List aJ) (val:Key→ByteArray) (aH:List dE) (f:Nat):Prop:=∀s k n s' b,dL ab val f s k n=some (s',b)→Good ab aH s→Good ab aH s'∧Mb s s'
def RuG(ab:List aJ) (val:Key→ByteArray) (aH:List dE) (f:Nat):Prop:=∀s k reads ak s',jr ab val f s k reads ak=some s'→Good ab aH s→jL ab k ak.length→reads.length=ak.length→(∀a∈reads,gH ab a)→Good ab aH s'∧Mb s s'
theorem i6{ab:List aJ}{aH:List dE}{s:ES}(h:Good ab aH s) {group:List Key}{n:Nat}{c:tI}(hc:(cC s.b.ao group)[n]?=some c):gH ab c.read:=by
 have h1:=List.mem_of_getElem? hc;obtain⟨m,hm,h2⟩:=List.mem_flatMap.1 h1;obtain⟨a,ha,rfl⟩:=List.mem_map.1 h2;have h3:=(List.mem_filter.1 ha).1
 show gH ab a
 unfold aG at h3
 cases hf:aD s.b.ao m with
 | none=>rw [hf] at h3;simp [qN] at h3
 | some r=>rw [hf] at h3;exact(h.JH r (List.mem_of_find?_eq_some hf)).2 a h3
theorem qh(l:List Rec) (rev:Int) (k:Key):(aF l rev k).length≤l.length+1:=by grind [aF,xo,ur]
theorem Fj{ab:List aJ}{aH:List dE}{s:ES}(h:Good ab aH s) {group:List Key}(hg:group.length≤4001):∀i,((group.take i).flatMap fun m=>eB group m (aG s.b.ao m).reads).length≤100000000:=by
 intro i
 have h1:∀l:List Key,(l.flatMap fun m=>eB group m (aG s.b.ao m).reads).length≤l.length*4000:=by
  intro l
  induction l with
  | nil=>simp
  | cons m r ih=>
   simp only [List.flatMap_cons,List.length_append,List.length_cons];have h2:=mV group m (aG s.b.ao m).reads
   have h3:(aG s.b.ao m).reads.length≤4000:=by
    unfold aG
    cases hf:aD s.b.ao m with
    | none=>simp [qN]
    | some r=>exact(h.JH r (List.mem_of_find?_eq_some hf)).1
   rw [Nat.add_mul]
   omega
 grind
theorem Fk{ab:List aJ}{aH:List dE}{s:ES}(h:Good ab aH s) {group:List Key}(hg:group.length≤4001):(cC s.b.ao group).length≤100000000:=by
 have h1:=Fj h hg group.length;rw [List.take_of_length_le (Nat.le_refl _)] at h1;exact h1
theorem dr(hR:ay ab):∀f,UpG ab val aH f∧ChG ab val aH f∧RuG ab val aH f:=by
 intro f
 induction f with
 | zero=>exact⟨fun s k s' h=>by simp [oB] at h,fun s k n s' b h=>by simp [dL] at h,fun s k r a s' h=>by simp [jr] at h⟩
 | succ f ih=>
  obtain⟨Nt,GS,JI⟩:=ih;refine⟨?_,?_,?_⟩
  ·
   intro s k s' h hg hk
   unfold oB at h
   split at h
   ·
    cases h;exact⟨hg,.refl _⟩
   rename_i he
   split at h
   ·
    cases h;exact⟨hg,.refl _⟩
   split at h
   ·
    split at h <;> cases h
    ·
     exact⟨hg,.refl _⟩
    exact⟨hg.err _,⟨Nat.le_refl _,rfl⟩⟩
   obtain⟨p,hp,h⟩:=Option.bind_eq_some_iff.1 h;obtain⟨t,ht,h⟩:=Option.bind_eq_some_iff.1 h
   cases h
   obtain⟨h1,h2⟩:=GS _ _ _ p.1 p.2 (by rw [hp]) (hg.on k);have h2':Mb s p.1:=⟨h2.cy,h2.rev⟩
   have h3:Good ab aH t∧Mb s t:=by
    split at ht
    ·
     obtain⟨h4,h5⟩:=JI _ _ _ _ _ ht h1 (hk.j7 (by simp at he;exact he.2)) rfl (fun a ha=>by cases ha);exact⟨h4,h2'.trans h5⟩
    cases ht;exact⟨h1,h2'⟩
   exact⟨h3.1.off k,⟨h3.2.cy,h3.2.rev⟩⟩
  ·
   intro s k n s' b h hg
   unfold dL at h
   split at h
   ·
    cases h;exact⟨hg,.refl _⟩
   split at h
   ·
    cases h;exact⟨hg,.refl _⟩
   split at h
   ·
    cases h;exact⟨hg,.refl _⟩
   split at h
   ·
    cases h;exact⟨hg.mark _ _,.mark _ _⟩
   rename_i c hc
   split at h
   ·
    obtain⟨t,ht,h⟩:=Option.bind_eq_some_iff.1 h;obtain⟨h1,h2⟩:=Nt _ _ _ ht hg (i6 hg hc);obtain⟨h3,h4⟩:=GS _ _ _ _ _ h h1;exact⟨h3,h2.trans h4⟩
   split at h
   ·
    split at h <;> cases h
    ·
     exact⟨hg.mark _ _,.mark _ _⟩
    exact⟨hg,.refl _⟩
   exact GS _ _ _ _ _ h hg
  intro s k reads ak s' h hg ha hl hr
  unfold jr at h
  split at h
  ·
   cases h;exact⟨hg,.refl _⟩
  split at h
  ·
   split at h
   ·
    cases h;exact⟨hg.err _,⟨Nat.le_refl _,rfl⟩⟩
   rename_i h4
   cases h
   have h6:=ha.le hR;exact⟨hg.put (r:=ek s.b k (bf ab k ak).value reads) (ha.Nk hR) ⟨by show reads.length≤4000;omega,hr⟩ (by show(!(aD s.b.ao k).isSome && _)=false;simpa using h4),⟨by simp,rfl⟩⟩
  rename_i hd
  obtain⟨t,ht,h⟩:=Option.bind_eq_some_iff.1 h;have hn:=ha.next hR (by simpa using hd);obtain⟨h1,h2⟩:=Nt _ _ _ ht hg hn.2
  split at h
  ·
   obtain⟨h3,h4⟩:=JI _ _ _ _ _ h h1 (by simpa using hn.1) (by simp [hl]) (fun a ha=>by grind);exact⟨h3,h2.trans h4⟩
  obtain⟨h3,h4⟩:=JI _ _ _ _ _ h h1 ha hl hr;exact⟨h3,h2.trans h4⟩
end
end Go.Rc

