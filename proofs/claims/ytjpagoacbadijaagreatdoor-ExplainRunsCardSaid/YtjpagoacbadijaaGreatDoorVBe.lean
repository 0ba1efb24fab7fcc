/- Base of the proof: frames, memory, ownership, and the plain meaning of rule systems. Conditions: as each lemma says. -/
import Derived.Test.YtjpagoacbadijaaGreatDoorVBd
import Derived.Lib.IfaceEq
import Derived.Lib.BufferWrite
import Derived.Lib.UnsafeStr
import Derived.Laws.MakeOwn
import Derived.Test.YtjpagoacbadijaaGreatDoorVBc
set_option linter.all false
namespace Go.Rc
open Go
theorem aV.Gh{w w':World}(h:RowKit.Below w.heap.size w w') (hd:w.drawn≤w'.drawn):aV [] w w':=⟨h.os,h.tape,h.output,h.size,hd,fun k hk _=>h.block k hk⟩
theorem uk(w:World) (p:Addr) (n:Nat):(w.freeze p n).drawn=w.drawn:=by grind [World.freeze]
section
variable {P:Program}{n:Nat}{kv:KV}{w w':World}{K:KV→World→Prop}{d:Tmp}{ty:TypeId}{pos:String}{af:Array Edge}{g:Option (Nat × Bool)}{T U:TypeId}{op:Op}{v:Value}{x y:Operand}
theorem OX.val(hs:bO op=false) (hd:Nat.blt d n=true) (hk:known kv op=true) (hr:(execOp (lX kv) ⟨some d,op,ty,pos,af,g⟩).run P w=.ok (.value v) w') (h:K ((d,v)::kv) w'):OX P ⟨some d,op,ty,pos,af,g⟩ n kv w K:=⟨hs,hd,hk,by rw [hr];exact h⟩
theorem PV.Oe{de:TypeDesc}(hT:P.underlying T=some de) (hd:∀ms,de≠.interface ms) (hx:ev kv x=some v):PV P (.makeInterface T x) ty kv w (.iface T v):=
 ⟨rfl,by simp [known,opers,hx],fun _ _ _ _=>by
  simp only [execOp,aK hx,Instr.makeInterface,Sem.run_bind,run_underlying hT,Result.andThen_ok]
  simp_all⟩
theorem PV.VU{ms:Array (String × TypeId)}{tx:TypeId}{q:IntKind}{a b:Int}(hT:P.underlying T=some (.interface ms)) (hc:(P.info? tx).map (·.comparable)=some true) (Nj:P.underlying tx=some (.int q)) (hx:ev kv x=some (.iface tx (.int .i64 a))) (hy:ev kv y=some (.iface tx (.int .i64 b))):PV P (.binOp .eql T x y U) ty kv w (.bool (a == b)):=
 ⟨rfl,by simp [known,opers,hx,hy],fun _ _ _ _=>by
  have h:=Lib.run_eql_iface_int w (k:=.i64) a b hT hc Nj;simp only [execOp,aK hx,aK hy]
  simp [eqGuard,h]⟩
theorem OX.abj{r:Value}(hd:Nat.blt d n=true) {u v:Value}(hx:ev kv x=some u) (hy:ev kv y=some v) (hr:(Instr.makeSlice T u v).run P w=.ok r w') (h:K ((d,r)::kv) w'):OX P ⟨some d,.makeSlice T x y,ty,pos,af,g⟩ n kv w K:=
 OX.val rfl hd (by simp [known,opers,hx,hy]) (by simp only [execOp,aK hx,aK hy,Sem.run_bind,hr,Result.andThen_ok];rfl) h
theorem OX.abk{r u v:Value}(hd:Nat.blt d n=true) (hx:ev kv x=some u) (hy:ev kv y=some v) (hr:(Builtin.copy_ #[T,U] ty #[u,v]).run P w=.ok r w') (h:K ((d,r)::kv) w'):OX P ⟨some d,.call {callee:=.builtin .copy,args:=#[x,y],argTypes:=#[T,U]},ty,pos,af,g⟩ n kv w K:=
 OX.val rfl hd (by simp [known,opers,hx,hy]) (by simp [execOp,aK hx,aK hy,resolve,invoke,builtin,hr]) h
theorem OX.ahr{r u v:Value}(hd:Nat.blt d n=true) (hx:ev kv x=some u) (hy:ev kv y=some v) (hr:(Builtin.unsafeString_ #[T,U] ty #[u,v]).run P w=.ok r w') (h:K ((d,r)::kv) w'):OX P ⟨some d,.call {callee:=.builtin .unsafeString,args:=#[x,y],argTypes:=#[T,U]},ty,pos,af,g⟩ n kv w K:=
 OX.val rfl hd (by simp [known,opers,hx,hy]) (by simp [execOp,aK hx,aK hy,resolve,invoke,builtin,hr]) h
end
theorem DC{P:Program}{T S e pt it ty1 ty2:TypeId}{i:TypeInfo}(hT:P.underlying T=some (.slice e)) (hi:P.info? e=some i) (hz:i.zero=some (.int .u8 0)) (h1:i.size=1) (hb:i.bytes=1) (hp:P.underlying pt=some (.pointer e)) {s:ByteArray}(h0:s.size≠0) (hs:s.size≤1000) (w:World) :
  ∃w1 w2 w3:World,(Instr.makeSlice T (.int .i64 (s.size:Int)) (.int .i64 (s.size:Int))).run P w=.ok (.slice (some ⟨w.heap.size,0,none⟩) s.size s.size) w1∧
   (Builtin.copy_ #[T,S] ty1 #[.slice (some ⟨w.heap.size,0,none⟩) s.size s.size,.string s]).run P w1=.ok (goInt s.size) w2∧
   (Builtin.unsafeString_ #[pt,it] ty2 #[.pointer (some ⟨w.heap.size,0,none⟩),.int .i64 (s.size:Int)]).run P w2=.ok (.string s) w3∧aV [] w w3:=by
 have abl:(P.info? e).map (·.size)=some 1:=by rw [hi];simp [h1]
 have hco:P.cellsOf e=1:=by simp [Program.cellsOf,hi,h1]
 have Nk:(Lib.byteCells s.data.toList).length=s.size:=by rw [Lib.byteCells_length,← Lib.size_eq]
 have TG:=run_make (P:=P) w T e i (.int .u8 0) hT hi hz .i64 .i64 (s.size:Int) (s.size:Int) (by omega) (by omega) (by rw [hb];omega) (by omega)
 have hMs:(madeCells (Value.int .u8 0).cells (((s.size:Nat):Int).toNat*i.size)).size=s.size:=by rw [size_madeCells,h1];simp
 generalize madeCells (Value.int .u8 0).cells (((s.size:Nat):Int).toNat*i.size)=M at TG hMs
 rw [Int.toNat_natCast] at TG;have hcp:=Lib.run_copy_row_string (P:=P) (w.alloc (.cells M e)) T S ty1 e w.heap.size 0 s.size s.size s M e hT abl (heap_alloc_new w _) (Nat.le_refl _) (by omega)
 have hY:(M.toList.take 0++Lib.byteCells s.data.toList++M.toList.drop (0+s.size)).toArray=(Lib.byteCells s.data.toList).toArray:=by grind
 rw [hY] at hcp;have hg:((w.alloc (.cells M e)).setRow w.heap.size (Lib.byteCells s.data.toList).toArray).heap[w.heap.size]?=some (.cells (Lib.byteCells s.data.toList).toArray e (0,0)):=setRow_heap _ _ M _ e (0,0) (heap_alloc_new w _);have kV:s.data.toList≠[]:=fun h=>h0 (by rw [Lib.size_eq,h];rfl);have hus:=Lib.run_unsafeString_row (P:=P) ((w.alloc (.cells M e)).setRow w.heap.size (Lib.byteCells s.data.toList).toArray) pt it ty2 e hp hco w.heap.size s.size (by grind [World.shape?]) s.data.toList kV (by rw [← Lib.size_eq];omega) (by rw [← Lib.size_eq];omega)
  (fun j z hz=>Lib.cells_of_row hg s.size j _ (by grind [Lib.byteCells]))
 rw [← Lib.size_eq] at hus;have hB:RowKit.Below w.heap.size (w.alloc (.cells M e)) ((w.alloc (.cells M e)).setRow w.heap.size (Lib.byteCells s.data.toList).toArray):=⟨rfl,rfl,rfl,by simp [World.setRow],fun k hk=>setRow_other _ _ _ _ (by omega)⟩;refine⟨_,_,_,TG,hcp,hus,aV.Gh (Lib.below_freeze (((RowKit.Below.refl _ w).alloc (Nat.le_refl _) _).trans hB) (p:=⟨w.heap.size,0,none⟩) (Nat.le_refl _) _) ?_⟩;rw [uk];exact Nat.le_refl _
end Go.Rc

namespace Go.Rc
open Go
instance:Inhabited dy:=⟨⟨dn,⟨#[]⟩,0⟩⟩
def dP.row(x:dP) (a1:Option Addr) (n1 c1:Nat) (a2:Option Addr) (n2 c2:Nat):List Value:=[.int .i64 x.ae,.slice a1 n1 c1,.slice a2 n2 c2]
def jK(rev:Int) (l:List dy) (i:Nat):Bool:=
 !gN l[i]!.key || (!az l[i]!.key || ((decide (0<(i:Int)) && decide (0≤cv l[i - 1]!.key l[i]!.key)) || (decide (1073741824<(l[i]!.value.size:Int)) || (decide (l[i]!.changed<0) || decide (rev<l[i]!.changed)))))
def DD(rev:Int) (l:List dy):Prop:=∀i y,l[i]?=some y→jK rev l i=false
open Classical in
noncomputable def um(l:List Rec):Bool:=decide (qp l)
theorem Iy{l:List Rec}{b:Bool}(h:b=true↔qp l):b=um l:=by
 unfold um
 grind
def lH(x:dP):Prop:=DD x.ae x.ad∧(∀(i:Nat) (r:Rec),x.ak[i]?=some r→r.ax≤x.ae)∧0≤x.ae∧x.ae≤1073741824∧x.ad.length≤64∧qp x.ak
noncomputable def o8(x:dP):Bool:=decide (0≤x.ae) && (decide (x.ae≤1073741824) && (decide ((x.ad.length:Int)≤64) && um x.ak))
theorem wP(x:dP):o8 x=true↔0≤x.ae∧x.ae≤1073741824∧x.ad.length≤64∧qp x.ak:=by
 simp only [o8,um,Bool.and_eq_true,decide_eq_true_eq]
 grind
theorem PV.yU{P:Program}{kv:KV}{w:World}{T ty:TypeId}{f off:Nat}{fs:List Field}{fd:Field}(hu:P.underlying T=some (.struct fs.toArray)) (hf:fs[f]?=some fd) (ho:fd.offset=off) (h1:∀w,(isAgg fd.type).run P w=.ok false w)
  {x:Operand}{us:List Value}{v:Value}(hx:ev kv x=some (.agg us.toArray)) (hv:nth us off=some v):PV P (.field T x f) ty kv w v:=
 PV.Rl hu (by simpa using hf) ho h1 hx (by rw [← yy];exact hv)
end Go.Rc
namespace Go.Rc
open Go
def gT(k:Key):Prop:=k.kind<1∨22<k.kind
def aN(ab:List aG) (k:Key) (ah:List ByteArray):F9:=if k.kind=31∨k.kind=32 then dt ab k ah else ⟨true,⟨#[]⟩,dn⟩
def yn(n:Int):ByteArray:=if n=14 then ⟨#[48]⟩ else ⟨#[]⟩
def sY(k:Key):ByteArray:=if k.kind=32 then ⟨#[48]⟩ else if aA k then yn k.kind else ⟨#[]⟩
def js(ab:List aG) (k:Key):Bool:=gN k && ((decide (k.kind≠31) && decide (k.kind≠32)) || decide (aL ab (number k)=k))
def aH(l:List Rec) (k:Key):Rec:=(aB l k).getD se
def cJ(l:List Rec) (rev:Int) (k:Key):Bool:=(aB l k).isSome && (aA k && (decide ((aH l k).ax<rev) && !(aH l k).bS))
def nQ(x:dP) (k:Key):Bool:=az k || ((aB x.ak k).isSome && decide ((aH x.ak k).ax=x.ae))
def uo(x:dP) (k:Key):ByteArray:=if az k then (cZ x.ad k).value else if nQ x k then (aH x.ak k).value else ⟨#[]⟩
def dI(x:dP) (k:Key) (v:ByteArray) (reads:List Key):Rec:=
 ⟨k,v,reads,if (aB x.ak k).isSome && decide ((aH x.ak k).value=v) then (aH x.ak k).changed else x.ae,x.ae,1+(reads.length:Int),false⟩
end Go.Rc
namespace Go.Rc
open Go
open Classical in
noncomputable def gV(ab:List aG) (x:dP) (goals:List Key):Int:=
 if ¬aw ab then 41 else if ¬lH x then 42 else if 32<goals.length then 3 else if goals.all (js ab) then 0 else 40
end Go.Rc
namespace Go.Rc
open Go
structure sg where
 eY:Key
 read:Key
 deriving DecidableEq
def sg.cells(x:sg):List Value:=[.int .i64 x.eY.kind,.string x.eY.text,.int .i64 x.read.kind,.string x.read.text]
def dW(group:List Key) (m:Key) (l:List Key):List sg:=(l.filter fun x=>!decide (x∈group)).map fun x=>⟨m,x⟩
def bW(l:List Rec) (group:List Key):List sg:=group.flatMap fun m=>dW group m (aH l m).reads
theorem lA{group:List Key}{m:Key}{l:List Key}{j:Nat}(h:j<l.length):dW group m (l.take (j+1))=if l[j]∈group then dW group m (l.take j) else dW group m (l.take j)++[⟨m,l[j]⟩]:=by
 rw [List.take_succ_eq_append_getElem h];simp only [dW,List.filter_append,List.map_append]
 grind
theorem mh(group:List Key) (m:Key) (l:List Key):(dW group m l).length≤l.length:=by grind [dW]
end Go.Rc
namespace Go.Rc
end Go.Rc

namespace Go.Rc
open Go
variable {E EK ER EI ES EF base:Nat}{w w':World}{a:Option Addr}{n c:Nat}{S:List Nat}
structure et where
 key:Key
 running:Bool
 at_:Int
 reads:List Key
 ah:List ByteArray
 deriving DecidableEq
def et.row(x:et) (a1:Option Addr) (n1 c1:Nat) (a2:Option Addr) (n2 c2:Nat):List Value:=[.int .i64 x.key.kind,.string x.key.text,.bool x.running,.int .i64 x.at_,.slice a1 n1 c1,.slice a2 n2 c2]
/-! the plain meaning -/
def kC(l:List et) (k:Key):Bool:=l.any fun f=>decide (f.key=k)
def gu(x:dP) (l:List et) (k:Key):Bool:=!(az k || kC l k) && (!(aB x.ak k).isSome || decide ((aH x.ak k).ax≠x.ae))
def dH(x:dP) (l others:List et) (k:Key):Int:=
 if !aA k && kC l k then 3 else if !gu x l k then 0 else if !kC others k then 1 else if aA k then 0 else 2
end Go.Rc
namespace Go.Rc
open Go
variable {EA ERu:Nat}{w w':World}{a:Option Addr}{n c base:Nat}{S:List Nat}
def aG.row(x:aG) (a:Option Addr) (n c:Nat):List Value:=[.bool x.ring,.slice a n c,.int .i64 x.final,.int .i64 x.c]
theorem aG.one(x:aG) (a:Option Addr) (n c:Nat):∀u∈x.row a n c,u.oneCell'=true:=by simp [aG.row,Value.oneCell']
end Go.Rc

namespace Go.Rc
open Go
def RR.key:RR Key:=RR.flat Key.cells
def RR.str:RR ByteArray:=RR.flat fun s=>[.string s]
def RR.ask:RR Ask:=RR.flat Ask.cells
def RR.aF:RR dy:=RR.flat dy.cells
def RR.LM:RR sg:=RR.flat sg.cells
def RR.int:RR Int:=RR.flat fun n=>[.int .i64 n]
def RR.gF:RR aG where
 r Z w x row:=FX Z w x row
 mono hZ h:=by obtain⟨a,n,c,h1,h2⟩:=h;exact⟨a,n,c,h1,h2.mono (fun b hb _=>hZ b hb) fun _ _ h=>h⟩
 st hs hc h:=by obtain⟨a,n,c,h1,h2⟩:=h;exact⟨a,n,c,h1,SR.st hs hc (fun _ _ h=>h) h2⟩
 cut h:=by obtain⟨a,n,c,h1,h2⟩:=h;exact⟨a,n,c,h1,h2.mono (fun b hb dZ=>⟨hb,dZ⟩) fun _ _ h=>h⟩
def RR.fT:RR Rec where
 r Z w x row:=∃a n c,row=x.row a n c∧Rd RR.key 2 Z w a n c x.reads∧x.reads.length≤4000
 mono hZ h:=by obtain⟨a,n,c,h1,h2,h3⟩:=h;exact⟨a,n,c,h1,h2.mono hZ,h3⟩
 st hs hc h:=by obtain⟨a,n,c,h1,h2,h3⟩:=h;exact⟨a,n,c,h1,h2.st hs hc,h3⟩
 cut h:=by grind [Rd.cut]
def RR.pT:RR et where
 r Z w x row:=∃a1 n1 c1 a2 n2 c2,row=x.row a1 n1 c1 a2 n2 c2∧Rd RR.key 2 Z w a1 n1 c1 x.reads∧Rd RR.str 1 Z w a2 n2 c2 x.ah∧x.reads.length≤4000∧x.ah.length≤4000
 mono hZ h:=by obtain⟨a,n,c,a2,n2,c2,h1,h2,h3,h4⟩:=h;exact⟨a,n,c,a2,n2,c2,h1,h2.mono hZ,h3.mono hZ,h4⟩
 st hs hc h:=by obtain⟨a,n,c,a2,n2,c2,h1,h2,h3,h4⟩:=h;exact⟨a,n,c,a2,n2,c2,h1,h2.st hs hc,h3.st hs hc,h4⟩
 cut h:=by grind [Rd.cut]
end Go.Rc

namespace Go.Rc
open Go
/-! ### numbers and their texts -/
theorem yV:∀(u:Nat) (n:Nat) (rest:List UInt8),decFrom (Lib.decDigits u++rest) (n:Int)=decFrom rest ((n*10 ^ Lib.nDigits u+u:Nat):Int):=by
 intro u
 induction u using Nat.strongRecOn with
 | _ u ih=>
  intro n rest
  by_cases h:u<10
  ·
   rw [Lib.decDigits_one h,Lib.nDigits_small h]
   have e:(UInt8.ofNat (48+u)).toNat=48+u:=by rw [UInt8.toNat_ofNat'];omega
   simp only [List.cons_append,List.nil_append,decFrom,e]
   grind
  rw [Lib.decDigits,dif_neg h,Lib.nDigits_big h,List.append_assoc,ih (u / 10) (by omega)]
  have e:(UInt8.ofNat (48+u % 10)).toNat=48+u % 10:=by rw [UInt8.toNat_ofNat'];omega
  simp only [List.cons_append,List.nil_append,decFrom,e]
  grind
theorem yW:∀u:Nat,∃d r,Lib.decDigits u=d::r∧(0<u→d≠48):=by
 intro u
 induction u using Nat.strongRecOn with
 | _ u ih=>
  by_cases h:u<10
  ·
   refine⟨_,[],Lib.decDigits_one h,fun hu e=>?_⟩
   have:=congrArg UInt8.toNat e
   rw [UInt8.toNat_ofNat'] at this
   grind
  obtain⟨d,r,h1,h2⟩:=ih (u / 10) (by omega);exact⟨d,r++[UInt8.ofNat (48+u % 10)],by rw [Lib.decDigits,dif_neg h,h1];rfl,fun _=>h2 (by omega)⟩
theorem yX:∀(k u:Nat),u<10 ^ (k+1)→Lib.nDigits u≤k+1
 | 0,u,h=>by grind [Lib.nDigits_small]
 | k+1,u,h=>by
  by_cases h1:u<10
  ·
   rw [Lib.nDigits_small h1];omega
  rw [Lib.nDigits_big h1]
  have:=yX k (u / 10) (by rw [Nat.pow_succ] at h;omega)
  omega
theorem mi{n:Nat}(h:n<1000000000):fb (itoa (n:Int))=n:=by
 have e:Lib.itoa (n:Int)=Lib.decDigits n:=by unfold Lib.itoa;rw [if_neg (by omega)];rfl
 have hl:(Lib.decDigits n).length≤9:=by rw [Lib.decDigits_length];exact yX 8 n h
 have hp:1≤(Lib.decDigits n).length:=by grind [Lib.decDigits_length,Lib.nDigits_pos]
 have hs:(itoa (n:Int)).size=(Lib.decDigits n).length:=by grind [itoa,ByteArray.size]
 have hd:(itoa (n:Int)).data.toList=Lib.decDigits n:=by unfold itoa;rw [e]
 unfold fb
 rw [if_neg]
 ·
  rw [hd,← List.append_nil (Lib.decDigits n)]
  have:=yV n 0 []
  simp only [Nat.zero_mul,Nat.zero_add] at this;exact this
 rw [hs,hd];rintro(h1 | h1 | ⟨h1,h2⟩)
 ·
  omega
 ·
  omega
 obtain⟨d,r,h3,h4⟩:=yW n;rw [h3] at h1
 simp at h1
 by_cases h0:0<n
 ·
  exact h4 h0 h1
 grind [Lib.decDigits_one]
theorem gA{n:Nat}(h:n≤65535):dE (itoa (n:Int))=n:=by
 unfold dE
 rw [mi (by omega),if_neg (by omega)]
 rfl
theorem Gi{m n:Nat}(hm:m<1000000000) (hn:n<1000000000) (h:itoa (m:Int)=itoa (n:Int)):m=n:=by grind [mi]
/-! ### keys -/
theorem dw{ab:List aG}{i:Nat}(hi:i<ab.length) (lB:i≤99):number (aL ab (i:Int))=i:=by
 have hk:aL ab (i:Int)=⟨if aD ab i then 32 else 31,itoa i⟩:=by unfold aL;rw [if_neg (by omega)];rfl
 rw [hk]
 unfold number
 simp only
 rw [mi (by omega),if_pos]
 split <;> omega
theorem fK{ab:List aG}{i:Nat}(hi:i<ab.length) (lB:i≤99):(aL ab (i:Int)).kind=if aD ab i then 32 else 31:=by
 unfold aL;rw [if_neg (by omega)];rfl
theorem eh{ab:List aG}{i:Nat}(hi:i<ab.length) (lB:i≤99):az (aL ab (i:Int))=false:=by grind [az,fK]
theorem cO{n:Nat}(h:n≤99):az (dx (n:Int))=true:=by
 unfold az dx;rw [if_neg (by omega)];simp
theorem bZ{ab:List aG}{i:Nat}(hi:i<ab.length) (lB:i≤99):aA (aL ab (i:Int))=aD ab i:=by grind [aA,fK]
theorem mN{n:Nat}(h:n≤99):aA (dx (n:Int))=false:=by
 unfold aA dx;rw [if_neg (by omega)];simp
inductive gG (ab:List aG):Key→Prop where
 | cell {n:Nat}(h:n≤99):gG ab (dx (n:Int))
 | gF {i:Nat}(h:i<ab.length) (lB:i≤99):gG ab (aL ab (i:Int))
/-! ### values -/
def cellOf(aF:List dy) (k:Key):ByteArray:=(cZ aF k).value
def fZ(turn:List ByteArray→F9) (jE:Key→ByteArray):Nat→List Key × List ByteArray
 | 0=>([],[])
 | n+1=>((fZ turn jE n).1++[(turn (fZ turn jE n).2).ask],(fZ turn jE n).2++[jE (turn (fZ turn jE n).2).ask])
def Of(aF:List dy) (prev:List ByteArray) (k:Key):ByteArray:=if az k then cellOf aF k else prev.getD (number k).toNat ⟨#[]⟩
def dU(ab:List aG) (i:Nat):Nat:=(ab[i]?.map (·.asks.length)).getD 0
def cz(ab:List aG) (x:Ask):Key:=if x.cell then dx x.n else aL ab x.n
def gU(ab:List aG) (i j:Nat):Prop:=∃r x,ab[i]?=some r∧r.ring=true∧x∈r.asks∧x.cell=false∧x.n=(j:Int)∧aD ab j=true
inductive dT (ab:List aG) (i:Nat):Nat→Prop where
 | refl:dT ab i i
 | step {j k:Nat}:dT ab i j→gU ab j k→dT ab i k
def outside(ab:List aG) (x:Ask):Bool:=x.cell || !aD ab x.n.toNat
def nF(ab:List aG) (jE:Key→ByteArray) (j:Nat):Nat:=
 match ab[j]? with
 | some r=>gx r.c.toNat ((r.asks.filter (outside ab)).map fun x=>dE (jE (cz ab x)))
 | none=>0
open Classical in
noncomputable def ofBits(P:Nat→Prop):Nat→Nat
 | 0=>0
 | n+1=>ofBits P n ||| (if P n then 2 ^ n else 0)
theorem LN(P:Nat→Prop):∀n,ofBits P n<2 ^ n:=by
 intro n
 induction n with
 | zero=>simp [ofBits]
 | succ n ih=>
  unfold ofBits
  refine Nat.or_lt_two_pow (Nat.lt_of_lt_of_le ih (Nat.pow_le_pow_right (by omega) (by omega))) ?_
  grind
theorem Iz(P:Nat→Prop):∀n b,(ofBits P n).testBit b=true↔b<n∧P b:=by
 intro n
 induction n with
 | zero=>intro b;simp [ofBits]
 | succ n ih=>
  intro b
  unfold ofBits
  grind
noncomputable def yY(ab:List aG) (jE:Key→ByteArray) (i:Nat):Nat:=ofBits (fun b=>∃j,dT ab i j∧(nF ab jE j).testBit b=true) 16
noncomputable def uq(ab:List aG) (aF:List dy) (prev:List ByteArray) (i:Nat):ByteArray:=
 if aD ab i then itoa (yY ab (Of aF prev) i:Int)
 else (dt ab (aL ab (i:Int)) (fZ (dt ab (aL ab (i:Int))) (Of aF prev) (dU ab i)).2).value
noncomputable def bR(ab:List aG) (aF:List dy):Nat→List ByteArray
 | 0=>[]
 | n+1=>bR ab aF n++[uq ab aF (bR ab aF n) n]
noncomputable def xP(ab:List aG) (aF:List dy) (i:Nat):ByteArray:=uq ab aF (bR ab aF i) i
noncomputable def valOf(ab:List aG) (aF:List dy) (k:Key):ByteArray:=if az k then cellOf aF k else xP ab aF (number k).toNat
section
variable {ab:List aG}{aF:List dy}
theorem Og:∀n,(bR ab aF n).length=n:=by
 intro n;induction n with
 | zero=>rfl
 | succ n ih=>simp [bR,ih]
theorem Oh:∀n m,m<n→(bR ab aF n).getD m ⟨#[]⟩=xP ab aF m:=by
 intro n
 induction n with
 | zero=>intro m h;omega
 | succ n ih=>grind [bR,Og,xP]
theorem Cq{n:Nat}{k:Key}(h:az k=true∨(number k).toNat<n):Of aF (bR ab aF n) k=valOf ab aF k:=by
 unfold Of valOf
 by_cases hi:az k=true
 ·
  rw [if_pos hi,if_pos hi]
 rw [if_neg hi,if_neg hi,Oh]
 grind
theorem iD(turn:List ByteArray→F9) (jE:Key→ByteArray):∀n,(fZ turn jE n).1.length=n∧(fZ turn jE n).2.length=n:=by
 intro n;induction n with
 | zero=>simp [fZ]
 | succ n ih=>simp [fZ,ih.1,ih.2]
theorem yZ{turn:List ByteArray→F9}{jE abm:Key→ByteArray}:∀n,(∀m,m<n→jE (turn (fZ turn jE m).2).ask=abm (turn (fZ turn jE m).2).ask)→fZ turn jE n=fZ turn abm n:=by
 intro n
 induction n with
 | zero=>intro _;rfl
 | succ n ih=>grind [fZ]
end
/-! ### what valid rules ask for -/
section
variable {ab:List aG}{aF:List dy}
theorem iv(l:List aG):∀k,bY l k≤k:=by
 intro k;induction k with
 | zero=>simp [bY]
 | succ k ih=>unfold bY;split <;> omega
theorem Cr(l:List aG) {m:Nat}(h:m≤l.length):eW l m≤l.length:=by grind [eW,List.takeWhile_sublist]
theorem Gj{i:Nat}(hi:i<ab.length):block ab (i:Int)=if aD ab i then ((bY ab i:Int),(eW ab (i+1):Int)) else ((i:Int),(i:Int)+1):=by
 unfold block;rw [if_neg (by omega)];rfl
theorem sZ{i j:Nat}(hi:aD ab i=true) (h1:bY ab i≤j) (h2:j<eW ab (i+1)):aD ab j=true:=by
 have H4:∀k,bY ab k≤j→j<k→aD ab j=true:=by
  intro k
  induction k with
  | zero=>intro _ h;omega
  | succ k ih=>
   intro h3 h4
   unfold bY at h3
   grind
 rcases Nat.lt_trichotomy j i with h | h | h
 ·
  exact H4 i h1 h
 ·
  rw [h];exact hi
 have key:∀(l:List aG) (m j:Nat),m≤j→j<m+((l.drop m).takeWhile (·.ring)).length→aD l j=true:=by
  intro l m j hm hj
  have dZ:j - m<((l.drop m).takeWhile (·.ring)).length:=by omega
  have kH:=List.getElem_mem dZ;have hr:=List.all_eq_true.1 (List.all_takeWhile (p:=fun x:aG=>x.ring) (l:=l.drop m)) _ kH;have iU:((l.drop m).takeWhile (·.ring)) <+: l.drop m:=List.takeWhile_prefix _;have oW:=iU.getElem dZ
  grind [cM]
 exact key ab (i+1) j (by omega) h2
theorem oE{i:Nat}(hi:i<ab.length) (hlen:ab.length≤24) {c:Bool}{n:Int}(h:iC ab i c n=true) :
  ∃m:Nat,n=m∧if c then m≤15 else m<ab.length∧(aD ab m=true∧aD ab i=true∨m<i)∧(aD ab i=false→m<i)∧(aD ab m=false→m<i):=by
 unfold iC at h
 cases c
 ·
  simp only [Bool.false_eq_true,if_false,Bool.and_eq_true,decide_eq_true_eq] at h ⊢;obtain⟨m,rfl⟩:∃m:Nat,n=m:=⟨n.toNat,by omega⟩;refine⟨m,rfl,?_⟩;have h2:=h.2
  unfold gO at h2
  rw [Gj hi] at h2
  by_cases hr:aD ab i=true
  ·
   rw [if_pos hr] at h2;simp only [hr,if_true] at h2
   have jD:m<eW ab (i+1):=by omega
   have VV:=Cr ab (show i+1≤ab.length by omega);refine⟨by omega,?_,(fun h=>by rw [hr] at h;cases h),?_⟩
   ·
    by_cases QK:m<i
    ·
     exact .inr QK
    grind [sZ,iv]
   grind [sZ,iv]
  grind
 simp only [if_true,Bool.and_eq_true,decide_eq_true_eq] at h ⊢;exact⟨n.toNat,by omega,by omega⟩
end
end Go.Rc

namespace Go.Rc
open Go
section
variable {ab:List aG}{aF:List dy}
theorem aw.len(h:aw ab):ab.length≤24:=h.1
theorem aw.at(h:aw ab) {i:Nat}(hi:i<ab.length):o0 ab i ab[i]:=h.2 i _ (ao hi)
theorem fL{i:Nat}(hi:i<ab.length):dU ab i=ab[i].asks.length:=by grind [dU]
theorem IA{m lo:Nat}(h1:lo≤m) (h:∀j,lo≤j→j<m→aD ab j=true):bY ab m≤lo:=by
 induction m with
 | zero=>simp [bY]
 | succ m ih=>
  by_cases e:lo=m+1
  ·
   rw [e];exact iv _ _
  unfold bY
  grind
theorem ur(_hR:aw ab) {i:Nat}(hi:i<ab.length) (hr:aD ab i=true) {m:Nat}(h:iC ab i false (m:Int)=true) :
  m<ab.length∧(aD ab m=true→bY ab m≤bY ab i)∧(aD ab m=false→m<bY ab i):=by
 unfold iC at h
 simp only [Bool.false_eq_true,if_false,Bool.and_eq_true,decide_eq_true_eq] at h;have h2:=h.2
 unfold gO at h2
 rw [Gj hi,if_pos hr] at h2;simp only [hr,if_true] at h2
 grind [Cr,IA,sZ]
def gg(ab:List aG) (i:Nat) (k:Key):Prop:=
 (∃n:Nat,n≤15∧k=dx (n:Int))∨
 (∃m:Nat,m<ab.length∧k=aL ab (m:Int)∧(aD ab m=true∧aD ab i=true∨m<i)∧(aD ab i=false→m<i)∧(aD ab m=false→m<i)∧(aD ab m=false→aD ab i=true→m<bY ab i))
theorem Ks(hR:aw ab) {i:Nat}(hi:i<ab.length) {c:Bool}{n:Int}(h:iC ab i c n=true):gg ab i (if c then dx n else aL ab n):=by
 obtain⟨m,rfl,h2⟩:=oE hi hR.len h
 cases c
 ·
  exact .inr ⟨m,h2.1,rfl,h2.2.1,h2.2.2.1,h2.2.2.2,fun h3 h4=>(ur hR hi h4 h).2.2 h3⟩
 exact .inl ⟨m,h2,rfl⟩
theorem gg.QL(hR:aw ab) {i:Nat}{k:Key}(h:gg ab i k):gG ab k:=by
 have:=hR.len
 rcases h with⟨n,h1,rfl⟩ | ⟨m,h1,rfl,_⟩
 ·
  exact .cell (by omega)
 exact .gF h1 (by omega)
theorem VW(hR:aw ab) {i n:Nat}(hi:i<ab.length) (hn:n<ab[i].asks.length) (ah:List ByteArray) (hl:ah.length=n) :
  gg ab i (if ab[i].asks[n].cell then dx (sV ab[i].asks[n] ah) else aL ab (sV ab[i].asks[n] ah)):=by
 obtain⟨_,h2,_⟩:=hR.at hi;have h3:=h2 n _ (ao hn)
 unfold gD at h3
 rw [Bool.and_eq_true] at h3
 unfold sV
 by_cases hp:gC ab[i].asks[n] ah=true
 ·
  rw [if_pos hp]
  have hpk:ab[i].asks[n].pick=true:=by grind [gC]
  rw [hpk] at h3;simp only [if_true,Bool.and_eq_true] at h3;exact Ks hR hi h3.2.2
 rw [if_neg hp];exact Ks hR hi h3.1
theorem fA(hR:aw ab) {i:Nat}(hi:i<ab.length) {ah:List ByteArray}(hn:ah.length<dU ab i) :
  ∃a,dt ab (aL ab (i:Int)) ah=⟨false,⟨#[]⟩,a⟩∧gg ab i a∧(aD ab i=true→∃x,ab[i].asks[ah.length]?=some x∧a=cz ab x):=by
 have rS:=hR.len;rw [fL hi] at hn;have hk:=dw hi (by omega:i≤99);refine⟨_,oA hk hi (by rw [hk]) hn,VW hR hi hn ah rfl,fun hr=>⟨_,ao hn,?_⟩⟩;obtain⟨_,h2,_⟩:=hR.at hi;have h3:=h2 _ _ (ao hn)
 unfold gD at h3
 rw [Bool.and_eq_true] at h3
 grind [cM,cz,sV,gC]
theorem jc(hR:aw ab) {i:Nat}(hi:i<ab.length) {ah:List ByteArray}(hn:ah.length=dU ab i) :
  dt ab (aL ab (i:Int)) ah=⟨true,itoa (eX ab[i].final ab[i].c.toNat (ah.map dE)),dn⟩:=by grind [aw.len,fL,dw,oz]
theorem qu(hR:aw ab) {i:Nat}(hi:i<ab.length):dU ab i≤6:=by rw [fL hi];exact(hR.at hi).1
theorem DE(hR:aw ab) {i:Nat}{k:Key}(h:gg ab i k) (hr:aD ab i=false∨aA k=false):az k=true∨(number k).toNat<i:=by
 have rS:=hR.len
 rcases h with⟨n,h1,rfl⟩ | ⟨m,h1,rfl,h2,h3,h4,_⟩
 ·
  grind [cO]
 grind [dw,bZ]
theorem LO(hR:aw ab) {i:Nat}(hi:i<ab.length) (hr:aD ab i=false) :
  dt ab (aL ab (i:Int)) (fZ (dt ab (aL ab (i:Int))) (valOf ab aF) (dU ab i)).2=⟨true,xP ab aF i,dn⟩:=by
 have h:xP ab aF i=(dt ab (aL ab (i:Int)) (fZ (dt ab (aL ab (i:Int))) (valOf ab aF) (dU ab i)).2).value:=by
  unfold xP uq
  rw [if_neg (by simp [hr])]
  grind [yZ,fA,iD,Cq,DE]
 grind [jc,iD]
/-! rings -/
theorem mz(hR:aw ab) {i:Nat}(hi:i<ab.length) (_hr:aD ab i=true) {x:Ask}(hx:x∈ab[i].asks):iC ab i x.cell x.n=true:=by
 obtain⟨k,hk,rfl⟩:=List.mem_iff_getElem.1 hx
 have:=(hR.at hi).2.1 k _ (ao hk)
 unfold gD at this
 grind
theorem gU.lt{i j:Nat}(h:gU ab i j):i<ab.length∧j<ab.length∧aD ab i=true∧aD ab j=true:=by
 obtain⟨r,x,h1,h2,_,_,_,h6⟩:=h
 grind [oX,cM]
theorem kX{i j:Nat}(hi:i<ab.length) (hr:aD ab i=true) (h:dT ab i j):j<ab.length∧aD ab j=true:=by
 induction h with
 | refl=>exact⟨hi,hr⟩
 | step _ h2 _=>exact⟨h2.lt.2.1,h2.lt.2.2.2⟩
theorem mO(hR:aw ab) {i j:Nat}(h:dT ab i j):bY ab j≤bY ab i:=by
 induction h with
 | refl=>exact Nat.le_refl _
 | step h1 h2 ih=>
  have hl:=h2.lt;obtain⟨r,x,h3,h4,h5,h6,h7,h8⟩:=h2
  grind [mz,ur]
theorem dT.head{i j k:Nat}(h:gU ab i j) (h2:dT ab j k):dT ab i k:=by
 induction h2 with
 | refl=>exact .step .refl h
 | step _ h4 ih=>exact .step ih h4
theorem dT.cases{i k:Nat}(h:dT ab i k):k=i∨∃j,gU ab i j∧dT ab j k:=by
 induction h with
 | refl=>exact .inl rfl
 | step h1 h2 ih=>
  right
  rcases ih with rfl | ⟨j,h3,h4⟩
  ·
   exact⟨_,h2,.refl⟩
  exact⟨j,h3,.step h4 h2⟩
theorem oF:∀(l:List Nat) (c b:Nat),(gx c l).testBit b=true↔c.testBit b=true∨∃x∈l,x.testBit b=true:=by
 intro l
 induction l with
 | nil=>intro c b;simp [gx]
 | cons x r ih=>
  intro c b
  have:=ih (c ||| x) b
  simp only [gx,List.foldl_cons] at this ⊢
  grind
theorem y5(hR:aw ab) {i:Nat}(hi:i<ab.length) (hr:aD ab i=true):ab[i].final=5∧ab[i].c.toNat≤65535:=by
 have h:=(hR.at hi).2.2
 grind [jy,cM]
theorem Cs{n b:Nat}(h:n≤65535) (hb:n.testBit b=true):b<16:=by
 rcases Nat.lt_or_ge b 16 with h1 | h1
 ·
  exact h1
 have:=Nat.ge_two_pow_of_testBit hb
 have h2:2 ^ 16≤2 ^ b:=Nat.pow_le_pow_right (by omega) h1
 omega
theorem gB{jE:Key→ByteArray}{i:Nat}(hi:i<ab.length) (b:Nat) :
  (nF ab jE i).testBit b=true↔ab[i].c.toNat.testBit b=true∨∃x∈ab[i].asks,outside ab x=true∧(dE (jE (cz ab x))).testBit b=true:=by
 unfold nF
 rw [ao hi];simp only [oF,List.mem_map,List.mem_filter]
 grind
theorem Oi(hR:aw ab) {jE:Key→ByteArray}{i:Nat}(hi:i<ab.length) (hr:aD ab i=true) {b:Nat}(h:(nF ab jE i).testBit b=true):b<16:=by
 rcases(gB hi b).1 h with h1 | ⟨x,_,_,h1⟩
 ·
  exact Cs (y5 hR hi hr).2 h1
 exact Cs (nE _) h1
theorem fF(hR:aw ab) {jE:Key→ByteArray}{i:Nat}(hi:i<ab.length) (hr:aD ab i=true) (b:Nat) :
  (yY ab jE i).testBit b=true↔∃j,dT ab i j∧(nF ab jE j).testBit b=true:=by
 unfold yY
 rw [Iz]
 constructor
 ·
  exact fun h=>h.2
 rintro⟨j,h1,h2⟩;have hj:=kX hi hr h1;exact⟨Oi hR hj.1 hj.2 h2,j,h1,h2⟩
theorem Gk{jE:Key→ByteArray}(i:Nat):yY ab jE i≤65535:=by
 have:=LN (fun b=>∃j,dT ab i j∧(nF ab jE j).testBit b=true) 16
 unfold yY;omega
noncomputable def rv(ab:List aG) (aF:List dy) (i:Nat):Nat:=yY ab (valOf ab aF) i
theorem DF(hR:aw ab) {i:Nat}(hi:i<ab.length) (hr:aD ab i=true) {x:Ask}(hx:x∈ab[i].asks) (ho:outside ab x=true):az (cz ab x)=true∨(number (cz ab x)).toNat<bY ab i:=by
 have rS:=hR.len;have hm:=mz hR hi hr hx;obtain⟨m,h1,h2⟩:=oE hi hR.len hm
 unfold cz
 unfold outside at ho
 cases hc:x.cell
 ·
  rw [hc] at hm ho h2
  right
  simp only [Bool.false_eq_true,if_false] at h2 ⊢
  grind [dw,ur]
 left
 rw [hc] at h2;simp only [if_true] at h2 ⊢
 grind [cO]
theorem jX(hR:aw ab) {i:Nat}(hi:i<ab.length) (hr:aD ab i=true):xP ab aF i=itoa (rv ab aF i:Int):=by
 unfold xP uq rv
 rw [if_pos hr]
 congr 2
 refine Nat.eq_of_testBit_eq fun b=>?_;rw [Bool.eq_iff_iff,fF hR hi hr,fF hR hi hr]
 have key:∀j,dT ab i j→((nF ab (Of aF (bR ab aF i)) j).testBit b=true↔(nF ab (valOf ab aF) j).testBit b=true):=by
  intro j h;have hj:=kX hi hr h;have H4:=mO hR h;have hle:=iv ab i;rw [gB hj.1,gB hj.1];refine or_congr_right (exists_congr fun x=>and_congr_right fun hx=>and_congr_right fun ho=>?_);rw [Cq]
  grind [DF]
 grind
theorem jl(hR:aw ab) {i:Nat}(hi:i<ab.length):valOf ab aF (aL ab (i:Int))=xP ab aF i:=by
 have rS:=hR.len
 unfold valOf
 rw [if_neg (by grind [eh]),dw hi (by omega)]
 rfl
theorem Gl{n:Nat}(h:n≤99):valOf ab aF (dx (n:Int))=cellOf aF (dx (n:Int)):=by
 unfold valOf;rw [if_pos (cO h)]
def ry(ab:List aG) (jE:Key→ByteArray) (i:Nat):List Nat:=((ab[i]?.map (·.asks)).getD []).map fun x=>dE (jE (cz ab x))
theorem LP(hR:aw ab) {i:Nat}(hi:i<ab.length) (hr:aD ab i=true) (jE:Key→ByteArray):∀n,n≤ab[i].asks.length→
  fZ (dt ab (aL ab (i:Int))) jE n=((ab[i].asks.take n).map (cz ab),(ab[i].asks.take n).map fun x=>jE (cz ab x)):=by
 intro n
 induction n with
 | zero=>intro _;simp [fZ]
 | succ n ih=>
  intro hn;have e:=ih (by omega);simp only [fZ]
  have hlen:((ab[i].asks.take n).map fun x=>jE (cz ab x)).length=n:=by simp;omega
  obtain⟨a,h1,_,h3⟩:=fA hR hi (ah:=(ab[i].asks.take n).map fun x=>jE (cz ab x)) (by rw [hlen,fL hi];omega)
  grind [List.take_succ_eq_append_getElem]
theorem LQ(hR:aw ab) {i:Nat}(hi:i<ab.length) (hr:aD ab i=true) (jE:Key→ByteArray) :
  dt ab (aL ab (i:Int)) (fZ (dt ab (aL ab (i:Int))) jE (dU ab i)).2=⟨true,itoa (gx ab[i].c.toNat (ry ab jE i):Int),dn⟩:=by
 rw [jc hR hi ((iD _ _ _).2),LP hR hi hr jE _ (by rw [fL hi];exact Nat.le_refl _),(y5 hR hi hr).1,fL hi]
 unfold ry
 rw [ao hi];simp only [List.take_length,List.map_map,Option.map_some,Option.getD_some]
 rfl
theorem wQ{jE:Key→ByteArray}{i:Nat}(hi:i<ab.length) (b:Nat) :
  (gx ab[i].c.toNat (ry ab jE i)).testBit b=true↔(nF ab jE i).testBit b=true∨∃x∈ab[i].asks,outside ab x=false∧(dE (jE (cz ab x))).testBit b=true:=by
 rw [oF,gB hi]
 unfold ry
 grind
theorem jL(hR:aw ab) {i:Nat}(hi:i<ab.length) (hr:aD ab i=true) {x:Ask}(hx:x∈ab[i].asks) (ho:outside ab x=false):∃j:Nat,gU ab i j∧cz ab x=aL ab (j:Int)∧j<ab.length:=by
 have hm:=mz hR hi hr hx
 unfold outside at ho
 rw [Bool.or_eq_false_iff] at ho;obtain⟨m,h1,h2⟩:=oE hi hR.len hm;rw [ho.1] at h2;simp only [Bool.false_eq_true,if_false] at h2
 have hmr:aD ab m=true:=by grind
 refine⟨m,⟨_,x,ao hi,by rw [← cM hi];exact hr,hx,ho.1,h1,hmr⟩,?_,h2.1⟩
 grind [cz]
theorem tc{i j:Nat}(hi:i<ab.length) (h:gU ab i j):∃x∈ab[i].asks,outside ab x=false∧cz ab x=aL ab (j:Int):=by
 obtain⟨r,x,h1,_,h3,h4,h5,h6⟩:=h
 grind [outside,cz]
theorem VX(hR:aw ab) {i:Nat}(hi:i<ab.length) (hr:aD ab i=true):gx ab[i].c.toNat (ry ab (valOf ab aF) i)=rv ab aF i:=by
 refine Nat.eq_of_testBit_eq fun b=>?_;rw [Bool.eq_iff_iff,wQ hi]
 unfold rv
 rw [fF hR hi hr]
 have ie:∀j,j<ab.length→aD ab j=true→dE (valOf ab aF (aL ab (j:Int)))=yY ab (valOf ab aF) j:=fun j hj Ii=>by
  rw [jl hR hj,jX hR hj Ii];exact gA (Gk j)
 constructor
 ·
  rintro(h | ⟨x,h1,h2,h3⟩)
  ·
   exact⟨i,.refl,h⟩
  obtain⟨j,h4,h5,h6⟩:=jL hR hi hr h1 h2;rw [h5,ie j h6 h4.lt.2.2.2,fF hR h6 h4.lt.2.2.2] at h3;obtain⟨k,h7,h8⟩:=h3;exact⟨k,.head h4 h7,h8⟩
 rintro⟨k,h1,h2⟩
 rcases h1.cases with rfl | ⟨j,h3,h4⟩
 ·
  exact .inl h2
 right
 obtain⟨x,h5,h6,h7⟩:=tc hi h3;refine⟨x,h5,h6,?_⟩;rw [h7,ie j h3.lt.2.1 h3.lt.2.2.2,fF hR h3.lt.2.1 h3.lt.2.2.2];exact⟨k,h4,h2⟩
theorem Oj(hR:aw ab) {i:Nat}(hi:i<ab.length) (hr:aD ab i=true) (v:Nat→Nat)
  (h1:∀j b,dT ab i j→(nF ab (valOf ab aF) j).testBit b=true→(v j).testBit b=true)
  (h2:∀j k b,dT ab i j→gU ab j k→(v k).testBit b=true→(v j).testBit b=true) (b:Nat) (hb:(rv ab aF i).testBit b=true):(v i).testBit b=true:=by
 unfold rv at hb
 rw [fF hR hi hr] at hb;obtain⟨j,h3,h4⟩:=hb;have h5:=h1 j b h3 h4
 clear h4
 induction h3 with
 | refl=>exact h5
 | step h6 h7 ih=>exact ih (h2 _ _ b h6 h7 h5)
theorem jd(hR:aw ab) {i:Nat}(hi:i<ab.length) :
  dt ab (aL ab (i:Int)) (fZ (dt ab (aL ab (i:Int))) (valOf ab aF) (dU ab i)).2=⟨true,valOf ab aF (aL ab (i:Int)),dn⟩:=by grind [jl,LO,LQ,VX,jX]
end
end Go.Rc

namespace Go.Rc
open Go
structure FZ where
 p:(Nat→Prop)→World→Prop
 mono:∀{Z Z':Nat→Prop}{w},(∀x,Z x→Z' x)→p Z w→p Z' w
 st:∀{Z:Nat→Prop}{w w':World},w.heap.size≤w'.heap.size→(∀x,Z x→x<w.heap.size→w'.heap[x]?=w.heap[x]?)→p Z w→p Z w'
def FZ.rd{α:Type}(R:RR α) (k:Nat) (a:Option Addr) (n c:Nat) (xs:List α):FZ:=⟨fun Z w=>Rd R k Z w a n c xs,fun h=>Rd.mono h,fun h1 h2=>Rd.st h1 h2⟩
def FZ.and(F G:FZ):FZ:=⟨fun Z w=>F.p Z w∧G.p Z w,fun h ⟨a,b⟩=>⟨F.mono h a,G.mono h b⟩,fun h1 h2 ⟨a,b⟩=>⟨F.st h1 h2 a,G.st h1 h2 b⟩⟩
def FZ.Kt(P:Program):FZ where
 p Z w:=nO P Z w
 mono h:=fun h1=>h1.of h (Nat.le_refl _) fun _ _ _=>rfl
 st h1 h2:=fun h=>h.of (fun _ h=>h) h1 h2
def As.fz(F:FZ):As where
 fp _:=False
 ok Z w:=F.p Z w
 lt _ _ hx:=hx.elim
 mono h:=F.mono h
 st h1 h2:=F.st h1 fun x hx=>h2 x (.inr hx)
theorem As.gf{F:FZ}{Z:Nat→Prop}{w:World}(h:(As.fz F).ok Z w):F.p Z w:=h
structure SD where
 (ar a1 a2:Option Addr) (r cr n1 c1 n2 c2 m q s:Nat)
def SD.F(D:SD) (P:Program) (ab:List aG) (x:dP):FZ:=
 .and (.rd RR.gF 4 D.ar D.r D.cr ab) (.and (.rd RR.aF 4 D.a1 D.n1 D.c1 x.ad) (.and (.rd RR.fT 8 D.a2 D.n2 D.c2 x.ak) (.Kt P)))
def SD.cells(D:SD) (x:dP):List Value:=
 [.slice D.ar D.r D.cr,.int .i64 x.ae,.slice D.a1 D.n1 D.c1,.slice D.a2 D.n2 D.c2,.map (some D.m),.map (some D.q)]
section
variable {D:SD}{P:Program}{ab:List aG}{x:dP}{Z:Nat→Prop}{w:World}
theorem SD.hu(h:(D.F P ab x).p Z w):Rd RR.gF 4 Z w D.ar D.r D.cr ab:=h.1
theorem SD.hi(h:(D.F P ab x).p Z w):Rd RR.aF 4 Z w D.a1 D.n1 D.c1 x.ad:=h.2.1
theorem SD.hr(h:(D.F P ab x).p Z w):Rd RR.fT 8 Z w D.a2 D.n2 D.c2 x.ak:=h.2.2.1
theorem SD.ht(h:(D.F P ab x).p Z w):nO P Z w:=h.2.2.2
end
def bq(ab:List aG) (aF:List dy) (ml:List (Key × Value)):Prop:=∀k v,bX ml k=some v→v=.string (valOf ab aF k)
section
variable {ab:List aG}{aF:List dy}
theorem bq.nil:bq ab aF []:=fun k v h=>by simp [bX] at h
theorem bq.put{ml:List (Key × Value)}(h:bq ab aF ml) (k:Key):bq ab aF (dC ml k (.string (valOf ab aF k))):=fun k' v hv=>by
 rw [fy] at hv
 split at hv
 ·
  grind
 exact h k' v hv
def gh(m n:Nat):Prop:=∀b,m.testBit b=true→n.testBit b=true
theorem gh.le{m n:Nat}(h:gh m n):m≤n:=by
 have e:m ||| n=n:=Nat.eq_of_testBit_eq fun b=>by
  rw [Nat.testBit_or]
  cases hm:m.testBit b
  ·
   simp
  simp [h b hm]
 rw [← e];exact Nat.left_le_or
noncomputable def Ru(ab:List aG) (aF:List dy) (v:Nat→Nat) (k:Key):ByteArray:=if aA k then itoa (v (number k).toNat:Int) else valOf ab aF k
noncomputable def FF(ab:List aG) (aF:List dy) (v:Nat→Nat) (j:Nat):Nat:=gx ((ab[j]?.map (·.c.toNat)).getD 0) (ry ab (Ru ab aF v) j)
theorem kY(hR:aw ab) {i:Nat}(hi:i<ab.length) (hr:aD ab i=true) {x:Ask}(hx:x∈ab[i].asks) (ho:outside ab x=true):aA (cz ab x)=false:=by
 have rS:=hR.len;have hm:=mz hR hi hr hx;obtain⟨m,h1,h2⟩:=oE hi hR.len hm
 unfold outside at ho
 unfold cz
 cases hc:x.cell
 ·
  rw [hc] at h2 ho;simp only [Bool.false_eq_true,if_false] at h2 ⊢
  grind [bZ]
 rw [hc] at h2;simp only [if_true] at h2 ⊢
 grind [mN]
theorem y7(hR:aw ab) {v:Nat→Nat}(hv:∀j,v j≤65535) {i:Nat}(hi:i<ab.length) (hr:aD ab i=true) (b:Nat) :
  (FF ab aF v i).testBit b=true↔(nF ab (valOf ab aF) i).testBit b=true∨∃j,gU ab i j∧(v j).testBit b=true:=by
 have rS:=hR.len
 unfold FF
 rw [ao hi];simp only [Option.map_some,Option.getD_some];rw [wQ hi];refine or_congr ?_ ?_
 ·
  rw [gB hi,gB hi];refine or_congr_right (exists_congr fun x=>and_congr_right fun hx=>and_congr_right fun ho=>?_)
  unfold Ru
  rw [if_neg (by grind [kY])]
 constructor
 ·
  rintro⟨x,h1,h2,h3⟩;obtain⟨j,h4,h5,h6⟩:=jL hR hi hr h1 h2;refine⟨j,h4,?_⟩
  unfold Ru at h3
  rw [h5,if_pos (by rw [bZ h6 (by omega)];exact h4.lt.2.2.2),dw h6 (by omega),Int.toNat_natCast,gA (hv j)] at h3;exact h3
 rintro⟨j,h4,h5⟩;obtain⟨x,h1,h2,h3⟩:=tc hi h4;refine⟨x,h1,h2,?_⟩
 unfold Ru
 rw [h3,if_pos (by rw [bZ h4.lt.2.1 (by have:=h4.lt.2.1;omega)];exact h4.lt.2.2.2),dw h4.lt.2.1 (by have:=h4.lt.2.1;omega),Int.toNat_natCast,gA (hv j)];exact h5
theorem wR(i:Nat):rv ab aF i≤65535:=Gk i
theorem IB(hR:aw ab) {i:Nat}(hi:i<ab.length) (hr:aD ab i=true) (b:Nat) :
  (rv ab aF i).testBit b=true↔(nF ab (valOf ab aF) i).testBit b=true∨∃j,gU ab i j∧(rv ab aF j).testBit b=true:=by
 unfold rv
 rw [fF hR hi hr]
 constructor
 ·
  rintro⟨k,h1,h2⟩
  rcases h1.cases with rfl | ⟨j,h3,h4⟩
  ·
   exact .inl h2
  exact .inr ⟨j,h3,(fF hR h3.lt.2.1 h3.lt.2.2.2 b).2 ⟨k,h4,h2⟩⟩
 rintro(h | ⟨j,h3,h4⟩)
 ·
  exact⟨i,.refl,h⟩
 obtain⟨k,h5,h6⟩:=(fF hR h3.lt.2.1 h3.lt.2.2.2 b).1 h4;exact⟨k,.head h3 h5,h6⟩
theorem Ku(hR:aw ab) {v v':Nat→Nat}(hv:∀j,v j≤65535) (TH:∀j,v' j≤65535) (h:∀j,gh (v j) (v' j)) {i:Nat}(hi:i<ab.length) (hr:aD ab i=true):gh (FF ab aF v i) (FF ab aF v' i):=fun b hb=>by
 rw [y7 hR hv hi hr] at hb;rw [y7 hR TH hi hr]
 rcases hb with hb | ⟨j,h1,h2⟩
 ·
  exact .inl hb
 exact .inr ⟨j,h1,h j b h2⟩
structure eK (ab:List aG) (aF:List dy) (i0:Nat) (L:List Nat) (u:Nat→Nat):Prop where
 nodup:L.Nodup
 first:i0∈L
 ring:∀j∈L,j<ab.length∧aD ab j=true
 out:∀j,j∉L→u j=0
 le:∀j,u j≤65535
 low:∀j,gh (u j) (rv ab aF j)
 reach:∀j∈L,dT ab i0 j
noncomputable def Dj(ab:List aG) (aF:List dy) (u:Nat→Nat) (ml:List (Key × Value)) (k:Nat):Nat:=if (bX ml (aL ab (k:Int))).isSome then rv ab aF k else u k
def ji(ml fh:List (Key × Value)):Prop:=∀k v,bX ml k=some v→bX fh k=some v
def nR(ab:List aG) (aF:List dy) (L:List Nat) (u:Nat→Nat) (ml:List (Key × Value)):Prop:=∀j∈L,gh (u j) (FF ab aF (Dj ab aF u ml) j)
def rz(ab:List aG) (aF:List dy) (L:List Nat) (u:Nat→Nat) (j:Nat):Prop:=
 gh (nF ab (valOf ab aF) j) (u j)∧∀k,gU ab j k→(k∈L→gh (u k) (u j))∧(k∉L→gh (rv ab aF k) (u j))
def IC(n:Nat) (v:Nat→Nat):Nat:=((List.range n).map fun j=>65535 - v j).sum
def si(ab:List aG) (L:List Nat) (v:Nat→Nat):Nat:=IC ab.length v+(ab.length - L.length)
theorem ji.refl(ml:List (Key × Value)):ji ml ml:=fun _ _ h=>h
theorem ji.trans{a b c:List (Key × Value)}(h:ji a b) (k:ji b c):ji a c:=fun x v e=>k x v (h x v e)
theorem ji.put{ml:List (Key × Value)}(hm:bq ab aF ml) (k:Key):ji ml (dC ml k (.string (valOf ab aF k))):=fun x v h=>by
 rw [fy]
 split
 ·
  rename_i e;subst e;rw [hm _ _ h]
 exact h
theorem vB{u:Nat→Nat}{ml:List (Key × Value)}(h:∀j,u j≤65535) (k:Nat):Dj ab aF u ml k≤65535:=by grind [Dj,wR]
theorem Rv{u:Nat→Nat}{ml:List (Key × Value)}(h:∀j,gh (u j) (rv ab aF j)) (k:Nat):gh (Dj ab aF u ml k) (rv ab aF k):=by unfold Dj;split;exact fun _ h=>h;exact h k
theorem Gm{u u':Nat→Nat}{ml fh:List (Key × Value)}(h:∀j,gh (u j) (rv ab aF j)) (hu:∀j,gh (u j) (u' j)) (hm:ji ml fh) (k:Nat):gh (Dj ab aF u ml k) (Dj ab aF u' fh k):=by
 unfold Dj
 cases h1:bX ml (aL ab (k:Int)) with
 | some v=>rw [hm _ _ h1];simp;exact fun _ h=>h
 | none=>grind
theorem nR.mono(hR:aw ab) {i0:Nat}{L:List Nat}{u:Nat→Nat}{ml fh:List (Key × Value)}(hr:eK ab aF i0 L u) (h:nR ab aF L u ml) (hm:ji ml fh):nR ab aF L u fh:=fun j hj b hb=>
 Ku hR (vB hr.le) (vB hr.le) (Gm hr.low (fun _ _ h=>h) hm) (hr.ring j hj).1 (hr.ring j hj).2 b (h j hj b hb)
theorem eK.start{i0:Nat}(hi:i0<ab.length) (hr:aD ab i0=true):eK ab aF i0 [i0] fun _=>0 where
 nodup:=by simp
 first:=by simp
 ring j hj:=by grind
 out _ _:=rfl
 le _:=by omega
 low _ b h:=by simp at h
 reach j hj:=by simp at hj;subst hj;exact .refl
theorem nR.start{i0:Nat}{ml:List (Key × Value)}:nR ab aF [i0] (fun _=>0) ml:=fun _ _ b h=>by simp at h
theorem Ol:∀{n:Nat}{L:List Nat},L.Nodup→(∀j∈L,j<n)→L.length≤n:=by
 intro n
 induction n with
 | zero=>intro L _ hl;cases L with
  | nil=>simp
  | cons a r=>exact absurd (hl a (by simp)) (by omega)
 | succ n ih=>
  intro L h hl
  have h1:=ih (h.erase n) fun j hj=>by grind
  grind
theorem eK.len{i0:Nat}{L:List Nat}{v:Nat→Nat}(h:eK ab aF i0 L v):L.length≤ab.length:=Ol h.nodup fun j hj=>(h.ring j hj).1
theorem eK.meet{i0:Nat}{L:List Nat}{v:Nat→Nat}(h:eK ab aF i0 L v) {j:Nat}(hj:j<ab.length) (hr:aD ab j=true) (hn:j∉L) (Om:dT ab i0 j):eK ab aF i0 (L++[j]) v where
 nodup:=by grind [nodup]
 first:=by simp [h.first]
 ring k hk:=by
  rcases List.mem_append.1 hk with hk | hk
  ·
   exact h.ring k hk
  grind
 out k hk:=h.out k fun hm=>hk (by simp [hm])
 le:=h.le
 low:=h.low
 reach k hk:=by
  rcases List.mem_append.1 hk with hk | hk
  ·
   exact h.reach k hk
  grind
theorem nR.meet{L:List Nat}{u:Nat→Nat}{ml:List (Key × Value)}(h:nR ab aF L u ml) {j:Nat}(hu:u j=0):nR ab aF (L++[j]) u ml:=fun k hk=>by
 rcases List.mem_append.1 hk with hk | hk
 ·
  exact h k hk
 simp at hk;subst hk;rw [hu];intro b hb;simp at hb
theorem eK.Kv{i0:Nat}{L:List Nat}{v:Nat→Nat}(h:eK ab aF i0 L v) {j:Nat}(hj:j<ab.length) (hr:aD ab j=true) (hn:j∉L) (Om:dT ab i0 j):L.length<ab.length:=by
 have:=(h.meet hj hr hn Om).len
 grind
theorem Gn{L:List Nat}{v:Nat→Nat}{j:Nat}(hl:L.length<ab.length):si ab (L++[j]) v<si ab L v:=by grind [si]
def o9(v:Nat→Nat) (j u:Nat):Nat→Nat:=fun k=>if k=j then u else v k
theorem On:∀n (v:Nat→Nat) (j u:Nat),v j≤u→IC n (o9 v j u)≤IC n v∧(j<n→v j<u→u≤65535→IC n (o9 v j u)<IC n v):=by
 intro n
 induction n with
 | zero=>intro v j u _;simp [IC]
 | succ n ih=>
  intro v j u h;obtain⟨h1,h2⟩:=ih v j u h
  unfold IC at h1 h2 ⊢
  simp only [List.range_succ,List.map_append,List.map_cons,List.map_nil,List.sum_append,List.sum_cons,List.sum_nil]
  have h3:65535 - o9 v j u n≤65535 - v n:=by
   unfold o9;grind
  refine⟨by omega,fun h4 h5 h6=>?_⟩
  by_cases e:j=n
  ·
   have:65535 - o9 v j u n<65535 - v n:=by unfold o9;grind
   omega
  have:=h2 (by omega) h5 h6
  omega
theorem LS{u:Nat→Nat}{j x:Nat}(h:gh (u j) x):∀k,gh (u k) (o9 u j x k):=fun k b hb=>by
 unfold o9;split
 ·
  rename_i e;subst e;exact h b hb
 exact hb
theorem eK.set{i0:Nat}{L:List Nat}{u:Nat→Nat}(h:eK ab aF i0 L u) {j x:Nat}(hj:j∈L) (hx:x≤65535) (h2:gh x (rv ab aF j)):eK ab aF i0 L (o9 u j x) where
 nodup:=h.nodup
 first:=h.first
 ring:=h.ring
 out k hk:=by unfold o9;rw [if_neg (fun e=>hk (by rw [e];exact hj))];exact h.out k hk
 le k:=by unfold o9;split;exact hx;exact h.le k
 low k b hb:=by
  unfold o9 at hb;split at hb
  ·
   rename_i e;subst e;exact h2 b hb
  exact h.low k b hb
 reach:=h.reach
theorem nR.set(hR:aw ab) {i0:Nat}{L:List Nat}{u:Nat→Nat}{ml:List (Key × Value)}(hr:eK ab aF i0 L u) (h:nR ab aF L u ml) {j x:Nat}(hj:j∈L) (hx:x≤65535) (h2:gh x (rv ab aF j)) (h3:gh (u j) x) (h4:gh x (FF ab aF (Dj ab aF u ml) j)) :
  nR ab aF L (o9 u j x) ml:=fun k hk=>by
 have yj:=hr.set hj hx h2;have hm:=Ku (aF:=aF) hR (vB (aF:=aF) (ab:=ab) (ml:=ml) hr.le) (vB yj.le) (Gm hr.low (LS h3) (ji.refl ml)) (hr.ring k hk).1 (hr.ring k hk).2;intro b hb;refine hm b ?_
 unfold o9 at hb;split at hb
 ·
  rename_i e;subst e;exact h4 b hb
 exact h k hk b hb
theorem Kw{i0:Nat}{L:List Nat}{u:Nat→Nat}(h:eK ab aF i0 L u) {j x:Nat}(hj:j∈L) (hx:x≤65535) (h3:gh (u j) x) (kV:u j≠x):si ab L (o9 u j x)<si ab L u:=by
 have h1:=h3.le
 have:=(On ab.length u j x h1).2 (h.ring j hj).1 (by omega) hx
 unfold si;omega
theorem eK.done(hR:aw ab) {i0:Nat}{L:List Nat}{u:Nat→Nat}(h:eK ab aF i0 L u) (hs:∀j∈L,rz ab aF L u j):∀j∈L,u j=rv ab aF j:=by
 intro j hj;obtain⟨mK,y8⟩:=h.ring j hj;refine Nat.le_antisymm (h.low j).le (gh.le fun b hb=>?_);have key:=Oj hR mK y8 (fun k=>if k∈L then u k else rv ab aF k) (fun k b hk hb=>?_) (fun k m b hk ZU hb=>?_) b hb
 ·
  simpa [hj] using key
 ·
  have Bp:=kX mK y8 hk
  by_cases hm:k∈L
  ·
   simp only [if_pos hm];exact(hs k hm).1 b hb
  simp only [if_neg hm];grind [IB]
 have Bp:=kX mK y8 hk
 by_cases nc:k∈L
 ·
  simp only [if_pos nc]
  by_cases hm:m∈L
  ·
   simp only [if_pos hm] at hb;exact((hs k nc).2 m ZU).1 hm b hb
  simp only [if_neg hm] at hb;exact((hs k nc).2 m ZU).2 hm b hb
 simp only [if_neg nc];refine(IB hR Bp.1 Bp.2 b).2 (.inr ⟨m,ZU,?_⟩)
 by_cases hm:m∈L
 ·
  simp only [if_pos hm] at hb;exact h.low m b hb
 grind
structure Ev (ab:List aG) (aF:List dy) (u:Nat→Nat) (L:List Nat) (Oo ml:List (Key × Value)) (qs:List Ask) (n:Nat) (acc:List ByteArray):Prop where
 len:acc.length=n
 out:∀m (h:m<qs.length),m<n→outside ab qs[m]=true→acc[m]?=some (valOf ab aF (cz ab qs[m]))
 ins:∀m (h:m<qs.length),m<n→outside ab qs[m]=false→∀k:Nat,qs[m].n=k→
  (acc[m]?=some (itoa (rv ab aF k:Int))∧(bX ml (aL ab (k:Int))).isSome=true)∨(acc[m]?=some (itoa (u k:Int))∧k∈L∧bX Oo (aL ab (k:Int))=none)
theorem Ev.start{u:Nat→Nat}{L:List Nat}{ml:List (Key × Value)}{qs:List Ask}:Ev ab aF u L ml ml qs 0 []:=⟨rfl,fun _ _ h=>by omega,fun _ _ h=>by omega⟩
theorem Ev.mono{u:Nat→Nat}{L L':List Nat}{Oo ml fh:List (Key × Value)}{qs:List Ask}{n:Nat}{acc:List ByteArray}(h:Ev ab aF u L Oo ml qs n acc) (hL:∀k∈L,k∈L') (hm:ji ml fh):Ev ab aF u L' Oo fh qs n acc:=
 ⟨h.len,h.out,fun m h1 h2 h3 k h4=>by
  rcases h.ins m h1 h2 h3 k h4 with⟨h5,h6⟩ | ⟨h5,h6,h7⟩
  ·
   obtain⟨v,hv⟩:=Option.isSome_iff_exists.1 h6;exact .inl ⟨h5,by rw [hm _ _ hv];rfl⟩
  grind⟩
theorem Ev.snoc{u:Nat→Nat}{L:List Nat}{Oo ml:List (Key × Value)}{qs:List Ask}{n:Nat}{acc:List ByteArray}(h:Ev ab aF u L Oo ml qs n acc) (s:ByteArray)
  (ho:∀(h:n<qs.length),outside ab qs[n]=true→s=valOf ab aF (cz ab qs[n]))
  (hi:∀(h:n<qs.length),outside ab qs[n]=false→∀k:Nat,qs[n].n=k→(s=itoa (rv ab aF k:Int)∧(bX ml (aL ab (k:Int))).isSome=true)∨(s=itoa (u k:Int)∧k∈L∧bX Oo (aL ab (k:Int))=none)) :
  Ev ab aF u L Oo ml qs (n+1) (acc++[s]) where
 len:=by simp [h.len]
 out m h1 h2 h3:=by
  rcases Nat.lt_or_ge m n with h4 | h4
  ·
   rw [List.getElem?_append_left (by rw [h.len];exact h4)];exact h.out m h1 h4 h3
  grind [len]
 ins m h1 h2 h3 k hk:=by
  rcases Nat.lt_or_ge m n with h4 | h4
  ·
   rw [List.getElem?_append_left (by rw [h.len];exact h4)];exact h.ins m h1 h4 h3 k hk
  have:m=n:=by omega
  subst this;rw [List.getElem?_append_right (by rw [h.len];omega),h.len]
  simpa using hi h1 h3 k hk
theorem Ev.val(hR:aw ab) {i0:Nat}{L:List Nat}{u:Nat→Nat}{Oo ml:List (Key × Value)}{j:Nat}{acc:List ByteArray}(hr:eK ab aF i0 L u) (hj:j<ab.length) (Ii:aD ab j=true) (h:Ev ab aF u L Oo ml ab[j].asks ab[j].asks.length acc) :
  gx ab[j].c.toNat (acc.map dE)≤65535∧gh (gx ab[j].c.toNat (acc.map dE)) (rv ab aF j)∧gh (FF ab aF (Dj ab aF u Oo) j) (gx ab[j].c.toNat (acc.map dE))∧
  gh (gx ab[j].c.toNat (acc.map dE)) (FF ab aF (Dj ab aF u ml) j)∧(gx ab[j].c.toNat (acc.map dE)=u j→rz ab aF L u j):=by
 obtain⟨hlen,ho,ij⟩:=h;have rS:=hR.len
 -- an answer, by its place
 have oW:∀m (hm:m<ab[j].asks.length),∃s,acc[m]?=some s∧s∈acc:=fun m hm=>⟨acc[m],ao (by omega),List.getElem_mem _⟩
 have wI:gh (nF ab (valOf ab aF) j) (gx ab[j].c.toNat (acc.map dE)):=fun b hb=>by
  rw [oF]
  rcases(gB hj b).1 hb with h1 | ⟨x,h1,h2,h3⟩
  ·
   exact .inl h1
  obtain⟨m,hm,rfl⟩:=List.mem_iff_getElem.1 h1
  grind
 have Kx:∀k,gU ab j k→∃m,∃hm:m<ab[j].asks.length,outside ab ab[j].asks[m]=false∧ab[j].asks[m].n=(k:Int):=fun k hk=>by
  obtain⟨r,x,h1,_,h3,h4,h5,h6⟩:=hk;rw [ao hj] at h1
  simp at h1
  subst h1;obtain⟨m,hm,rfl⟩:=List.mem_iff_getElem.1 h3;exact⟨m,hm,by unfold outside;rw [h4,h5];simp [h6],h5⟩
 have kH:∀(m:Nat) (s:ByteArray) (b:Nat),acc[m]?=some s→(dE s).testBit b=true→(gx ab[j].c.toNat (acc.map dE)).testBit b=true:=fun m s b h1 h2=>by
  rw [oF];grind
 have mA:∀(v:Nat→Nat),(∀k,v k≤65535)→(∀k:Nat,(bX ml (aL ab (k:Int))).isSome=true→gh (rv ab aF k) (v k))→(∀k:Nat,gh (u k) (v k))→gh (gx ab[j].c.toNat (acc.map dE)) (FF ab aF v j):=fun v hv h1 h2 b hb=>by
  rw [y7 hR hv hj Ii];rw [oF] at hb
  rcases hb with hb | ⟨_,hs,hb⟩
  ·
   grind [gB]
  obtain⟨s,rq,rfl⟩:=List.mem_map.1 hs;obtain⟨m,hm,rfl⟩:=List.mem_iff_getElem.1 rq
  have QM:m<ab[j].asks.length:=by omega
  cases gE:outside ab ab[j].asks[m]
  ·
   obtain⟨k,h3,h4,h5⟩:=jL hR hj Ii (List.getElem_mem QM) gE
   have FQ:ab[j].asks[m].n=(k:Int):=by
    obtain⟨q,h6,h7⟩:=oE hj hR.len (mz hR hj Ii (List.getElem_mem QM))
    have hc:ab[j].asks[m].cell=false:=by grind [outside]
    rw [hc] at h7;simp only [Bool.false_eq_true,if_false] at h7
    unfold cz at h4
    rw [hc,h6] at h4;simp only [Bool.false_eq_true,if_false] at h4
    grind [dw]
   refine .inr ⟨k,h3,?_⟩
   rcases ij m QM QM gE k FQ with⟨h6,h7⟩ | ⟨h6,h7,_⟩
   ·
    rw [ao hm] at h6
    simp at h6
    rw [h6,gA (wR k)] at hb;exact h1 k h7 b hb
   rw [ao hm] at h6
   simp at h6
   rw [h6,gA (hr.le k)] at hb;exact h2 k b hb
  grind [gB]
 refine⟨?_,?_,?_,?_,fun he=>⟨?_,fun k hk=>⟨fun Gp=>?_,fun Gp=>?_⟩⟩⟩
 ·
  grind [oy,y5,nE]
 ·
  intro b hb;have h1:=mA (rv ab aF) wR (fun _ _ _ h=>h) hr.low b hb
  grind [y7,wR,IB]
 ·
  intro b hb;rw [y7 hR (vB hr.le) hj Ii] at hb
  rcases hb with hb | ⟨k,h1,h2⟩
  ·
   exact wI b hb
  obtain⟨m,hm,h3,h4⟩:=Kx k h1
  rcases ij m hm hm h3 k h4 with⟨h6,h7⟩ | ⟨h6,h7,h8⟩
  ·
   exact kH m _ b h6 (by rw [gA (wR k)];exact Rv hr.low k b h2)
  refine kH m _ b h6 (by rw [gA (hr.le k)];grind [Dj])
 ·
  refine mA _ (vB hr.le) (fun k hk b hb=>?_) fun k b hb=>?_
  ·
   unfold Dj;rw [if_pos hk];exact hb
  unfold Dj;split
  ·
   exact hr.low k b hb
  exact hb
 ·
  rw [← he];exact wI
 ·
  intro b hb;rw [← he];obtain⟨m,hm,h3,h4⟩:=Kx k hk
  rcases ij m hm hm h3 k h4 with⟨h6,h7⟩ | ⟨h6,h7,h8⟩
  ·
   exact kH m _ b h6 (by rw [gA (wR k)];exact hr.low k b hb)
  exact kH m _ b h6 (by rw [gA (hr.le k)];exact hb)
 intro b hb
 grind [gA,wR]
def pU(ab:List aG) (L:List Nat) (v:Nat→Nat) (am:List (Key × Value)):Prop:=
 (∀j∈L,bX am (aL ab (j:Int))=some (.string (itoa (v j:Int))))∧∀k,(∀j∈L,k≠aL ab (j:Int))→bX am k=none
theorem fo(hR:aw ab) {i j:Nat}(hi:i<ab.length) (hj:j<ab.length) (h:aL ab (i:Int)=aL ab (j:Int)):i=j:=by grind [aw.len,dw]
theorem pU.meet(hR:aw ab) {L:List Nat}{v:Nat→Nat}{am:List (Key × Value)}(h:pU ab L v am) (hL:∀j∈L,j<ab.length) {j:Nat}(hj:j<ab.length) (hn:j∉L) (hv:v j=0):pU ab (L++[j]) v (dC am (aL ab (j:Int)) (.string ⟨#[48]⟩)):=by
 have e0:itoa ((0:Nat):Int)=⟨#[48]⟩:=by decide +kernel
 refine⟨fun k hk=>?_,fun k hk=>?_⟩
 ·
  rw [fy]
  rcases List.mem_append.1 hk with hk | hk
  ·
   rw [if_neg (fun e=>hn (by grind [fo]))];exact h.1 k hk
  grind
 rw [fy,if_neg (fun e=>hk j (by simp) e.symm)]
 exact h.2 k fun m hm=>hk m (by simp [hm])
theorem pU.set(hR:aw ab) {L:List Nat}{v:Nat→Nat}{am:List (Key × Value)}(h:pU ab L v am) (hL:∀j∈L,j<ab.length) {j:Nat}(hj:j∈L) (u:Nat):pU ab L (o9 v j u) (dC am (aL ab (j:Int)) (.string (itoa (u:Int)))):=by
 refine⟨fun k hk=>?_,fun k hk=>?_⟩
 ·
  rw [fy]
  unfold o9
  by_cases e:k=j
  ·
   grind
  rw [if_neg (fun e2=>e (fo hR (hL k hk) (hL j hj) e2.symm)),if_neg e];exact h.1 k hk
 rw [fy,if_neg (fun e=>hk j hj e.symm)];exact h.2 k hk
end
theorem kZ{ab:List aG}(hR:aw ab) {i:Nat}(hi:i<ab.length) (hr:aD ab i=true) {x:Ask}(hx:x∈ab[i].asks) (ho:outside ab x=false) {k:Nat}(hk:x.n=(k:Int)):k<ab.length∧aD ab k=true∧cz ab x=aL ab (k:Int):=by
 have hm:=mz hR hi hr hx
 unfold outside at ho
 rw [Bool.or_eq_false_iff] at ho;rw [ho.1,hk] at hm;refine⟨(ur hR hi hr hm).1,?_,?_⟩
 ·
  grind
 grind [cz]
theorem aw.hb{ab:List aG}(h:aw ab):∀x∈ab,0≤x.c∧x.c≤65535∧x.asks.length≤1000:=fun x hx=>by
 obtain⟨i,hi,rfl⟩:=List.mem_iff_getElem.1 hx;obtain⟨h1,_,h3⟩:=h.at hi
 grind [jy]
theorem gP{ab:List aG}{i:Nat}(hi:i<ab.length) (lB:i≤99) (l:List ByteArray):aN ab (aL ab (i:Int)) l=dt ab (aL ab (i:Int)) l:=by
 unfold aN;rw [if_pos (by grind [fK])]
theorem wS{ab:List aG}{i:Nat}(hi:i<ab.length) (lB:i≤99) (hr:aD ab i=true):sY (aL ab (i:Int))=⟨#[48]⟩:=by grind [sY,fK]
theorem Ct:∀{l:List (Key × Value)}{k:Key}{v:Value},bX l k=some v→dC l k v=l:=by
 intro l
 induction l with
 | nil=>intro k v h;simp [bX] at h
 | cons p r ih=>
  obtain⟨k0,v0⟩:=p;intro k v h;simp only [bX] at h;simp only [dC]
  grind
theorem il{ab:List aG}{i:Nat}(hi:i<ab.length) (lB:i≤99):gT (aL ab (i:Int)):=by grind [gT,fK]
end Go.Rc

namespace Go.Rc
open Go
theorem sj:∀(l:List UInt8) (u:Nat),0<u→0≤decFrom l (u:Int)→∃v:Nat,decFrom l (u:Int)=v∧Lib.decDigits v=Lib.decDigits u++l
 | [],u,_,_=>⟨u,rfl,by simp⟩
 | c::r,u,hu,h=>by
  unfold decFrom at h ⊢
  by_cases hc:c.toNat<48∨57<c.toNat
  ·
   rw [if_pos hc] at h;omega
  rw [if_neg hc] at h ⊢;obtain⟨d,hd⟩:∃d:Nat,c.toNat=48+d:=⟨c.toNat - 48,by omega⟩
  have hd9:d<10:=by omega
  have e:10*(u:Int)+((c.toNat:Int) - 48)=((10*u+d:Nat):Int):=by omega
  rw [e] at h ⊢;obtain⟨v,h1,h2⟩:=sj r (10*u+d) (by omega) h;refine⟨v,h1,?_⟩;rw [h2,Lib.decDigits,dif_neg (by omega),show(10*u+d) / 10=u by omega,show(10*u+d) % 10=d by omega,List.append_assoc]
  grind [UInt8.ofNat_toNat]
theorem Bq{s:ByteArray}(h:0≤fb s):∃v:Nat,fb s=v∧s=itoa (v:Int):=by
 unfold fb at h ⊢
 by_cases hc:s.size=0∨9<s.size∨(s.data.toList.head?=some 48∧s.size≠1)
 ·
  rw [if_pos hc] at h;omega
 rw [if_neg hc] at h ⊢;obtain⟨d⟩:=s
 have key:∃v:Nat,decFrom d.toList 0=v∧Lib.decDigits v=d.toList:=by
  have hsz:(⟨d⟩:ByteArray).size=d.toList.length:=by simp [ByteArray.size]
  rw [hsz] at hc;simp only at hc h ⊢
  cases hl:d.toList with
  | nil=>rw [hl] at hc;simp at hc
  | cons c r=>
   rw [hl] at hc h
   unfold decFrom at h ⊢
   by_cases hn:c.toNat<48∨57<c.toNat
   ·
    rw [if_pos hn] at h;omega
   rw [if_neg hn] at h ⊢;obtain⟨e,he⟩:∃e:Nat,c.toNat=48+e:=⟨c.toNat - 48,by omega⟩
   have h1:10*(0:Int)+((c.toNat:Int) - 48)=(e:Nat):=by omega
   rw [h1] at h ⊢
   have Cu:UInt8.ofNat (48+e)=c:=by grind [UInt8.ofNat_toNat]
   by_cases h0:e=0
   ·
    subst h0
    have apH:c=48:=by rw [← Cu];rfl
    have hr:r=[]:=by grind
    subst hr;exact⟨0,rfl,by rw [Lib.decDigits,dif_pos (by omega),Cu]⟩
   obtain⟨v,h2,h3⟩:=sj r e (by omega) h;refine⟨v,h2,?_⟩;rw [h3,Lib.decDigits,dif_pos (by omega),Cu]
   rfl
 obtain⟨v,h1,h2⟩:=key;refine⟨v,h1,?_⟩
 have e:Lib.itoa (v:Int)=Lib.decDigits v:=by unfold Lib.itoa;rw [if_neg (by omega)];rfl
 unfold itoa
 rw [e,h2]
theorem LU{s:ByteArray}(h:∀n:Nat,n≤65535→s≠itoa (n:Int)):dE s=0:=by
 unfold dE
 split
 ·
  rfl
 grind [Bq]
theorem LV(l:List aG) (m:Nat):m≤eW l m:=by unfold eW;omega
theorem ID{ab:List aG}{i:Nat}(hi:i<ab.length):(block ab (i:Int)).1≤(block ab (i:Int)).2:=by
 have hb:block ab (i:Int)=if aD ab i then ((bY ab i:Int),(eW ab (i+1):Int)) else ((i:Int),(i:Int)+1):=by
  unfold block;rw [if_neg (by omega)];rfl
 grind [iv,LV]
theorem Gq(kind:Int) (c:Nat) (l:List Nat):eX kind 0 (c::l)=eX kind c l:=by
 unfold eX xK wM gx
 simp
end Go.Rc

namespace Go.Rc
open Go
theorem Gr{κ:Type} [DecidableEq κ]:∀{l:List (κ × Value)}{k:κ}{v:Value},bX l k=none→jJ (dC l k v) k=l
 | [],k,v,_=>by simp [dC,jJ]
 | (k0,v0)::r,k,v,h=>by
  by_cases e:k0=k
  ·
   subst e;simp [bX] at h
  simp only [bX,if_neg e] at h;simp only [dC,if_neg e,jJ,Gr h]
def FZ.row(b:Nat) (r:List Value):FZ:=
 ⟨fun Z w=>Z b∧b<w.heap.size∧w.rangeAt b 0 r,fun hZ h=>⟨hZ _ h.1,h.2⟩,fun hs hc h=>⟨h.1,Nat.lt_of_lt_of_le h.2.1 hs,fun j v hv=>by rw [← h.2.2 j v hv];grind [World.cell?_of_block]⟩⟩
def SD.FV(D:SD) (P:Program) (ab:List aG) (x:dP):FZ:=(D.F P ab x).and (FZ.row D.s (D.cells x))
theorem SD.FV.rg{D:SD}{P:Program}{ab:List aG}{x:dP}{Z:Nat→Prop}{w:World}(h:(D.FV P ab x).p Z w):(As.rg D.s 0 (D.cells x)).ok Z w:=As.aa3 h.2.1 h.2.2.1 h.2.2.2
theorem Cv{κ:Type} [DecidableEq κ]:∀(l:List (κ × Value)) (k:κ) (v u:Value),dC (dC l k v) k u=dC l k u
 | [],k,v,u=>by simp [dC]
 | (k0,v0)::r,k,v,u=>by
  by_cases e:k0=k
  ·
   simp [dC,e]
  simp [dC,e,Cv r k v u]
section
variable {ab:List aG}{aF:List dy}
def pa(ab:List aG) (i:Nat) (al:List (Key × Value)):Prop:=∀j:Nat,j≤i→j<ab.length→bX al (aL ab (j:Int))=none
theorem pa.mono{i m:Nat}{al:List (Key × Value)}(h:pa ab i al) (hm:m≤i):pa ab m al:=fun j hj hl=>h j (by omega) hl
theorem pa.put(hR:aw ab) {i m:Nat}{al:List (Key × Value)}(h:pa ab i al) (hi:i<ab.length) (hm:m<i) (v:Value):pa ab m (dC al (aL ab (i:Int)) v):=fun j hj hl=>by
 rw [fy,if_neg (fun e=>by have:=fo hR hi hl e;omega)];exact h j (by omega) hl
theorem pa.nil(i:Nat):pa ab i []:=fun _ _ _=>rfl
noncomputable def dX(ab:List aG) (aF:List dy) (i:Nat):List Key:=(fZ (dt ab (aL ab (i:Int))) (valOf ab aF) (dU ab i)).1
noncomputable def y9(ab:List aG) (aF:List dy) (k:Key):List Key:=if az k then [] else dX ab aF (number k).toNat
theorem jM(hR:aw ab) {i:Nat}(hi:i<ab.length):y9 ab aF (aL ab (i:Int))=dX ab aF i:=by
 have rS:=hR.len
 unfold y9
 rw [if_neg (by grind [eh]),dw hi (by omega),Int.toNat_natCast]
theorem gg.cyc(hR:aw ab) {i:Nat}{a:Key}(h:gg ab i a):aA a=decide (a.kind=32):=by
 have rS:=hR.len
 rcases h with⟨n,h1,rfl⟩ | ⟨m,h1,rfl,_⟩
 ·
  rw [mN (by omega)]
  unfold dx
  rw [if_neg (by omega)]
  rfl
 grind [bZ,fK]
theorem gg.al(hR:aw ab) {i0 j:Nat}{a:Key}{al:List (Key × Value)}(h:gg ab j a) (hr:aD ab j=true) (hc:aA a=false) (ij:az a=false) (hb:bY ab j≤i0) (td:pa ab i0 al):pa ab (number a).toNat al:=by
 have rS:=hR.len
 rcases h with⟨n,h1,rfl⟩ | ⟨m,h1,rfl,_,_,_,h5⟩
 ·
  grind [cO]
 rw [bZ h1 (by omega)] at hc;rw [dw h1 (by omega),Int.toNat_natCast];exact td.mono (by have:=h5 hc hr;omega)
structure RI (ab:List aG) (aF:List dy) (i0:Nat) (qs:List Ask) (u1:Nat→Nat) (L1:List Nat) (nS:Bool) (fQ:List (Key × Value)) (n:Nat) (L2:List Nat) (mP:List (Key × Value)) (pH:Bool) (kJ:List (Key × Value)) (acc:List ByteArray):Prop where
 hn:n≤qs.length
 rd:eK ab aF i0 L2 u1
 up:nR ab aF L2 u1 kJ
 at_:pU ab L2 u1 mP
 m:bq ab aF kJ
 le:ji fQ kJ
 p:si ab L2 u1≤si ab L1 u1∧(pH=true→nS=true∨si ab L2 u1<si ab L1 u1)
 c:pH=false→L2=L1∧nS=false
 pre:L1 <+: L2
 ev:Ev ab aF u1 L2 fQ kJ qs n acc
variable {i0 j n:Nat}{u1:Nat→Nat}{L1 L2:List Nat}{nS pH:Bool}{fQ kJ Rw mP:List (Key × Value)}{acc:List ByteArray}
theorem RI.start{zc:List (Key × Value)}{qs:List Ask}(h1:eK ab aF i0 L1 u1) (h2:nR ab aF L1 u1 fQ) (h3:pU ab L1 u1 zc) (h4:bq ab aF fQ):RI ab aF i0 qs u1 L1 nS fQ 0 L1 zc nS fQ []:=
 ⟨Nat.zero_le _,h1,h2,h3,h4,ji.refl _,⟨Nat.le_refl _,fun h=>.inl h⟩,fun h=>⟨rfl,h⟩,List.prefix_refl _,Ev.start⟩
theorem RI.done(hR:aw ab) (hj:j<ab.length) (hr:aD ab j=true) (h:RI ab aF i0 ab[j].asks u1 L1 nS fQ n L2 mP pH kJ acc) (hn:n<ab[j].asks.length) {vv:Value}(hv:bX kJ (cz ab ab[j].asks[n])=some vv) :
  RI ab aF i0 ab[j].asks u1 L1 nS fQ (n+1) L2 mP pH kJ (acc++[valOf ab aF (cz ab ab[j].asks[n])]):=
 {h with
  hn:=hn
  ev:=h.ev.snoc _ (fun _ _=>rfl) fun _ ho k hk=>.inl (by
   obtain⟨sk,nc,wT⟩:=kZ hR hj hr (List.getElem_mem hn) ho hk
   grind [jl,jX])}
theorem RI.low(hR:aw ab) (hj:j<ab.length) (hr:aD ab j=true) (h:RI ab aF i0 ab[j].asks u1 L1 nS fQ n L2 mP pH kJ acc) (hn:n<ab[j].asks.length) (hc:aA (cz ab ab[j].asks[n])=false) (h4:bq ab aF Rw) (hle:ji kJ Rw) :
  RI ab aF i0 ab[j].asks u1 L1 nS fQ (n+1) L2 mP pH Rw (acc++[valOf ab aF (cz ab ab[j].asks[n])]):=
 {h with
  hn:=hn
  up:=h.up.mono hR h.rd hle
  m:=h4
  le:=h.le.trans hle
  ev:=(h.ev.mono (fun _ h=>h) hle).snoc _ (fun _ _=>rfl) fun _ ho k hk=>by grind [aw.len,kZ,bZ]}
theorem RI.inside(hR:aw ab) (hj:j<ab.length) (hr:aD ab j=true) (hn:n<ab[j].asks.length) (hc:aA (cz ab ab[j].asks[n])=true) :
  ∃kk:Nat,cz ab ab[j].asks[n]=aL ab (kk:Int)∧kk<ab.length∧aD ab kk=true∧gU ab j kk∧outside ab ab[j].asks[n]=false:=by
 have kH:=List.getElem_mem hn
 have gE:outside ab ab[j].asks[n]=false:=by grind [kY]
 obtain⟨kk,Ky,pI,nt⟩:=jL hR hj hr kH gE;exact⟨kk,pI,nt,Ky.lt.2.2.2,Ky,gE⟩
theorem RI.TX(hR:aw ab) (hj:j<ab.length) (hr:aD ab j=true) {L3:List Nat}(h:Ev ab aF u1 L3 fQ kJ ab[j].asks n acc) (hle:ji fQ kJ) (hn:n<ab[j].asks.length) {kk:Nat}(pI:cz ab ab[j].asks[n]=aL ab (kk:Int)) (nt:kk<ab.length) (gE:outside ab ab[j].asks[n]=false)
  (gR:bX kJ (cz ab ab[j].asks[n])=none) (hL:kk∈L3):Ev ab aF u1 L3 fQ kJ ab[j].asks (n+1) (acc++[itoa (u1 kk:Int)]):=by
 have te:bX fQ (aL ab (kk:Int))=none:=by
  cases h:bX fQ (aL ab (kk:Int)) with
  | none=>rfl
  | some v=>have:=hle _ _ h;grind
 refine h.snoc _ (fun _ ho=>by rw [gE] at ho;cases ho) fun _ ho k hk=>?_;obtain⟨sk,nc,wT⟩:=kZ hR hj hr (List.getElem_mem hn) gE hk;rw [pI] at wT
 have:=fo hR nt sk wT
 grind
theorem RI.meet(hR:aw ab) (hj:j<ab.length) (hr:aD ab j=true) (h:RI ab aF i0 ab[j].asks u1 L1 nS fQ n L2 mP pH kJ acc) (pD:j∈L1) (hn:n<ab[j].asks.length) (hc:aA (cz ab ab[j].asks[n])=true)
  (gR:bX kJ (cz ab ab[j].asks[n])=none) (Rk:bX mP (cz ab ab[j].asks[n])=none) :
  ∃kk:Nat,cz ab ab[j].asks[n]=aL ab (kk:Int)∧kk<ab.length∧aD ab kk=true∧RI ab aF i0 ab[j].asks u1 L1 nS fQ (n+1) (L2++[kk]) (dC mP (cz ab ab[j].asks[n]) (.string ⟨#[48]⟩)) true kJ (acc++[⟨#[48]⟩]):=by
 obtain⟨kk,pI,nt,Bp,Ky,gE⟩:=RI.inside hR hj hr hn hc
 have Gp:kk∉L2:=fun hm=>by have:=h.at_.1 kk hm;grind
 have QN:=h.rd.out kk Gp;have Om:dT ab i0 kk:=.step (h.rd.reach j (h.pre.subset pD)) Ky;have VY:=h.rd.meet nt Bp Gp Om;have dZ:=h.rd.Kv nt Bp Gp Om;have Q8:=Gn (v:=u1) (j:=kk) dZ;have dL:=RI.TX hR hj hr (h.ev.mono (L':=L2++[kk]) (fun _ h=>by simp [h]) (ji.refl _)) h.le hn pI nt gE gR (by simp)
 have e0:itoa ((0:Nat):Int)=⟨#[48]⟩:=by decide +kernel
 rw [QN,e0] at dL;refine⟨kk,pI,nt,Bp,⟨hn,VY,h.up.meet QN,?_,h.m,h.le,⟨Nat.le_of_lt (Nat.lt_of_lt_of_le Q8 h.p.1),fun _=>.inr (Nat.lt_of_lt_of_le Q8 h.p.1)⟩,fun h=>(by cases h),h.pre.trans (List.prefix_append _ _),dL⟩⟩;rw [pI];exact h.at_.meet hR (fun k hk=>(h.rd.ring k hk).1) nt Gp QN
theorem RI.abp(hR:aw ab) (hj:j<ab.length) (hr:aD ab j=true) (h:RI ab aF i0 ab[j].asks u1 L1 nS fQ n L2 mP pH kJ acc) (hn:n<ab[j].asks.length) (hc:aA (cz ab ab[j].asks[n])=true)
  (gR:bX kJ (cz ab ab[j].asks[n])=none) {v:Value}(Rk:bX mP (cz ab ab[j].asks[n])=some v) :
  ∃s:ByteArray,v=.string s∧s.size≤1000∧RI ab aF i0 ab[j].asks u1 L1 nS fQ (n+1) L2 mP pH kJ (acc++[s]):=by
 obtain⟨kk,pI,nt,Bp,Ky,gE⟩:=RI.inside hR hj hr hn hc
 have Gp:kk∈L2:=by
  by_cases hm:kk∈L2
  ·
   exact hm
  have:=h.at_.2 (aL ab (kk:Int)) (fun k hk e=>hm (by have:=fo hR nt (h.rd.ring k hk).1 e;rw [this];exact hk))
  grind
 have hg:=h.at_.1 kk Gp;rw [← pI,Rk] at hg;simp only [Option.some.injEq] at hg;refine⟨_,hg,?_,{h with hn:=hn,ev:=RI.TX hR hj hr h.ev h.le hn pI nt gE gR Gp}⟩;have hle:=h.rd.le kk
 have e:Lib.itoa (u1 kk:Int)=Lib.decDigits (u1 kk):=by unfold Lib.itoa;rw [if_neg (by omega)];rfl
 grind [itoa,Lib.decDigits,ByteArray.size]
end
end Go.Rc

namespace Go.Rc
open Go
/-! ### keys in order -/
def pV(k:Key):List Key→List Key
 | []=>[k]
 | x::r=>if cv x k<0 then x::pV k r else if x=k then x::r else k::x::r
def kR(l:List Key):List Key:=l.foldl (fun out k=>pV k out) []
theorem Ry:∀(l:List Key) (k:Key) (p:Nat),p≤l.length→(∀q x,q<p→l[q]?=some x→cv x k<0)→(∀x,l[p]?=some x→0≤cv x k)→pV k l=if l[p]?=some k then l else l.take p++[k]++l.drop p:=by
 intro l
 induction l with
 | nil=>intro k p hp _ _;simp at hp;subst hp;rfl
 | cons x r ih=>
  intro k p hp h1 h2
  cases p with
  | zero=>
   have:=h2 x rfl
   simp only [pV]
   grind
  | succ p=>
   have:=h1 0 x (by omega) rfl
   simp only [pV];rw [if_pos this,ih k p (by simpa using hp) (fun q y hq hy=>h1 (q+1) y (by omega) (by simpa using hy)) (fun y hy=>h2 y (by simpa using hy))]
   grind
theorem Oq(k:Key):∀l,(pV k l).length≤l.length+1:=by
 intro l
 induction l with
 | nil=>simp [pV]
 | cons x r ih=>grind [pV]
theorem zd(l:List Key) (k:Key):kR (l++[k])=pV k (kR l):=by simp [kR]
theorem vC(l:List Key):(kR l).length≤l.length:=by
 have key:∀(l acc:List Key),(l.foldl (fun out k=>pV k out) acc).length≤acc.length+l.length:=by
  intro l
  induction l with
  | nil=>intro acc;simp
  | cons x r ih=>grind [Oq]
 simpa [kR] using key l []
theorem Gs(k:Key):∀(l:List Key) (x:Key),x∈pV k l↔x=k∨x∈l:=by
 intro l
 induction l with
 | nil=>intro x;simp [pV]
 | cons y r ih=>grind [pV]
theorem rA(l:List Key) (x:Key):x∈kR l↔x∈l:=by
 have key:∀(l acc:List Key),x∈l.foldl (fun out k=>pV k out) acc↔x∈acc∨x∈l:=by
  intro l
  induction l with
  | nil=>intro acc;simp
  | cons y r ih=>grind [Gs]
 simpa [kR] using key l []
def Gt(out:List Key) (p:Nat) (x:Key):Bool:=match out[p]? with | some y=>decide (cv y x<0) | none=>false
/-! ### groups -/
def Ld(l:List Rec) (rev:Int) (a x:Key):Prop:=x∈(aH l a).reads∧cJ l rev x=true
inductive cA (l:List Rec) (rev:Int) (k:Key):Key→Prop where
 | one {x:Key}:Ld l rev k x→cA l rev k x
 | step {x y:Key}:cA l rev k x→Ld l rev x y→cA l rev k y
def jO(m:List (Key × Value)) (P:Key→Prop):Prop:=∀k,(bX m k=some (.bool true)↔P k)∧(bX m k=none∨bX m k=some (.bool true))
open Classical in
noncomputable def DH(l:List Rec) (rev:Int) (k x:Key):Bool:=decide (cA l rev k x)
theorem mQ{l:List Rec}{rev:Int}{k x:Key}:DH l rev k x=true↔cA l rev k x:=by unfold DH;simp
noncomputable def Gu(l:List Rec) (rev:Int) (k:Key) (r:Rec):Bool:=decide (r.key≠k) && (DH l rev k r.key && DH l rev r.key k)
noncomputable def k7(l:List Rec) (rev:Int) (k:Key) (rs:List Rec):List Key:=(rs.filter (Gu l rev k)).map (·.key)
theorem wU{l:List Rec}{rev:Int}{k:Key}{i:Nat}(h:i<l.length):k7 l rev k (l.take (i+1))=if Gu l rev k l[i]=true then k7 l rev k (l.take i)++[l[i].key] else k7 l rev k (l.take i):=by
 rw [List.take_succ_eq_append_getElem h];simp only [k7,List.filter_append,List.map_append]
 grind
theorem tf(l:List Rec) (rev:Int) (k:Key) (rs:List Rec):(k7 l rev k rs).length≤rs.length:=by grind [k7]
theorem jO.get{m:List (Key × Value)}{P:Key→Prop}(h:jO m P) (k:Key) {b:Bool}(hb:b=true↔P k):(bX m k).getD (.bool false)=.bool b:=by
 obtain⟨h1,h2⟩:=h k
 grind
theorem jO.put{m:List (Key × Value)}{ys:List Key}(h:jO m (·∈ys)) (x:Key):jO (dC m x (.bool true)) (·∈ys++[x]):=fun k=>by
 rw [fy]
 by_cases e:x=k
 ·
  rw [if_pos e];simp [e]
 rw [if_neg e];obtain⟨h1,h2⟩:=h k
 grind
theorem jO.congr{m:List (Key × Value)}{P Q:Key→Prop}(h:jO m P) (hpq:∀k,P k↔Q k):jO m Q:=fun k=>⟨(h k).1.trans (hpq k),(h k).2⟩
theorem jO.nil:jO [] (·∈([]:List Key)):=fun k=>by simp [bX]
theorem iI{L S:List Key}(h:L.Nodup) (hs:∀x∈L,x∈S):L.length≤S.length:=by
 induction L generalizing S with
 | nil=>simp
 | cons a r ih=>
  have ha:=hs a (by simp);rw [List.nodup_cons] at h
  have:=ih (S:=S.erase a) h.2 fun x hx=>by grind
  grind
theorem qv{l:List Rec}{rev:Int}{x:Key}(h:cJ l rev x=true):x∈l.map (·.key):=by
 unfold cJ at h
 rw [Bool.and_eq_true] at h
 grind [aB]
theorem cA.iK{l:List Rec}{rev:Int}{k x:Key}(h:cA l rev k x):cJ l rev x=true:=by
 cases h with
 | one h=>exact h.2
 | step _ h=>exact h.2
theorem DI{l:List Rec}{rev:Int}{k:Key}{ys:List Key}(hs:∀x∈ys,cA l rev k x) (hc:∀y∈k::ys,∀x,Ld l rev y x→x∈ys) (x:Key):x∈ys↔cA l rev k x:=by
 refine⟨hs x,fun h=>?_⟩
 induction h with
 | one h=>exact hc k (by simp) _ h
 | step _ h2 ih=>exact hc _ (by simp [ih]) _ h2
noncomputable def aC(l:List Rec) (rev:Int) (k:Key):List Key:=if cJ l rev k then kR (k::k7 l rev k l) else [k]
def cL(rev:Int) (group:List Key) (bS:Bool) (r:Rec):Rec:=if r.key∈group then (if bS then {r with bS:=true} else {r with ax:=rev}) else r
def dQ(x:dP) (group:List Key) (bS:Bool):dP:={x with ak:=x.ak.map (cL x.ae group bS)}
def aJ(x:dP) (k:Key):Bool:=(aB x.ak k).isSome && decide ((aH x.ak k).ax=x.ae)
def bp(val:Key→ByteArray) (x:dP) (k:Key):Int:=
 if az k then (cZ x.ad k).changed
 else if (aB x.ak k).isSome && (decide ((aH x.ak k).ax=x.ae) || decide (val k=(aH x.ak k).value)) then (aH x.ak k).changed else x.ae
def dz(val:Key→ByteArray) (x:dP) (k:Key):ByteArray:=if aA k then val k else uo x k
/-! ### a request -/
structure ES where
 b:dP
 busy:List (Key × Value)
 cP:List Key
 e:Int
def ES.on(s:ES) (k:Key):Bool:=(bX s.busy k).isSome
def fB(s:ES) (k:Key):Bool:=az k || ((s.on k && aA k) || aJ s.b k)
mutual
noncomputable def mb(ab:List aG) (val:Key→ByteArray):Nat→ES→Key→Option ES
 | 0,_,_=>none
 | f+1,s,k=>
  if s.e≠0∨az k=true then some s
  else if aJ s.b k then some s
  else if s.on k then (if aA k then some s else some {s with e:=43})
  else (dF ab val f {s with busy:=dC s.busy k (.bool true)} k 0).bind fun p=>
   (if p.2 then gW ab val f p.1 k [] [] else some p.1).bind fun s3=>some {s3 with busy:=jJ s3.busy k}
noncomputable def dF(ab:List aG) (val:Key→ByteArray):Nat→ES→Key→Nat→Option (ES × Bool)
 | 0,_,_,_=>none
 | f+1,s,k,at_=>
  if s.e≠0 then some (s,false)
  else if !(aB s.b.ak k).isSome || (aH s.b.ak k).bS then some (s,true)
  else if (aH s.b.ak k).ax=s.b.ae then some (s,false)
  else
   match (bW s.b.ak (aC s.b.ak s.b.ae k))[at_]? with
   | none=>some ({s with b:=dQ s.b (aC s.b.ak s.b.ae k) false},false)
   | some c=>
    if fB s c.read=false then (mb ab val f s c.read).bind fun s'=>dF ab val f s' k at_
    else if (aH s.b.ak c.eY).ax<bp val s.b c.read then
     some ((if aA k then {s with b:=dQ s.b (aC s.b.ak s.b.ae k) true} else s),true)
    else dF ab val f s k (at_+1)
noncomputable def gW(ab:List aG) (val:Key→ByteArray):Nat→ES→Key→List Key→List ByteArray→Option ES
 | 0,_,_,_,_=>none
 | f+1,s,k,reads,ah=>
  if s.e≠0 then some s
  else if (aN ab k ah).done then
   (if !(aB s.b.ak k).isSome && decide (4000≤s.b.ak.length) then some {s with e:=45}
   else some {s with b:={s.b with ak:=fP s.b.ak (dI s.b k (aN ab k ah).value reads)},cP:=s.cP++[k]})
  else (mb ab val f s (aN ab k ah).ask).bind fun s'=>
   if s'.e=0 then gW ab val f s' k (reads++[(aN ab k ah).ask]) (ah++[dz val s'.b (aN ab k ah).ask]) else gW ab val f s' k reads ah
end
/-! ### a solver, as one thing -/
def As.l3(P:Program) (ST:Nat) (ab:List aG) (x:dP) (D:SD):As where
 fp y:=y=D.s∨y=D.m
 ok Z w:=D.s≠D.m∧cV w D.s ST (D.cells x)∧(∃ml,bq ab x.ad ml∧KM Key.val w D.m ml)∧(D.F P ab x).p Z w
 lt:=fun⟨_,h1,⟨_,_,h2⟩,_⟩ y hy=>by rcases hy with rfl | rfl;exact h1.lt;exact h2.lt
 mono hZ:=fun⟨h0,h1,h2,h3⟩=>⟨h0,h1,h2,(D.F P ab x).mono hZ h3⟩
 st:=fun hs hc ⟨h0,h1,⟨ml,h2,h3⟩,h4⟩=>⟨h0,(As.blk D.s ST (D.cells x)).st (Z:=fun _=>False) hs (fun y hy hl=>hc y (.inl (.inl (by rcases hy with hy | hy;exact hy;exact hy.elim))) hl) h1,
  ⟨ml,h2,(As.map Key.val D.m ml).st (Z:=fun _=>False) hs (fun y hy hl=>hc y (.inl (.inr (by rcases hy with hy | hy;exact hy;exact hy.elim))) hl) h3⟩,(D.F P ab x).st hs (fun y hy hl=>hc y (.inr hy) hl) h4⟩
section
variable {w0 w w':World}{M Z:Nat→Prop}{l:List As}{A B C:As}
theorem St.split(h:St w0 M Z w (C::l)) (hA:A.ok Z w) (hB:B.ok Z w) (hfA:∀x,A.fp x→C.fp x) (hfB:∀x,B.fp x→C.fp x) (hd:∀x,A.fp x→¬B.fp x):St w0 M Z w (A::B::l):=by
 obtain⟨Ro,QH⟩:=List.pairwise_cons.1 h.vA;refine⟨h.cW,h.ma,?_,?_,?_,?_⟩
 ·
  intro D hD x hx hz;simp only [List.mem_cons] at hD
  rcases hD with rfl | rfl | hD
  ·
   exact h.o5 C (by simp) x (hfA x hx) hz
  ·
   exact h.o5 C (by simp) x (hfB x hx) hz
  exact h.o5 D (by simp [hD]) x hx hz
 ·
  intro D hD x hx;simp only [List.mem_cons] at hD
  rcases hD with rfl | rfl | hD
  ·
   exact h.qc C (by simp) x (hfA x hx)
  ·
   exact h.qc C (by simp) x (hfB x hx)
  exact h.qc D (by simp [hD]) x hx
 ·
  simp_all
 intro D hD;simp only [List.mem_cons] at hD
 rcases hD with rfl | rfl | hD
 ·
  exact hA
 ·
  exact hB
 exact h.ok D (by simp [hD])
theorem St.join(h:St w0 M Z w (A::B::l)) (hC:C.ok Z w) (hf:∀x,C.fp x→A.fp x∨B.fp x):St w0 M Z w (C::l):=by
 obtain⟨Ro,QH⟩:=List.pairwise_cons.1 h.vA;obtain⟨hd3,hd4⟩:=List.pairwise_cons.1 QH;refine⟨h.cW,h.ma,?_,?_,?_,?_⟩
 ·
  intro D hD x hx hz;simp only [List.mem_cons] at hD
  rcases hD with rfl | hD
  ·
   rcases hf x hx with h1 | h1
   ·
    exact h.o5 A (by simp) x h1 hz
   exact h.o5 B (by simp) x h1 hz
  exact h.o5 D (by simp [hD]) x hx hz
 ·
  intro D hD x hx;simp only [List.mem_cons] at hD
  rcases hD with rfl | hD
  ·
   rcases hf x hx with h1 | h1
   ·
    exact h.qc A (by simp) x h1
   exact h.qc B (by simp) x h1
  exact h.qc D (by simp [hD]) x hx
 ·
  grind [List.pairwise_cons]
 intro D hD;simp only [List.mem_cons] at hD
 rcases hD with rfl | hD
 ·
  exact hC
 exact h.ok D (by simp [hD])
theorem St.one(h:St w0 M Z w l) (hA:A∈l):St w (rM [A]) Z w [A] where
 cW:=ja.refl _ _
 ma:=h.ma
 o5 D hD:=by simp at hD;subst hD;exact h.o5 _ hA
 qc D hD x hx:=.inl ⟨D,hD,hx⟩
 vA:=by simp
 ok D hD:=by simp at hD;subst hD;exact h.ok _ hA
theorem St.Cw(h:St w0 M Z w l) (hA:A∈l) (h':St w (rM [A]) Z w' [A]):St w0 M Z w' l:=
 h.same hA (h'.cW.mono fun x _ ⟨D,hD,hx⟩=>by simp at hD;subst hD;exact hx) (h'.ok A (by simp))
theorem Kz(hA:A∈l) {x:Nat}(hx:rM [A] x):rM l x:=by obtain⟨D,hD,hx⟩:=hx;simp at hD;subst hD;exact⟨D,hA,hx⟩
end
theorem As.gv{P:Program}{ST:Nat}{ab:List aG}{x:dP}{D:SD}{Z:Nat→Prop}{w:World}(h:(As.l3 P ST ab x D).ok Z w):(D.F P ab x).p Z w:=h.2.2.2
theorem As.gvb{P:Program}{ST:Nat}{ab:List aG}{x:dP}{D:SD}{Z:Nat→Prop}{w:World}(h:(As.l3 P ST ab x D).ok Z w):cV w D.s ST (D.cells x):=h.2.1
structure EA where
 (a1 a2 a3:Option Addr) (n1 c1 n2 c2 n3 c3:Nat)
def EA.cells(E:EA) (sb bb:Nat) (s:ES):List Value:=
 [.pointer (some ⟨sb,0,none⟩),.int .i64 s.b.ae,.slice E.a1 E.n1 E.c1,.slice E.a2 E.n2 E.c2,.map (some bb),.slice E.a3 E.n3 E.c3,.int .i64 s.e]
theorem IE{x:dP}{group:List Key}{bS:Bool}{i:Nat}(h:i<x.ak.length) (hi:i≤x.ak.length):(((x.ak.take i).map (cL x.ae group bS))++x.ak.drop i).set i (cL x.ae group bS x.ak[i])=((x.ak.take (i+1)).map (cL x.ae group bS))++x.ak.drop (i+1):=by
 rw [List.set_append_right _ _ (by simp;omega)];simp only [List.length_map,List.length_take,Nat.min_eq_left hi,Nat.sub_self]
 grind [List.drop_eq_getElem_cons]
end Go.Rc

namespace Go.Rc
open Go
structure Good (ab:List aG) (aF:List dy) (s:ES):Prop where
 aF:s.b.ad=aF
 len:s.b.ak.length≤4000
 key:∀r∈s.b.ak,gG ab r.key
 H5:∀r∈s.b.ak,r.reads.length≤4000∧∀a∈r.reads,gG ab a
 mE:(s.busy.map (·.1)).Nodup
 busy:∀k,bX s.busy k=none∨bX s.busy k=some (.bool true)
structure KA (s s':ES):Prop where
 cP:s.cP.length≤s'.cP.length
 rev:s'.b.ae=s.b.ae
theorem KA.refl(s:ES):KA s s:=⟨Nat.le_refl _,rfl⟩
theorem KA.trans{s t u:ES}(h:KA s t) (h':KA t u):KA s u:=⟨Nat.le_trans h.cP h'.cP,h'.rev.trans h.rev⟩
section
variable {ab:List aG}{aF:List dy}{s:ES}{k:Key}
theorem Good.on(h:Good ab aF s) (k:Key):Good ab aF {s with busy:=dC s.busy k (.bool true)}:=
 {h with mE:=iq h.mE _ _,busy:=fun k'=>by show bX (dC s.busy k (.bool true)) k'=none∨_;rw [fy];split;exact .inr rfl;exact h.busy k'}
theorem Good.off(h:Good ab aF s) (k:Key):Good ab aF {s with busy:=jJ s.busy k}:=
 {h with mE:=by grind [NZ,mE],busy:=fun k'=>by show bX (jJ s.busy k) k'=none∨_;rw [F3 h.mE];split;exact .inl rfl;exact h.busy k'}
theorem Good.err(h:Good ab aF s) (e:Int):Good ab aF {s with e:=e}:={h with}
theorem dN(rev:Int) (g:List Key) (d:Bool) (r:Rec):(cL rev g d r).key=r.key∧(cL rev g d r).reads=r.reads:=by unfold cL;grind
theorem Good.mark(h:Good ab aF s) (g:List Key) (d:Bool):Good ab aF {s with b:=dQ s.b g d}:=
 {h with
  len:=by show((s.b.ak.map _).length≤4000);rw [List.length_map];exact h.len
  key:=fun r hr=>by obtain⟨q,hq,rfl⟩:=List.mem_map.1 hr;rw [(dN _ _ _ q).1];exact h.key q hq
  H5:=fun r hr=>by obtain⟨q,hq,rfl⟩:=List.mem_map.1 hr;rw [(dN _ _ _ q).2];exact h.H5 q hq}
theorem KA.mark(g:List Key) (d:Bool):KA s {s with b:=dQ s.b g d}:=⟨Nat.le_refl _,rfl⟩
theorem iJ(r:Rec):∀(l:List Rec) (b:Bool) (x:Rec),x∈fY r l b→x=r∨x∈l:=by
 intro l
 induction l with
 | nil=>grind [fY]
 | cons y ys ih=>grind [fY]
theorem Gv(r:Rec):∀(l:List Rec) (b:Bool),(fY r l b).length+(l.filter fun x=>decide (cv x.key r.key=0)).length=l.length+(if b then 0 else 1):=by
 intro l
 induction l with
 | nil=>intro b;cases b <;> simp [fY]
 | cons y ys ih=>
  intro b;have h1:=ih (b || decide (0≤cv y.key r.key));simp only [fY,List.length_append,List.length_cons]
  grind
theorem Ot{l:List Rec}{r:Rec}(h:(aB l r.key).isSome=true) (hc:cv r.key r.key=0):(fP l r).length≤l.length:=by
 have h1:=Gv r l false;obtain⟨x,hx⟩:=Option.isSome_iff_exists.1 h;have h2:=List.mem_of_find?_eq_some hx;have h3:=List.find?_some hx
 simp at h3
 have h4:0<(l.filter fun x=>decide (cv x.key r.key=0)).length:=List.length_pos_of_mem (List.mem_filter.2 ⟨h2,by rw [h3];simp [hc]⟩)
 unfold fP
 simp at h1
 omega
theorem Cx:∀l:List UInt8,Lib.compareBytes l l=0
 | []=>by simp [Lib.compareBytes]
 | a::r=>by simp [Lib.compareBytes,Cx r]
theorem k8(k:Key):cv k k=0:=by unfold cv;simp [Cx]
theorem Good.put(h:Good ab aF s) {r:Rec}{cP:List Key}(hk:gG ab r.key) (hr:r.reads.length≤4000∧∀a∈r.reads,gG ab a) (h4:(!(aB s.b.ak r.key).isSome && decide (4000≤s.b.ak.length))=false) :
  Good ab aF {s with b:={s.b with ak:=fP s.b.ak r},cP:=cP}:=
 {h with
  len:=by grind [fP,len,Ot,k8,vx]
  key:=fun x hx=>by rcases iJ r _ _ x hx with rfl | hx;exact hk;exact h.key x hx
  H5:=fun x hx=>by rcases iJ r _ _ x hx with rfl | hx;exact hr;exact h.H5 x hx}
def jq(ab:List aG) (k:Key) (n:Nat):Prop:=∃i,i<ab.length∧k=aL ab (i:Int)∧n≤dU ab i
theorem gG.jE(h:gG ab k) (hi:az k=false):jq ab k 0:=by
 cases h with
 | cell h=>grind [cO]
 | gF h lB=>exact⟨_,h,rfl,Nat.zero_le _⟩
theorem jq.next(hR:aw ab) {ah:List ByteArray}(h:jq ab k ah.length) (hd:(aN ab k ah).done=false):jq ab k (ah.length+1)∧gG ab (aN ab k ah).ask:=by
 obtain⟨i,hi,rfl,hn⟩:=h
 have lB:i≤99:=by have:=hR.len;omega
 rw [gP hi lB] at hd ⊢
 rcases Nat.lt_or_ge ah.length (dU ab i) with dZ | qi
 ·
  obtain⟨a,h1,h2,_⟩:=fA hR hi dZ;rw [h1];exact⟨⟨i,hi,rfl,dZ⟩,h2.QL hR⟩
 grind [jc]
theorem jq.le(hR:aw ab) {n:Nat}(h:jq ab k n):n≤6:=by obtain⟨i,hi,_,hn⟩:=h;have:=qu hR hi;omega
theorem jq.not(hR:aw ab) {n:Nat}(h:jq ab k n):gT k∧az k=false:=by
 obtain⟨i,hi,rfl,hn⟩:=h;grind [aw.len,il,eh]
theorem jq.QL(hR:aw ab) {n:Nat}(h:jq ab k n):gG ab k:=by obtain⟨i,hi,rfl,_⟩:=h;have:=hR.len;exact .gF hi (by omega)
end
section
variable {ab:List aG}{val:Key→ByteArray}{aF:List dy}
def UpG(ab:List aG) (val:Key→ByteArray) (aF:List dy) (f:Nat):Prop:=∀s k s',mb ab val f s k=some s'→Good ab aF s→gG ab k→Good ab aF s'∧KA s s'
def ChG(ab:List aG) (val:Key→ByteArray) (aF:List dy) (f:Nat):Prop:=∀s k n s' b,dF ab val f s k n=some (s',b)→Good ab aF s→Good ab aF s'∧KA s s'
def RuG(ab:List aG) (val:Key→ByteArray) (aF:List dy) (f:Nat):Prop:=∀s k reads ah s',gW ab val f s k reads ah=some s'→Good ab aF s→jq ab k ah.length→reads.length=ah.length→(∀a∈reads,gG ab a)→Good ab aF s'∧KA s s'
theorem iE{ab:List aG}{aF:List dy}{s:ES}(h:Good ab aF s) {group:List Key}{n:Nat}{c:sg}(hc:(bW s.b.ak group)[n]?=some c):gG ab c.read:=by
 have h1:=List.mem_of_getElem? hc;obtain⟨m,hm,h2⟩:=List.mem_flatMap.1 h1;obtain⟨a,ha,rfl⟩:=List.mem_map.1 h2;have h3:=(List.mem_filter.1 ha).1
 show gG ab a
 unfold aH at h3
 cases hf:aB s.b.ak m with
 | none=>rw [hf] at h3;simp [se] at h3
 | some r=>rw [hf] at h3;exact(h.H5 r (List.mem_of_find?_eq_some hf)).2 a h3
theorem pc(l:List Rec) (rev:Int) (k:Key):(aC l rev k).length≤l.length+1:=by grind [aC,vC,tf]
theorem DJ{ab:List aG}{aF:List dy}{s:ES}(h:Good ab aF s) {group:List Key}(hg:group.length≤4001):∀i,((group.take i).flatMap fun m=>dW group m (aH s.b.ak m).reads).length≤100000000:=by
 intro i
 have h1:∀l:List Key,(l.flatMap fun m=>dW group m (aH s.b.ak m).reads).length≤l.length*4000:=by
  intro l
  induction l with
  | nil=>simp
  | cons m r ih=>
   simp only [List.flatMap_cons,List.length_append,List.length_cons];have h2:=mh group m (aH s.b.ak m).reads
   have h3:(aH s.b.ak m).reads.length≤4000:=by
    unfold aH
    cases hf:aB s.b.ak m with
    | none=>simp [se]
    | some r=>exact(h.H5 r (List.mem_of_find?_eq_some hf)).1
   rw [Nat.add_mul]
   omega
 grind
theorem DK{ab:List aG}{aF:List dy}{s:ES}(h:Good ab aF s) {group:List Key}(hg:group.length≤4001):(bW s.b.ak group).length≤100000000:=by
 have h1:=DJ h hg group.length;rw [List.take_of_length_le (Nat.le_refl _)] at h1;exact h1
theorem df(hR:aw ab):∀f,UpG ab val aF f∧ChG ab val aF f∧RuG ab val aF f:=by
 intro f
 induction f with
 | zero=>exact⟨fun s k s' h=>by simp [mb] at h,fun s k n s' b h=>by simp [dF] at h,fun s k r a s' h=>by simp [gW] at h⟩
 | succ f ih=>
  obtain⟨LW,Fz,H6⟩:=ih;refine⟨?_,?_,?_⟩
  ·
   intro s k s' h hg hk
   unfold mb at h
   split at h
   ·
    cases h;exact⟨hg,.refl _⟩
   rename_i he
   split at h
   ·
    cases h;exact⟨hg,.refl _⟩
   split at h
   ·
    split at h <;> cases h
    ·
     exact⟨hg,.refl _⟩
    exact⟨hg.err _,⟨Nat.le_refl _,rfl⟩⟩
   obtain⟨p,hp,h⟩:=Option.bind_eq_some_iff.1 h;obtain⟨t,ht,h⟩:=Option.bind_eq_some_iff.1 h
   cases h
   obtain⟨h1,h2⟩:=Fz _ _ _ p.1 p.2 (by rw [hp]) (hg.on k);have h2':KA s p.1:=⟨h2.cP,h2.rev⟩
   have h3:Good ab aF t∧KA s t:=by
    split at ht
    ·
     obtain⟨h4,h5⟩:=H6 _ _ _ _ _ ht h1 (hk.jE (by simp at he;exact he.2)) rfl (fun a ha=>by cases ha);exact⟨h4,h2'.trans h5⟩
    cases ht;exact⟨h1,h2'⟩
   exact⟨h3.1.off k,⟨h3.2.cP,h3.2.rev⟩⟩
  ·
   intro s k n s' b h hg
   unfold dF at h
   split at h
   ·
    cases h;exact⟨hg,.refl _⟩
   split at h
   ·
    cases h;exact⟨hg,.refl _⟩
   split at h
   ·
    cases h;exact⟨hg,.refl _⟩
   split at h
   ·
    cases h;exact⟨hg.mark _ _,.mark _ _⟩
   rename_i c hc
   split at h
   ·
    obtain⟨t,ht,h⟩:=Option.bind_eq_some_iff.1 h;obtain⟨h1,h2⟩:=LW _ _ _ ht hg (iE hg hc);obtain⟨h3,h4⟩:=Fz _ _ _ _ _ h h1;exact⟨h3,h2.trans h4⟩
   split at h
   ·
    split at h <;> cases h
    ·
     exact⟨hg.mark _ _,.mark _ _⟩
    exact⟨hg,.refl _⟩
   exact Fz _ _ _ _ _ h hg
  intro s k reads ah s' h hg ha hl hr
  unfold gW at h
  split at h
  ·
   cases h;exact⟨hg,.refl _⟩
  split at h
  ·
   split at h
   ·
    cases h;exact⟨hg.err _,⟨Nat.le_refl _,rfl⟩⟩
   rename_i h4
   cases h
   have h6:=ha.le hR;exact⟨hg.put (r:=dI s.b k (aN ab k ah).value reads) (ha.QL hR) ⟨by show reads.length≤4000;omega,hr⟩ (by show(!(aB s.b.ak k).isSome && _)=false;simpa using h4),⟨by simp,rfl⟩⟩
  rename_i hd
  obtain⟨t,ht,h⟩:=Option.bind_eq_some_iff.1 h;have hn:=ha.next hR (by simpa using hd);obtain⟨h1,h2⟩:=LW _ _ _ ht hg hn.2
  split at h
  ·
   obtain⟨h3,h4⟩:=H6 _ _ _ _ _ h h1 (by simpa using hn.1) (by simp [hl]) (fun a ha=>by grind);exact⟨h3,h2.trans h4⟩
  obtain⟨h3,h4⟩:=H6 _ _ _ _ _ h h1 ha hl hr;exact⟨h3,h2.trans h4⟩
end
end Go.Rc

