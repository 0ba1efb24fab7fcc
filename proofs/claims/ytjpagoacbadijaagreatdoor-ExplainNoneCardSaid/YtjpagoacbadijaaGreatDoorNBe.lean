/- Base of the proof: frames, memory, ownership, and the plain meaning of rule systems. Conditions: as each lemma says. -/
import Derived.Test.YtjpagoacbadijaaGreatDoorNBd
import Derived.Lib.IfaceEq
import Derived.Lib.BufferWrite
import Derived.Lib.UnsafeStr
import Derived.Laws.MakeOwn
import Derived.Test.YtjpagoacbadijaaGreatDoorNBc
set_option linter.all false
namespace Go.Rc
open Go
theorem aV.Gp{w w':World}(h:RowKit.Below w.heap.size w w') (hd:w.drawn≤w'.drawn):aV [] w w':=⟨h.os,h.tape,h.output,h.size,hd,fun k hk _=>h.block k hk⟩
theorem uu(w:World) (p:Addr) (n:Nat):(w.freeze p n).drawn=w.drawn:=by grind [World.freeze]
section
variable {P:Program}{n:Nat}{kv:KV}{w w':World}{K:KV→World→Prop}{d:Tmp}{ty:TypeId}{pos:String}{af:Array Edge}{g:Option (Nat × Bool)}{T U:TypeId}{op:Op}{v:Value}{x y:Operand}
theorem OX.val(hs:bO op=false) (hd:Nat.blt d n=true) (hk:known kv op=true) (hr:(execOp (lX kv) ⟨some d,op,ty,pos,af,g⟩).run P w=.ok (.value v) w') (h:K ((d,v)::kv) w'):OX P ⟨some d,op,ty,pos,af,g⟩ n kv w K:=⟨hs,hd,hk,by rw [hr];exact h⟩
theorem PV.Oi{de:TypeDesc}(hT:P.underlying T=some de) (hd:∀ms,de≠.interface ms) (hx:ev kv x=some v):PV P (.makeInterface T x) ty kv w (.iface T v):=
 ⟨rfl,by simp [known,opers,hx],fun _ _ _ _=>by
  simp only [execOp,aJ hx,Instr.makeInterface,Sem.run_bind,run_underlying hT,Result.andThen_ok]
  simp_all⟩
theorem PV.V9{ms:Array (String × TypeId)}{tx:TypeId}{q:IntKind}{a b:Int}(hT:P.underlying T=some (.interface ms)) (hc:(P.info? tx).map (·.comparable)=some true) (Nq:P.underlying tx=some (.int q)) (hx:ev kv x=some (.iface tx (.int .i64 a))) (hy:ev kv y=some (.iface tx (.int .i64 b))):PV P (.binOp .eql T x y U) ty kv w (.bool (a == b)):=
 ⟨rfl,by simp [known,opers,hx,hy],fun _ _ _ _=>by
  have h:=Lib.run_eql_iface_int w (k:=.i64) a b hT hc Nq;simp only [execOp,aJ hx,aJ hy]
  simp [eqGuard,h]⟩
theorem OX.abt{r:Value}(hd:Nat.blt d n=true) {u v:Value}(hx:ev kv x=some u) (hy:ev kv y=some v) (hr:(Instr.makeSlice T u v).run P w=.ok r w') (h:K ((d,r)::kv) w'):OX P ⟨some d,.makeSlice T x y,ty,pos,af,g⟩ n kv w K:=
 OX.val rfl hd (by simp [known,opers,hx,hy]) (by simp only [execOp,aJ hx,aJ hy,Sem.run_bind,hr,Result.andThen_ok];rfl) h
theorem OX.abu{r u v:Value}(hd:Nat.blt d n=true) (hx:ev kv x=some u) (hy:ev kv y=some v) (hr:(Builtin.copy_ #[T,U] ty #[u,v]).run P w=.ok r w') (h:K ((d,r)::kv) w'):OX P ⟨some d,.call {callee:=.builtin .copy,args:=#[x,y],argTypes:=#[T,U]},ty,pos,af,g⟩ n kv w K:=
 OX.val rfl hd (by simp [known,opers,hx,hy]) (by simp [execOp,aJ hx,aJ hy,resolve,invoke,builtin,hr]) h
theorem OX.ahC{r u v:Value}(hd:Nat.blt d n=true) (hx:ev kv x=some u) (hy:ev kv y=some v) (hr:(Builtin.unsafeString_ #[T,U] ty #[u,v]).run P w=.ok r w') (h:K ((d,r)::kv) w'):OX P ⟨some d,.call {callee:=.builtin .unsafeString,args:=#[x,y],argTypes:=#[T,U]},ty,pos,af,g⟩ n kv w K:=
 OX.val rfl hd (by simp [known,opers,hx,hy]) (by simp [execOp,aJ hx,aJ hy,resolve,invoke,builtin,hr]) h
end
theorem DK{P:Program}{T S e pt it ty1 ty2:TypeId}{i:TypeInfo}(hT:P.underlying T=some (.slice e)) (hi:P.info? e=some i) (hz:i.zero=some (.int .u8 0)) (h1:i.size=1) (hb:i.bytes=1) (hp:P.underlying pt=some (.pointer e)) {s:ByteArray}(h0:s.size≠0) (hs:s.size≤1000) (w:World) :
  ∃w1 w2 w3:World,(Instr.makeSlice T (.int .i64 (s.size:Int)) (.int .i64 (s.size:Int))).run P w=.ok (.slice (some ⟨w.heap.size,0,none⟩) s.size s.size) w1∧
   (Builtin.copy_ #[T,S] ty1 #[.slice (some ⟨w.heap.size,0,none⟩) s.size s.size,.string s]).run P w1=.ok (goInt s.size) w2∧
   (Builtin.unsafeString_ #[pt,it] ty2 #[.pointer (some ⟨w.heap.size,0,none⟩),.int .i64 (s.size:Int)]).run P w2=.ok (.string s) w3∧aV [] w w3:=by
 have abv:(P.info? e).map (·.size)=some 1:=by rw [hi];simp [h1]
 have hco:P.cellsOf e=1:=by simp [Program.cellsOf,hi,h1]
 have Nr:(Lib.byteCells s.data.toList).length=s.size:=by rw [Lib.byteCells_length,← Lib.size_eq]
 have TZ:=run_make (P:=P) w T e i (.int .u8 0) hT hi hz .i64 .i64 (s.size:Int) (s.size:Int) (by omega) (by omega) (by rw [hb];omega) (by omega)
 have hMs:(madeCells (Value.int .u8 0).cells (((s.size:Nat):Int).toNat*i.size)).size=s.size:=by rw [size_madeCells,h1];simp
 generalize madeCells (Value.int .u8 0).cells (((s.size:Nat):Int).toNat*i.size)=M at TZ hMs
 rw [Int.toNat_natCast] at TZ;have hcp:=Lib.run_copy_row_string (P:=P) (w.alloc (.cells M e)) T S ty1 e w.heap.size 0 s.size s.size s M e hT abv (heap_alloc_new w _) (Nat.le_refl _) (by omega)
 have hY:(M.toList.take 0++Lib.byteCells s.data.toList++M.toList.drop (0+s.size)).toArray=(Lib.byteCells s.data.toList).toArray:=by grind
 rw [hY] at hcp;have hg:((w.alloc (.cells M e)).setRow w.heap.size (Lib.byteCells s.data.toList).toArray).heap[w.heap.size]?=some (.cells (Lib.byteCells s.data.toList).toArray e (0,0)):=setRow_heap _ _ M _ e (0,0) (heap_alloc_new w _);have kW:s.data.toList≠[]:=fun h=>h0 (by rw [Lib.size_eq,h];rfl);have hus:=Lib.run_unsafeString_row (P:=P) ((w.alloc (.cells M e)).setRow w.heap.size (Lib.byteCells s.data.toList).toArray) pt it ty2 e hp hco w.heap.size s.size (by grind [World.shape?]) s.data.toList kW (by rw [← Lib.size_eq];omega) (by rw [← Lib.size_eq];omega)
  (fun j z hz=>Lib.cells_of_row hg s.size j _ (by grind [Lib.byteCells]))
 rw [← Lib.size_eq] at hus;have hB:RowKit.Below w.heap.size (w.alloc (.cells M e)) ((w.alloc (.cells M e)).setRow w.heap.size (Lib.byteCells s.data.toList).toArray):=⟨rfl,rfl,rfl,by simp [World.setRow],fun k hk=>setRow_other _ _ _ _ (by omega)⟩;refine⟨_,_,_,TZ,hcp,hus,aV.Gp (Lib.below_freeze (((RowKit.Below.refl _ w).alloc (Nat.le_refl _) _).trans hB) (p:=⟨w.heap.size,0,none⟩) (Nat.le_refl _) _) ?_⟩;rw [uu];exact Nat.le_refl _
end Go.Rc

namespace Go.Rc
open Go
instance:Inhabited dB:=⟨⟨da,⟨#[]⟩,0⟩⟩
def dQ.row(x:dQ) (a1:Option Addr) (n1 c1:Nat) (a2:Option Addr) (n2 c2:Nat):List Value:=[.int .i64 x.ad,.slice a1 n1 c1,.slice a2 n2 c2]
def jQ(rev:Int) (l:List dB) (i:Nat):Bool:=
 !gO l[i]!.key || (!az l[i]!.key || ((decide (0<(i:Int)) && decide (0≤cw l[i - 1]!.key l[i]!.key)) || (decide (1073741824<(l[i]!.value.size:Int)) || (decide (l[i]!.changed<0) || decide (rev<l[i]!.changed)))))
def DL(rev:Int) (l:List dB):Prop:=∀i y,l[i]?=some y→jQ rev l i=false
open Classical in
noncomputable def uv(l:List Rec):Bool:=decide (qt l)
theorem II{l:List Rec}{b:Bool}(h:b=true↔qt l):b=uv l:=by
 unfold uv
 grind
def lJ(x:dQ):Prop:=DL x.ad x.ae∧(∀(i:Nat) (r:Rec),x.ak[i]?=some r→r.ax≤x.ad)∧0≤x.ad∧x.ad≤1073741824∧x.ae.length≤64∧qt x.ak
noncomputable def pe(x:dQ):Bool:=decide (0≤x.ad) && (decide (x.ad≤1073741824) && (decide ((x.ae.length:Int)≤64) && uv x.ak))
theorem wW(x:dQ):pe x=true↔0≤x.ad∧x.ad≤1073741824∧x.ae.length≤64∧qt x.ak:=by
 simp only [pe,uv,Bool.and_eq_true,decide_eq_true_eq]
 grind
theorem PV.y8{P:Program}{kv:KV}{w:World}{T ty:TypeId}{f off:Nat}{fs:List Field}{fd:Field}(hu:P.underlying T=some (.struct fs.toArray)) (hf:fs[f]?=some fd) (ho:fd.offset=off) (h1:∀w,(isAgg fd.type).run P w=.ok false w)
  {x:Operand}{us:List Value}{v:Value}(hx:ev kv x=some (.agg us.toArray)) (hv:nth us off=some v):PV P (.field T x f) ty kv w v:=
 PV.Ru hu (by simpa using hf) ho h1 hx (by rw [← yH];exact hv)
end Go.Rc
namespace Go.Rc
open Go
def gY(k:Key):Prop:=k.kind<1∨22<k.kind
def aM(ab:List aG) (k:Key) (ah:List ByteArray):Gg:=if k.kind=31∨k.kind=32 then dw ab k ah else ⟨true,⟨#[]⟩,da⟩
def yx(n:Int):ByteArray:=if n=14 then ⟨#[48]⟩ else ⟨#[]⟩
def te(k:Key):ByteArray:=if k.kind=32 then ⟨#[48]⟩ else if aA k then yx k.kind else ⟨#[]⟩
def jt(ab:List aG) (k:Key):Bool:=gO k && ((decide (k.kind≠31) && decide (k.kind≠32)) || decide (aN ab (number k)=k))
def aH(l:List Rec) (k:Key):Rec:=(aC l k).getD sf
def cI(l:List Rec) (rev:Int) (k:Key):Bool:=(aC l k).isSome && (aA k && (decide ((aH l k).ax<rev) && !(aH l k).bU))
def nV(x:dQ) (k:Key):Bool:=az k || ((aC x.ak k).isSome && decide ((aH x.ak k).ax=x.ad))
def uw(x:dQ) (k:Key):ByteArray:=if az k then (db x.ae k).value else if nV x k then (aH x.ak k).value else ⟨#[]⟩
def dK(x:dQ) (k:Key) (v:ByteArray) (reads:List Key):Rec:=
 ⟨k,v,reads,if (aC x.ak k).isSome && decide ((aH x.ak k).value=v) then (aH x.ak k).changed else x.ad,x.ad,1+(reads.length:Int),false⟩
end Go.Rc
namespace Go.Rc
open Go
open Classical in
noncomputable def ia(ab:List aG) (x:dQ) (goals:List Key):Int:=
 if ¬aw ab then 41 else if ¬lJ x then 42 else if 32<goals.length then 3 else if goals.all (jt ab) then 0 else 40
end Go.Rc
namespace Go.Rc
open Go
structure si where
 eR:Key
 read:Key
 deriving DecidableEq
def si.cells(x:si):List Value:=[.int .i64 x.eR.kind,.string x.eR.text,.int .i64 x.read.kind,.string x.read.text]
def dZ(group:List Key) (m:Key) (l:List Key):List si:=(l.filter fun x=>!decide (x∈group)).map fun x=>⟨m,x⟩
def bP(l:List Rec) (group:List Key):List si:=group.flatMap fun m=>dZ group m (aH l m).reads
theorem lB{group:List Key}{m:Key}{l:List Key}{j:Nat}(h:j<l.length):dZ group m (l.take (j+1))=if l[j]∈group then dZ group m (l.take j) else dZ group m (l.take j)++[⟨m,l[j]⟩]:=by
 rw [List.take_succ_eq_append_getElem h];simp only [dZ,List.filter_append,List.map_append]
 grind
theorem mh(group:List Key) (m:Key) (l:List Key):(dZ group m l).length≤l.length:=by grind [dZ]
end Go.Rc
namespace Go.Rc
end Go.Rc

namespace Go.Rc
open Go
variable {E EK ER EI ES EF base:Nat}{w w':World}{a:Option Addr}{n c:Nat}{S:List Nat}
structure et where
 key:Key
 running:Bool
 at_:Int
 reads:List Key
 ah:List ByteArray
 deriving DecidableEq
def et.row(x:et) (a1:Option Addr) (n1 c1:Nat) (a2:Option Addr) (n2 c2:Nat):List Value:=[.int .i64 x.key.kind,.string x.key.text,.bool x.running,.int .i64 x.at_,.slice a1 n1 c1,.slice a2 n2 c2]
/-! the plain meaning -/
def kI(l:List et) (k:Key):Bool:=l.any fun f=>decide (f.key=k)
def gw(x:dQ) (l:List et) (k:Key):Bool:=!(az k || kI l k) && (!(aC x.ak k).isSome || decide ((aH x.ak k).ax≠x.ad))
def dJ(x:dQ) (l others:List et) (k:Key):Int:=
 if !aA k && kI l k then 3 else if !gw x l k then 0 else if !kI others k then 1 else if aA k then 0 else 2
end Go.Rc
namespace Go.Rc
open Go
variable {EA ERu:Nat}{w w':World}{a:Option Addr}{n c base:Nat}{S:List Nat}
def aG.row(x:aG) (a:Option Addr) (n c:Nat):List Value:=[.bool x.ring,.slice a n c,.int .i64 x.final,.int .i64 x.c]
theorem aG.one(x:aG) (a:Option Addr) (n c:Nat):∀u∈x.row a n c,u.oneCell'=true:=by simp [aG.row,Value.oneCell']
end Go.Rc

namespace Go.Rc
open Go
def RR.key:RR Key:=RR.flat Key.cells
def RR.str:RR ByteArray:=RR.flat fun s=>[.string s]
def RR.ask:RR Ask:=RR.flat Ask.cells
def RR.aF:RR dB:=RR.flat dB.cells
def RR.LN:RR si:=RR.flat si.cells
def RR.int:RR Int:=RR.flat fun n=>[.int .i64 n]
def RR.gQ:RR aG where
 r Z w x row:=F5 Z w x row
 mono hZ h:=by obtain⟨a,n,c,h1,h2⟩:=h;exact⟨a,n,c,h1,h2.mono (fun b hb _=>hZ b hb) fun _ _ h=>h⟩
 st hs hc h:=by obtain⟨a,n,c,h1,h2⟩:=h;exact⟨a,n,c,h1,SR.st hs hc (fun _ _ h=>h) h2⟩
 cut h:=by obtain⟨a,n,c,h1,h2⟩:=h;exact⟨a,n,c,h1,h2.mono (fun b hb ee=>⟨hb,ee⟩) fun _ _ h=>h⟩
def RR.fV:RR Rec where
 r Z w x row:=∃a n c,row=x.row a n c∧Rd RR.key 2 Z w a n c x.reads∧x.reads.length≤4000
 mono hZ h:=by obtain⟨a,n,c,h1,h2,h3⟩:=h;exact⟨a,n,c,h1,h2.mono hZ,h3⟩
 st hs hc h:=by obtain⟨a,n,c,h1,h2,h3⟩:=h;exact⟨a,n,c,h1,h2.st hs hc,h3⟩
 cut h:=by grind [Rd.cut]
def RR.pX:RR et where
 r Z w x row:=∃a1 n1 c1 a2 n2 c2,row=x.row a1 n1 c1 a2 n2 c2∧Rd RR.key 2 Z w a1 n1 c1 x.reads∧Rd RR.str 1 Z w a2 n2 c2 x.ah∧x.reads.length≤4000∧x.ah.length≤4000
 mono hZ h:=by obtain⟨a,n,c,a2,n2,c2,h1,h2,h3,h4⟩:=h;exact⟨a,n,c,a2,n2,c2,h1,h2.mono hZ,h3.mono hZ,h4⟩
 st hs hc h:=by obtain⟨a,n,c,a2,n2,c2,h1,h2,h3,h4⟩:=h;exact⟨a,n,c,a2,n2,c2,h1,h2.st hs hc,h3.st hs hc,h4⟩
 cut h:=by grind [Rd.cut]
end Go.Rc

namespace Go.Rc
open Go
/-! ### numbers and their texts -/
theorem y9:∀(u:Nat) (n:Nat) (rest:List UInt8),decFrom (Lib.decDigits u++rest) (n:Int)=decFrom rest ((n*10 ^ Lib.nDigits u+u:Nat):Int):=by
 intro u
 induction u using Nat.strongRecOn with
 | _ u ih=>
  intro n rest
  by_cases h:u<10
  ·
   rw [Lib.decDigits_one h,Lib.nDigits_small h]
   have e:(UInt8.ofNat (48+u)).toNat=48+u:=by rw [UInt8.toNat_ofNat'];omega
   simp only [List.cons_append,List.nil_append,decFrom,e]
   grind
  rw [Lib.decDigits,dif_neg h,Lib.nDigits_big h,List.append_assoc,ih (u / 10) (by omega)]
  have e:(UInt8.ofNat (48+u % 10)).toNat=48+u % 10:=by rw [UInt8.toNat_ofNat'];omega
  simp only [List.cons_append,List.nil_append,decFrom,e]
  grind
theorem zc:∀u:Nat,∃d r,Lib.decDigits u=d::r∧(0<u→d≠48):=by
 intro u
 induction u using Nat.strongRecOn with
 | _ u ih=>
  by_cases h:u<10
  ·
   refine⟨_,[],Lib.decDigits_one h,fun hu e=>?_⟩
   have:=congrArg UInt8.toNat e
   rw [UInt8.toNat_ofNat'] at this
   grind
  obtain⟨d,r,h1,h2⟩:=ih (u / 10) (by omega);exact⟨d,r++[UInt8.ofNat (48+u % 10)],by rw [Lib.decDigits,dif_neg h,h1];rfl,fun _=>h2 (by omega)⟩
theorem zd:∀(k u:Nat),u<10 ^ (k+1)→Lib.nDigits u≤k+1
 | 0,u,h=>by grind [Lib.nDigits_small]
 | k+1,u,h=>by
  by_cases h1:u<10
  ·
   rw [Lib.nDigits_small h1];omega
  rw [Lib.nDigits_big h1]
  have:=zd k (u / 10) (by rw [Nat.pow_succ] at h;omega)
  omega
theorem mi{n:Nat}(h:n<1000000000):ff (itoa (n:Int))=n:=by
 have e:Lib.itoa (n:Int)=Lib.decDigits n:=by unfold Lib.itoa;rw [if_neg (by omega)];rfl
 have hl:(Lib.decDigits n).length≤9:=by rw [Lib.decDigits_length];exact zd 8 n h
 have hp:1≤(Lib.decDigits n).length:=by grind [Lib.decDigits_length,Lib.nDigits_pos]
 have hs:(itoa (n:Int)).size=(Lib.decDigits n).length:=by grind [itoa,ByteArray.size]
 have hd:(itoa (n:Int)).data.toList=Lib.decDigits n:=by unfold itoa;rw [e]
 unfold ff
 rw [if_neg]
 ·
  rw [hd,← List.append_nil (Lib.decDigits n)]
  have:=y9 n 0 []
  simp only [Nat.zero_mul,Nat.zero_add] at this;exact this
 rw [hs,hd];rintro(h1 | h1 | ⟨h1,h2⟩)
 ·
  omega
 ·
  omega
 obtain⟨d,r,h3,h4⟩:=zc n;rw [h3] at h1
 simp at h1
 by_cases h0:0<n
 ·
  exact h4 h0 h1
 grind [Lib.decDigits_one]
theorem gD{n:Nat}(h:n≤65535):dH (itoa (n:Int))=n:=by
 unfold dH
 rw [mi (by omega),if_neg (by omega)]
 rfl
theorem Gq{m n:Nat}(hm:m<1000000000) (hn:n<1000000000) (h:itoa (m:Int)=itoa (n:Int)):m=n:=by grind [mi]
/-! ### keys -/
theorem dy{ab:List aG}{i:Nat}(hi:i<ab.length) (lC:i≤99):number (aN ab (i:Int))=i:=by
 have hk:aN ab (i:Int)=⟨if aD ab i then 32 else 31,itoa i⟩:=by unfold aN;rw [if_neg (by omega)];rfl
 rw [hk]
 unfold number
 simp only
 rw [mi (by omega),if_pos]
 split <;> omega
theorem fM{ab:List aG}{i:Nat}(hi:i<ab.length) (lC:i≤99):(aN ab (i:Int)).kind=if aD ab i then 32 else 31:=by
 unfold aN;rw [if_neg (by omega)];rfl
theorem eG{ab:List aG}{i:Nat}(hi:i<ab.length) (lC:i≤99):az (aN ab (i:Int))=false:=by grind [az,fM]
theorem cE{n:Nat}(h:n≤99):az (du (n:Int))=true:=by
 unfold az du;rw [if_neg (by omega)];simp
theorem ck{ab:List aG}{i:Nat}(hi:i<ab.length) (lC:i≤99):aA (aN ab (i:Int))=aD ab i:=by grind [aA,fM]
theorem mO{n:Nat}(h:n≤99):aA (du (n:Int))=false:=by
 unfold aA du;rw [if_neg (by omega)];simp
inductive gA (ab:List aG):Key→Prop where
 | cell {n:Nat}(h:n≤99):gA ab (du (n:Int))
 | gQ {i:Nat}(h:i<ab.length) (lC:i≤99):gA ab (aN ab (i:Int))
/-! ### values -/
def cellOf(aF:List dB) (k:Key):ByteArray:=(db aF k).value
def gh(turn:List ByteArray→Gg) (jI:Key→ByteArray):Nat→List Key × List ByteArray
 | 0=>([],[])
 | n+1=>((gh turn jI n).1++[(turn (gh turn jI n).2).ask],(gh turn jI n).2++[jI (turn (gh turn jI n).2).ask])
def Oj(aF:List dB) (prev:List ByteArray) (k:Key):ByteArray:=if az k then cellOf aF k else prev.getD (number k).toNat ⟨#[]⟩
def dV(ab:List aG) (i:Nat):Nat:=(ab[i]?.map (·.asks.length)).getD 0
def cB(ab:List aG) (x:Ask):Key:=if x.cell then du x.n else aN ab x.n
def gZ(ab:List aG) (i j:Nat):Prop:=∃r x,ab[i]?=some r∧r.ring=true∧x∈r.asks∧x.cell=false∧x.n=(j:Int)∧aD ab j=true
inductive dU (ab:List aG) (i:Nat):Nat→Prop where
 | refl:dU ab i i
 | step {j k:Nat}:dU ab i j→gZ ab j k→dU ab i k
def outside(ab:List aG) (x:Ask):Bool:=x.cell || !aD ab x.n.toNat
def nH(ab:List aG) (jI:Key→ByteArray) (j:Nat):Nat:=
 match ab[j]? with
 | some r=>gz r.c.toNat ((r.asks.filter (outside ab)).map fun x=>dH (jI (cB ab x)))
 | none=>0
open Classical in
noncomputable def ofBits(P:Nat→Prop):Nat→Nat
 | 0=>0
 | n+1=>ofBits P n ||| (if P n then 2 ^ n else 0)
theorem LO(P:Nat→Prop):∀n,ofBits P n<2 ^ n:=by
 intro n
 induction n with
 | zero=>simp [ofBits]
 | succ n ih=>
  unfold ofBits
  refine Nat.or_lt_two_pow (Nat.lt_of_lt_of_le ih (Nat.pow_le_pow_right (by omega) (by omega))) ?_
  grind
theorem IJ(P:Nat→Prop):∀n b,(ofBits P n).testBit b=true↔b<n∧P b:=by
 intro n
 induction n with
 | zero=>intro b;simp [ofBits]
 | succ n ih=>
  intro b
  unfold ofBits
  grind
noncomputable def ze(ab:List aG) (jI:Key→ByteArray) (i:Nat):Nat:=ofBits (fun b=>∃j,dU ab i j∧(nH ab jI j).testBit b=true) 16
noncomputable def ux(ab:List aG) (aF:List dB) (prev:List ByteArray) (i:Nat):ByteArray:=
 if aD ab i then itoa (ze ab (Oj aF prev) i:Int)
 else (dw ab (aN ab (i:Int)) (gh (dw ab (aN ab (i:Int))) (Oj aF prev) (dV ab i)).2).value
noncomputable def bS(ab:List aG) (aF:List dB):Nat→List ByteArray
 | 0=>[]
 | n+1=>bS ab aF n++[ux ab aF (bS ab aF n) n]
noncomputable def xY(ab:List aG) (aF:List dB) (i:Nat):ByteArray:=ux ab aF (bS ab aF i) i
noncomputable def valOf(ab:List aG) (aF:List dB) (k:Key):ByteArray:=if az k then cellOf aF k else xY ab aF (number k).toNat
section
variable {ab:List aG}{aF:List dB}
theorem Ol:∀n,(bS ab aF n).length=n:=by
 intro n;induction n with
 | zero=>rfl
 | succ n ih=>simp [bS,ih]
theorem Om:∀n m,m<n→(bS ab aF n).getD m ⟨#[]⟩=xY ab aF m:=by
 intro n
 induction n with
 | zero=>intro m h;omega
 | succ n ih=>grind [bS,Ol,xY]
theorem Cz{n:Nat}{k:Key}(h:az k=true∨(number k).toNat<n):Oj aF (bS ab aF n) k=valOf ab aF k:=by
 unfold Oj valOf
 by_cases hi:az k=true
 ·
  rw [if_pos hi,if_pos hi]
 rw [if_neg hi,if_neg hi,Om]
 grind
theorem iD(turn:List ByteArray→Gg) (jI:Key→ByteArray):∀n,(gh turn jI n).1.length=n∧(gh turn jI n).2.length=n:=by
 intro n;induction n with
 | zero=>simp [gh]
 | succ n ih=>simp [gh,ih.1,ih.2]
theorem zh{turn:List ByteArray→Gg}{jI abw:Key→ByteArray}:∀n,(∀m,m<n→jI (turn (gh turn jI m).2).ask=abw (turn (gh turn jI m).2).ask)→gh turn jI n=gh turn abw n:=by
 intro n
 induction n with
 | zero=>intro _;rfl
 | succ n ih=>grind [gh]
end
/-! ### what valid rules ask for -/
section
variable {ab:List aG}{aF:List dB}
theorem iv(l:List aG):∀k,cj l k≤k:=by
 intro k;induction k with
 | zero=>simp [cj]
 | succ k ih=>unfold cj;split <;> omega
theorem CB(l:List aG) {m:Nat}(h:m≤l.length):eY l m≤l.length:=by grind [eY,List.takeWhile_sublist]
theorem Gr{i:Nat}(hi:i<ab.length):block ab (i:Int)=if aD ab i then ((cj ab i:Int),(eY ab (i+1):Int)) else ((i:Int),(i:Int)+1):=by
 unfold block;rw [if_neg (by omega)];rfl
theorem tf{i j:Nat}(hi:aD ab i=true) (h1:cj ab i≤j) (h2:j<eY ab (i+1)):aD ab j=true:=by
 have Ib:∀k,cj ab k≤j→j<k→aD ab j=true:=by
  intro k
  induction k with
  | zero=>intro _ h;omega
  | succ k ih=>
   intro h3 h4
   unfold cj at h3
   grind
 rcases Nat.lt_trichotomy j i with h | h | h
 ·
  exact Ib i h1 h
 ·
  rw [h];exact hi
 have key:∀(l:List aG) (m j:Nat),m≤j→j<m+((l.drop m).takeWhile (·.ring)).length→aD l j=true:=by
  intro l m j hm hj
  have ee:j - m<((l.drop m).takeWhile (·.ring)).length:=by omega
  have kL:=List.getElem_mem ee;have hr:=List.all_eq_true.1 (List.all_takeWhile (p:=fun x:aG=>x.ring) (l:=l.drop m)) _ kL;have iW:((l.drop m).takeWhile (·.ring)) <+: l.drop m:=List.takeWhile_prefix _;have o4:=iW.getElem ee
  grind [cQ]
 exact key ab (i+1) j (by omega) h2
theorem oH{i:Nat}(hi:i<ab.length) (hlen:ab.length≤24) {c:Bool}{n:Int}(h:iC ab i c n=true) :
  ∃m:Nat,n=m∧if c then m≤15 else m<ab.length∧(aD ab m=true∧aD ab i=true∨m<i)∧(aD ab i=false→m<i)∧(aD ab m=false→m<i):=by
 unfold iC at h
 cases c
 ·
  simp only [Bool.false_eq_true,if_false,Bool.and_eq_true,decide_eq_true_eq] at h ⊢;obtain⟨m,rfl⟩:∃m:Nat,n=m:=⟨n.toNat,by omega⟩;refine⟨m,rfl,?_⟩;have h2:=h.2
  unfold gP at h2
  rw [Gr hi] at h2
  by_cases hr:aD ab i=true
  ·
   rw [if_pos hr] at h2;simp only [hr,if_true] at h2
   have jH:m<eY ab (i+1):=by omega
   have Wa:=CB ab (show i+1≤ab.length by omega);refine⟨by omega,?_,(fun h=>by rw [hr] at h;cases h),?_⟩
   ·
    by_cases QQ:m<i
    ·
     exact .inr QQ
    grind [tf,iv]
   grind [tf,iv]
  grind
 simp only [if_true,Bool.and_eq_true,decide_eq_true_eq] at h ⊢;exact⟨n.toNat,by omega,by omega⟩
end
end Go.Rc

namespace Go.Rc
open Go
section
variable {ab:List aG}{aF:List dB}
theorem aw.len(h:aw ab):ab.length≤24:=h.1
theorem aw.at(h:aw ab) {i:Nat}(hi:i<ab.length):o7 ab i ab[i]:=h.2 i _ (ao hi)
theorem fN{i:Nat}(hi:i<ab.length):dV ab i=ab[i].asks.length:=by grind [dV]
theorem IK{m lo:Nat}(h1:lo≤m) (h:∀j,lo≤j→j<m→aD ab j=true):cj ab m≤lo:=by
 induction m with
 | zero=>simp [cj]
 | succ m ih=>
  by_cases e:lo=m+1
  ·
   rw [e];exact iv _ _
  unfold cj
  grind
theorem uy(_hR:aw ab) {i:Nat}(hi:i<ab.length) (hr:aD ab i=true) {m:Nat}(h:iC ab i false (m:Int)=true) :
  m<ab.length∧(aD ab m=true→cj ab m≤cj ab i)∧(aD ab m=false→m<cj ab i):=by
 unfold iC at h
 simp only [Bool.false_eq_true,if_false,Bool.and_eq_true,decide_eq_true_eq] at h;have h2:=h.2
 unfold gP at h2
 rw [Gr hi,if_pos hr] at h2;simp only [hr,if_true] at h2
 grind [CB,IK,tf]
def gi(ab:List aG) (i:Nat) (k:Key):Prop:=
 (∃n:Nat,n≤15∧k=du (n:Int))∨
 (∃m:Nat,m<ab.length∧k=aN ab (m:Int)∧(aD ab m=true∧aD ab i=true∨m<i)∧(aD ab i=false→m<i)∧(aD ab m=false→m<i)∧(aD ab m=false→aD ab i=true→m<cj ab i))
theorem Kw(hR:aw ab) {i:Nat}(hi:i<ab.length) {c:Bool}{n:Int}(h:iC ab i c n=true):gi ab i (if c then du n else aN ab n):=by
 obtain⟨m,rfl,h2⟩:=oH hi hR.len h
 cases c
 ·
  exact .inr ⟨m,h2.1,rfl,h2.2.1,h2.2.2.1,h2.2.2.2,fun h3 h4=>(uy hR hi h4 h).2.2 h3⟩
 exact .inl ⟨m,h2,rfl⟩
theorem gi.QR(hR:aw ab) {i:Nat}{k:Key}(h:gi ab i k):gA ab k:=by
 have:=hR.len
 rcases h with⟨n,h1,rfl⟩ | ⟨m,h1,rfl,_⟩
 ·
  exact .cell (by omega)
 exact .gQ h1 (by omega)
theorem Wb(hR:aw ab) {i n:Nat}(hi:i<ab.length) (hn:n<ab[i].asks.length) (ah:List ByteArray) (hl:ah.length=n) :
  gi ab i (if ab[i].asks[n].cell then du (sZ ab[i].asks[n] ah) else aN ab (sZ ab[i].asks[n] ah)):=by
 obtain⟨_,h2,_⟩:=hR.at hi;have h3:=h2 n _ (ao hn)
 unfold gG at h3
 rw [Bool.and_eq_true] at h3
 unfold sZ
 by_cases hp:gF ab[i].asks[n] ah=true
 ·
  rw [if_pos hp]
  have hpk:ab[i].asks[n].pick=true:=by grind [gF]
  rw [hpk] at h3;simp only [if_true,Bool.and_eq_true] at h3;exact Kw hR hi h3.2.2
 rw [if_neg hp];exact Kw hR hi h3.1
theorem fA(hR:aw ab) {i:Nat}(hi:i<ab.length) {ah:List ByteArray}(hn:ah.length<dV ab i) :
  ∃a,dw ab (aN ab (i:Int)) ah=⟨false,⟨#[]⟩,a⟩∧gi ab i a∧(aD ab i=true→∃x,ab[i].asks[ah.length]?=some x∧a=cB ab x):=by
 have rT:=hR.len;rw [fN hi] at hn;have hk:=dy hi (by omega:i≤99);refine⟨_,oF hk hi (by rw [hk]) hn,Wb hR hi hn ah rfl,fun hr=>⟨_,ao hn,?_⟩⟩;obtain⟨_,h2,_⟩:=hR.at hi;have h3:=h2 _ _ (ao hn)
 unfold gG at h3
 rw [Bool.and_eq_true] at h3
 grind [cQ,cB,sZ,gF]
theorem jc(hR:aw ab) {i:Nat}(hi:i<ab.length) {ah:List ByteArray}(hn:ah.length=dV ab i) :
  dw ab (aN ab (i:Int)) ah=⟨true,itoa (eZ ab[i].final ab[i].c.toNat (ah.map dH)),da⟩:=by grind [aw.len,fN,dy,oE]
theorem qw(hR:aw ab) {i:Nat}(hi:i<ab.length):dV ab i≤6:=by rw [fN hi];exact(hR.at hi).1
theorem DM(hR:aw ab) {i:Nat}{k:Key}(h:gi ab i k) (hr:aD ab i=false∨aA k=false):az k=true∨(number k).toNat<i:=by
 have rT:=hR.len
 rcases h with⟨n,h1,rfl⟩ | ⟨m,h1,rfl,h2,h3,h4,_⟩
 ·
  grind [cE]
 grind [dy,ck]
theorem LP(hR:aw ab) {i:Nat}(hi:i<ab.length) (hr:aD ab i=false) :
  dw ab (aN ab (i:Int)) (gh (dw ab (aN ab (i:Int))) (valOf ab aF) (dV ab i)).2=⟨true,xY ab aF i,da⟩:=by
 have h:xY ab aF i=(dw ab (aN ab (i:Int)) (gh (dw ab (aN ab (i:Int))) (valOf ab aF) (dV ab i)).2).value:=by
  unfold xY ux
  rw [if_neg (by simp [hr])]
  grind [zh,fA,iD,Cz,DM]
 grind [jc,iD]
/-! rings -/
theorem mA(hR:aw ab) {i:Nat}(hi:i<ab.length) (_hr:aD ab i=true) {x:Ask}(hx:x∈ab[i].asks):iC ab i x.cell x.n=true:=by
 obtain⟨k,hk,rfl⟩:=List.mem_iff_getElem.1 hx
 have:=(hR.at hi).2.1 k _ (ao hk)
 unfold gG at this
 grind
theorem gZ.lt{i j:Nat}(h:gZ ab i j):i<ab.length∧j<ab.length∧aD ab i=true∧aD ab j=true:=by
 obtain⟨r,x,h1,h2,_,_,_,h6⟩:=h
 grind [o5,cQ]
theorem kZ{i j:Nat}(hi:i<ab.length) (hr:aD ab i=true) (h:dU ab i j):j<ab.length∧aD ab j=true:=by
 induction h with
 | refl=>exact⟨hi,hr⟩
 | step _ h2 _=>exact⟨h2.lt.2.1,h2.lt.2.2.2⟩
theorem mP(hR:aw ab) {i j:Nat}(h:dU ab i j):cj ab j≤cj ab i:=by
 induction h with
 | refl=>exact Nat.le_refl _
 | step h1 h2 ih=>
  have hl:=h2.lt;obtain⟨r,x,h3,h4,h5,h6,h7,h8⟩:=h2
  grind [mA,uy]
theorem dU.head{i j k:Nat}(h:gZ ab i j) (h2:dU ab j k):dU ab i k:=by
 induction h2 with
 | refl=>exact .step .refl h
 | step _ h4 ih=>exact .step ih h4
theorem dU.cases{i k:Nat}(h:dU ab i k):k=i∨∃j,gZ ab i j∧dU ab j k:=by
 induction h with
 | refl=>exact .inl rfl
 | step h1 h2 ih=>
  right
  rcases ih with rfl | ⟨j,h3,h4⟩
  ·
   exact⟨_,h2,.refl⟩
  exact⟨j,h3,.step h4 h2⟩
theorem oI:∀(l:List Nat) (c b:Nat),(gz c l).testBit b=true↔c.testBit b=true∨∃x∈l,x.testBit b=true:=by
 intro l
 induction l with
 | nil=>intro c b;simp [gz]
 | cons x r ih=>
  intro c b
  have:=ih (c ||| x) b
  simp only [gz,List.foldl_cons] at this ⊢
  grind
theorem zj(hR:aw ab) {i:Nat}(hi:i<ab.length) (hr:aD ab i=true):ab[i].final=5∧ab[i].c.toNat≤65535:=by
 have h:=(hR.at hi).2.2
 grind [jB,cQ]
theorem CC{n b:Nat}(h:n≤65535) (hb:n.testBit b=true):b<16:=by
 rcases Nat.lt_or_ge b 16 with h1 | h1
 ·
  exact h1
 have:=Nat.ge_two_pow_of_testBit hb
 have h2:2 ^ 16≤2 ^ b:=Nat.pow_le_pow_right (by omega) h1
 omega
theorem gE{jI:Key→ByteArray}{i:Nat}(hi:i<ab.length) (b:Nat) :
  (nH ab jI i).testBit b=true↔ab[i].c.toNat.testBit b=true∨∃x∈ab[i].asks,outside ab x=true∧(dH (jI (cB ab x))).testBit b=true:=by
 unfold nH
 rw [ao hi];simp only [oI,List.mem_map,List.mem_filter]
 grind
theorem On(hR:aw ab) {jI:Key→ByteArray}{i:Nat}(hi:i<ab.length) (hr:aD ab i=true) {b:Nat}(h:(nH ab jI i).testBit b=true):b<16:=by
 rcases(gE hi b).1 h with h1 | ⟨x,_,_,h1⟩
 ·
  exact CC (zj hR hi hr).2 h1
 exact CC (nG _) h1
theorem fF(hR:aw ab) {jI:Key→ByteArray}{i:Nat}(hi:i<ab.length) (hr:aD ab i=true) (b:Nat) :
  (ze ab jI i).testBit b=true↔∃j,dU ab i j∧(nH ab jI j).testBit b=true:=by
 unfold ze
 rw [IJ]
 constructor
 ·
  exact fun h=>h.2
 rintro⟨j,h1,h2⟩;have hj:=kZ hi hr h1;exact⟨On hR hj.1 hj.2 h2,j,h1,h2⟩
theorem Gs{jI:Key→ByteArray}(i:Nat):ze ab jI i≤65535:=by
 have:=LO (fun b=>∃j,dU ab i j∧(nH ab jI j).testBit b=true) 16
 unfold ze;omega
noncomputable def rv(ab:List aG) (aF:List dB) (i:Nat):Nat:=ze ab (valOf ab aF) i
theorem DN(hR:aw ab) {i:Nat}(hi:i<ab.length) (hr:aD ab i=true) {x:Ask}(hx:x∈ab[i].asks) (ho:outside ab x=true):az (cB ab x)=true∨(number (cB ab x)).toNat<cj ab i:=by
 have rT:=hR.len;have hm:=mA hR hi hr hx;obtain⟨m,h1,h2⟩:=oH hi hR.len hm
 unfold cB
 unfold outside at ho
 cases hc:x.cell
 ·
  rw [hc] at hm ho h2
  right
  simp only [Bool.false_eq_true,if_false] at h2 ⊢
  grind [dy,uy]
 left
 rw [hc] at h2;simp only [if_true] at h2 ⊢
 grind [cE]
theorem j4(hR:aw ab) {i:Nat}(hi:i<ab.length) (hr:aD ab i=true):xY ab aF i=itoa (rv ab aF i:Int):=by
 unfold xY ux rv
 rw [if_pos hr]
 congr 2
 refine Nat.eq_of_testBit_eq fun b=>?_;rw [Bool.eq_iff_iff,fF hR hi hr,fF hR hi hr]
 have key:∀j,dU ab i j→((nH ab (Oj aF (bS ab aF i)) j).testBit b=true↔(nH ab (valOf ab aF) j).testBit b=true):=by
  intro j h;have hj:=kZ hi hr h;have Ib:=mP hR h;have hle:=iv ab i;rw [gE hj.1,gE hj.1];refine or_congr_right (exists_congr fun x=>and_congr_right fun hx=>and_congr_right fun ho=>?_);rw [Cz]
  grind [DN]
 grind
theorem jn(hR:aw ab) {i:Nat}(hi:i<ab.length):valOf ab aF (aN ab (i:Int))=xY ab aF i:=by
 have rT:=hR.len
 unfold valOf
 rw [if_neg (by grind [eG]),dy hi (by omega)]
 rfl
theorem Gt{n:Nat}(h:n≤99):valOf ab aF (du (n:Int))=cellOf aF (du (n:Int)):=by
 unfold valOf;rw [if_pos (cE h)]
def rA(ab:List aG) (jI:Key→ByteArray) (i:Nat):List Nat:=((ab[i]?.map (·.asks)).getD []).map fun x=>dH (jI (cB ab x))
theorem LQ(hR:aw ab) {i:Nat}(hi:i<ab.length) (hr:aD ab i=true) (jI:Key→ByteArray):∀n,n≤ab[i].asks.length→
  gh (dw ab (aN ab (i:Int))) jI n=((ab[i].asks.take n).map (cB ab),(ab[i].asks.take n).map fun x=>jI (cB ab x)):=by
 intro n
 induction n with
 | zero=>intro _;simp [gh]
 | succ n ih=>
  intro hn;have e:=ih (by omega);simp only [gh]
  have hlen:((ab[i].asks.take n).map fun x=>jI (cB ab x)).length=n:=by simp;omega
  obtain⟨a,h1,_,h3⟩:=fA hR hi (ah:=(ab[i].asks.take n).map fun x=>jI (cB ab x)) (by rw [hlen,fN hi];omega)
  grind [List.take_succ_eq_append_getElem]
theorem LS(hR:aw ab) {i:Nat}(hi:i<ab.length) (hr:aD ab i=true) (jI:Key→ByteArray) :
  dw ab (aN ab (i:Int)) (gh (dw ab (aN ab (i:Int))) jI (dV ab i)).2=⟨true,itoa (gz ab[i].c.toNat (rA ab jI i):Int),da⟩:=by
 rw [jc hR hi ((iD _ _ _).2),LQ hR hi hr jI _ (by rw [fN hi];exact Nat.le_refl _),(zj hR hi hr).1,fN hi]
 unfold rA
 rw [ao hi];simp only [List.take_length,List.map_map,Option.map_some,Option.getD_some]
 rfl
theorem wX{jI:Key→ByteArray}{i:Nat}(hi:i<ab.length) (b:Nat) :
  (gz ab[i].c.toNat (rA ab jI i)).testBit b=true↔(nH ab jI i).testBit b=true∨∃x∈ab[i].asks,outside ab x=false∧(dH (jI (cB ab x))).testBit b=true:=by
 rw [oI,gE hi]
 unfold rA
 grind
theorem jR(hR:aw ab) {i:Nat}(hi:i<ab.length) (hr:aD ab i=true) {x:Ask}(hx:x∈ab[i].asks) (ho:outside ab x=false):∃j:Nat,gZ ab i j∧cB ab x=aN ab (j:Int)∧j<ab.length:=by
 have hm:=mA hR hi hr hx
 unfold outside at ho
 rw [Bool.or_eq_false_iff] at ho;obtain⟨m,h1,h2⟩:=oH hi hR.len hm;rw [ho.1] at h2;simp only [Bool.false_eq_true,if_false] at h2
 have hmr:aD ab m=true:=by grind
 refine⟨m,⟨_,x,ao hi,by rw [← cQ hi];exact hr,hx,ho.1,h1,hmr⟩,?_,h2.1⟩
 grind [cB]
theorem tg{i j:Nat}(hi:i<ab.length) (h:gZ ab i j):∃x∈ab[i].asks,outside ab x=false∧cB ab x=aN ab (j:Int):=by
 obtain⟨r,x,h1,_,h3,h4,h5,h6⟩:=h
 grind [outside,cB]
theorem Wc(hR:aw ab) {i:Nat}(hi:i<ab.length) (hr:aD ab i=true):gz ab[i].c.toNat (rA ab (valOf ab aF) i)=rv ab aF i:=by
 refine Nat.eq_of_testBit_eq fun b=>?_;rw [Bool.eq_iff_iff,wX hi]
 unfold rv
 rw [fF hR hi hr]
 have ig:∀j,j<ab.length→aD ab j=true→dH (valOf ab aF (aN ab (j:Int)))=ze ab (valOf ab aF) j:=fun j hj Ir=>by
  rw [jn hR hj,j4 hR hj Ir];exact gD (Gs j)
 constructor
 ·
  rintro(h | ⟨x,h1,h2,h3⟩)
  ·
   exact⟨i,.refl,h⟩
  obtain⟨j,h4,h5,h6⟩:=jR hR hi hr h1 h2;rw [h5,ig j h6 h4.lt.2.2.2,fF hR h6 h4.lt.2.2.2] at h3;obtain⟨k,h7,h8⟩:=h3;exact⟨k,.head h4 h7,h8⟩
 rintro⟨k,h1,h2⟩
 rcases h1.cases with rfl | ⟨j,h3,h4⟩
 ·
  exact .inl h2
 right
 obtain⟨x,h5,h6,h7⟩:=tg hi h3;refine⟨x,h5,h6,?_⟩;rw [h7,ig j h3.lt.2.1 h3.lt.2.2.2,fF hR h3.lt.2.1 h3.lt.2.2.2];exact⟨k,h4,h2⟩
theorem Oo(hR:aw ab) {i:Nat}(hi:i<ab.length) (hr:aD ab i=true) (v:Nat→Nat)
  (h1:∀j b,dU ab i j→(nH ab (valOf ab aF) j).testBit b=true→(v j).testBit b=true)
  (h2:∀j k b,dU ab i j→gZ ab j k→(v k).testBit b=true→(v j).testBit b=true) (b:Nat) (hb:(rv ab aF i).testBit b=true):(v i).testBit b=true:=by
 unfold rv at hb
 rw [fF hR hi hr] at hb;obtain⟨j,h3,h4⟩:=hb;have h5:=h1 j b h3 h4
 clear h4
 induction h3 with
 | refl=>exact h5
 | step h6 h7 ih=>exact ih (h2 _ _ b h6 h7 h5)
theorem jd(hR:aw ab) {i:Nat}(hi:i<ab.length) :
  dw ab (aN ab (i:Int)) (gh (dw ab (aN ab (i:Int))) (valOf ab aF) (dV ab i)).2=⟨true,valOf ab aF (aN ab (i:Int)),da⟩:=by grind [jn,LP,LS,Wc,j4]
end
end Go.Rc

namespace Go.Rc
open Go
structure FZ where
 p:(Nat→Prop)→World→Prop
 mono:∀{Z Z':Nat→Prop}{w},(∀x,Z x→Z' x)→p Z w→p Z' w
 st:∀{Z:Nat→Prop}{w w':World},w.heap.size≤w'.heap.size→(∀x,Z x→x<w.heap.size→w'.heap[x]?=w.heap[x]?)→p Z w→p Z w'
def FZ.rd{α:Type}(R:RR α) (k:Nat) (a:Option Addr) (n c:Nat) (xs:List α):FZ:=⟨fun Z w=>Rd R k Z w a n c xs,fun h=>Rd.mono h,fun h1 h2=>Rd.st h1 h2⟩
def FZ.and(F G:FZ):FZ:=⟨fun Z w=>F.p Z w∧G.p Z w,fun h ⟨a,b⟩=>⟨F.mono h a,G.mono h b⟩,fun h1 h2 ⟨a,b⟩=>⟨F.st h1 h2 a,G.st h1 h2 b⟩⟩
def FZ.Kx(P:Program):FZ where
 p Z w:=nQ P Z w
 mono h:=fun h1=>h1.of h (Nat.le_refl _) fun _ _ _=>rfl
 st h1 h2:=fun h=>h.of (fun _ h=>h) h1 h2
def As.fz(F:FZ):As where
 fp _:=False
 ok Z w:=F.p Z w
 lt _ _ hx:=hx.elim
 mono h:=F.mono h
 st h1 h2:=F.st h1 fun x hx=>h2 x (.inr hx)
theorem As.gf{F:FZ}{Z:Nat→Prop}{w:World}(h:(As.fz F).ok Z w):F.p Z w:=h
structure SD where
 (ar a1 a2:Option Addr) (r cr n1 c1 n2 c2 m q s:Nat)
def SD.F(D:SD) (P:Program) (ab:List aG) (x:dQ):FZ:=
 .and (.rd RR.gQ 4 D.ar D.r D.cr ab) (.and (.rd RR.aF 4 D.a1 D.n1 D.c1 x.ae) (.and (.rd RR.fV 8 D.a2 D.n2 D.c2 x.ak) (.Kx P)))
def SD.cells(D:SD) (x:dQ):List Value:=
 [.slice D.ar D.r D.cr,.int .i64 x.ad,.slice D.a1 D.n1 D.c1,.slice D.a2 D.n2 D.c2,.map (some D.m),.map (some D.q)]
section
variable {D:SD}{P:Program}{ab:List aG}{x:dQ}{Z:Nat→Prop}{w:World}
theorem SD.hu(h:(D.F P ab x).p Z w):Rd RR.gQ 4 Z w D.ar D.r D.cr ab:=h.1
theorem SD.hi(h:(D.F P ab x).p Z w):Rd RR.aF 4 Z w D.a1 D.n1 D.c1 x.ae:=h.2.1
theorem SD.hr(h:(D.F P ab x).p Z w):Rd RR.fV 8 Z w D.a2 D.n2 D.c2 x.ak:=h.2.2.1
theorem SD.ht(h:(D.F P ab x).p Z w):nQ P Z w:=h.2.2.2
end
def bq(ab:List aG) (aF:List dB) (ml:List (Key × Value)):Prop:=∀k v,bZ ml k=some v→v=.string (valOf ab aF k)
section
variable {ab:List aG}{aF:List dB}
theorem bq.nil:bq ab aF []:=fun k v h=>by simp [bZ] at h
theorem bq.put{ml:List (Key × Value)}(h:bq ab aF ml) (k:Key):bq ab aF (dF ml k (.string (valOf ab aF k))):=fun k' v hv=>by
 rw [fy] at hv
 split at hv
 ·
  grind
 exact h k' v hv
def gj(m n:Nat):Prop:=∀b,m.testBit b=true→n.testBit b=true
theorem gj.le{m n:Nat}(h:gj m n):m≤n:=by
 have e:m ||| n=n:=Nat.eq_of_testBit_eq fun b=>by
  rw [Nat.testBit_or]
  cases hm:m.testBit b
  ·
   simp
  simp [h b hm]
 rw [← e];exact Nat.left_le_or
noncomputable def RD(ab:List aG) (aF:List dB) (v:Nat→Nat) (k:Key):ByteArray:=if aA k then itoa (v (number k).toNat:Int) else valOf ab aF k
noncomputable def FF(ab:List aG) (aF:List dB) (v:Nat→Nat) (j:Nat):Nat:=gz ((ab[j]?.map (·.c.toNat)).getD 0) (rA ab (RD ab aF v) j)
theorem k7(hR:aw ab) {i:Nat}(hi:i<ab.length) (hr:aD ab i=true) {x:Ask}(hx:x∈ab[i].asks) (ho:outside ab x=true):aA (cB ab x)=false:=by
 have rT:=hR.len;have hm:=mA hR hi hr hx;obtain⟨m,h1,h2⟩:=oH hi hR.len hm
 unfold outside at ho
 unfold cB
 cases hc:x.cell
 ·
  rw [hc] at h2 ho;simp only [Bool.false_eq_true,if_false] at h2 ⊢
  grind [ck]
 rw [hc] at h2;simp only [if_true] at h2 ⊢
 grind [mO]
theorem zk(hR:aw ab) {v:Nat→Nat}(hv:∀j,v j≤65535) {i:Nat}(hi:i<ab.length) (hr:aD ab i=true) (b:Nat) :
  (FF ab aF v i).testBit b=true↔(nH ab (valOf ab aF) i).testBit b=true∨∃j,gZ ab i j∧(v j).testBit b=true:=by
 have rT:=hR.len
 unfold FF
 rw [ao hi];simp only [Option.map_some,Option.getD_some];rw [wX hi];refine or_congr ?_ ?_
 ·
  rw [gE hi,gE hi];refine or_congr_right (exists_congr fun x=>and_congr_right fun hx=>and_congr_right fun ho=>?_)
  unfold RD
  rw [if_neg (by grind [k7])]
 constructor
 ·
  rintro⟨x,h1,h2,h3⟩;obtain⟨j,h4,h5,h6⟩:=jR hR hi hr h1 h2;refine⟨j,h4,?_⟩
  unfold RD at h3
  rw [h5,if_pos (by rw [ck h6 (by omega)];exact h4.lt.2.2.2),dy h6 (by omega),Int.toNat_natCast,gD (hv j)] at h3;exact h3
 rintro⟨j,h4,h5⟩;obtain⟨x,h1,h2,h3⟩:=tg hi h4;refine⟨x,h1,h2,?_⟩
 unfold RD
 rw [h3,if_pos (by rw [ck h4.lt.2.1 (by have:=h4.lt.2.1;omega)];exact h4.lt.2.2.2),dy h4.lt.2.1 (by have:=h4.lt.2.1;omega),Int.toNat_natCast,gD (hv j)];exact h5
theorem wY(i:Nat):rv ab aF i≤65535:=Gs i
theorem IL(hR:aw ab) {i:Nat}(hi:i<ab.length) (hr:aD ab i=true) (b:Nat) :
  (rv ab aF i).testBit b=true↔(nH ab (valOf ab aF) i).testBit b=true∨∃j,gZ ab i j∧(rv ab aF j).testBit b=true:=by
 unfold rv
 rw [fF hR hi hr]
 constructor
 ·
  rintro⟨k,h1,h2⟩
  rcases h1.cases with rfl | ⟨j,h3,h4⟩
  ·
   exact .inl h2
  exact .inr ⟨j,h3,(fF hR h3.lt.2.1 h3.lt.2.2.2 b).2 ⟨k,h4,h2⟩⟩
 rintro(h | ⟨j,h3,h4⟩)
 ·
  exact⟨i,.refl,h⟩
 obtain⟨k,h5,h6⟩:=(fF hR h3.lt.2.1 h3.lt.2.2.2 b).1 h4;exact⟨k,.head h3 h5,h6⟩
theorem Ky(hR:aw ab) {v v':Nat→Nat}(hv:∀j,v j≤65535) (T3:∀j,v' j≤65535) (h:∀j,gj (v j) (v' j)) {i:Nat}(hi:i<ab.length) (hr:aD ab i=true):gj (FF ab aF v i) (FF ab aF v' i):=fun b hb=>by
 rw [zk hR hv hi hr] at hb;rw [zk hR T3 hi hr]
 rcases hb with hb | ⟨j,h1,h2⟩
 ·
  exact .inl hb
 exact .inr ⟨j,h1,h j b h2⟩
structure eL (ab:List aG) (aF:List dB) (i0:Nat) (L:List Nat) (u:Nat→Nat):Prop where
 nodup:L.Nodup
 first:i0∈L
 ring:∀j∈L,j<ab.length∧aD ab j=true
 out:∀j,j∉L→u j=0
 le:∀j,u j≤65535
 low:∀j,gj (u j) (rv ab aF j)
 reach:∀j∈L,dU ab i0 j
noncomputable def Dr(ab:List aG) (aF:List dB) (u:Nat→Nat) (ml:List (Key × Value)) (k:Nat):Nat:=if (bZ ml (aN ab (k:Int))).isSome then rv ab aF k else u k
def jk(ml fj:List (Key × Value)):Prop:=∀k v,bZ ml k=some v→bZ fj k=some v
def nW(ab:List aG) (aF:List dB) (L:List Nat) (u:Nat→Nat) (ml:List (Key × Value)):Prop:=∀j∈L,gj (u j) (FF ab aF (Dr ab aF u ml) j)
def rB(ab:List aG) (aF:List dB) (L:List Nat) (u:Nat→Nat) (j:Nat):Prop:=
 gj (nH ab (valOf ab aF) j) (u j)∧∀k,gZ ab j k→(k∈L→gj (u k) (u j))∧(k∉L→gj (rv ab aF k) (u j))
def IM(n:Nat) (v:Nat→Nat):Nat:=((List.range n).map fun j=>65535 - v j).sum
def sj(ab:List aG) (L:List Nat) (v:Nat→Nat):Nat:=IM ab.length v+(ab.length - L.length)
theorem jk.refl(ml:List (Key × Value)):jk ml ml:=fun _ _ h=>h
theorem jk.trans{a b c:List (Key × Value)}(h:jk a b) (k:jk b c):jk a c:=fun x v e=>k x v (h x v e)
theorem jk.put{ml:List (Key × Value)}(hm:bq ab aF ml) (k:Key):jk ml (dF ml k (.string (valOf ab aF k))):=fun x v h=>by
 rw [fy]
 split
 ·
  rename_i e;subst e;rw [hm _ _ h]
 exact h
theorem vF{u:Nat→Nat}{ml:List (Key × Value)}(h:∀j,u j≤65535) (k:Nat):Dr ab aF u ml k≤65535:=by grind [Dr,wY]
theorem RF{u:Nat→Nat}{ml:List (Key × Value)}(h:∀j,gj (u j) (rv ab aF j)) (k:Nat):gj (Dr ab aF u ml k) (rv ab aF k):=by unfold Dr;split;exact fun _ h=>h;exact h k
theorem Gu{u u':Nat→Nat}{ml fj:List (Key × Value)}(h:∀j,gj (u j) (rv ab aF j)) (hu:∀j,gj (u j) (u' j)) (hm:jk ml fj) (k:Nat):gj (Dr ab aF u ml k) (Dr ab aF u' fj k):=by
 unfold Dr
 cases h1:bZ ml (aN ab (k:Int)) with
 | some v=>rw [hm _ _ h1];simp;exact fun _ h=>h
 | none=>grind
theorem nW.mono(hR:aw ab) {i0:Nat}{L:List Nat}{u:Nat→Nat}{ml fj:List (Key × Value)}(hr:eL ab aF i0 L u) (h:nW ab aF L u ml) (hm:jk ml fj):nW ab aF L u fj:=fun j hj b hb=>
 Ky hR (vF hr.le) (vF hr.le) (Gu hr.low (fun _ _ h=>h) hm) (hr.ring j hj).1 (hr.ring j hj).2 b (h j hj b hb)
theorem eL.start{i0:Nat}(hi:i0<ab.length) (hr:aD ab i0=true):eL ab aF i0 [i0] fun _=>0 where
 nodup:=by simp
 first:=by simp
 ring j hj:=by grind
 out _ _:=rfl
 le _:=by omega
 low _ b h:=by simp at h
 reach j hj:=by simp at hj;subst hj;exact .refl
theorem nW.start{i0:Nat}{ml:List (Key × Value)}:nW ab aF [i0] (fun _=>0) ml:=fun _ _ b h=>by simp at h
theorem Oq:∀{n:Nat}{L:List Nat},L.Nodup→(∀j∈L,j<n)→L.length≤n:=by
 intro n
 induction n with
 | zero=>intro L _ hl;cases L with
  | nil=>simp
  | cons a r=>exact absurd (hl a (by simp)) (by omega)
 | succ n ih=>
  intro L h hl
  have h1:=ih (h.erase n) fun j hj=>by grind
  grind
theorem eL.len{i0:Nat}{L:List Nat}{v:Nat→Nat}(h:eL ab aF i0 L v):L.length≤ab.length:=Oq h.nodup fun j hj=>(h.ring j hj).1
theorem eL.meet{i0:Nat}{L:List Nat}{v:Nat→Nat}(h:eL ab aF i0 L v) {j:Nat}(hj:j<ab.length) (hr:aD ab j=true) (hn:j∉L) (Ot:dU ab i0 j):eL ab aF i0 (L++[j]) v where
 nodup:=by grind [nodup]
 first:=by simp [h.first]
 ring k hk:=by
  rcases List.mem_append.1 hk with hk | hk
  ·
   exact h.ring k hk
  grind
 out k hk:=h.out k fun hm=>hk (by simp [hm])
 le:=h.le
 low:=h.low
 reach k hk:=by
  rcases List.mem_append.1 hk with hk | hk
  ·
   exact h.reach k hk
  grind
theorem nW.meet{L:List Nat}{u:Nat→Nat}{ml:List (Key × Value)}(h:nW ab aF L u ml) {j:Nat}(hu:u j=0):nW ab aF (L++[j]) u ml:=fun k hk=>by
 rcases List.mem_append.1 hk with hk | hk
 ·
  exact h k hk
 simp at hk;subst hk;rw [hu];intro b hb;simp at hb
theorem eL.Kz{i0:Nat}{L:List Nat}{v:Nat→Nat}(h:eL ab aF i0 L v) {j:Nat}(hj:j<ab.length) (hr:aD ab j=true) (hn:j∉L) (Ot:dU ab i0 j):L.length<ab.length:=by
 have:=(h.meet hj hr hn Ot).len
 grind
theorem Gv{L:List Nat}{v:Nat→Nat}{j:Nat}(hl:L.length<ab.length):sj ab (L++[j]) v<sj ab L v:=by grind [sj]
def pf(v:Nat→Nat) (j u:Nat):Nat→Nat:=fun k=>if k=j then u else v k
theorem Ou:∀n (v:Nat→Nat) (j u:Nat),v j≤u→IM n (pf v j u)≤IM n v∧(j<n→v j<u→u≤65535→IM n (pf v j u)<IM n v):=by
 intro n
 induction n with
 | zero=>intro v j u _;simp [IM]
 | succ n ih=>
  intro v j u h;obtain⟨h1,h2⟩:=ih v j u h
  unfold IM at h1 h2 ⊢
  simp only [List.range_succ,List.map_append,List.map_cons,List.map_nil,List.sum_append,List.sum_cons,List.sum_nil]
  have h3:65535 - pf v j u n≤65535 - v n:=by
   unfold pf;grind
  refine⟨by omega,fun h4 h5 h6=>?_⟩
  by_cases e:j=n
  ·
   have:65535 - pf v j u n<65535 - v n:=by unfold pf;grind
   omega
  have:=h2 (by omega) h5 h6
  omega
theorem LU{u:Nat→Nat}{j x:Nat}(h:gj (u j) x):∀k,gj (u k) (pf u j x k):=fun k b hb=>by
 unfold pf;split
 ·
  rename_i e;subst e;exact h b hb
 exact hb
theorem eL.set{i0:Nat}{L:List Nat}{u:Nat→Nat}(h:eL ab aF i0 L u) {j x:Nat}(hj:j∈L) (hx:x≤65535) (h2:gj x (rv ab aF j)):eL ab aF i0 L (pf u j x) where
 nodup:=h.nodup
 first:=h.first
 ring:=h.ring
 out k hk:=by unfold pf;rw [if_neg (fun e=>hk (by rw [e];exact hj))];exact h.out k hk
 le k:=by unfold pf;split;exact hx;exact h.le k
 low k b hb:=by
  unfold pf at hb;split at hb
  ·
   rename_i e;subst e;exact h2 b hb
  exact h.low k b hb
 reach:=h.reach
theorem nW.set(hR:aw ab) {i0:Nat}{L:List Nat}{u:Nat→Nat}{ml:List (Key × Value)}(hr:eL ab aF i0 L u) (h:nW ab aF L u ml) {j x:Nat}(hj:j∈L) (hx:x≤65535) (h2:gj x (rv ab aF j)) (h3:gj (u j) x) (h4:gj x (FF ab aF (Dr ab aF u ml) j)) :
  nW ab aF L (pf u j x) ml:=fun k hk=>by
 have yt:=hr.set hj hx h2;have hm:=Ky (aF:=aF) hR (vF (aF:=aF) (ab:=ab) (ml:=ml) hr.le) (vF yt.le) (Gu hr.low (LU h3) (jk.refl ml)) (hr.ring k hk).1 (hr.ring k hk).2;intro b hb;refine hm b ?_
 unfold pf at hb;split at hb
 ·
  rename_i e;subst e;exact h4 b hb
 exact h k hk b hb
theorem KA{i0:Nat}{L:List Nat}{u:Nat→Nat}(h:eL ab aF i0 L u) {j x:Nat}(hj:j∈L) (hx:x≤65535) (h3:gj (u j) x) (kW:u j≠x):sj ab L (pf u j x)<sj ab L u:=by
 have h1:=h3.le
 have:=(Ou ab.length u j x h1).2 (h.ring j hj).1 (by omega) hx
 unfold sj;omega
theorem eL.done(hR:aw ab) {i0:Nat}{L:List Nat}{u:Nat→Nat}(h:eL ab aF i0 L u) (hs:∀j∈L,rB ab aF L u j):∀j∈L,u j=rv ab aF j:=by
 intro j hj;obtain⟨mL,zl⟩:=h.ring j hj;refine Nat.le_antisymm (h.low j).le (gj.le fun b hb=>?_);have key:=Oo hR mL zl (fun k=>if k∈L then u k else rv ab aF k) (fun k b hk hb=>?_) (fun k m b hk Ua hb=>?_) b hb
 ·
  simpa [hj] using key
 ·
  have yy:=kZ mL zl hk
  by_cases hm:k∈L
  ·
   simp only [if_pos hm];exact(hs k hm).1 b hb
  simp only [if_neg hm];grind [IL]
 have yy:=kZ mL zl hk
 by_cases nj:k∈L
 ·
  simp only [if_pos nj]
  by_cases hm:m∈L
  ·
   simp only [if_pos hm] at hb;exact((hs k nj).2 m Ua).1 hm b hb
  simp only [if_neg hm] at hb;exact((hs k nj).2 m Ua).2 hm b hb
 simp only [if_neg nj];refine(IL hR yy.1 yy.2 b).2 (.inr ⟨m,Ua,?_⟩)
 by_cases hm:m∈L
 ·
  simp only [if_pos hm] at hb;exact h.low m b hb
 grind
structure Ev (ab:List aG) (aF:List dB) (u:Nat→Nat) (L:List Nat) (Ov ml:List (Key × Value)) (qs:List Ask) (n:Nat) (acc:List ByteArray):Prop where
 len:acc.length=n
 out:∀m (h:m<qs.length),m<n→outside ab qs[m]=true→acc[m]?=some (valOf ab aF (cB ab qs[m]))
 ins:∀m (h:m<qs.length),m<n→outside ab qs[m]=false→∀k:Nat,qs[m].n=k→
  (acc[m]?=some (itoa (rv ab aF k:Int))∧(bZ ml (aN ab (k:Int))).isSome=true)∨(acc[m]?=some (itoa (u k:Int))∧k∈L∧bZ Ov (aN ab (k:Int))=none)
theorem Ev.start{u:Nat→Nat}{L:List Nat}{ml:List (Key × Value)}{qs:List Ask}:Ev ab aF u L ml ml qs 0 []:=⟨rfl,fun _ _ h=>by omega,fun _ _ h=>by omega⟩
theorem Ev.mono{u:Nat→Nat}{L L':List Nat}{Ov ml fj:List (Key × Value)}{qs:List Ask}{n:Nat}{acc:List ByteArray}(h:Ev ab aF u L Ov ml qs n acc) (hL:∀k∈L,k∈L') (hm:jk ml fj):Ev ab aF u L' Ov fj qs n acc:=
 ⟨h.len,h.out,fun m h1 h2 h3 k h4=>by
  rcases h.ins m h1 h2 h3 k h4 with⟨h5,h6⟩ | ⟨h5,h6,h7⟩
  ·
   obtain⟨v,hv⟩:=Option.isSome_iff_exists.1 h6;exact .inl ⟨h5,by rw [hm _ _ hv];rfl⟩
  grind⟩
theorem Ev.snoc{u:Nat→Nat}{L:List Nat}{Ov ml:List (Key × Value)}{qs:List Ask}{n:Nat}{acc:List ByteArray}(h:Ev ab aF u L Ov ml qs n acc) (s:ByteArray)
  (ho:∀(h:n<qs.length),outside ab qs[n]=true→s=valOf ab aF (cB ab qs[n]))
  (hi:∀(h:n<qs.length),outside ab qs[n]=false→∀k:Nat,qs[n].n=k→(s=itoa (rv ab aF k:Int)∧(bZ ml (aN ab (k:Int))).isSome=true)∨(s=itoa (u k:Int)∧k∈L∧bZ Ov (aN ab (k:Int))=none)) :
  Ev ab aF u L Ov ml qs (n+1) (acc++[s]) where
 len:=by simp [h.len]
 out m h1 h2 h3:=by
  rcases Nat.lt_or_ge m n with h4 | h4
  ·
   rw [List.getElem?_append_left (by rw [h.len];exact h4)];exact h.out m h1 h4 h3
  grind [len]
 ins m h1 h2 h3 k hk:=by
  rcases Nat.lt_or_ge m n with h4 | h4
  ·
   rw [List.getElem?_append_left (by rw [h.len];exact h4)];exact h.ins m h1 h4 h3 k hk
  have:m=n:=by omega
  subst this;rw [List.getElem?_append_right (by rw [h.len];omega),h.len]
  simpa using hi h1 h3 k hk
theorem Ev.val(hR:aw ab) {i0:Nat}{L:List Nat}{u:Nat→Nat}{Ov ml:List (Key × Value)}{j:Nat}{acc:List ByteArray}(hr:eL ab aF i0 L u) (hj:j<ab.length) (Ir:aD ab j=true) (h:Ev ab aF u L Ov ml ab[j].asks ab[j].asks.length acc) :
  gz ab[j].c.toNat (acc.map dH)≤65535∧gj (gz ab[j].c.toNat (acc.map dH)) (rv ab aF j)∧gj (FF ab aF (Dr ab aF u Ov) j) (gz ab[j].c.toNat (acc.map dH))∧
  gj (gz ab[j].c.toNat (acc.map dH)) (FF ab aF (Dr ab aF u ml) j)∧(gz ab[j].c.toNat (acc.map dH)=u j→rB ab aF L u j):=by
 obtain⟨hlen,ho,iB⟩:=h;have rT:=hR.len
 -- an answer, by its place
 have o4:∀m (hm:m<ab[j].asks.length),∃s,acc[m]?=some s∧s∈acc:=fun m hm=>⟨acc[m],ao (by omega),List.getElem_mem _⟩
 have wO:gj (nH ab (valOf ab aF) j) (gz ab[j].c.toNat (acc.map dH)):=fun b hb=>by
  rw [oI]
  rcases(gE hj b).1 hb with h1 | ⟨x,h1,h2,h3⟩
  ·
   exact .inl h1
  obtain⟨m,hm,rfl⟩:=List.mem_iff_getElem.1 h1
  grind
 have KB:∀k,gZ ab j k→∃m,∃hm:m<ab[j].asks.length,outside ab ab[j].asks[m]=false∧ab[j].asks[m].n=(k:Int):=fun k hk=>by
  obtain⟨r,x,h1,_,h3,h4,h5,h6⟩:=hk;rw [ao hj] at h1
  simp at h1
  subst h1;obtain⟨m,hm,rfl⟩:=List.mem_iff_getElem.1 h3;exact⟨m,hm,by unfold outside;rw [h4,h5];simp [h6],h5⟩
 have kL:∀(m:Nat) (s:ByteArray) (b:Nat),acc[m]?=some s→(dH s).testBit b=true→(gz ab[j].c.toNat (acc.map dH)).testBit b=true:=fun m s b h1 h2=>by
  rw [oI];grind
 have mB:∀(v:Nat→Nat),(∀k,v k≤65535)→(∀k:Nat,(bZ ml (aN ab (k:Int))).isSome=true→gj (rv ab aF k) (v k))→(∀k:Nat,gj (u k) (v k))→gj (gz ab[j].c.toNat (acc.map dH)) (FF ab aF v j):=fun v hv h1 h2 b hb=>by
  rw [zk hR hv hj Ir];rw [oI] at hb
  rcases hb with hb | ⟨_,hs,hb⟩
  ·
   grind [gE]
  obtain⟨s,ry,rfl⟩:=List.mem_map.1 hs;obtain⟨m,hm,rfl⟩:=List.mem_iff_getElem.1 ry
  have QS:m<ab[j].asks.length:=by omega
  cases gH:outside ab ab[j].asks[m]
  ·
   obtain⟨k,h3,h4,h5⟩:=jR hR hj Ir (List.getElem_mem QS) gH
   have FD:ab[j].asks[m].n=(k:Int):=by
    obtain⟨q,h6,h7⟩:=oH hj hR.len (mA hR hj Ir (List.getElem_mem QS))
    have hc:ab[j].asks[m].cell=false:=by grind [outside]
    rw [hc] at h7;simp only [Bool.false_eq_true,if_false] at h7
    unfold cB at h4
    rw [hc,h6] at h4;simp only [Bool.false_eq_true,if_false] at h4
    grind [dy]
   refine .inr ⟨k,h3,?_⟩
   rcases iB m QS QS gH k FD with⟨h6,h7⟩ | ⟨h6,h7,_⟩
   ·
    rw [ao hm] at h6
    simp at h6
    rw [h6,gD (wY k)] at hb;exact h1 k h7 b hb
   rw [ao hm] at h6
   simp at h6
   rw [h6,gD (hr.le k)] at hb;exact h2 k b hb
  grind [gE]
 refine⟨?_,?_,?_,?_,fun he=>⟨?_,fun k hk=>⟨fun Gw=>?_,fun Gw=>?_⟩⟩⟩
 ·
  grind [oD,zj,nG]
 ·
  intro b hb;have h1:=mB (rv ab aF) wY (fun _ _ _ h=>h) hr.low b hb
  grind [zk,wY,IL]
 ·
  intro b hb;rw [zk hR (vF hr.le) hj Ir] at hb
  rcases hb with hb | ⟨k,h1,h2⟩
  ·
   exact wO b hb
  obtain⟨m,hm,h3,h4⟩:=KB k h1
  rcases iB m hm hm h3 k h4 with⟨h6,h7⟩ | ⟨h6,h7,h8⟩
  ·
   exact kL m _ b h6 (by rw [gD (wY k)];exact RF hr.low k b h2)
  refine kL m _ b h6 (by rw [gD (hr.le k)];grind [Dr])
 ·
  refine mB _ (vF hr.le) (fun k hk b hb=>?_) fun k b hb=>?_
  ·
   unfold Dr;rw [if_pos hk];exact hb
  unfold Dr;split
  ·
   exact hr.low k b hb
  exact hb
 ·
  rw [← he];exact wO
 ·
  intro b hb;rw [← he];obtain⟨m,hm,h3,h4⟩:=KB k hk
  rcases iB m hm hm h3 k h4 with⟨h6,h7⟩ | ⟨h6,h7,h8⟩
  ·
   exact kL m _ b h6 (by rw [gD (wY k)];exact hr.low k b hb)
  exact kL m _ b h6 (by rw [gD (hr.le k)];exact hb)
 intro b hb
 grind [gD,wY]
def pY(ab:List aG) (L:List Nat) (v:Nat→Nat) (am:List (Key × Value)):Prop:=
 (∀j∈L,bZ am (aN ab (j:Int))=some (.string (itoa (v j:Int))))∧∀k,(∀j∈L,k≠aN ab (j:Int))→bZ am k=none
theorem fq(hR:aw ab) {i j:Nat}(hi:i<ab.length) (hj:j<ab.length) (h:aN ab (i:Int)=aN ab (j:Int)):i=j:=by grind [aw.len,dy]
theorem pY.meet(hR:aw ab) {L:List Nat}{v:Nat→Nat}{am:List (Key × Value)}(h:pY ab L v am) (hL:∀j∈L,j<ab.length) {j:Nat}(hj:j<ab.length) (hn:j∉L) (hv:v j=0):pY ab (L++[j]) v (dF am (aN ab (j:Int)) (.string ⟨#[48]⟩)):=by
 have e0:itoa ((0:Nat):Int)=⟨#[48]⟩:=by decide +kernel
 refine⟨fun k hk=>?_,fun k hk=>?_⟩
 ·
  rw [fy]
  rcases List.mem_append.1 hk with hk | hk
  ·
   rw [if_neg (fun e=>hn (by grind [fq]))];exact h.1 k hk
  grind
 rw [fy,if_neg (fun e=>hk j (by simp) e.symm)]
 exact h.2 k fun m hm=>hk m (by simp [hm])
theorem pY.set(hR:aw ab) {L:List Nat}{v:Nat→Nat}{am:List (Key × Value)}(h:pY ab L v am) (hL:∀j∈L,j<ab.length) {j:Nat}(hj:j∈L) (u:Nat):pY ab L (pf v j u) (dF am (aN ab (j:Int)) (.string (itoa (u:Int)))):=by
 refine⟨fun k hk=>?_,fun k hk=>?_⟩
 ·
  rw [fy]
  unfold pf
  by_cases e:k=j
  ·
   grind
  rw [if_neg (fun e2=>e (fq hR (hL k hk) (hL j hj) e2.symm)),if_neg e];exact h.1 k hk
 rw [fy,if_neg (fun e=>hk j hj e.symm)];exact h.2 k hk
end
theorem k8{ab:List aG}(hR:aw ab) {i:Nat}(hi:i<ab.length) (hr:aD ab i=true) {x:Ask}(hx:x∈ab[i].asks) (ho:outside ab x=false) {k:Nat}(hk:x.n=(k:Int)):k<ab.length∧aD ab k=true∧cB ab x=aN ab (k:Int):=by
 have hm:=mA hR hi hr hx
 unfold outside at ho
 rw [Bool.or_eq_false_iff] at ho;rw [ho.1,hk] at hm;refine⟨(uy hR hi hr hm).1,?_,?_⟩
 ·
  grind
 grind [cB]
theorem aw.hb{ab:List aG}(h:aw ab):∀x∈ab,0≤x.c∧x.c≤65535∧x.asks.length≤1000:=fun x hx=>by
 obtain⟨i,hi,rfl⟩:=List.mem_iff_getElem.1 hx;obtain⟨h1,_,h3⟩:=h.at hi
 grind [jB]
theorem gR{ab:List aG}{i:Nat}(hi:i<ab.length) (lC:i≤99) (l:List ByteArray):aM ab (aN ab (i:Int)) l=dw ab (aN ab (i:Int)) l:=by
 unfold aM;rw [if_pos (by grind [fM])]
theorem wZ{ab:List aG}{i:Nat}(hi:i<ab.length) (lC:i≤99) (hr:aD ab i=true):te (aN ab (i:Int))=⟨#[48]⟩:=by grind [te,fM]
theorem CD:∀{l:List (Key × Value)}{k:Key}{v:Value},bZ l k=some v→dF l k v=l:=by
 intro l
 induction l with
 | nil=>intro k v h;simp [bZ] at h
 | cons p r ih=>
  obtain⟨k0,v0⟩:=p;intro k v h;simp only [bZ] at h;simp only [dF]
  grind
theorem im{ab:List aG}{i:Nat}(hi:i<ab.length) (lC:i≤99):gY (aN ab (i:Int)):=by grind [gY,fM]
end Go.Rc

namespace Go.Rc
open Go
theorem sk:∀(l:List UInt8) (u:Nat),0<u→0≤decFrom l (u:Int)→∃v:Nat,decFrom l (u:Int)=v∧Lib.decDigits v=Lib.decDigits u++l
 | [],u,_,_=>⟨u,rfl,by simp⟩
 | c::r,u,hu,h=>by
  unfold decFrom at h ⊢
  by_cases hc:c.toNat<48∨57<c.toNat
  ·
   rw [if_pos hc] at h;omega
  rw [if_neg hc] at h ⊢;obtain⟨d,hd⟩:∃d:Nat,c.toNat=48+d:=⟨c.toNat - 48,by omega⟩
  have hd9:d<10:=by omega
  have e:10*(u:Int)+((c.toNat:Int) - 48)=((10*u+d:Nat):Int):=by omega
  rw [e] at h ⊢;obtain⟨v,h1,h2⟩:=sk r (10*u+d) (by omega) h;refine⟨v,h1,?_⟩;rw [h2,Lib.decDigits,dif_neg (by omega),show(10*u+d) / 10=u by omega,show(10*u+d) % 10=d by omega,List.append_assoc]
  grind [UInt8.ofNat_toNat]
theorem BB{s:ByteArray}(h:0≤ff s):∃v:Nat,ff s=v∧s=itoa (v:Int):=by
 unfold ff at h ⊢
 by_cases hc:s.size=0∨9<s.size∨(s.data.toList.head?=some 48∧s.size≠1)
 ·
  rw [if_pos hc] at h;omega
 rw [if_neg hc] at h ⊢;obtain⟨d⟩:=s
 have key:∃v:Nat,decFrom d.toList 0=v∧Lib.decDigits v=d.toList:=by
  have hsz:(⟨d⟩:ByteArray).size=d.toList.length:=by simp [ByteArray.size]
  rw [hsz] at hc;simp only at hc h ⊢
  cases hl:d.toList with
  | nil=>rw [hl] at hc;simp at hc
  | cons c r=>
   rw [hl] at hc h
   unfold decFrom at h ⊢
   by_cases hn:c.toNat<48∨57<c.toNat
   ·
    rw [if_pos hn] at h;omega
   rw [if_neg hn] at h ⊢;obtain⟨e,he⟩:∃e:Nat,c.toNat=48+e:=⟨c.toNat - 48,by omega⟩
   have h1:10*(0:Int)+((c.toNat:Int) - 48)=(e:Nat):=by omega
   rw [h1] at h ⊢
   have CE:UInt8.ofNat (48+e)=c:=by grind [UInt8.ofNat_toNat]
   by_cases h0:e=0
   ·
    subst h0
    have apN:c=48:=by rw [← CE];rfl
    have hr:r=[]:=by grind
    subst hr;exact⟨0,rfl,by rw [Lib.decDigits,dif_pos (by omega),CE]⟩
   obtain⟨v,h2,h3⟩:=sk r e (by omega) h;refine⟨v,h2,?_⟩;rw [h3,Lib.decDigits,dif_pos (by omega),CE]
   rfl
 obtain⟨v,h1,h2⟩:=key;refine⟨v,h1,?_⟩
 have e:Lib.itoa (v:Int)=Lib.decDigits v:=by unfold Lib.itoa;rw [if_neg (by omega)];rfl
 unfold itoa
 rw [e,h2]
theorem LV{s:ByteArray}(h:∀n:Nat,n≤65535→s≠itoa (n:Int)):dH s=0:=by
 unfold dH
 split
 ·
  rfl
 grind [BB]
theorem LW(l:List aG) (m:Nat):m≤eY l m:=by unfold eY;omega
theorem IP{ab:List aG}{i:Nat}(hi:i<ab.length):(block ab (i:Int)).1≤(block ab (i:Int)).2:=by
 have hb:block ab (i:Int)=if aD ab i then ((cj ab i:Int),(eY ab (i+1):Int)) else ((i:Int),(i:Int)+1):=by
  unfold block;rw [if_neg (by omega)];rfl
 grind [iv,LW]
theorem Gx(kind:Int) (c:Nat) (l:List Nat):eZ kind 0 (c::l)=eZ kind c l:=by
 unfold eZ xT wS gz
 simp
end Go.Rc

namespace Go.Rc
open Go
theorem Gy{κ:Type} [DecidableEq κ]:∀{l:List (κ × Value)}{k:κ}{v:Value},bZ l k=none→jP (dF l k v) k=l
 | [],k,v,_=>by simp [dF,jP]
 | (k0,v0)::r,k,v,h=>by
  by_cases e:k0=k
  ·
   subst e;simp [bZ] at h
  simp only [bZ,if_neg e] at h;simp only [dF,if_neg e,jP,Gy h]
def FZ.row(b:Nat) (r:List Value):FZ:=
 ⟨fun Z w=>Z b∧b<w.heap.size∧w.rangeAt b 0 r,fun hZ h=>⟨hZ _ h.1,h.2⟩,fun hs hc h=>⟨h.1,Nat.lt_of_lt_of_le h.2.1 hs,fun j v hv=>by rw [← h.2.2 j v hv];grind [World.cell?_of_block]⟩⟩
def SD.FV(D:SD) (P:Program) (ab:List aG) (x:dQ):FZ:=(D.F P ab x).and (FZ.row D.s (D.cells x))
theorem SD.FV.rg{D:SD}{P:Program}{ab:List aG}{x:dQ}{Z:Nat→Prop}{w:World}(h:(D.FV P ab x).p Z w):(As.rg D.s 0 (D.cells x)).ok Z w:=As.abc h.2.1 h.2.2.1 h.2.2.2
theorem CH{κ:Type} [DecidableEq κ]:∀(l:List (κ × Value)) (k:κ) (v u:Value),dF (dF l k v) k u=dF l k u
 | [],k,v,u=>by simp [dF]
 | (k0,v0)::r,k,v,u=>by
  by_cases e:k0=k
  ·
   simp [dF,e]
  simp [dF,e,CH r k v u]
section
variable {ab:List aG}{aF:List dB}
def pg(ab:List aG) (i:Nat) (al:List (Key × Value)):Prop:=∀j:Nat,j≤i→j<ab.length→bZ al (aN ab (j:Int))=none
theorem pg.mono{i m:Nat}{al:List (Key × Value)}(h:pg ab i al) (hm:m≤i):pg ab m al:=fun j hj hl=>h j (by omega) hl
theorem pg.put(hR:aw ab) {i m:Nat}{al:List (Key × Value)}(h:pg ab i al) (hi:i<ab.length) (hm:m<i) (v:Value):pg ab m (dF al (aN ab (i:Int)) v):=fun j hj hl=>by
 rw [fy,if_neg (fun e=>by have:=fq hR hi hl e;omega)];exact h j (by omega) hl
theorem pg.nil(i:Nat):pg ab i []:=fun _ _ _=>rfl
noncomputable def eb(ab:List aG) (aF:List dB) (i:Nat):List Key:=(gh (dw ab (aN ab (i:Int))) (valOf ab aF) (dV ab i)).1
noncomputable def zm(ab:List aG) (aF:List dB) (k:Key):List Key:=if az k then [] else eb ab aF (number k).toNat
theorem jS(hR:aw ab) {i:Nat}(hi:i<ab.length):zm ab aF (aN ab (i:Int))=eb ab aF i:=by
 have rT:=hR.len
 unfold zm
 rw [if_neg (by grind [eG]),dy hi (by omega),Int.toNat_natCast]
theorem gi.cyc(hR:aw ab) {i:Nat}{a:Key}(h:gi ab i a):aA a=decide (a.kind=32):=by
 have rT:=hR.len
 rcases h with⟨n,h1,rfl⟩ | ⟨m,h1,rfl,_⟩
 ·
  rw [mO (by omega)]
  unfold du
  rw [if_neg (by omega)]
  rfl
 grind [ck,fM]
theorem gi.al(hR:aw ab) {i0 j:Nat}{a:Key}{al:List (Key × Value)}(h:gi ab j a) (hr:aD ab j=true) (hc:aA a=false) (iB:az a=false) (hb:cj ab j≤i0) (th:pg ab i0 al):pg ab (number a).toNat al:=by
 have rT:=hR.len
 rcases h with⟨n,h1,rfl⟩ | ⟨m,h1,rfl,_,_,_,h5⟩
 ·
  grind [cE]
 rw [ck h1 (by omega)] at hc;rw [dy h1 (by omega),Int.toNat_natCast];exact th.mono (by have:=h5 hc hr;omega)
structure RI (ab:List aG) (aF:List dB) (i0:Nat) (qs:List Ask) (u1:Nat→Nat) (L1:List Nat) (nX:Bool) (fS:List (Key × Value)) (n:Nat) (L2:List Nat) (mQ:List (Key × Value)) (pM:Bool) (kN:List (Key × Value)) (acc:List ByteArray):Prop where
 hn:n≤qs.length
 rd:eL ab aF i0 L2 u1
 up:nW ab aF L2 u1 kN
 at_:pY ab L2 u1 mQ
 m:bq ab aF kN
 le:jk fS kN
 p:sj ab L2 u1≤sj ab L1 u1∧(pM=true→nX=true∨sj ab L2 u1<sj ab L1 u1)
 c:pM=false→L2=L1∧nX=false
 pre:L1 <+: L2
 ev:Ev ab aF u1 L2 fS kN qs n acc
variable {i0 j n:Nat}{u1:Nat→Nat}{L1 L2:List Nat}{nX pM:Bool}{fS kN RG mQ:List (Key × Value)}{acc:List ByteArray}
theorem RI.start{zn:List (Key × Value)}{qs:List Ask}(h1:eL ab aF i0 L1 u1) (h2:nW ab aF L1 u1 fS) (h3:pY ab L1 u1 zn) (h4:bq ab aF fS):RI ab aF i0 qs u1 L1 nX fS 0 L1 zn nX fS []:=
 ⟨Nat.zero_le _,h1,h2,h3,h4,jk.refl _,⟨Nat.le_refl _,fun h=>.inl h⟩,fun h=>⟨rfl,h⟩,List.prefix_refl _,Ev.start⟩
theorem RI.done(hR:aw ab) (hj:j<ab.length) (hr:aD ab j=true) (h:RI ab aF i0 ab[j].asks u1 L1 nX fS n L2 mQ pM kN acc) (hn:n<ab[j].asks.length) {vv:Value}(hv:bZ kN (cB ab ab[j].asks[n])=some vv) :
  RI ab aF i0 ab[j].asks u1 L1 nX fS (n+1) L2 mQ pM kN (acc++[valOf ab aF (cB ab ab[j].asks[n])]):=
 {h with
  hn:=hn
  ev:=h.ev.snoc _ (fun _ _=>rfl) fun _ ho k hk=>.inl (by
   obtain⟨sn,nj,xa⟩:=k8 hR hj hr (List.getElem_mem hn) ho hk
   grind [jn,j4])}
theorem RI.low(hR:aw ab) (hj:j<ab.length) (hr:aD ab j=true) (h:RI ab aF i0 ab[j].asks u1 L1 nX fS n L2 mQ pM kN acc) (hn:n<ab[j].asks.length) (hc:aA (cB ab ab[j].asks[n])=false) (h4:bq ab aF RG) (hle:jk kN RG) :
  RI ab aF i0 ab[j].asks u1 L1 nX fS (n+1) L2 mQ pM RG (acc++[valOf ab aF (cB ab ab[j].asks[n])]):=
 {h with
  hn:=hn
  up:=h.up.mono hR h.rd hle
  m:=h4
  le:=h.le.trans hle
  ev:=(h.ev.mono (fun _ h=>h) hle).snoc _ (fun _ _=>rfl) fun _ ho k hk=>by grind [aw.len,k8,ck]}
theorem RI.inside(hR:aw ab) (hj:j<ab.length) (hr:aD ab j=true) (hn:n<ab[j].asks.length) (hc:aA (cB ab ab[j].asks[n])=true) :
  ∃kk:Nat,cB ab ab[j].asks[n]=aN ab (kk:Int)∧kk<ab.length∧aD ab kk=true∧gZ ab j kk∧outside ab ab[j].asks[n]=false:=by
 have kL:=List.getElem_mem hn
 have gH:outside ab ab[j].asks[n]=false:=by grind [k7]
 obtain⟨kk,KC,pN,ny⟩:=jR hR hj hr kL gH;exact⟨kk,pN,ny,KC.lt.2.2.2,KC,gH⟩
theorem RI.Uh(hR:aw ab) (hj:j<ab.length) (hr:aD ab j=true) {L3:List Nat}(h:Ev ab aF u1 L3 fS kN ab[j].asks n acc) (hle:jk fS kN) (hn:n<ab[j].asks.length) {kk:Nat}(pN:cB ab ab[j].asks[n]=aN ab (kk:Int)) (ny:kk<ab.length) (gH:outside ab ab[j].asks[n]=false)
  (gV:bZ kN (cB ab ab[j].asks[n])=none) (hL:kk∈L3):Ev ab aF u1 L3 fS kN ab[j].asks (n+1) (acc++[itoa (u1 kk:Int)]):=by
 have ti:bZ fS (aN ab (kk:Int))=none:=by
  cases h:bZ fS (aN ab (kk:Int)) with
  | none=>rfl
  | some v=>have:=hle _ _ h;grind
 refine h.snoc _ (fun _ ho=>by rw [gH] at ho;cases ho) fun _ ho k hk=>?_;obtain⟨sn,nj,xa⟩:=k8 hR hj hr (List.getElem_mem hn) gH hk;rw [pN] at xa
 have:=fq hR ny sn xa
 grind
theorem RI.meet(hR:aw ab) (hj:j<ab.length) (hr:aD ab j=true) (h:RI ab aF i0 ab[j].asks u1 L1 nX fS n L2 mQ pM kN acc) (pI:j∈L1) (hn:n<ab[j].asks.length) (hc:aA (cB ab ab[j].asks[n])=true)
  (gV:bZ kN (cB ab ab[j].asks[n])=none) (Rt:bZ mQ (cB ab ab[j].asks[n])=none) :
  ∃kk:Nat,cB ab ab[j].asks[n]=aN ab (kk:Int)∧kk<ab.length∧aD ab kk=true∧RI ab aF i0 ab[j].asks u1 L1 nX fS (n+1) (L2++[kk]) (dF mQ (cB ab ab[j].asks[n]) (.string ⟨#[48]⟩)) true kN (acc++[⟨#[48]⟩]):=by
 obtain⟨kk,pN,ny,yy,KC,gH⟩:=RI.inside hR hj hr hn hc
 have Gw:kk∉L2:=fun hm=>by have:=h.at_.1 kk hm;grind
 have QT:=h.rd.out kk Gw;have Ot:dU ab i0 kk:=.step (h.rd.reach j (h.pre.subset pI)) KC;have Wd:=h.rd.meet ny yy Gw Ot;have ee:=h.rd.Kz ny yy Gw Ot;have Ri:=Gv (v:=u1) (j:=kk) ee;have dO:=RI.Uh hR hj hr (h.ev.mono (L':=L2++[kk]) (fun _ h=>by simp [h]) (jk.refl _)) h.le hn pN ny gH gV (by simp)
 have e0:itoa ((0:Nat):Int)=⟨#[48]⟩:=by decide +kernel
 rw [QT,e0] at dO;refine⟨kk,pN,ny,yy,⟨hn,Wd,h.up.meet QT,?_,h.m,h.le,⟨Nat.le_of_lt (Nat.lt_of_lt_of_le Ri h.p.1),fun _=>.inr (Nat.lt_of_lt_of_le Ri h.p.1)⟩,fun h=>(by cases h),h.pre.trans (List.prefix_append _ _),dO⟩⟩;rw [pN];exact h.at_.meet hR (fun k hk=>(h.rd.ring k hk).1) ny Gw QT
theorem RI.abz(hR:aw ab) (hj:j<ab.length) (hr:aD ab j=true) (h:RI ab aF i0 ab[j].asks u1 L1 nX fS n L2 mQ pM kN acc) (hn:n<ab[j].asks.length) (hc:aA (cB ab ab[j].asks[n])=true)
  (gV:bZ kN (cB ab ab[j].asks[n])=none) {v:Value}(Rt:bZ mQ (cB ab ab[j].asks[n])=some v) :
  ∃s:ByteArray,v=.string s∧s.size≤1000∧RI ab aF i0 ab[j].asks u1 L1 nX fS (n+1) L2 mQ pM kN (acc++[s]):=by
 obtain⟨kk,pN,ny,yy,KC,gH⟩:=RI.inside hR hj hr hn hc
 have Gw:kk∈L2:=by
  by_cases hm:kk∈L2
  ·
   exact hm
  have:=h.at_.2 (aN ab (kk:Int)) (fun k hk e=>hm (by have:=fq hR ny (h.rd.ring k hk).1 e;rw [this];exact hk))
  grind
 have hg:=h.at_.1 kk Gw;rw [← pN,Rt] at hg;simp only [Option.some.injEq] at hg;refine⟨_,hg,?_,{h with hn:=hn,ev:=RI.Uh hR hj hr h.ev h.le hn pN ny gH gV Gw}⟩;have hle:=h.rd.le kk
 have e:Lib.itoa (u1 kk:Int)=Lib.decDigits (u1 kk):=by unfold Lib.itoa;rw [if_neg (by omega)];rfl
 grind [itoa,Lib.decDigits,ByteArray.size]
end
end Go.Rc

namespace Go.Rc
open Go
/-! ### keys in order -/
def pZ(k:Key):List Key→List Key
 | []=>[k]
 | x::r=>if cw x k<0 then x::pZ k r else if x=k then x::r else k::x::r
def mb(l:List Key):List Key:=l.foldl (fun out k=>pZ k out) []
theorem RH:∀(l:List Key) (k:Key) (p:Nat),p≤l.length→(∀q x,q<p→l[q]?=some x→cw x k<0)→(∀x,l[p]?=some x→0≤cw x k)→pZ k l=if l[p]?=some k then l else l.take p++[k]++l.drop p:=by
 intro l
 induction l with
 | nil=>intro k p hp _ _;simp at hp;subst hp;rfl
 | cons x r ih=>
  intro k p hp h1 h2
  cases p with
  | zero=>
   have:=h2 x rfl
   simp only [pZ]
   grind
  | succ p=>
   have:=h1 0 x (by omega) rfl
   simp only [pZ];rw [if_pos this,ih k p (by simpa using hp) (fun q y hq hy=>h1 (q+1) y (by omega) (by simpa using hy)) (fun y hy=>h2 y (by simpa using hy))]
   grind
theorem Ox(k:Key):∀l,(pZ k l).length≤l.length+1:=by
 intro l
 induction l with
 | nil=>simp [pZ]
 | cons x r ih=>grind [pZ]
theorem zo(l:List Key) (k:Key):mb (l++[k])=pZ k (mb l):=by simp [mb]
theorem vG(l:List Key):(mb l).length≤l.length:=by
 have key:∀(l acc:List Key),(l.foldl (fun out k=>pZ k out) acc).length≤acc.length+l.length:=by
  intro l
  induction l with
  | nil=>intro acc;simp
  | cons x r ih=>grind [Ox]
 simpa [mb] using key l []
theorem Gz(k:Key):∀(l:List Key) (x:Key),x∈pZ k l↔x=k∨x∈l:=by
 intro l
 induction l with
 | nil=>intro x;simp [pZ]
 | cons y r ih=>grind [pZ]
theorem vH(l:List Key) (x:Key):x∈mb l↔x∈l:=by
 have key:∀(l acc:List Key),x∈l.foldl (fun out k=>pZ k out) acc↔x∈acc∨x∈l:=by
  intro l
  induction l with
  | nil=>intro acc;simp
  | cons y r ih=>grind [Gz]
 simpa [mb] using key l []
def GA(out:List Key) (p:Nat) (x:Key):Bool:=match out[p]? with | some y=>decide (cw y x<0) | none=>false
/-! ### groups -/
def Ld(l:List Rec) (rev:Int) (a x:Key):Prop:=x∈(aH l a).reads∧cI l rev x=true
inductive cD (l:List Rec) (rev:Int) (k:Key):Key→Prop where
 | one {x:Key}:Ld l rev k x→cD l rev k x
 | step {x y:Key}:cD l rev k x→Ld l rev x y→cD l rev k y
def jT(m:List (Key × Value)) (P:Key→Prop):Prop:=∀k,(bZ m k=some (.bool true)↔P k)∧(bZ m k=none∨bZ m k=some (.bool true))
open Classical in
noncomputable def DO(l:List Rec) (rev:Int) (k x:Key):Bool:=decide (cD l rev k x)
theorem mR{l:List Rec}{rev:Int}{k x:Key}:DO l rev k x=true↔cD l rev k x:=by unfold DO;simp
noncomputable def GB(l:List Rec) (rev:Int) (k:Key) (r:Rec):Bool:=decide (r.key≠k) && (DO l rev k r.key && DO l rev r.key k)
noncomputable def k9(l:List Rec) (rev:Int) (k:Key) (rs:List Rec):List Key:=(rs.filter (GB l rev k)).map (·.key)
theorem xc{l:List Rec}{rev:Int}{k:Key}{i:Nat}(h:i<l.length):k9 l rev k (l.take (i+1))=if GB l rev k l[i]=true then k9 l rev k (l.take i)++[l[i].key] else k9 l rev k (l.take i):=by
 rw [List.take_succ_eq_append_getElem h];simp only [k9,List.filter_append,List.map_append]
 grind
theorem tj(l:List Rec) (rev:Int) (k:Key) (rs:List Rec):(k9 l rev k rs).length≤rs.length:=by grind [k9]
theorem jT.get{m:List (Key × Value)}{P:Key→Prop}(h:jT m P) (k:Key) {b:Bool}(hb:b=true↔P k):(bZ m k).getD (.bool false)=.bool b:=by
 obtain⟨h1,h2⟩:=h k
 grind
theorem jT.put{m:List (Key × Value)}{ys:List Key}(h:jT m (·∈ys)) (x:Key):jT (dF m x (.bool true)) (·∈ys++[x]):=fun k=>by
 rw [fy]
 by_cases e:x=k
 ·
  rw [if_pos e];simp [e]
 rw [if_neg e];obtain⟨h1,h2⟩:=h k
 grind
theorem jT.congr{m:List (Key × Value)}{P Q:Key→Prop}(h:jT m P) (hpq:∀k,P k↔Q k):jT m Q:=fun k=>⟨(h k).1.trans (hpq k),(h k).2⟩
theorem jT.nil:jT [] (·∈([]:List Key)):=fun k=>by simp [bZ]
theorem iL{L S:List Key}(h:L.Nodup) (hs:∀x∈L,x∈S):L.length≤S.length:=by
 induction L generalizing S with
 | nil=>simp
 | cons a r ih=>
  have ha:=hs a (by simp);rw [List.nodup_cons] at h
  have:=ih (S:=S.erase a) h.2 fun x hx=>by grind
  grind
theorem qx{l:List Rec}{rev:Int}{x:Key}(h:cI l rev x=true):x∈l.map (·.key):=by
 unfold cI at h
 rw [Bool.and_eq_true] at h
 grind [aC]
theorem cD.iE{l:List Rec}{rev:Int}{k x:Key}(h:cD l rev k x):cI l rev x=true:=by
 cases h with
 | one h=>exact h.2
 | step _ h=>exact h.2
theorem DR{l:List Rec}{rev:Int}{k:Key}{ys:List Key}(hs:∀x∈ys,cD l rev k x) (hc:∀y∈k::ys,∀x,Ld l rev y x→x∈ys) (x:Key):x∈ys↔cD l rev k x:=by
 refine⟨hs x,fun h=>?_⟩
 induction h with
 | one h=>exact hc k (by simp) _ h
 | step _ h2 ih=>exact hc _ (by simp [ih]) _ h2
noncomputable def aB(l:List Rec) (rev:Int) (k:Key):List Key:=if cI l rev k then mb (k::k9 l rev k l) else [k]
def cO(rev:Int) (group:List Key) (bU:Bool) (r:Rec):Rec:=if r.key∈group then (if bU then {r with bU:=true} else {r with ax:=rev}) else r
def dT(x:dQ) (group:List Key) (bU:Bool):dQ:={x with ak:=x.ak.map (cO x.ad group bU)}
def aK(x:dQ) (k:Key):Bool:=(aC x.ak k).isSome && decide ((aH x.ak k).ax=x.ad)
def bp(val:Key→ByteArray) (x:dQ) (k:Key):Int:=
 if az k then (db x.ae k).changed
 else if (aC x.ak k).isSome && (decide ((aH x.ak k).ax=x.ad) || decide (val k=(aH x.ak k).value)) then (aH x.ak k).changed else x.ad
def dC(val:Key→ByteArray) (x:dQ) (k:Key):ByteArray:=if aA k then val k else uw x k
/-! ### a request -/
structure ES where
 b:dQ
 busy:List (Key × Value)
 cU:List Key
 e:Int
def ES.on(s:ES) (k:Key):Bool:=(bZ s.busy k).isSome
def fB(s:ES) (k:Key):Bool:=az k || ((s.on k && aA k) || aK s.b k)
mutual
noncomputable def mc(ab:List aG) (val:Key→ByteArray):Nat→ES→Key→Option ES
 | 0,_,_=>none
 | f+1,s,k=>
  if s.e≠0∨az k=true then some s
  else if aK s.b k then some s
  else if s.on k then (if aA k then some s else some {s with e:=43})
  else (dI ab val f {s with busy:=dF s.busy k (.bool true)} k 0).bind fun p=>
   (if p.2 then ib ab val f p.1 k [] [] else some p.1).bind fun s3=>some {s3 with busy:=jP s3.busy k}
noncomputable def dI(ab:List aG) (val:Key→ByteArray):Nat→ES→Key→Nat→Option (ES × Bool)
 | 0,_,_,_=>none
 | f+1,s,k,at_=>
  if s.e≠0 then some (s,false)
  else if !(aC s.b.ak k).isSome || (aH s.b.ak k).bU then some (s,true)
  else if (aH s.b.ak k).ax=s.b.ad then some (s,false)
  else
   match (bP s.b.ak (aB s.b.ak s.b.ad k))[at_]? with
   | none=>some ({s with b:=dT s.b (aB s.b.ak s.b.ad k) false},false)
   | some c=>
    if fB s c.read=false then (mc ab val f s c.read).bind fun s'=>dI ab val f s' k at_
    else if (aH s.b.ak c.eR).ax<bp val s.b c.read then
     some ((if aA k then {s with b:=dT s.b (aB s.b.ak s.b.ad k) true} else s),true)
    else dI ab val f s k (at_+1)
noncomputable def ib(ab:List aG) (val:Key→ByteArray):Nat→ES→Key→List Key→List ByteArray→Option ES
 | 0,_,_,_,_=>none
 | f+1,s,k,reads,ah=>
  if s.e≠0 then some s
  else if (aM ab k ah).done then
   (if !(aC s.b.ak k).isSome && decide (4000≤s.b.ak.length) then some {s with e:=45}
   else some {s with b:={s.b with ak:=fR s.b.ak (dK s.b k (aM ab k ah).value reads)},cU:=s.cU++[k]})
  else (mc ab val f s (aM ab k ah).ask).bind fun s'=>
   if s'.e=0 then ib ab val f s' k (reads++[(aM ab k ah).ask]) (ah++[dC val s'.b (aM ab k ah).ask]) else ib ab val f s' k reads ah
end
/-! ### a solver, as one thing -/
def As.l3(P:Program) (ST:Nat) (ab:List aG) (x:dQ) (D:SD):As where
 fp y:=y=D.s∨y=D.m
 ok Z w:=D.s≠D.m∧cW w D.s ST (D.cells x)∧(∃ml,bq ab x.ae ml∧KM Key.val w D.m ml)∧(D.F P ab x).p Z w
 lt:=fun⟨_,h1,⟨_,_,h2⟩,_⟩ y hy=>by rcases hy with rfl | rfl;exact h1.lt;exact h2.lt
 mono hZ:=fun⟨h0,h1,h2,h3⟩=>⟨h0,h1,h2,(D.F P ab x).mono hZ h3⟩
 st:=fun hs hc ⟨h0,h1,⟨ml,h2,h3⟩,h4⟩=>⟨h0,(As.blk D.s ST (D.cells x)).st (Z:=fun _=>False) hs (fun y hy hl=>hc y (.inl (.inl (by rcases hy with hy | hy;exact hy;exact hy.elim))) hl) h1,
  ⟨ml,h2,(As.map Key.val D.m ml).st (Z:=fun _=>False) hs (fun y hy hl=>hc y (.inl (.inr (by rcases hy with hy | hy;exact hy;exact hy.elim))) hl) h3⟩,(D.F P ab x).st hs (fun y hy hl=>hc y (.inr hy) hl) h4⟩
section
variable {w0 w w':World}{M Z:Nat→Prop}{l:List As}{A B C:As}
theorem St.split(h:St w0 M Z w (C::l)) (hA:A.ok Z w) (hB:B.ok Z w) (hfA:∀x,A.fp x→C.fp x) (hfB:∀x,B.fp x→C.fp x) (hd:∀x,A.fp x→¬B.fp x):St w0 M Z w (A::B::l):=by
 obtain⟨Ry,QN⟩:=List.pairwise_cons.1 h.vD;refine⟨h.cT,h.ma,?_,?_,?_,?_⟩
 ·
  intro D hD x hx hz;simp only [List.mem_cons] at hD
  rcases hD with rfl | rfl | hD
  ·
   exact h.o9 C (by simp) x (hfA x hx) hz
  ·
   exact h.o9 C (by simp) x (hfB x hx) hz
  exact h.o9 D (by simp [hD]) x hx hz
 ·
  intro D hD x hx;simp only [List.mem_cons] at hD
  rcases hD with rfl | rfl | hD
  ·
   exact h.qh C (by simp) x (hfA x hx)
  ·
   exact h.qh C (by simp) x (hfB x hx)
  exact h.qh D (by simp [hD]) x hx
 ·
  simp_all
 intro D hD;simp only [List.mem_cons] at hD
 rcases hD with rfl | rfl | hD
 ·
  exact hA
 ·
  exact hB
 exact h.ok D (by simp [hD])
theorem St.join(h:St w0 M Z w (A::B::l)) (hC:C.ok Z w) (hf:∀x,C.fp x→A.fp x∨B.fp x):St w0 M Z w (C::l):=by
 obtain⟨Ry,QN⟩:=List.pairwise_cons.1 h.vD;obtain⟨hd3,hd4⟩:=List.pairwise_cons.1 QN;refine⟨h.cT,h.ma,?_,?_,?_,?_⟩
 ·
  intro D hD x hx hz;simp only [List.mem_cons] at hD
  rcases hD with rfl | hD
  ·
   rcases hf x hx with h1 | h1
   ·
    exact h.o9 A (by simp) x h1 hz
   exact h.o9 B (by simp) x h1 hz
  exact h.o9 D (by simp [hD]) x hx hz
 ·
  intro D hD x hx;simp only [List.mem_cons] at hD
  rcases hD with rfl | hD
  ·
   rcases hf x hx with h1 | h1
   ·
    exact h.qh A (by simp) x h1
   exact h.qh B (by simp) x h1
  exact h.qh D (by simp [hD]) x hx
 ·
  grind [List.pairwise_cons]
 intro D hD;simp only [List.mem_cons] at hD
 rcases hD with rfl | hD
 ·
  exact hC
 exact h.ok D (by simp [hD])
theorem St.one(h:St w0 M Z w l) (hA:A∈l):St w (rO [A]) Z w [A] where
 cT:=jb.refl _ _
 ma:=h.ma
 o9 D hD:=by simp at hD;subst hD;exact h.o9 _ hA
 qh D hD x hx:=.inl ⟨D,hD,hx⟩
 vD:=by simp
 ok D hD:=by simp at hD;subst hD;exact h.ok _ hA
theorem St.CI(h:St w0 M Z w l) (hA:A∈l) (h':St w (rO [A]) Z w' [A]):St w0 M Z w' l:=
 h.same hA (h'.cT.mono fun x _ ⟨D,hD,hx⟩=>by simp at hD;subst hD;exact hx) (h'.ok A (by simp))
theorem KD(hA:A∈l) {x:Nat}(hx:rO [A] x):rO l x:=by obtain⟨D,hD,hx⟩:=hx;simp at hD;subst hD;exact⟨D,hA,hx⟩
end
theorem As.gv{P:Program}{ST:Nat}{ab:List aG}{x:dQ}{D:SD}{Z:Nat→Prop}{w:World}(h:(As.l3 P ST ab x D).ok Z w):(D.F P ab x).p Z w:=h.2.2.2
theorem As.gvb{P:Program}{ST:Nat}{ab:List aG}{x:dQ}{D:SD}{Z:Nat→Prop}{w:World}(h:(As.l3 P ST ab x D).ok Z w):cW w D.s ST (D.cells x):=h.2.1
structure EA where
 (a1 a2 a3:Option Addr) (n1 c1 n2 c2 n3 c3:Nat)
def EA.cells(E:EA) (sb bb:Nat) (s:ES):List Value:=
 [.pointer (some ⟨sb,0,none⟩),.int .i64 s.b.ad,.slice E.a1 E.n1 E.c1,.slice E.a2 E.n2 E.c2,.map (some bb),.slice E.a3 E.n3 E.c3,.int .i64 s.e]
theorem IQ{x:dQ}{group:List Key}{bU:Bool}{i:Nat}(h:i<x.ak.length) (hi:i≤x.ak.length):(((x.ak.take i).map (cO x.ad group bU))++x.ak.drop i).set i (cO x.ad group bU x.ak[i])=((x.ak.take (i+1)).map (cO x.ad group bU))++x.ak.drop (i+1):=by
 rw [List.set_append_right _ _ (by simp;omega)];simp only [List.length_map,List.length_take,Nat.min_eq_left hi,Nat.sub_self]
 grind [List.drop_eq_getElem_cons]
end Go.Rc

namespace Go.Rc
open Go
structure Good (ab:List aG) (aF:List dB) (s:ES):Prop where
 aF:s.b.ae=aF
 len:s.b.ak.length≤4000
 key:∀r∈s.b.ak,gA ab r.key
 Ic:∀r∈s.b.ak,r.reads.length≤4000∧∀a∈r.reads,gA ab a
 mF:(s.busy.map (·.1)).Nodup
 busy:∀k,bZ s.busy k=none∨bZ s.busy k=some (.bool true)
structure KF (s s':ES):Prop where
 cU:s.cU.length≤s'.cU.length
 rev:s'.b.ad=s.b.ad
theorem KF.refl(s:ES):KF s s:=⟨Nat.le_refl _,rfl⟩
theorem KF.trans{s t u:ES}(h:KF s t) (h':KF t u):KF s u:=⟨Nat.le_trans h.cU h'.cU,h'.rev.trans h.rev⟩
section
variable {ab:List aG}{aF:List dB}{s:ES}{k:Key}
theorem Good.on(h:Good ab aF s) (k:Key):Good ab aF {s with busy:=dF s.busy k (.bool true)}:=
 {h with mF:=ir h.mF _ _,busy:=fun k'=>by show bZ (dF s.busy k (.bool true)) k'=none∨_;rw [fy];split;exact .inr rfl;exact h.busy k'}
theorem Good.off(h:Good ab aF s) (k:Key):Good ab aF {s with busy:=jP s.busy k}:=
 {h with mF:=by grind [N3,mF],busy:=fun k'=>by show bZ (jP s.busy k) k'=none∨_;rw [Ga h.mF];split;exact .inl rfl;exact h.busy k'}
theorem Good.err(h:Good ab aF s) (e:Int):Good ab aF {s with e:=e}:={h with}
theorem dP(rev:Int) (g:List Key) (d:Bool) (r:Rec):(cO rev g d r).key=r.key∧(cO rev g d r).reads=r.reads:=by unfold cO;grind
theorem Good.mark(h:Good ab aF s) (g:List Key) (d:Bool):Good ab aF {s with b:=dT s.b g d}:=
 {h with
  len:=by show((s.b.ak.map _).length≤4000);rw [List.length_map];exact h.len
  key:=fun r hr=>by obtain⟨q,hq,rfl⟩:=List.mem_map.1 hr;rw [(dP _ _ _ q).1];exact h.key q hq
  Ic:=fun r hr=>by obtain⟨q,hq,rfl⟩:=List.mem_map.1 hr;rw [(dP _ _ _ q).2];exact h.Ic q hq}
theorem KF.mark(g:List Key) (d:Bool):KF s {s with b:=dT s.b g d}:=⟨Nat.le_refl _,rfl⟩
theorem iM(r:Rec):∀(l:List Rec) (b:Bool) (x:Rec),x∈gg r l b→x=r∨x∈l:=by
 intro l
 induction l with
 | nil=>grind [gg]
 | cons y ys ih=>grind [gg]
theorem GC(r:Rec):∀(l:List Rec) (b:Bool),(gg r l b).length+(l.filter fun x=>decide (cw x.key r.key=0)).length=l.length+(if b then 0 else 1):=by
 intro l
 induction l with
 | nil=>intro b;cases b <;> simp [gg]
 | cons y ys ih=>
  intro b;have h1:=ih (b || decide (0≤cw y.key r.key));simp only [gg,List.length_append,List.length_cons]
  grind
theorem Oy{l:List Rec}{r:Rec}(h:(aC l r.key).isSome=true) (hc:cw r.key r.key=0):(fR l r).length≤l.length:=by
 have h1:=GC r l false;obtain⟨x,hx⟩:=Option.isSome_iff_exists.1 h;have h2:=List.mem_of_find?_eq_some hx;have h3:=List.find?_some hx
 simp at h3
 have h4:0<(l.filter fun x=>decide (cw x.key r.key=0)).length:=List.length_pos_of_mem (List.mem_filter.2 ⟨h2,by rw [h3];simp [hc]⟩)
 unfold fR
 simp at h1
 omega
theorem CJ:∀l:List UInt8,Lib.compareBytes l l=0
 | []=>by simp [Lib.compareBytes]
 | a::r=>by simp [Lib.compareBytes,CJ r]
theorem lh(k:Key):cw k k=0:=by unfold cw;simp [CJ]
theorem Good.put(h:Good ab aF s) {r:Rec}{cU:List Key}(hk:gA ab r.key) (hr:r.reads.length≤4000∧∀a∈r.reads,gA ab a) (h4:(!(aC s.b.ak r.key).isSome && decide (4000≤s.b.ak.length))=false) :
  Good ab aF {s with b:={s.b with ak:=fR s.b.ak r},cU:=cU}:=
 {h with
  len:=by grind [fR,len,Oy,lh,vA]
  key:=fun x hx=>by rcases iM r _ _ x hx with rfl | hx;exact hk;exact h.key x hx
  Ic:=fun x hx=>by rcases iM r _ _ x hx with rfl | hx;exact hr;exact h.Ic x hx}
def jr(ab:List aG) (k:Key) (n:Nat):Prop:=∃i,i<ab.length∧k=aN ab (i:Int)∧n≤dV ab i
theorem gA.jI(h:gA ab k) (hi:az k=false):jr ab k 0:=by
 cases h with
 | cell h=>grind [cE]
 | gQ h lC=>exact⟨_,h,rfl,Nat.zero_le _⟩
theorem jr.next(hR:aw ab) {ah:List ByteArray}(h:jr ab k ah.length) (hd:(aM ab k ah).done=false):jr ab k (ah.length+1)∧gA ab (aM ab k ah).ask:=by
 obtain⟨i,hi,rfl,hn⟩:=h
 have lC:i≤99:=by have:=hR.len;omega
 rw [gR hi lC] at hd ⊢
 rcases Nat.lt_or_ge ah.length (dV ab i) with ee | qk
 ·
  obtain⟨a,h1,h2,_⟩:=fA hR hi ee;rw [h1];exact⟨⟨i,hi,rfl,ee⟩,h2.QR hR⟩
 grind [jc]
theorem jr.le(hR:aw ab) {n:Nat}(h:jr ab k n):n≤6:=by obtain⟨i,hi,_,hn⟩:=h;have:=qw hR hi;omega
theorem jr.not(hR:aw ab) {n:Nat}(h:jr ab k n):gY k∧az k=false:=by
 obtain⟨i,hi,rfl,hn⟩:=h;grind [aw.len,im,eG]
theorem jr.QR(hR:aw ab) {n:Nat}(h:jr ab k n):gA ab k:=by obtain⟨i,hi,rfl,_⟩:=h;have:=hR.len;exact .gQ hi (by omega)
end
section
variable {ab:List aG}{val:Key→ByteArray}{aF:List dB}
def UpG(ab:List aG) (val:Key→ByteArray) (aF:List dB) (f:Nat):Prop:=∀s k s',mc ab val f s k=some s'→Good ab aF s→gA ab k→Good ab aF s'∧KF s s'
def ChG(ab:List aG) (val:Key→ByteArray) (aF:List dB) (f:Nat):Prop:=∀s k n s' b,dI ab val f s k n=some (s',b)→Good ab aF s→Good ab aF s'∧KF s s'
def RuG(ab:List aG) (val:Key→ByteArray) (aF:List dB) (f:Nat):Prop:=∀s k reads ah s',ib ab val f s k reads ah=some s'→Good ab aF s→jr ab k ah.length→reads.length=ah.length→(∀a∈reads,gA ab a)→Good ab aF s'∧KF s s'
theorem iF{ab:List aG}{aF:List dB}{s:ES}(h:Good ab aF s) {group:List Key}{n:Nat}{c:si}(hc:(bP s.b.ak group)[n]?=some c):gA ab c.read:=by
 have h1:=List.mem_of_getElem? hc;obtain⟨m,hm,h2⟩:=List.mem_flatMap.1 h1;obtain⟨a,ha,rfl⟩:=List.mem_map.1 h2;have h3:=(List.mem_filter.1 ha).1
 show gA ab a
 unfold aH at h3
 cases hf:aC s.b.ak m with
 | none=>rw [hf] at h3;simp [sf] at h3
 | some r=>rw [hf] at h3;exact(h.Ic r (List.mem_of_find?_eq_some hf)).2 a h3
theorem mS(l:List Rec) (rev:Int) (k:Key):(aB l rev k).length≤l.length+1:=by grind [aB,vG,tj]
theorem DS{ab:List aG}{aF:List dB}{s:ES}(h:Good ab aF s) {group:List Key}(hg:group.length≤4001):∀i,((group.take i).flatMap fun m=>dZ group m (aH s.b.ak m).reads).length≤100000000:=by
 intro i
 have h1:∀l:List Key,(l.flatMap fun m=>dZ group m (aH s.b.ak m).reads).length≤l.length*4000:=by
  intro l
  induction l with
  | nil=>simp
  | cons m r ih=>
   simp only [List.flatMap_cons,List.length_append,List.length_cons];have h2:=mh group m (aH s.b.ak m).reads
   have h3:(aH s.b.ak m).reads.length≤4000:=by
    unfold aH
    cases hf:aC s.b.ak m with
    | none=>simp [sf]
    | some r=>exact(h.Ic r (List.mem_of_find?_eq_some hf)).1
   rw [Nat.add_mul]
   omega
 grind
theorem DT{ab:List aG}{aF:List dB}{s:ES}(h:Good ab aF s) {group:List Key}(hg:group.length≤4001):(bP s.b.ak group).length≤100000000:=by
 have h1:=DS h hg group.length;rw [List.take_of_length_le (Nat.le_refl _)] at h1;exact h1
theorem dm(hR:aw ab):∀f,UpG ab val aF f∧ChG ab val aF f∧RuG ab val aF f:=by
 intro f
 induction f with
 | zero=>exact⟨fun s k s' h=>by simp [mc] at h,fun s k n s' b h=>by simp [dI] at h,fun s k r a s' h=>by simp [ib] at h⟩
 | succ f ih=>
  obtain⟨LX,FM,Ie⟩:=ih;refine⟨?_,?_,?_⟩
  ·
   intro s k s' h hg hk
   unfold mc at h
   split at h
   ·
    cases h;exact⟨hg,.refl _⟩
   rename_i he
   split at h
   ·
    cases h;exact⟨hg,.refl _⟩
   split at h
   ·
    split at h <;> cases h
    ·
     exact⟨hg,.refl _⟩
    exact⟨hg.err _,⟨Nat.le_refl _,rfl⟩⟩
   obtain⟨p,hp,h⟩:=Option.bind_eq_some_iff.1 h;obtain⟨t,ht,h⟩:=Option.bind_eq_some_iff.1 h
   cases h
   obtain⟨h1,h2⟩:=FM _ _ _ p.1 p.2 (by rw [hp]) (hg.on k);have h2':KF s p.1:=⟨h2.cU,h2.rev⟩
   have h3:Good ab aF t∧KF s t:=by
    split at ht
    ·
     obtain⟨h4,h5⟩:=Ie _ _ _ _ _ ht h1 (hk.jI (by simp at he;exact he.2)) rfl (fun a ha=>by cases ha);exact⟨h4,h2'.trans h5⟩
    cases ht;exact⟨h1,h2'⟩
   exact⟨h3.1.off k,⟨h3.2.cU,h3.2.rev⟩⟩
  ·
   intro s k n s' b h hg
   unfold dI at h
   split at h
   ·
    cases h;exact⟨hg,.refl _⟩
   split at h
   ·
    cases h;exact⟨hg,.refl _⟩
   split at h
   ·
    cases h;exact⟨hg,.refl _⟩
   split at h
   ·
    cases h;exact⟨hg.mark _ _,.mark _ _⟩
   rename_i c hc
   split at h
   ·
    obtain⟨t,ht,h⟩:=Option.bind_eq_some_iff.1 h;obtain⟨h1,h2⟩:=LX _ _ _ ht hg (iF hg hc);obtain⟨h3,h4⟩:=FM _ _ _ _ _ h h1;exact⟨h3,h2.trans h4⟩
   split at h
   ·
    split at h <;> cases h
    ·
     exact⟨hg.mark _ _,.mark _ _⟩
    exact⟨hg,.refl _⟩
   exact FM _ _ _ _ _ h hg
  intro s k reads ah s' h hg ha hl hr
  unfold ib at h
  split at h
  ·
   cases h;exact⟨hg,.refl _⟩
  split at h
  ·
   split at h
   ·
    cases h;exact⟨hg.err _,⟨Nat.le_refl _,rfl⟩⟩
   rename_i h4
   cases h
   have h6:=ha.le hR;exact⟨hg.put (r:=dK s.b k (aM ab k ah).value reads) (ha.QR hR) ⟨by show reads.length≤4000;omega,hr⟩ (by show(!(aC s.b.ak k).isSome && _)=false;simpa using h4),⟨by simp,rfl⟩⟩
  rename_i hd
  obtain⟨t,ht,h⟩:=Option.bind_eq_some_iff.1 h;have hn:=ha.next hR (by simpa using hd);obtain⟨h1,h2⟩:=LX _ _ _ ht hg hn.2
  split at h
  ·
   obtain⟨h3,h4⟩:=Ie _ _ _ _ _ h h1 (by simpa using hn.1) (by simp [hl]) (fun a ha=>by grind);exact⟨h3,h2.trans h4⟩
  obtain⟨h3,h4⟩:=Ie _ _ _ _ _ h h1 ha hl hr;exact⟨h3,h2.trans h4⟩
end
end Go.Rc

