/- Base of the proof: frames, memory, ownership, and the plain meaning of rule systems. Conditions: as each lemma says. -/
import Derived.Test.YtfamnpoplgkkcaaGreatDoorSBd
import Derived.Lib.IfaceEq
import Derived.Lib.BufferWrite
import Derived.Lib.UnsafeStr
import Derived.Laws.MakeOwn
import Derived.Test.YtfamnpoplgkkcaaGreatDoorSBc
set_option linter.all false
namespace Go.Rc
open Go
theorem aU.Bz{w w':World}(h:RowKit.Below w.heap.size w w') (b:w.drawn≤w'.drawn):aU [] w w':=⟨h.os,h.tape,h.output,h.size,b,fun k hk _=>h.block k hk⟩
theorem qh(w:World) (p:Addr) (n:Nat):(w.freeze p n).drawn=w.drawn:=by grind [World.freeze]
section
variable {P:Program}{n:Nat}{kv:KV}{w w':World}{K:KV→World→Prop}{d:Tmp}{ty:TypeId}{pos:String}{af:Array Edge}{g:Option (Nat × Bool)}{T U:TypeId}{op:Op}{v:Value}{x y:Operand}
theorem OX.val(b:br op=false) (e:Nat.blt d n=true) (hk:known kv op=true) (hr:(execOp (jE kv) ⟨some d,op,ty,pos,af,g⟩).run P w=.ok (.value v) w') (h:K ((d,v)::kv) w'):OX P ⟨some d,op,ty,pos,af,g⟩ n kv w K:=⟨b,e,hk,by rw [hr];exact h⟩
theorem PV.Jv{b:TypeDesc}(hT:P.underlying T=some b) (f:∀ms,b≠.interface ms) (e:ev kv x=some v):PV P (.makeInterface T x) ty kv w (.iface T v):=
 ⟨rfl,by simp [known,opers,e],fun _ _ _ _=>by
  simp only [execOp,aM e,Instr.makeInterface,Sem.run_bind,run_underlying hT,Result.andThen_ok]
  simp_all⟩
theorem PV.QW{ms:Array (String × TypeId)}{e:TypeId}{q:IntKind}{a b:Int}(hT:P.underlying T=some (.interface ms)) (hc:(P.info? e).map (·.comparable)=some true) (m:P.underlying e=some (.int q)) (f:ev kv x=some (.iface e (.int .i64 a))) (i:ev kv y=some (.iface e (.int .i64 b))):PV P (.binOp .eql T x y U) ty kv w (.bool (a == b)):=
 ⟨rfl,by simp [known,opers,f,i],fun _ _ _ _=>by
  have h:=Lib.run_eql_iface_int w (k:=.i64) a b hT hc m;simp only [execOp,aM f,aM i]
  simp [eqGuard,h]⟩
theorem OX.VW{r:Value}(f:Nat.blt d n=true) {u v:Value}(b:ev kv x=some u) (e:ev kv y=some v) (hr:(Instr.makeSlice T u v).run P w=.ok r w') (h:K ((d,r)::kv) w'):OX P ⟨some d,.makeSlice T x y,ty,pos,af,g⟩ n kv w K:=
 OX.val rfl f (by simp [known,opers,b,e]) (by simp only [execOp,aM b,aM e,Sem.run_bind,hr,Result.andThen_ok];rfl) h
theorem OX.VX{r u v:Value}(f:Nat.blt d n=true) (b:ev kv x=some u) (e:ev kv y=some v) (hr:(Builtin.copy_ #[T,U] ty #[u,v]).run P w=.ok r w') (h:K ((d,r)::kv) w'):OX P ⟨some d,.call {callee:=.builtin .copy,args:=#[x,y],argTypes:=#[T,U]},ty,pos,af,g⟩ n kv w K:=
 OX.val rfl f (by simp [known,opers,b,e]) (by simp [execOp,aM b,aM e,resolve,invoke,builtin,hr]) h
theorem OX.acH{r u v:Value}(f:Nat.blt d n=true) (b:ev kv x=some u) (e:ev kv y=some v) (hr:(Builtin.unsafeString_ #[T,U] ty #[u,v]).run P w=.ok r w') (h:K ((d,r)::kv) w'):OX P ⟨some d,.call {callee:=.builtin .unsafeString,args:=#[x,y],argTypes:=#[T,U]},ty,pos,af,g⟩ n kv w K:=
 OX.val rfl f (by simp [known,opers,b,e]) (by simp [execOp,aM b,aM e,resolve,invoke,builtin,hr]) h
end
theorem yT{P:Program}{T S e pt it ty1 ty2:TypeId}{i:TypeInfo}(hT:P.underlying T=some (.slice e)) (hi:P.info? e=some i) (f:i.zero=some (.int .u8 0)) (h1:i.size=1) (hb:i.bytes=1) (q:P.underlying pt=some (.pointer e)) {s:ByteArray}(h0:s.size≠0) (J:s.size≤1000) (w:World) :
  ∃w1 w2 w3:World,(Instr.makeSlice T (.int .i64 (s.size:Int)) (.int .i64 (s.size:Int))).run P w=.ok (.slice (some ⟨w.heap.size,0,none⟩) s.size s.size) w1∧
   (Builtin.copy_ #[T,S] ty1 #[.slice (some ⟨w.heap.size,0,none⟩) s.size s.size,.string s]).run P w1=.ok (goInt s.size) w2∧
   (Builtin.unsafeString_ #[pt,it] ty2 #[.pointer (some ⟨w.heap.size,0,none⟩),.int .i64 (s.size:Int)]).run P w2=.ok (.string s) w3∧aU [] w w3:=by
 have r:(P.info? e).map (·.size)=some 1:=by rw [hi];simp [h1]
 have t:P.cellsOf e=1:=by simp [Program.cellsOf,hi,h1]
 have L:(Lib.byteCells s.data.toList).length=s.size:=by rw [Lib.byteCells_length,← Lib.size_eq]
 have b:=run_make (P:=P) w T e i (.int .u8 0) hT hi f .i64 .i64 (s.size:Int) (s.size:Int) (by omega) (by omega) (by rw [hb];omega) (by omega)
 have u:(madeCells (Value.int .u8 0).cells (((s.size:Nat):Int).toNat*i.size)).size=s.size:=by rw [size_madeCells,h1];simp
 generalize madeCells (Value.int .u8 0).cells (((s.size:Nat):Int).toNat*i.size)=M at b u
 rw [Int.toNat_natCast] at b;have m:=Lib.run_copy_row_string (P:=P) (w.alloc (.cells M e)) T S ty1 e w.heap.size 0 s.size s.size s M e hT r (heap_alloc_new w _) (Nat.le_refl _) (by omega)
 have F:(M.toList.take 0++Lib.byteCells s.data.toList++M.toList.drop (0+s.size)).toArray=(Lib.byteCells s.data.toList).toArray:=by grind
 rw [F] at m;have G:((w.alloc (.cells M e)).setRow w.heap.size (Lib.byteCells s.data.toList).toArray).heap[w.heap.size]?=some (.cells (Lib.byteCells s.data.toList).toArray e (0,0)):=setRow_heap _ _ M _ e (0,0) (heap_alloc_new w _);have H:s.data.toList≠[]:=fun h=>h0 (by rw [Lib.size_eq,h];rfl);have o:=Lib.run_unsafeString_row (P:=P) ((w.alloc (.cells M e)).setRow w.heap.size (Lib.byteCells s.data.toList).toArray) pt it ty2 e q t w.heap.size s.size (by grind [World.shape?]) s.data.toList H (by rw [← Lib.size_eq];omega) (by rw [← Lib.size_eq];omega)
  (fun j z f=>Lib.cells_of_row G s.size j _ (by grind [Lib.byteCells]))
 rw [← Lib.size_eq] at o;have I:RowKit.Below w.heap.size (w.alloc (.cells M e)) ((w.alloc (.cells M e)).setRow w.heap.size (Lib.byteCells s.data.toList).toArray):=⟨rfl,rfl,rfl,by simp [World.setRow],fun k hk=>setRow_other _ _ _ _ (by omega)⟩;refine⟨_,_,_,b,m,o,aU.Bz (Lib.below_freeze (((RowKit.Below.refl _ w).alloc (Nat.le_refl _) _).trans I) (p:=⟨w.heap.size,0,none⟩) (Nat.le_refl _) _) ?_⟩;rw [qh];exact Nat.le_refl _
end Go.Rc

namespace Go.Rc
open Go
instance:Inhabited cB:=⟨⟨dW,⟨#[]⟩,0⟩⟩
def cz.row(x:cz) (a1:Option Addr) (n1 c1:Nat) (a2:Option Addr) (n2 c2:Nat):List Value:=[.int .i64 x.ad,.slice a1 n1 c1,.slice a2 n2 c2]
def ij(rev:Int) (l:List cB) (i:Nat):Bool:=
 !fN l[i]!.key || (!ay l[i]!.key || ((decide (0<(i:Int)) && decide (0≤bD l[i - 1]!.key l[i]!.key)) || (decide (1073741824<(l[i]!.value.size:Int)) || (decide (l[i]!.changed<0) || decide (rev<l[i]!.changed)))))
def yU(rev:Int) (l:List cB):Prop:=∀i y,l[i]?=some y→ij rev l i=false
open Classical in
noncomputable def qi(l:List Rec):Bool:=decide (nh l)
theorem Ef{l:List Rec}{b:Bool}(h:b=true↔nh l):b=qi l:=by
 unfold qi
 grind
def hV(x:cz):Prop:=yU x.ad x.ab∧(∀(i:Nat) (r:Rec),x.ah[i]?=some r→r.av≤x.ad)∧0≤x.ad∧x.ad≤1073741824∧x.ab.length≤64∧nh x.ah
noncomputable def lY(x:cz):Bool:=decide (0≤x.ad) && (decide (x.ad≤1073741824) && (decide ((x.ab.length:Int)≤64) && qi x.ah))
theorem sJ(x:cz):lY x=true↔0≤x.ad∧x.ad≤1073741824∧x.ab.length≤64∧nh x.ah:=by
 simp only [lY,qi,Bool.and_eq_true,decide_eq_true_eq]
 grind
theorem PV.uv{P:Program}{kv:KV}{w:World}{T ty:TypeId}{f off:Nat}{fs:List Field}{fd:Field}(hu:P.underlying T=some (.struct fs.toArray)) (b:fs[f]?=some fd) (e:fd.offset=off) (h1:∀w,(isAgg fd.type).run P w=.ok false w)
  {x:Operand}{us:List Value}{v:Value}(h:ev kv x=some (.agg us.toArray)) (i:nth us off=some v):PV P (.field T x f) ty kv w v:=
 PV.Mt hu (by simpa using b) e h1 h (by rw [← tZ];exact i)
end Go.Rc
namespace Go.Rc
open Go
def cY(k:Key):Prop:=k.kind<1∨22<k.kind
def aH(aa:List aG) (k:Key) (ae:List ByteArray):yK:=if k.kind=31∨k.kind=32 then cy aa k ae else ⟨true,⟨#[]⟩,dW⟩
def tS(n:Int):ByteArray:=if n=14 then ⟨#[48]⟩ else ⟨#[]⟩
def pc(k:Key):ByteArray:=if k.kind=32 then ⟨#[48]⟩ else if ax k then tS k.kind else ⟨#[]⟩
def gD(aa:List aG) (k:Key):Bool:=fN k && ((decide (k.kind≠31) && decide (k.kind≠32)) || decide (aI aa (number k)=k))
def aC(l:List Rec) (k:Key):Rec:=(aB l k).getD nb
def bV(l:List Rec) (rev:Int) (k:Key):Bool:=(aB l k).isSome && (ax k && (decide ((aC l k).av<rev) && !(aC l k).bp))
def fB(x:cz) (k:Key):Bool:=ay k || ((aB x.ah k).isSome && decide ((aC x.ah k).av=x.ad))
def fY(x:cz) (k:Key):ByteArray:=if ay k then (bw x.ab k).value else if fB x k then (aC x.ah k).value else ⟨#[]⟩
def bL(x:cz) (k:Key) (v:ByteArray) (reads:List Key):Rec:=
 ⟨k,v,reads,if (aB x.ah k).isSome && decide ((aC x.ah k).value=v) then (aC x.ah k).changed else x.ad,x.ad,1+(reads.length:Int),false⟩
end Go.Rc
namespace Go.Rc
open Go
open Classical in
noncomputable def gE(aa:List aG) (x:cz) (goals:List Key):Int:=
 if ¬aq aa then 41 else if ¬hV x then 42 else if 32<goals.length then 3 else if goals.all (gD aa) then 0 else 40
end Go.Rc
namespace Go.Rc
open Go
structure oq where
 dE:Key
 read:Key
 deriving DecidableEq
def oq.cells(x:oq):List Value:=[.int .i64 x.dE.kind,.string x.dE.text,.int .i64 x.read.kind,.string x.read.text]
def da(group:List Key) (m:Key) (l:List Key):List oq:=(l.filter fun x=>!decide (x∈group)).map fun x=>⟨m,x⟩
def bB(l:List Rec) (group:List Key):List oq:=group.flatMap fun m=>da group m (aC l m).reads
theorem jn{group:List Key}{m:Key}{l:List Key}{j:Nat}(h:j<l.length):da group m (l.take (j+1))=if l[j]∈group then da group m (l.take j) else da group m (l.take j)++[⟨m,l[j]⟩]:=by
 rw [List.take_succ_eq_append_getElem h];simp only [da,List.filter_append,List.map_append]
 grind
theorem jR(group:List Key) (m:Key) (l:List Key):(da group m l).length≤l.length:=by grind [da]
end Go.Rc
namespace Go.Rc
end Go.Rc

namespace Go.Rc
open Go
variable {E EK ER EI ES EF base:Nat}{w w':World}{a:Option Addr}{n c:Nat}{S:List Nat}
structure bq where
 key:Key
 running:Bool
 at_:Int
 reads:List Key
 ae:List ByteArray
 deriving DecidableEq
def bq.row(x:bq) (a1:Option Addr) (n1 c1:Nat) (a2:Option Addr) (n2 c2:Nat):List Value:=[.int .i64 x.key.kind,.string x.key.text,.bool x.running,.int .i64 x.at_,.slice a1 n1 c1,.slice a2 n2 c2]
/-! the plain meaning -/
def fZ(l:List bq) (k:Key):Bool:=l.any fun f=>decide (f.key=k)
def cH(x:cz) (l:List bq) (k:Key):Bool:=!(ay k || fZ l k) && (!(aB x.ah k).isSome || decide ((aC x.ah k).av≠x.ad))
def bH(x:cz) (l others:List bq) (k:Key):Int:=
 if !ax k && fZ l k then 3 else if !cH x l k then 0 else if !fZ others k then 1 else if ax k then 0 else 2
end Go.Rc
namespace Go.Rc
open Go
variable {EA ERu:Nat}{w w':World}{a:Option Addr}{n c base:Nat}{S:List Nat}
def aG.row(x:aG) (a:Option Addr) (n c:Nat):List Value:=[.bool x.ring,.slice a n c,.int .i64 x.final,.int .i64 x.c]
theorem aG.one(x:aG) (a:Option Addr) (n c:Nat):∀u∈x.row a n c,u.oneCell'=true:=by simp [aG.row,Value.oneCell']
end Go.Rc

namespace Go.Rc
open Go
def RR.key:RR Key:=RR.flat Key.cells
def RR.str:RR ByteArray:=RR.flat fun s=>[.string s]
def RR.ask:RR Ask:=RR.flat Ask.cells
def RR.aD:RR cB:=RR.flat cB.cells
def RR.DK:RR oq:=RR.flat oq.cells
def RR.int:RR Int:=RR.flat fun n=>[.int .i64 n]
def RR.eG:RR aG where
 r Z w x row:=Bn Z w x row
 mono hZ h:=by obtain⟨a,n,c,h1,h2⟩:=h;exact⟨a,n,c,h1,h2.mono (fun b hb _=>hZ b hb) fun _ _ h=>h⟩
 st hs hc h:=by obtain⟨a,n,c,h1,h2⟩:=h;exact⟨a,n,c,h1,SR.st hs hc (fun _ _ h=>h) h2⟩
 cut h:=by obtain⟨a,n,c,h1,h2⟩:=h;exact⟨a,n,c,h1,h2.mono (fun b hb AM=>⟨hb,AM⟩) fun _ _ h=>h⟩
def RR.ew:RR Rec where
 r Z w x row:=∃a n c,row=x.row a n c∧Rd RR.key 2 Z w a n c x.reads∧x.reads.length≤4000
 mono hZ h:=by obtain⟨a,n,c,h1,h2,h3⟩:=h;exact⟨a,n,c,h1,h2.mono hZ,h3⟩
 st hs hc h:=by obtain⟨a,n,c,h1,h2,h3⟩:=h;exact⟨a,n,c,h1,h2.st hs hc,h3⟩
 cut h:=by grind [Rd.cut]
def RR.mJ:RR bq where
 r Z w x row:=∃a1 n1 c1 a2 n2 c2,row=x.row a1 n1 c1 a2 n2 c2∧Rd RR.key 2 Z w a1 n1 c1 x.reads∧Rd RR.str 1 Z w a2 n2 c2 x.ae∧x.reads.length≤4000∧x.ae.length≤4000
 mono hZ h:=by obtain⟨a,n,c,a2,n2,c2,h1,h2,h3,h4⟩:=h;exact⟨a,n,c,a2,n2,c2,h1,h2.mono hZ,h3.mono hZ,h4⟩
 st hs hc h:=by obtain⟨a,n,c,a2,n2,c2,h1,h2,h3,h4⟩:=h;exact⟨a,n,c,a2,n2,c2,h1,h2.st hs hc,h3.st hs hc,h4⟩
 cut h:=by grind [Rd.cut]
end Go.Rc

namespace Go.Rc
open Go
/-! ### numbers and their texts -/
theorem uw:∀(u:Nat) (n:Nat) (rest:List UInt8),decFrom (Lib.decDigits u++rest) (n:Int)=decFrom rest ((n*10 ^ Lib.nDigits u+u:Nat):Int):=by
 intro u
 induction u using Nat.strongRecOn with
 | _ u b=>
  intro n rest
  by_cases h:u<10
  ·
   rw [Lib.decDigits_one h,Lib.nDigits_small h]
   have e:(UInt8.ofNat (48+u)).toNat=48+u:=by rw [UInt8.toNat_ofNat'];omega
   simp only [List.cons_append,List.nil_append,decFrom,e]
   grind
  rw [Lib.decDigits,dif_neg h,Lib.nDigits_big h,List.append_assoc,b (u / 10) (by omega)]
  have e:(UInt8.ofNat (48+u % 10)).toNat=48+u % 10:=by rw [UInt8.toNat_ofNat'];omega
  simp only [List.cons_append,List.nil_append,decFrom,e]
  grind
theorem ux:∀u:Nat,∃d r,Lib.decDigits u=d::r∧(0<u→d≠48):=by
 intro u
 induction u using Nat.strongRecOn with
 | _ u b=>
  by_cases h:u<10
  ·
   refine⟨_,[],Lib.decDigits_one h,fun hu e=>?_⟩
   have:=congrArg UInt8.toNat e
   rw [UInt8.toNat_ofNat'] at this
   grind
  obtain⟨d,r,h1,f⟩:=b (u / 10) (by omega);exact⟨d,r++[UInt8.ofNat (48+u % 10)],by rw [Lib.decDigits,dif_neg h,h1];rfl,fun _=>f (by omega)⟩
theorem uy:∀(k u:Nat),u<10 ^ (k+1)→Lib.nDigits u≤k+1
 | 0,u,h=>by grind [Lib.nDigits_small]
 | k+1,u,h=>by
  by_cases h1:u<10
  ·
   rw [Lib.nDigits_small h1];omega
  rw [Lib.nDigits_big h1]
  have:=uy k (u / 10) (by rw [Nat.pow_succ] at h;omega)
  omega
theorem jS{n:Nat}(h:n<1000000000):dO (itoa (n:Int))=n:=by
 have e:Lib.itoa (n:Int)=Lib.decDigits n:=by unfold Lib.itoa;rw [if_neg (by omega)];rfl
 have hl:(Lib.decDigits n).length≤9:=by rw [Lib.decDigits_length];exact uy 8 n h
 have o:1≤(Lib.decDigits n).length:=by grind [Lib.decDigits_length,Lib.nDigits_pos]
 have f:(itoa (n:Int)).size=(Lib.decDigits n).length:=by grind [itoa,ByteArray.size]
 have b:(itoa (n:Int)).data.toList=Lib.decDigits n:=by unfold itoa;rw [e]
 unfold dO
 rw [if_neg]
 ·
  rw [b,← List.append_nil (Lib.decDigits n)]
  have:=uw n 0 []
  simp only [Nat.zero_mul,Nat.zero_add] at this;exact this
 rw [f,b];rintro(h1 | h1 | ⟨h1,p⟩)
 ·
  omega
 ·
  omega
 obtain⟨d,r,i,m⟩:=ux n;rw [i] at h1
 simp at h1
 by_cases h0:0<n
 ·
  exact m h0 h1
 grind [Lib.decDigits_one]
theorem fi{n:Nat}(h:n≤65535):cG (itoa (n:Int))=n:=by
 unfold cG
 rw [jS (by omega),if_neg (by omega)]
 rfl
theorem BA{m n:Nat}(hm:m<1000000000) (hn:n<1000000000) (h:itoa (m:Int)=itoa (n:Int)):m=n:=by grind [jS]
/-! ### keys -/
theorem ct{aa:List aG}{i:Nat}(hi:i<aa.length) (jo:i≤99):number (aI aa (i:Int))=i:=by
 have hk:aI aa (i:Int)=⟨if aF aa i then 32 else 31,itoa i⟩:=by unfold aI;rw [if_neg (by omega)];rfl
 rw [hk]
 unfold number
 simp only
 rw [jS (by omega),if_pos]
 split <;> omega
theorem eH{aa:List aG}{i:Nat}(hi:i<aa.length) (jo:i≤99):(aI aa (i:Int)).kind=if aF aa i then 32 else 31:=by
 unfold aI;rw [if_neg (by omega)];rfl
theorem cj{aa:List aG}{i:Nat}(hi:i<aa.length) (jo:i≤99):ay (aI aa (i:Int))=false:=by grind [ay,eH]
theorem bd{n:Nat}(h:n≤99):ay (bX (n:Int))=true:=by
 unfold ay bX;rw [if_neg (by omega)];simp
theorem bz{aa:List aG}{i:Nat}(hi:i<aa.length) (jo:i≤99):ax (aI aa (i:Int))=aF aa i:=by grind [ax,eH]
theorem kh{n:Nat}(h:n≤99):ax (bX (n:Int))=false:=by
 unfold ax bX;rw [if_neg (by omega)];simp
inductive eA (aa:List aG):Key→Prop where
 | cell {n:Nat}(h:n≤99):eA aa (bX (n:Int))
 | eG {i:Nat}(h:i<aa.length) (jo:i≤99):eA aa (aI aa (i:Int))
/-! ### values -/
def cellOf(aD:List cB) (k:Key):ByteArray:=(bw aD k).value
def dX(turn:List ByteArray→yK) (gH:Key→ByteArray):Nat→List Key × List ByteArray
 | 0=>([],[])
 | n+1=>((dX turn gH n).1++[(turn (dX turn gH n).2).ask],(dX turn gH n).2++[gH (turn (dX turn gH n).2).ask])
def Jw(aD:List cB) (prev:List ByteArray) (k:Key):ByteArray:=if ay k then cellOf aD k else prev.getD (number k).toNat ⟨#[]⟩
def cO(aa:List aG) (i:Nat):Nat:=(aa[i]?.map (·.asks.length)).getD 0
def bS(aa:List aG) (x:Ask):Key:=if x.cell then bX x.n else aI aa x.n
def fM(aa:List aG) (i j:Nat):Prop:=∃r x,aa[i]?=some r∧r.ring=true∧x∈r.asks∧x.cell=false∧x.n=(j:Int)∧aF aa j=true
inductive cV (aa:List aG) (i:Nat):Nat→Prop where
 | refl:cV aa i i
 | step {j k:Nat}:cV aa i j→fM aa j k→cV aa i k
def outside(aa:List aG) (x:Ask):Bool:=x.cell || !aF aa x.n.toNat
def kL(aa:List aG) (gH:Key→ByteArray) (j:Nat):Nat:=
 match aa[j]? with
 | some r=>fc r.c.toNat ((r.asks.filter (outside aa)).map fun x=>cG (gH (bS aa x)))
 | none=>0
open Classical in
noncomputable def ofBits(P:Nat→Prop):Nat→Nat
 | 0=>0
 | n+1=>ofBits P n ||| (if P n then 2 ^ n else 0)
theorem Hp(P:Nat→Prop):∀n,ofBits P n<2 ^ n:=by
 intro n
 induction n with
 | zero=>simp [ofBits]
 | succ n b=>
  unfold ofBits
  refine Nat.or_lt_two_pow (Nat.lt_of_lt_of_le b (Nat.pow_le_pow_right (by omega) (by omega))) ?_
  grind
theorem Eg(P:Nat→Prop):∀n b,(ofBits P n).testBit b=true↔b<n∧P b:=by
 intro n
 induction n with
 | zero=>intro b;simp [ofBits]
 | succ n e=>
  intro b
  unfold ofBits
  grind
noncomputable def uz(aa:List aG) (gH:Key→ByteArray) (i:Nat):Nat:=ofBits (fun b=>∃j,cV aa i j∧(kL aa gH j).testBit b=true) 16
noncomputable def qj(aa:List aG) (aD:List cB) (prev:List ByteArray) (i:Nat):ByteArray:=
 if aF aa i then itoa (uz aa (Jw aD prev) i:Int)
 else (cy aa (aI aa (i:Int)) (dX (cy aa (aI aa (i:Int))) (Jw aD prev) (cO aa i)).2).value
noncomputable def bu(aa:List aG) (aD:List cB):Nat→List ByteArray
 | 0=>[]
 | n+1=>bu aa aD n++[qj aa aD (bu aa aD n) n]
noncomputable def tw(aa:List aG) (aD:List cB) (i:Nat):ByteArray:=qj aa aD (bu aa aD i) i
noncomputable def valOf(aa:List aG) (aD:List cB) (k:Key):ByteArray:=if ay k then cellOf aD k else tw aa aD (number k).toNat
section
variable {aa:List aG}{aD:List cB}
theorem Jx:∀n,(bu aa aD n).length=n:=by
 intro n;induction n with
 | zero=>rfl
 | succ n b=>simp [bu,b]
theorem Jy:∀n m,m<n→(bu aa aD n).getD m ⟨#[]⟩=tw aa aD m:=by
 intro n
 induction n with
 | zero=>intro m h;omega
 | succ n b=>grind [bu,Jx,tw]
theorem xF{n:Nat}{k:Key}(h:ay k=true∨(number k).toNat<n):Jw aD (bu aa aD n) k=valOf aa aD k:=by
 unfold Jw valOf
 by_cases hi:ay k=true
 ·
  rw [if_pos hi,if_pos hi]
 rw [if_neg hi,if_neg hi,Jy]
 grind
theorem gz(turn:List ByteArray→yK) (gH:Key→ByteArray):∀n,(dX turn gH n).1.length=n∧(dX turn gH n).2.length=n:=by
 intro n;induction n with
 | zero=>simp [dX]
 | succ n b=>simp [dX,b.1,b.2]
theorem uA{turn:List ByteArray→yK}{gH b:Key→ByteArray}:∀n,(∀m,m<n→gH (turn (dX turn gH m).2).ask=b (turn (dX turn gH m).2).ask)→dX turn gH n=dX turn b n:=by
 intro n
 induction n with
 | zero=>intro _;rfl
 | succ n e=>grind [dX]
end
/-! ### what valid rules ask for -/
section
variable {aa:List aG}{aD:List cB}
theorem gj(l:List aG):∀k,bF l k≤k:=by
 intro k;induction k with
 | zero=>simp [bF]
 | succ k b=>unfold bF;split <;> omega
theorem xG(l:List aG) {m:Nat}(h:m≤l.length):dL l m≤l.length:=by grind [dL,List.takeWhile_sublist]
theorem BB{i:Nat}(hi:i<aa.length):block aa (i:Int)=if aF aa i then ((bF aa i:Int),(dL aa (i+1):Int)) else ((i:Int),(i:Int)+1):=by
 unfold block;rw [if_neg (by omega)];rfl
theorem pd{i j:Nat}(hi:aF aa i=true) (h1:bF aa i≤j) (e:j<dL aa (i+1)):aF aa j=true:=by
 have f:∀k,bF aa k≤j→j<k→aF aa j=true:=by
  intro k
  induction k with
  | zero=>intro _ h;omega
  | succ k t=>
   intro o u
   unfold bF at o
   grind
 rcases Nat.lt_trichotomy j i with h | h | h
 ·
  exact f i h1 h
 ·
  rw [h];exact hi
 have key:∀(l:List aG) (m j:Nat),m≤j→j<m+((l.drop m).takeWhile (·.ring)).length→aF l j=true:=by
  intro l m j hm z
  have b:j - m<((l.drop m).takeWhile (·.ring)).length:=by omega
  have q:=List.getElem_mem b;have hr:=List.all_eq_true.1 (List.all_takeWhile (p:=fun x:aG=>x.ring) (l:=l.drop m)) _ q;have r:((l.drop m).takeWhile (·.ring)) <+: l.drop m:=List.takeWhile_prefix _;have F:=r.getElem b
  grind [bU]
 exact key aa (i+1) j (by omega) e
theorem lJ{i:Nat}(hi:i<aa.length) (hlen:aa.length≤24) {c:Bool}{n:Int}(h:gy aa i c n=true) :
  ∃m:Nat,n=m∧if c then m≤15 else m<aa.length∧(aF aa m=true∧aF aa i=true∨m<i)∧(aF aa i=false→m<i)∧(aF aa m=false→m<i):=by
 unfold gy at h
 cases c
 ·
  simp only [Bool.false_eq_true,if_false,Bool.and_eq_true,decide_eq_true_eq] at h ⊢;obtain⟨m,rfl⟩:∃m:Nat,n=m:=⟨n.toNat,by omega⟩;refine⟨m,rfl,?_⟩;have b:=h.2
  unfold fA at b
  rw [BB hi] at b
  by_cases hr:aF aa i=true
  ·
   rw [if_pos hr] at b;simp only [hr,if_true] at b
   have f:m<dL aa (i+1):=by omega
   have o:=xG aa (show i+1≤aa.length by omega);refine⟨by omega,?_,(fun h=>by rw [hr] at h;cases h),?_⟩
   ·
    by_cases e:m<i
    ·
     exact .inr e
    grind [pd,gj]
   grind [pd,gj]
  grind
 simp only [if_true,Bool.and_eq_true,decide_eq_true_eq] at h ⊢;exact⟨n.toNat,by omega,by omega⟩
end
end Go.Rc

namespace Go.Rc
open Go
section
variable {aa:List aG}{aD:List cB}
theorem aq.len(h:aq aa):aa.length≤24:=h.1
theorem aq.at(h:aq aa) {i:Nat}(hi:i<aa.length):lT aa i aa[i]:=h.2 i _ (ak hi)
theorem eI{i:Nat}(hi:i<aa.length):cO aa i=aa[i].asks.length:=by grind [cO]
theorem Eh{m lo:Nat}(h1:lo≤m) (h:∀j,lo≤j→j<m→aF aa j=true):bF aa m≤lo:=by
 induction m with
 | zero=>simp [bF]
 | succ m b=>
  by_cases e:lo=m+1
  ·
   rw [e];exact gj _ _
  unfold bF
  grind
theorem qk(_hR:aq aa) {i:Nat}(hi:i<aa.length) (hr:aF aa i=true) {m:Nat}(h:gy aa i false (m:Int)=true) :
  m<aa.length∧(aF aa m=true→bF aa m≤bF aa i)∧(aF aa m=false→m<bF aa i):=by
 unfold gy at h
 simp only [Bool.false_eq_true,if_false,Bool.and_eq_true,decide_eq_true_eq] at h;have b:=h.2
 unfold fA at b
 rw [BB hi,if_pos hr] at b;simp only [hr,if_true] at b
 grind [xG,Eh,pd]
def eW(aa:List aG) (i:Nat) (k:Key):Prop:=
 (∃n:Nat,n≤15∧k=bX (n:Int))∨
 (∃m:Nat,m<aa.length∧k=aI aa (m:Int)∧(aF aa m=true∧aF aa i=true∨m<i)∧(aF aa i=false→m<i)∧(aF aa m=false→m<i)∧(aF aa m=false→aF aa i=true→m<bF aa i))
theorem Gs(e:aq aa) {i:Nat}(hi:i<aa.length) {c:Bool}{n:Int}(h:gy aa i c n=true):eW aa i (if c then bX n else aI aa n):=by
 obtain⟨m,rfl,b⟩:=lJ hi e.len h
 cases c
 ·
  exact .inr ⟨m,b.1,rfl,b.2.1,b.2.2.1,b.2.2.2,fun f o=>(qk e hi o h).2.2 f⟩
 exact .inl ⟨m,b,rfl⟩
theorem eW.IF(b:aq aa) {i:Nat}{k:Key}(h:eW aa i k):eA aa k:=by
 have:=b.len
 rcases h with⟨n,h1,rfl⟩ | ⟨m,h1,rfl,_⟩
 ·
  exact .cell (by omega)
 exact .eG h1 (by omega)
theorem QX(e:aq aa) {i n:Nat}(hi:i<aa.length) (hn:n<aa[i].asks.length) (ae:List ByteArray) (hl:ae.length=n) :
  eW aa i (if aa[i].asks[n].cell then bX (o8 aa[i].asks[n] ae) else aI aa (o8 aa[i].asks[n] ae)):=by
 obtain⟨_,h,_⟩:=e.at hi;have b:=h n _ (ak hn)
 unfold fm at b
 rw [Bool.and_eq_true] at b
 unfold o8
 by_cases f:fl aa[i].asks[n] ae=true
 ·
  rw [if_pos f]
  have m:aa[i].asks[n].pick=true:=by grind [fl]
  rw [m] at b;simp only [if_true,Bool.and_eq_true] at b;exact Gs e hi b.2.2
 rw [if_neg f];exact Gs e hi b.1
theorem ef(b:aq aa) {i:Nat}(hi:i<aa.length) {ae:List ByteArray}(hn:ae.length<cO aa i) :
  ∃a,cy aa (aI aa (i:Int)) ae=⟨false,⟨#[]⟩,a⟩∧eW aa i a∧(aF aa i=true→∃x,aa[i].asks[ae.length]?=some x∧a=bS aa x):=by
 have h:=b.len;rw [eI hi] at hn;have hk:=ct hi (by omega:i≤99);refine⟨_,i6 hk hi (by rw [hk]) hn,QX b hi hn ae rfl,fun hr=>⟨_,ak hn,?_⟩⟩;obtain⟨_,f,_⟩:=b.at hi;have e:=f _ _ (ak hn)
 unfold fm at e
 rw [Bool.and_eq_true] at e
 grind [bU,bS,o8,fl]
theorem gN(b:aq aa) {i:Nat}(hi:i<aa.length) {ae:List ByteArray}(hn:ae.length=cO aa i) :
  cy aa (aI aa (i:Int)) ae=⟨true,itoa (dq aa[i].final aa[i].c.toNat (ae.map cG)),dW⟩:=by grind [aq.len,eI,ct,j6]
theorem nj(b:aq aa) {i:Nat}(hi:i<aa.length):cO aa i≤6:=by rw [eI hi];exact(b.at hi).1
theorem yV(b:aq aa) {i:Nat}{k:Key}(h:eW aa i k) (hr:aF aa i=false∨ax k=false):ay k=true∨(number k).toNat<i:=by
 have e:=b.len
 rcases h with⟨n,h1,rfl⟩ | ⟨m,h1,rfl,f,o,p,_⟩
 ·
  grind [bd]
 grind [ct,bz]
theorem Hq(b:aq aa) {i:Nat}(hi:i<aa.length) (hr:aF aa i=false) :
  cy aa (aI aa (i:Int)) (dX (cy aa (aI aa (i:Int))) (valOf aa aD) (cO aa i)).2=⟨true,tw aa aD i,dW⟩:=by
 have h:tw aa aD i=(cy aa (aI aa (i:Int)) (dX (cy aa (aI aa (i:Int))) (valOf aa aD) (cO aa i)).2).value:=by
  unfold tw qj
  rw [if_neg (by simp [hr])]
  grind [uA,ef,gz,xF,yV]
 grind [gN,gz]
/-! rings -/
theorem j7(b:aq aa) {i:Nat}(hi:i<aa.length) (_hr:aF aa i=true) {x:Ask}(e:x∈aa[i].asks):gy aa i x.cell x.n=true:=by
 obtain⟨k,hk,rfl⟩:=List.mem_iff_getElem.1 e
 have:=(b.at hi).2.1 k _ (ak hk)
 unfold fm at this
 grind
theorem fM.lt{i j:Nat}(h:fM aa i j):i<aa.length∧j<aa.length∧aF aa i=true∧aF aa j=true:=by
 obtain⟨r,x,h1,b,_,_,_,e⟩:=h
 grind [lR,bU]
theorem ja{i j:Nat}(hi:i<aa.length) (hr:aF aa i=true) (h:cV aa i j):j<aa.length∧aF aa j=true:=by
 induction h with
 | refl=>exact⟨hi,hr⟩
 | step _ b _=>exact⟨b.lt.2.1,b.lt.2.2.2⟩
theorem ki(e:aq aa) {i j:Nat}(h:cV aa i j):bF aa j≤bF aa i:=by
 induction h with
 | refl=>exact Nat.le_refl _
 | step h1 b f=>
  have hl:=b.lt;obtain⟨r,x,m,o,p,q,t,u⟩:=b
  grind [j7,qk]
theorem cV.head{i j k:Nat}(h:fM aa i j) (b:cV aa j k):cV aa i k:=by
 induction b with
 | refl=>exact .step .refl h
 | step _ e f=>exact .step f e
theorem cV.cases{i k:Nat}(h:cV aa i k):k=i∨∃j,fM aa i j∧cV aa j k:=by
 induction h with
 | refl=>exact .inl rfl
 | step h1 b e=>
  right
  rcases e with rfl | ⟨j,f,m⟩
  ·
   exact⟨_,b,.refl⟩
  exact⟨j,f,.step m b⟩
theorem lK:∀(l:List Nat) (c b:Nat),(fc c l).testBit b=true↔c.testBit b=true∨∃x∈l,x.testBit b=true:=by
 intro l
 induction l with
 | nil=>intro c b;simp [fc]
 | cons x r e=>
  intro c b
  have:=e (c ||| x) b
  simp only [fc,List.foldl_cons] at this ⊢
  grind
theorem uB(b:aq aa) {i:Nat}(hi:i<aa.length) (hr:aF aa i=true):aa[i].final=5∧aa[i].c.toNat≤65535:=by
 have h:=(b.at hi).2.2
 grind [hU,bU]
theorem xH{n b:Nat}(h:n≤65535) (hb:n.testBit b=true):b<16:=by
 rcases Nat.lt_or_ge b 16 with h1 | h1
 ·
  exact h1
 have:=Nat.ge_two_pow_of_testBit hb
 have e:2 ^ 16≤2 ^ b:=Nat.pow_le_pow_right (by omega) h1
 omega
theorem fj{gH:Key→ByteArray}{i:Nat}(hi:i<aa.length) (b:Nat) :
  (kL aa gH i).testBit b=true↔aa[i].c.toNat.testBit b=true∨∃x∈aa[i].asks,outside aa x=true∧(cG (gH (bS aa x))).testBit b=true:=by
 unfold kL
 rw [ak hi];simp only [lK,List.mem_map,List.mem_filter]
 grind
theorem Jz(e:aq aa) {gH:Key→ByteArray}{i:Nat}(hi:i<aa.length) (hr:aF aa i=true) {b:Nat}(h:(kL aa gH i).testBit b=true):b<16:=by
 rcases(fj hi b).1 h with h1 | ⟨x,_,_,h1⟩
 ·
  exact xH (uB e hi hr).2 h1
 exact xH (kK _) h1
theorem eB(m:aq aa) {gH:Key→ByteArray}{i:Nat}(hi:i<aa.length) (hr:aF aa i=true) (b:Nat) :
  (uz aa gH i).testBit b=true↔∃j,cV aa i j∧(kL aa gH j).testBit b=true:=by
 unfold uz
 rw [Eg]
 constructor
 ·
  exact fun h=>h.2
 rintro⟨j,h1,e⟩;have f:=ja hi hr h1;exact⟨Jz m f.1 f.2 e,j,h1,e⟩
theorem BC{gH:Key→ByteArray}(i:Nat):uz aa gH i≤65535:=by
 have:=Hp (fun b=>∃j,cV aa i j∧(kL aa gH j).testBit b=true) 16
 unfold uz;omega
noncomputable def rv(aa:List aG) (aD:List cB) (i:Nat):Nat:=uz aa (valOf aa aD) i
theorem yW(e:aq aa) {i:Nat}(hi:i<aa.length) (hr:aF aa i=true) {x:Ask}(h:x∈aa[i].asks) (f:outside aa x=true):ay (bS aa x)=true∨(number (bS aa x)).toNat<bF aa i:=by
 have o:=e.len;have hm:=j7 e hi hr h;obtain⟨m,h1,b⟩:=lJ hi e.len hm
 unfold bS
 unfold outside at f
 cases hc:x.cell
 ·
  rw [hc] at hm f b
  right
  simp only [Bool.false_eq_true,if_false] at b ⊢
  grind [ct,qk]
 left
 rw [hc] at b;simp only [if_true] at b ⊢
 grind [bd]
theorem iu(e:aq aa) {i:Nat}(hi:i<aa.length) (hr:aF aa i=true):tw aa aD i=itoa (rv aa aD i:Int):=by
 unfold tw qj rv
 rw [if_pos hr]
 congr 2
 refine Nat.eq_of_testBit_eq fun b=>?_;rw [Bool.eq_iff_iff,eB e hi hr,eB e hi hr]
 have key:∀j,cV aa i j→((kL aa (Jw aD (bu aa aD i)) j).testBit b=true↔(kL aa (valOf aa aD) j).testBit b=true):=by
  intro j h;have f:=ja hi hr h;have m:=ki e h;have hle:=gj aa i;rw [fj f.1,fj f.1];refine or_congr_right (exists_congr fun x=>and_congr_right fun o=>and_congr_right fun p=>?_);rw [xF]
  grind [yW]
 grind
theorem gV(b:aq aa) {i:Nat}(hi:i<aa.length):valOf aa aD (aI aa (i:Int))=tw aa aD i:=by
 have e:=b.len
 unfold valOf
 rw [if_neg (by grind [cj]),ct hi (by omega)]
 rfl
theorem iv{n:Nat}(h:n≤99):valOf aa aD (bX (n:Int))=cellOf aD (bX (n:Int)):=by
 unfold valOf;rw [if_pos (bd h)]
def n5(aa:List aG) (gH:Key→ByteArray) (i:Nat):List Nat:=((aa[i]?.map (·.asks)).getD []).map fun x=>cG (gH (bS aa x))
theorem Hr(b:aq aa) {i:Nat}(hi:i<aa.length) (hr:aF aa i=true) (gH:Key→ByteArray):∀n,n≤aa[i].asks.length→
  dX (cy aa (aI aa (i:Int))) gH n=((aa[i].asks.take n).map (bS aa),(aa[i].asks.take n).map fun x=>gH (bS aa x)):=by
 intro n
 induction n with
 | zero=>intro _;simp [dX]
 | succ n f=>
  intro hn;have e:=f (by omega);simp only [dX]
  have hlen:((aa[i].asks.take n).map fun x=>gH (bS aa x)).length=n:=by simp;omega
  obtain⟨a,h1,_,h⟩:=ef b hi (ae:=(aa[i].asks.take n).map fun x=>gH (bS aa x)) (by rw [hlen,eI hi];omega)
  grind [List.take_succ_eq_append_getElem]
theorem Hs(b:aq aa) {i:Nat}(hi:i<aa.length) (hr:aF aa i=true) (gH:Key→ByteArray) :
  cy aa (aI aa (i:Int)) (dX (cy aa (aI aa (i:Int))) gH (cO aa i)).2=⟨true,itoa (fc aa[i].c.toNat (n5 aa gH i):Int),dW⟩:=by
 rw [gN b hi ((gz _ _ _).2),Hr b hi hr gH _ (by rw [eI hi];exact Nat.le_refl _),(uB b hi hr).1,eI hi]
 unfold n5
 rw [ak hi];simp only [List.take_length,List.map_map,Option.map_some,Option.getD_some]
 rfl
theorem sK{gH:Key→ByteArray}{i:Nat}(hi:i<aa.length) (b:Nat) :
  (fc aa[i].c.toNat (n5 aa gH i)).testBit b=true↔(kL aa gH i).testBit b=true∨∃x∈aa[i].asks,outside aa x=false∧(cG (gH (bS aa x))).testBit b=true:=by
 rw [lK,fj hi]
 unfold n5
 grind
theorem ik(f:aq aa) {i:Nat}(hi:i<aa.length) (hr:aF aa i=true) {x:Ask}(h:x∈aa[i].asks) (b:outside aa x=false):∃j:Nat,fM aa i j∧bS aa x=aI aa (j:Int)∧j<aa.length:=by
 have hm:=j7 f hi hr h
 unfold outside at b
 rw [Bool.or_eq_false_iff] at b;obtain⟨m,h1,e⟩:=lJ hi f.len hm;rw [b.1] at e;simp only [Bool.false_eq_true,if_false] at e
 have o:aF aa m=true:=by grind
 refine⟨m,⟨_,x,ak hi,by rw [← bU hi];exact hr,h,b.1,h1,o⟩,?_,e.1⟩
 grind [bS]
theorem pe{i j:Nat}(hi:i<aa.length) (h:fM aa i j):∃x∈aa[i].asks,outside aa x=false∧bS aa x=aI aa (j:Int):=by
 obtain⟨r,x,h1,_,b,e,f,m⟩:=h
 grind [outside,bS]
theorem QY(f:aq aa) {i:Nat}(hi:i<aa.length) (hr:aF aa i=true):fc aa[i].c.toNat (n5 aa (valOf aa aD) i)=rv aa aD i:=by
 refine Nat.eq_of_testBit_eq fun b=>?_;rw [Bool.eq_iff_iff,sK hi]
 unfold rv
 rw [eB f hi hr]
 have t:∀j,j<aa.length→aF aa j=true→cG (valOf aa aD (aI aa (j:Int)))=uz aa (valOf aa aD) j:=fun j u z=>by
  rw [gV f u,iu f u z];exact fi (BC j)
 constructor
 ·
  rintro(h | ⟨x,h1,o,e⟩)
  ·
   exact⟨i,.refl,h⟩
  obtain⟨j,m,q,p⟩:=ik f hi hr h1 o;rw [q,t j p m.lt.2.2.2,eB f p m.lt.2.2.2] at e;obtain⟨k,r,F⟩:=e;exact⟨k,.head m r,F⟩
 rintro⟨k,h1,o⟩
 rcases h1.cases with rfl | ⟨j,e,m⟩
 ·
  exact .inl o
 right
 obtain⟨x,q,p,r⟩:=pe hi e;refine⟨x,q,p,?_⟩;rw [r,t j e.lt.2.1 e.lt.2.2.2,eB f e.lt.2.1 e.lt.2.2.2];exact⟨k,m,o⟩
theorem JA(m:aq aa) {i:Nat}(hi:i<aa.length) (hr:aF aa i=true) (v:Nat→Nat)
  (h1:∀j b,cV aa i j→(kL aa (valOf aa aD) j).testBit b=true→(v j).testBit b=true)
  (o:∀j k b,cV aa i j→fM aa j k→(v k).testBit b=true→(v j).testBit b=true) (b:Nat) (hb:(rv aa aD i).testBit b=true):(v i).testBit b=true:=by
 unfold rv at hb
 rw [eB m hi hr] at hb;obtain⟨j,e,f⟩:=hb;have h:=h1 j b e f
 clear f
 induction e with
 | refl=>exact h
 | step p q r=>exact r (o _ _ b p q h)
theorem fD(b:aq aa) {i:Nat}(hi:i<aa.length) :
  cy aa (aI aa (i:Int)) (dX (cy aa (aI aa (i:Int))) (valOf aa aD) (cO aa i)).2=⟨true,valOf aa aD (aI aa (i:Int)),dW⟩:=by grind [gV,Hq,Hs,QY,iu]
end
end Go.Rc

namespace Go.Rc
open Go
structure FZ where
 p:(Nat→Prop)→World→Prop
 mono:∀{Z Z':Nat→Prop}{w},(∀x,Z x→Z' x)→p Z w→p Z' w
 st:∀{Z:Nat→Prop}{w w':World},w.heap.size≤w'.heap.size→(∀x,Z x→x<w.heap.size→w'.heap[x]?=w.heap[x]?)→p Z w→p Z w'
def FZ.rd{α:Type}(R:RR α) (k:Nat) (a:Option Addr) (n c:Nat) (xs:List α):FZ:=⟨fun Z w=>Rd R k Z w a n c xs,fun h=>Rd.mono h,fun h1 h2=>Rd.st h1 h2⟩
def FZ.and(F G:FZ):FZ:=⟨fun Z w=>F.p Z w∧G.p Z w,fun h ⟨a,b⟩=>⟨F.mono h a,G.mono h b⟩,fun h1 h2 ⟨a,b⟩=>⟨F.st h1 h2 a,G.st h1 h2 b⟩⟩
def FZ.IH(P:Program):FZ where
 p Z w:=lA P Z w
 mono h:=fun h1=>h1.of h (Nat.le_refl _) fun _ _ _=>rfl
 st h1 h2:=fun h=>h.of (fun _ h=>h) h1 h2
def As.fz(F:FZ):As where
 fp _:=False
 ok Z w:=F.p Z w
 lt _ _ hx:=hx.elim
 mono h:=F.mono h
 st h1 h2:=F.st h1 fun x hx=>h2 x (.inr hx)
theorem As.gf{F:FZ}{Z:Nat→Prop}{w:World}(h:(As.fz F).ok Z w):F.p Z w:=h
structure SD where
 (ar a1 a2:Option Addr) (r cr n1 c1 n2 c2 m q s:Nat)
def SD.F(D:SD) (P:Program) (aa:List aG) (x:cz):FZ:=
 .and (.rd RR.eG 4 D.ar D.r D.cr aa) (.and (.rd RR.aD 4 D.a1 D.n1 D.c1 x.ab) (.and (.rd RR.ew 8 D.a2 D.n2 D.c2 x.ah) (.IH P)))
def SD.cells(D:SD) (x:cz):List Value:=
 [.slice D.ar D.r D.cr,.int .i64 x.ad,.slice D.a1 D.n1 D.c1,.slice D.a2 D.n2 D.c2,.map (some D.m),.map (some D.q)]
section
variable {D:SD}{P:Program}{aa:List aG}{x:cz}{Z:Nat→Prop}{w:World}
theorem SD.hu(h:(D.F P aa x).p Z w):Rd RR.eG 4 Z w D.ar D.r D.cr aa:=h.1
theorem SD.hi(h:(D.F P aa x).p Z w):Rd RR.aD 4 Z w D.a1 D.n1 D.c1 x.ab:=h.2.1
theorem SD.hr(h:(D.F P aa x).p Z w):Rd RR.ew 8 Z w D.a2 D.n2 D.c2 x.ah:=h.2.2.1
theorem SD.ht(h:(D.F P aa x).p Z w):lA P Z w:=h.2.2.2
end
def aV(aa:List aG) (aD:List cB) (ml:List (Key × Value)):Prop:=∀k v,bE ml k=some v→v=.string (valOf aa aD k)
section
variable {aa:List aG}{aD:List cB}
theorem aV.nil:aV aa aD []:=fun k v h=>by simp [bE] at h
theorem aV.put{ml:List (Key × Value)}(h:aV aa aD ml) (k:Key):aV aa aD (cM ml k (.string (valOf aa aD k))):=fun k' v b=>by
 rw [ee] at b
 split at b
 ·
  grind
 exact h k' v b
def eX(m n:Nat):Prop:=∀b,m.testBit b=true→n.testBit b=true
theorem eX.le{m n:Nat}(h:eX m n):m≤n:=by
 have e:m ||| n=n:=Nat.eq_of_testBit_eq fun b=>by
  rw [Nat.testBit_or]
  cases hm:m.testBit b
  ·
   simp
  simp [h b hm]
 rw [← e];exact Nat.left_le_or
noncomputable def MC(aa:List aG) (aD:List cB) (v:Nat→Nat) (k:Key):ByteArray:=if ax k then itoa (v (number k).toNat:Int) else valOf aa aD k
noncomputable def FF(aa:List aG) (aD:List cB) (v:Nat→Nat) (j:Nat):Nat:=fc ((aa[j]?.map (·.c.toNat)).getD 0) (n5 aa (MC aa aD v) j)
theorem jb(e:aq aa) {i:Nat}(hi:i<aa.length) (hr:aF aa i=true) {x:Ask}(h:x∈aa[i].asks) (f:outside aa x=true):ax (bS aa x)=false:=by
 have o:=e.len;have hm:=j7 e hi hr h;obtain⟨m,h1,b⟩:=lJ hi e.len hm
 unfold outside at f
 unfold bS
 cases hc:x.cell
 ·
  rw [hc] at b f;simp only [Bool.false_eq_true,if_false] at b ⊢
  grind [bz]
 rw [hc] at b;simp only [if_true] at b ⊢
 grind [kh]
theorem uC(o:aq aa) {v:Nat→Nat}(p:∀j,v j≤65535) {i:Nat}(hi:i<aa.length) (hr:aF aa i=true) (b:Nat) :
  (FF aa aD v i).testBit b=true↔(kL aa (valOf aa aD) i).testBit b=true∨∃j,fM aa i j∧(v j).testBit b=true:=by
 have r:=o.len
 unfold FF
 rw [ak hi];simp only [Option.map_some,Option.getD_some];rw [sK hi];refine or_congr ?_ ?_
 ·
  rw [fj hi,fj hi];refine or_congr_right (exists_congr fun x=>and_congr_right fun t=>and_congr_right fun u=>?_)
  unfold MC
  rw [if_neg (by grind [jb])]
 constructor
 ·
  rintro⟨x,h1,h,f⟩;obtain⟨j,e,m,q⟩:=ik o hi hr h1 h;refine⟨j,e,?_⟩
  unfold MC at f
  rw [m,if_pos (by rw [bz q (by omega)];exact e.lt.2.2.2),ct q (by omega),Int.toNat_natCast,fi (p j)] at f;exact f
 rintro⟨j,e,m⟩;obtain⟨x,h1,h,f⟩:=pe hi e;refine⟨x,h1,h,?_⟩
 unfold MC
 rw [f,if_pos (by rw [bz e.lt.2.1 (by have:=e.lt.2.1;omega)];exact e.lt.2.2.2),ct e.lt.2.1 (by have:=e.lt.2.1;omega),Int.toNat_natCast,fi (p j)];exact m
theorem sL(i:Nat):rv aa aD i≤65535:=BC i
theorem Ei(f:aq aa) {i:Nat}(hi:i<aa.length) (hr:aF aa i=true) (b:Nat) :
  (rv aa aD i).testBit b=true↔(kL aa (valOf aa aD) i).testBit b=true∨∃j,fM aa i j∧(rv aa aD j).testBit b=true:=by
 unfold rv
 rw [eB f hi hr]
 constructor
 ·
  rintro⟨k,h1,o⟩
  rcases h1.cases with rfl | ⟨j,e,m⟩
  ·
   exact .inl o
  exact .inr ⟨j,e,(eB f e.lt.2.1 e.lt.2.2.2 b).2 ⟨k,m,o⟩⟩
 rintro(h | ⟨j,e,m⟩)
 ·
  exact⟨i,.refl,h⟩
 obtain⟨k,p,q⟩:=(eB f e.lt.2.1 e.lt.2.2.2 b).1 m;exact⟨k,.head e p,q⟩
theorem Gt(e:aq aa) {v v':Nat→Nat}(f:∀j,v j≤65535) (m:∀j,v' j≤65535) (h:∀j,eX (v j) (v' j)) {i:Nat}(hi:i<aa.length) (hr:aF aa i=true):eX (FF aa aD v i) (FF aa aD v' i):=fun b hb=>by
 rw [uC e f hi hr] at hb;rw [uC e m hi hr]
 rcases hb with hb | ⟨j,h1,o⟩
 ·
  exact .inl hb
 exact .inr ⟨j,h1,h j b o⟩
structure dw (aa:List aG) (aD:List cB) (i0:Nat) (L:List Nat) (u:Nat→Nat):Prop where
 nodup:L.Nodup
 first:i0∈L
 ring:∀j∈L,j<aa.length∧aF aa j=true
 out:∀j,j∉L→u j=0
 le:∀j,u j≤65535
 low:∀j,eX (u j) (rv aa aD j)
 reach:∀j∈L,cV aa i0 j
noncomputable def yz(aa:List aG) (aD:List cB) (u:Nat→Nat) (ml:List (Key × Value)) (k:Nat):Nat:=if (bE ml (aI aa (k:Int))).isSome then rv aa aD k else u k
def fW(ml mR:List (Key × Value)):Prop:=∀k v,bE ml k=some v→bE mR k=some v
def kX(aa:List aG) (aD:List cB) (L:List Nat) (u:Nat→Nat) (ml:List (Key × Value)):Prop:=∀j∈L,eX (u j) (FF aa aD (yz aa aD u ml) j)
def n9(aa:List aG) (aD:List cB) (L:List Nat) (u:Nat→Nat) (j:Nat):Prop:=
 eX (kL aa (valOf aa aD) j) (u j)∧∀k,fM aa j k→(k∈L→eX (u k) (u j))∧(k∉L→eX (rv aa aD k) (u j))
def Ej(n:Nat) (v:Nat→Nat):Nat:=((List.range n).map fun j=>65535 - v j).sum
def oH(aa:List aG) (L:List Nat) (v:Nat→Nat):Nat:=Ej aa.length v+(aa.length - L.length)
theorem fW.refl(ml:List (Key × Value)):fW ml ml:=fun _ _ h=>h
theorem fW.trans{a b c:List (Key × Value)}(h:fW a b) (k:fW b c):fW a c:=fun x v e=>k x v (h x v e)
theorem fW.put{ml:List (Key × Value)}(hm:aV aa aD ml) (k:Key):fW ml (cM ml k (.string (valOf aa aD k))):=fun x v h=>by
 rw [ee]
 split
 ·
  rename_i e;subst e;rw [hm _ _ h]
 exact h
theorem rI{u:Nat→Nat}{ml:List (Key × Value)}(h:∀j,u j≤65535) (k:Nat):yz aa aD u ml k≤65535:=by grind [yz,sL]
theorem MD{u:Nat→Nat}{ml:List (Key × Value)}(h:∀j,eX (u j) (rv aa aD j)) (k:Nat):eX (yz aa aD u ml k) (rv aa aD k):=by unfold yz;split;exact fun _ h=>h;exact h k
theorem BD{u b:Nat→Nat}{ml e:List (Key × Value)}(h:∀j,eX (u j) (rv aa aD j)) (hu:∀j,eX (u j) (b j)) (hm:fW ml e) (k:Nat):eX (yz aa aD u ml k) (yz aa aD b e k):=by
 unfold yz
 cases h1:bE ml (aI aa (k:Int)) with
 | some v=>rw [hm _ _ h1];simp;exact fun _ h=>h
 | none=>grind
theorem kX.mono(i:aq aa) {i0:Nat}{L:List Nat}{u:Nat→Nat}{ml f:List (Key × Value)}(hr:dw aa aD i0 L u) (h:kX aa aD L u ml) (hm:fW ml f):kX aa aD L u f:=fun j e b hb=>
 Gt i (rI hr.le) (rI hr.le) (BD hr.low (fun _ _ h=>h) hm) (hr.ring j e).1 (hr.ring j e).2 b (h j e b hb)
theorem dw.start{i0:Nat}(hi:i0<aa.length) (hr:aF aa i0=true):dw aa aD i0 [i0] fun _=>0 where
 nodup:=by simp
 first:=by simp
 ring j e:=by grind
 out _ _:=rfl
 le _:=by omega
 low _ b h:=by simp at h
 reach j e:=by simp at e;subst e;exact .refl
theorem kX.start{i0:Nat}{ml:List (Key × Value)}:kX aa aD [i0] (fun _=>0) ml:=fun _ _ b h=>by simp at h
theorem JB:∀{n:Nat}{L:List Nat},L.Nodup→(∀j∈L,j<n)→L.length≤n:=by
 intro n
 induction n with
 | zero=>intro L _ hl;cases L with
  | nil=>simp
  | cons a r=>exact absurd (hl a (by simp)) (by omega)
 | succ n b=>
  intro L h hl
  have h1:=b (h.erase n) fun j e=>by grind
  grind
theorem dw.len{i0:Nat}{L:List Nat}{v:Nat→Nat}(h:dw aa aD i0 L v):L.length≤aa.length:=JB h.nodup fun j b=>(h.ring j b).1
theorem dw.meet{i0:Nat}{L:List Nat}{v:Nat→Nat}(h:dw aa aD i0 L v) {j:Nat}(b:j<aa.length) (hr:aF aa j=true) (hn:j∉L) (e:cV aa i0 j):dw aa aD i0 (L++[j]) v where
 nodup:=by grind [nodup]
 first:=by simp [h.first]
 ring k hk:=by
  rcases List.mem_append.1 hk with hk | hk
  ·
   exact h.ring k hk
  grind
 out k hk:=h.out k fun hm=>hk (by simp [hm])
 le:=h.le
 low:=h.low
 reach k hk:=by
  rcases List.mem_append.1 hk with hk | hk
  ·
   exact h.reach k hk
  grind
theorem kX.meet{L:List Nat}{u:Nat→Nat}{ml:List (Key × Value)}(h:kX aa aD L u ml) {j:Nat}(hu:u j=0):kX aa aD (L++[j]) u ml:=fun k hk=>by
 rcases List.mem_append.1 hk with hk | hk
 ·
  exact h k hk
 simp at hk;subst hk;rw [hu];intro b hb;simp at hb
theorem dw.Gu{i0:Nat}{L:List Nat}{v:Nat→Nat}(h:dw aa aD i0 L v) {j:Nat}(b:j<aa.length) (hr:aF aa j=true) (hn:j∉L) (e:cV aa i0 j):L.length<aa.length:=by
 have:=(h.meet b hr hn e).len
 grind
theorem BE{L:List Nat}{v:Nat→Nat}{j:Nat}(hl:L.length<aa.length):oH aa (L++[j]) v<oH aa L v:=by grind [oH]
def lZ(v:Nat→Nat) (j u:Nat):Nat→Nat:=fun k=>if k=j then u else v k
theorem JC:∀n (v:Nat→Nat) (j u:Nat),v j≤u→Ej n (lZ v j u)≤Ej n v∧(j<n→v j<u→u≤65535→Ej n (lZ v j u)<Ej n v):=by
 intro n
 induction n with
 | zero=>intro v j u _;simp [Ej]
 | succ n f=>
  intro v j u h;obtain⟨h1,b⟩:=f v j u h
  unfold Ej at h1 b ⊢
  simp only [List.range_succ,List.map_append,List.map_cons,List.map_nil,List.sum_append,List.sum_cons,List.sum_nil]
  have o:65535 - lZ v j u n≤65535 - v n:=by
   unfold lZ;grind
  refine⟨by omega,fun p i m=>?_⟩
  by_cases e:j=n
  ·
   have:65535 - lZ v j u n<65535 - v n:=by unfold lZ;grind
   omega
  have:=b (by omega) i m
  omega
theorem Ht{u:Nat→Nat}{j x:Nat}(h:eX (u j) x):∀k,eX (u k) (lZ u j x k):=fun k b hb=>by
 unfold lZ;split
 ·
  rename_i e;subst e;exact h b hb
 exact hb
theorem dw.set{i0:Nat}{L:List Nat}{u:Nat→Nat}(h:dw aa aD i0 L u) {j x:Nat}(f:j∈L) (i:x≤65535) (m:eX x (rv aa aD j)):dw aa aD i0 L (lZ u j x) where
 nodup:=h.nodup
 first:=h.first
 ring:=h.ring
 out k hk:=by unfold lZ;rw [if_neg (fun e=>hk (by rw [e];exact f))];exact h.out k hk
 le k:=by unfold lZ;split;exact i;exact h.le k
 low k b hb:=by
  unfold lZ at hb;split at hb
  ·
   rename_i e;subst e;exact m b hb
  exact h.low k b hb
 reach:=h.reach
theorem kX.set(f:aq aa) {i0:Nat}{L:List Nat}{u:Nat→Nat}{ml:List (Key × Value)}(hr:dw aa aD i0 L u) (h:kX aa aD L u ml) {j x:Nat}(i:j∈L) (m:x≤65535) (o:eX x (rv aa aD j)) (p:eX (u j) x) (q:eX x (FF aa aD (yz aa aD u ml) j)) :
  kX aa aD L (lZ u j x) ml:=fun k hk=>by
 have r:=hr.set i m o;have hm:=Gt (aD:=aD) f (rI (aD:=aD) (aa:=aa) (ml:=ml) hr.le) (rI r.le) (BD hr.low (Ht p) (fW.refl ml)) (hr.ring k hk).1 (hr.ring k hk).2;intro b hb;refine hm b ?_
 unfold lZ at hb;split at hb
 ·
  rename_i e;subst e;exact q b hb
 exact h k hk b hb
theorem Gv{i0:Nat}{L:List Nat}{u:Nat→Nat}(h:dw aa aD i0 L u) {j x:Nat}(b:j∈L) (e:x≤65535) (f:eX (u j) x) (i:u j≠x):oH aa L (lZ u j x)<oH aa L u:=by
 have h1:=f.le
 have:=(JC aa.length u j x h1).2 (h.ring j b).1 (by omega) e
 unfold oH;omega
theorem dw.done(r:aq aa) {i0:Nat}{L:List Nat}{u:Nat→Nat}(h:dw aa aD i0 L u) (f:∀j∈L,n9 aa aD L u j):∀j∈L,u j=rv aa aD j:=by
 intro j t;obtain⟨i,o⟩:=h.ring j t;refine Nat.le_antisymm (h.low j).le (eX.le fun b hb=>?_);have key:=JA r i o (fun k=>if k∈L then u k else rv aa aD k) (fun k b hk hb=>?_) (fun k m b hk p hb=>?_) b hb
 ·
  simpa [t] using key
 ·
  have q:=ja i o hk
  by_cases hm:k∈L
  ·
   simp only [if_pos hm];exact(f k hm).1 b hb
  simp only [if_neg hm];grind [Ei]
 have q:=ja i o hk
 by_cases e:k∈L
 ·
  simp only [if_pos e]
  by_cases hm:m∈L
  ·
   simp only [if_pos hm] at hb;exact((f k e).2 m p).1 hm b hb
  simp only [if_neg hm] at hb;exact((f k e).2 m p).2 hm b hb
 simp only [if_neg e];refine(Ei r q.1 q.2 b).2 (.inr ⟨m,p,?_⟩)
 by_cases hm:m∈L
 ·
  simp only [if_pos hm] at hb;exact h.low m b hb
 grind
structure Ev (aa:List aG) (aD:List cB) (u:Nat→Nat) (L:List Nat) (JD ml:List (Key × Value)) (qs:List Ask) (n:Nat) (acc:List ByteArray):Prop where
 len:acc.length=n
 out:∀m (h:m<qs.length),m<n→outside aa qs[m]=true→acc[m]?=some (valOf aa aD (bS aa qs[m]))
 ins:∀m (h:m<qs.length),m<n→outside aa qs[m]=false→∀k:Nat,qs[m].n=k→
  (acc[m]?=some (itoa (rv aa aD k:Int))∧(bE ml (aI aa (k:Int))).isSome=true)∨(acc[m]?=some (itoa (u k:Int))∧k∈L∧bE JD (aI aa (k:Int))=none)
theorem Ev.start{u:Nat→Nat}{L:List Nat}{ml:List (Key × Value)}{qs:List Ask}:Ev aa aD u L ml ml qs 0 []:=⟨rfl,fun _ _ h=>by omega,fun _ _ h=>by omega⟩
theorem Ev.mono{u:Nat→Nat}{L L':List Nat}{JD ml b:List (Key × Value)}{qs:List Ask}{n:Nat}{acc:List ByteArray}(h:Ev aa aD u L JD ml qs n acc) (r:∀k∈L,k∈L') (hm:fW ml b):Ev aa aD u L' JD b qs n acc:=
 ⟨h.len,h.out,fun m h1 i o k p=>by
  rcases h.ins m h1 i o k p with⟨e,f⟩ | ⟨e,f,t⟩
  ·
   obtain⟨v,q⟩:=Option.isSome_iff_exists.1 f;exact .inl ⟨e,by rw [hm _ _ q];rfl⟩
  grind⟩
theorem Ev.snoc{u:Nat→Nat}{L:List Nat}{JD ml:List (Key × Value)}{qs:List Ask}{n:Nat}{acc:List ByteArray}(h:Ev aa aD u L JD ml qs n acc) (s:ByteArray)
  (i:∀(h:n<qs.length),outside aa qs[n]=true→s=valOf aa aD (bS aa qs[n]))
  (hi:∀(h:n<qs.length),outside aa qs[n]=false→∀k:Nat,qs[n].n=k→(s=itoa (rv aa aD k:Int)∧(bE ml (aI aa (k:Int))).isSome=true)∨(s=itoa (u k:Int)∧k∈L∧bE JD (aI aa (k:Int))=none)) :
  Ev aa aD u L JD ml qs (n+1) (acc++[s]) where
 len:=by simp [h.len]
 out m h1 f e:=by
  rcases Nat.lt_or_ge m n with b | b
  ·
   rw [List.getElem?_append_left (by rw [h.len];exact b)];exact h.out m h1 b e
  grind [len]
 ins m h1 f e k hk:=by
  rcases Nat.lt_or_ge m n with b | b
  ·
   rw [List.getElem?_append_left (by rw [h.len];exact b)];exact h.ins m h1 b e k hk
  have:m=n:=by omega
  subst this;rw [List.getElem?_append_right (by rw [h.len];omega),h.len]
  simpa using hi h1 e k hk
theorem Ev.val(t:aq aa) {i0:Nat}{L:List Nat}{u:Nat→Nat}{JD ml:List (Key × Value)}{j:Nat}{acc:List ByteArray}(hr:dw aa aD i0 L u) (p:j<aa.length) (F:aF aa j=true) (h:Ev aa aD u L JD ml aa[j].asks aa[j].asks.length acc) :
  fc aa[j].c.toNat (acc.map cG)≤65535∧eX (fc aa[j].c.toNat (acc.map cG)) (rv aa aD j)∧eX (FF aa aD (yz aa aD u JD) j) (fc aa[j].c.toNat (acc.map cG))∧
  eX (fc aa[j].c.toNat (acc.map cG)) (FF aa aD (yz aa aD u ml) j)∧(fc aa[j].c.toNat (acc.map cG)=u j→n9 aa aD L u j):=by
 obtain⟨hlen,ho,eS⟩:=h;have II:=t.len
 -- an answer, by its place
 have VY:∀m (hm:m<aa[j].asks.length),∃s,acc[m]?=some s∧s∈acc:=fun m hm=>⟨acc[m],ak (by omega),List.getElem_mem _⟩
 have J:eX (kL aa (valOf aa aD) j) (fc aa[j].c.toNat (acc.map cG)):=fun b hb=>by
  rw [lK]
  rcases(fj p b).1 hb with h1 | ⟨x,h1,z,o⟩
  ·
   exact .inl h1
  obtain⟨m,hm,rfl⟩:=List.mem_iff_getElem.1 h1
  grind
 have N:∀k,fM aa j k→∃m,∃hm:m<aa[j].asks.length,outside aa aa[j].asks[m]=false∧aa[j].asks[m].n=(k:Int):=fun k hk=>by
  obtain⟨r,x,h1,_,o,f,I,e⟩:=hk;rw [ak p] at h1
  simp at h1
  subst h1;obtain⟨m,hm,rfl⟩:=List.mem_iff_getElem.1 o;exact⟨m,hm,by unfold outside;rw [f,I];simp [e],I⟩
 have G:∀(m:Nat) (s:ByteArray) (b:Nat),acc[m]?=some s→(cG s).testBit b=true→(fc aa[j].c.toNat (acc.map cG)).testBit b=true:=fun m s b h1 z=>by
  rw [lK];grind
 have O:∀(v:Nat→Nat),(∀k,v k≤65535)→(∀k:Nat,(bE ml (aI aa (k:Int))).isSome=true→eX (rv aa aD k) (v k))→(∀k:Nat,eX (u k) (v k))→eX (fc aa[j].c.toNat (acc.map cG)) (FF aa aD v j):=fun v R h1 z b hb=>by
  rw [uC t R p F];rw [lK] at hb
  rcases hb with hb | ⟨_,V,hb⟩
  ·
   grind [fj]
  obtain⟨s,W,rfl⟩:=List.mem_map.1 V;obtain⟨m,hm,rfl⟩:=List.mem_iff_getElem.1 W
  have H:m<aa[j].asks.length:=by omega
  cases Q:outside aa aa[j].asks[m]
  ·
   obtain⟨k,o,f,I⟩:=ik t p F (List.getElem_mem H) Q
   have X:aa[j].asks[m].n=(k:Int):=by
    obtain⟨q,e,i⟩:=lJ p t.len (j7 t p F (List.getElem_mem H))
    have hc:aa[j].asks[m].cell=false:=by grind [outside]
    rw [hc] at i;simp only [Bool.false_eq_true,if_false] at i
    unfold bS at f
    rw [hc,e] at f;simp only [Bool.false_eq_true,if_false] at f
    grind [ct]
   refine .inr ⟨k,o,?_⟩
   rcases eS m H H Q k X with⟨e,i⟩ | ⟨e,i,_⟩
   ·
    rw [ak hm] at e
    simp at e
    rw [e,fi (sL k)] at hb;exact h1 k i b hb
   rw [ak hm] at e
   simp at e
   rw [e,fi (hr.le k)] at hb;exact z k b hb
  grind [fj]
 refine⟨?_,?_,?_,?_,fun he=>⟨?_,fun k hk=>⟨fun Y=>?_,fun Y=>?_⟩⟩⟩
 ·
  grind [lH,uB,kK]
 ·
  intro b hb;have h1:=O (rv aa aD) sL (fun _ _ _ h=>h) hr.low b hb
  grind [uC,sL,Ei]
 ·
  intro b hb;rw [uC t (rI hr.le) p F] at hb
  rcases hb with hb | ⟨k,h1,z⟩
  ·
   exact J b hb
  obtain⟨m,hm,o,f⟩:=N k h1
  rcases eS m hm hm o k f with⟨e,i⟩ | ⟨e,i,h8⟩
  ·
   exact G m _ b e (by rw [fi (sL k)];exact MD hr.low k b z)
  refine G m _ b e (by rw [fi (hr.le k)];grind [yz])
 ·
  refine O _ (rI hr.le) (fun k hk b hb=>?_) fun k b hb=>?_
  ·
   unfold yz;rw [if_pos hk];exact hb
  unfold yz;split
  ·
   exact hr.low k b hb
  exact hb
 ·
  rw [← he];exact J
 ·
  intro b hb;rw [← he];obtain⟨m,hm,o,f⟩:=N k hk
  rcases eS m hm hm o k f with⟨e,i⟩ | ⟨e,i,h8⟩
  ·
   exact G m _ b e (by rw [fi (sL k)];exact hr.low k b hb)
  exact G m _ b e (by rw [fi (hr.le k)];exact hb)
 intro b hb
 grind [fi,sL]
def mK(aa:List aG) (L:List Nat) (v:Nat→Nat) (am:List (Key × Value)):Prop:=
 (∀j∈L,bE am (aI aa (j:Int))=some (.string (itoa (v j:Int))))∧∀k,(∀j∈L,k≠aI aa (j:Int))→bE am k=none
theorem dY(b:aq aa) {i j:Nat}(hi:i<aa.length) (e:j<aa.length) (h:aI aa (i:Int)=aI aa (j:Int)):i=j:=by grind [aq.len,ct]
theorem mK.meet(b:aq aa) {L:List Nat}{v:Nat→Nat}{am:List (Key × Value)}(h:mK aa L v am) (f:∀j∈L,j<aa.length) {j:Nat}(i:j<aa.length) (hn:j∉L) (o:v j=0):mK aa (L++[j]) v (cM am (aI aa (j:Int)) (.string ⟨#[48]⟩)):=by
 have e0:itoa ((0:Nat):Int)=⟨#[48]⟩:=by decide +kernel
 refine⟨fun k hk=>?_,fun k hk=>?_⟩
 ·
  rw [ee]
  rcases List.mem_append.1 hk with hk | hk
  ·
   rw [if_neg (fun e=>hn (by grind [dY]))];exact h.1 k hk
  grind
 rw [ee,if_neg (fun e=>hk j (by simp) e.symm)]
 exact h.2 k fun m hm=>hk m (by simp [hm])
theorem mK.set(i:aq aa) {L:List Nat}{v:Nat→Nat}{am:List (Key × Value)}(h:mK aa L v am) (b:∀j∈L,j<aa.length) {j:Nat}(f:j∈L) (u:Nat):mK aa L (lZ v j u) (cM am (aI aa (j:Int)) (.string (itoa (u:Int)))):=by
 refine⟨fun k hk=>?_,fun k hk=>?_⟩
 ·
  rw [ee]
  unfold lZ
  by_cases e:k=j
  ·
   grind
  rw [if_neg (fun e2=>e (dY i (b k hk) (b j f) e2.symm)),if_neg e];exact h.1 k hk
 rw [ee,if_neg (fun e=>hk j f e.symm)];exact h.2 k hk
end
theorem jc{aa:List aG}(e:aq aa) {i:Nat}(hi:i<aa.length) (hr:aF aa i=true) {x:Ask}(f:x∈aa[i].asks) (b:outside aa x=false) {k:Nat}(hk:x.n=(k:Int)):k<aa.length∧aF aa k=true∧bS aa x=aI aa (k:Int):=by
 have hm:=j7 e hi hr f
 unfold outside at b
 rw [Bool.or_eq_false_iff] at b;rw [b.1,hk] at hm;refine⟨(qk e hi hr hm).1,?_,?_⟩
 ·
  grind
 grind [bS]
theorem aq.hb{aa:List aG}(h:aq aa):∀x∈aa,0≤x.c∧x.c≤65535∧x.asks.length≤1000:=fun x b=>by
 obtain⟨i,hi,rfl⟩:=List.mem_iff_getElem.1 b;obtain⟨h1,_,e⟩:=h.at hi
 grind [hU]
theorem eY{aa:List aG}{i:Nat}(hi:i<aa.length) (jo:i≤99) (l:List ByteArray):aH aa (aI aa (i:Int)) l=cy aa (aI aa (i:Int)) l:=by
 unfold aH;rw [if_pos (by grind [eH])]
theorem sM{aa:List aG}{i:Nat}(hi:i<aa.length) (jo:i≤99) (hr:aF aa i=true):pc (aI aa (i:Int))=⟨#[48]⟩:=by grind [pc,eH]
theorem xI:∀{l:List (Key × Value)}{k:Key}{v:Value},bE l k=some v→cM l k v=l:=by
 intro l
 induction l with
 | nil=>intro k v h;simp [bE] at h
 | cons p r b=>
  obtain⟨k0,v0⟩:=p;intro k v h;simp only [bE] at h;simp only [cM]
  grind
theorem gg{aa:List aG}{i:Nat}(hi:i<aa.length) (jo:i≤99):cY (aI aa (i:Int)):=by grind [cY,eH]
end Go.Rc

namespace Go.Rc
open Go
theorem oI:∀(l:List UInt8) (u:Nat),0<u→0≤decFrom l (u:Int)→∃v:Nat,decFrom l (u:Int)=v∧Lib.decDigits v=Lib.decDigits u++l
 | [],u,_,_=>⟨u,rfl,by simp⟩
 | c::r,u,hu,h=>by
  unfold decFrom at h ⊢
  by_cases hc:c.toNat<48∨57<c.toNat
  ·
   rw [if_pos hc] at h;omega
  rw [if_neg hc] at h ⊢;obtain⟨d,f⟩:∃d:Nat,c.toNat=48+d:=⟨c.toNat - 48,by omega⟩
  have i:d<10:=by omega
  have e:10*(u:Int)+((c.toNat:Int) - 48)=((10*u+d:Nat):Int):=by omega
  rw [e] at h ⊢;obtain⟨v,h1,b⟩:=oI r (10*u+d) (by omega) h;refine⟨v,h1,?_⟩;rw [b,Lib.decDigits,dif_neg (by omega),show(10*u+d) / 10=u by omega,show(10*u+d) % 10=d by omega,List.append_assoc]
  grind [UInt8.ofNat_toNat]
theorem wG{s:ByteArray}(h:0≤dO s):∃v:Nat,dO s=v∧s=itoa (v:Int):=by
 unfold dO at h ⊢
 by_cases hc:s.size=0∨9<s.size∨(s.data.toList.head?=some 48∧s.size≠1)
 ·
  rw [if_pos hc] at h;omega
 rw [if_neg hc] at h ⊢;obtain⟨d⟩:=s
 have key:∃v:Nat,decFrom d.toList 0=v∧Lib.decDigits v=d.toList:=by
  have hsz:(⟨d⟩:ByteArray).size=d.toList.length:=by simp [ByteArray.size]
  rw [hsz] at hc;simp only at hc h ⊢
  cases hl:d.toList with
  | nil=>rw [hl] at hc;simp at hc
  | cons c r=>
   rw [hl] at hc h
   unfold decFrom at h ⊢
   by_cases hn:c.toNat<48∨57<c.toNat
   ·
    rw [if_pos hn] at h;omega
   rw [if_neg hn] at h ⊢;obtain⟨e,he⟩:∃e:Nat,c.toNat=48+e:=⟨c.toNat - 48,by omega⟩
   have h1:10*(0:Int)+((c.toNat:Int) - 48)=(e:Nat):=by omega
   rw [h1] at h ⊢
   have b:UInt8.ofNat (48+e)=c:=by grind [UInt8.ofNat_toNat]
   by_cases h0:e=0
   ·
    subst h0
    have m:c=48:=by rw [← b];rfl
    have hr:r=[]:=by grind
    subst hr;exact⟨0,rfl,by rw [Lib.decDigits,dif_pos (by omega),b]⟩
   obtain⟨v,f,i⟩:=oI r e (by omega) h;refine⟨v,f,?_⟩;rw [i,Lib.decDigits,dif_pos (by omega),b]
   rfl
 obtain⟨v,h1,f⟩:=key;refine⟨v,h1,?_⟩
 have e:Lib.itoa (v:Int)=Lib.decDigits v:=by unfold Lib.itoa;rw [if_neg (by omega)];rfl
 unfold itoa
 rw [e,f]
theorem Hu{s:ByteArray}(h:∀n:Nat,n≤65535→s≠itoa (n:Int)):cG s=0:=by
 unfold cG
 split
 ·
  rfl
 grind [wG]
theorem Hv(l:List aG) (m:Nat):m≤dL l m:=by unfold dL;omega
theorem Ek{aa:List aG}{i:Nat}(hi:i<aa.length):(block aa (i:Int)).1≤(block aa (i:Int)).2:=by
 have hb:block aa (i:Int)=if aF aa i then ((bF aa i:Int),(dL aa (i+1):Int)) else ((i:Int),(i:Int)+1):=by
  unfold block;rw [if_neg (by omega)];rfl
 grind [gj,Hv]
theorem BF(kind:Int) (c:Nat) (l:List Nat):dq kind 0 (c::l)=dq kind c l:=by
 unfold dq qa sF fc
 simp
end Go.Rc

namespace Go.Rc
open Go
theorem BG{κ:Type} [DecidableEq κ]:∀{l:List (κ × Value)}{k:κ}{v:Value},bE l k=none→iT (cM l k v) k=l
 | [],k,v,_=>by simp [cM,iT]
 | (k0,v0)::r,k,v,h=>by
  by_cases e:k0=k
  ·
   subst e;simp [bE] at h
  simp only [bE,if_neg e] at h;simp only [cM,if_neg e,iT,BG h]
def FZ.row(b:Nat) (r:List Value):FZ:=
 ⟨fun Z w=>Z b∧b<w.heap.size∧w.rangeAt b 0 r,fun hZ h=>⟨hZ _ h.1,h.2⟩,fun hs hc h=>⟨h.1,Nat.lt_of_lt_of_le h.2.1 hs,fun j v hv=>by rw [← h.2.2 j v hv];grind [World.cell?_of_block]⟩⟩
def SD.FV(D:SD) (P:Program) (aa:List aG) (x:cz):FZ:=(D.F P aa x).and (FZ.row D.s (D.cells x))
theorem SD.FV.rg{D:SD}{P:Program}{aa:List aG}{x:cz}{Z:Nat→Prop}{w:World}(h:(D.FV P aa x).p Z w):(As.rg D.s 0 (D.cells x)).ok Z w:=As.VD h.2.1 h.2.2.1 h.2.2.2
theorem xJ{κ:Type} [DecidableEq κ]:∀(l:List (κ × Value)) (k:κ) (v u:Value),cM (cM l k v) k u=cM l k u
 | [],k,v,u=>by simp [cM]
 | (k0,v0)::r,k,v,u=>by
  by_cases e:k0=k
  ·
   simp [cM,e]
  simp [cM,e,xJ r k v u]
section
variable {aa:List aG}{aD:List cB}
def lL(aa:List aG) (i:Nat) (al:List (Key × Value)):Prop:=∀j:Nat,j≤i→j<aa.length→bE al (aI aa (j:Int))=none
theorem lL.mono{i m:Nat}{al:List (Key × Value)}(h:lL aa i al) (hm:m≤i):lL aa m al:=fun j b hl=>h j (by omega) hl
theorem lL.put(b:aq aa) {i m:Nat}{al:List (Key × Value)}(h:lL aa i al) (hi:i<aa.length) (hm:m<i) (v:Value):lL aa m (cM al (aI aa (i:Int)) v):=fun j f hl=>by
 rw [ee,if_neg (fun e=>by have:=dY b hi hl e;omega)];exact h j (by omega) hl
theorem lL.nil(i:Nat):lL aa i []:=fun _ _ _=>rfl
noncomputable def cT(aa:List aG) (aD:List cB) (i:Nat):List Key:=(dX (cy aa (aI aa (i:Int))) (valOf aa aD) (cO aa i)).1
noncomputable def l4(aa:List aG) (aD:List cB) (k:Key):List Key:=if ay k then [] else cT aa aD (number k).toNat
theorem gk(b:aq aa) {i:Nat}(hi:i<aa.length):l4 aa aD (aI aa (i:Int))=cT aa aD i:=by
 have e:=b.len
 unfold l4
 rw [if_neg (by grind [cj]),ct hi (by omega),Int.toNat_natCast]
theorem eW.QZ(b:aq aa) {i:Nat}{a:Key}(h:eW aa i a):ax a=decide (a.kind=32):=by
 have e:=b.len
 rcases h with⟨n,h1,rfl⟩ | ⟨m,h1,rfl,_⟩
 ·
  rw [kh (by omega)]
  unfold bX
  rw [if_neg (by omega)]
  rfl
 grind [bz,eH]
theorem eW.al(b:aq aa) {i0 j:Nat}{a:Key}{al:List (Key × Value)}(h:eW aa j a) (hr:aF aa j=true) (hc:ax a=false) (eS:ay a=false) (hb:bF aa j≤i0) (e:lL aa i0 al):lL aa (number a).toNat al:=by
 have i:=b.len
 rcases h with⟨n,h1,rfl⟩ | ⟨m,h1,rfl,_,_,_,f⟩
 ·
  grind [bd]
 rw [bz h1 (by omega)] at hc;rw [ct h1 (by omega),Int.toNat_natCast];exact e.mono (by have:=f hc hr;omega)
structure RI (aa:List aG) (aD:List cB) (i0:Nat) (qs:List Ask) (u1:Nat→Nat) (L1:List Nat) (kY:Bool) (eO:List (Key × Value)) (n:Nat) (L2:List Nat) (kj:List (Key × Value)) (l5:Bool) (iR:List (Key × Value)) (acc:List ByteArray):Prop where
 hn:n≤qs.length
 rd:dw aa aD i0 L2 u1
 up:kX aa aD L2 u1 iR
 at_:mK aa L2 u1 kj
 m:aV aa aD iR
 le:fW eO iR
 p:oH aa L2 u1≤oH aa L1 u1∧(l5=true→kY=true∨oH aa L2 u1<oH aa L1 u1)
 c:l5=false→L2=L1∧kY=false
 pre:L1 <+: L2
 ev:Ev aa aD u1 L2 eO iR qs n acc
variable {i0 j n:Nat}{u1:Nat→Nat}{L1 L2:List Nat}{kY l5:Bool}{eO iR ME kj:List (Key × Value)}{acc:List ByteArray}
theorem RI.start{b:List (Key × Value)}{qs:List Ask}(h1:dw aa aD i0 L1 u1) (e:kX aa aD L1 u1 eO) (f:mK aa L1 u1 b) (i:aV aa aD eO):RI aa aD i0 qs u1 L1 kY eO 0 L1 b kY eO []:=
 ⟨Nat.zero_le _,h1,e,f,i,fW.refl _,⟨Nat.le_refl _,fun h=>.inl h⟩,fun h=>⟨rfl,h⟩,List.prefix_refl _,Ev.start⟩
theorem RI.done(b:aq aa) (e:j<aa.length) (hr:aF aa j=true) (h:RI aa aD i0 aa[j].asks u1 L1 kY eO n L2 kj l5 iR acc) (hn:n<aa[j].asks.length) {f:Value}(m:bE iR (bS aa aa[j].asks[n])=some f) :
  RI aa aD i0 aa[j].asks u1 L1 kY eO (n+1) L2 kj l5 iR (acc++[valOf aa aD (bS aa aa[j].asks[n])]):=
 {h with
  hn:=hn
  ev:=h.ev.snoc _ (fun _ _=>rfl) fun _ i k hk=>.inl (by
   obtain⟨o,p,q⟩:=jc b e hr (List.getElem_mem hn) i hk
   grind [gV,iu])}
theorem RI.low(b:aq aa) (f:j<aa.length) (hr:aF aa j=true) (h:RI aa aD i0 aa[j].asks u1 L1 kY eO n L2 kj l5 iR acc) (hn:n<aa[j].asks.length) (hc:ax (bS aa aa[j].asks[n])=false) (e:aV aa aD ME) (hle:fW iR ME) :
  RI aa aD i0 aa[j].asks u1 L1 kY eO (n+1) L2 kj l5 ME (acc++[valOf aa aD (bS aa aa[j].asks[n])]):=
 {h with
  hn:=hn
  up:=h.up.mono b h.rd hle
  m:=e
  le:=h.le.trans hle
  ev:=(h.ev.mono (fun _ h=>h) hle).snoc _ (fun _ _=>rfl) fun _ i k hk=>by grind [aq.len,jc,bz]}
theorem RI.inside(h:aq aa) (i:j<aa.length) (hr:aF aa j=true) (hn:n<aa[j].asks.length) (hc:ax (bS aa aa[j].asks[n])=true) :
  ∃b:Nat,bS aa aa[j].asks[n]=aI aa (b:Int)∧b<aa.length∧aF aa b=true∧fM aa j b∧outside aa aa[j].asks[n]=false:=by
 have m:=List.getElem_mem hn
 have e:outside aa aa[j].asks[n]=false:=by grind [jb]
 obtain⟨b,f,o,p⟩:=ik h i hr m e;exact⟨b,o,p,f.lt.2.2.2,f,e⟩
theorem RI.O2(i:aq aa) (p:j<aa.length) (hr:aF aa j=true) {e:List Nat}(h:Ev aa aD u1 e eO iR aa[j].asks n acc) (hle:fW eO iR) (hn:n<aa[j].asks.length) {b:Nat}(q:bS aa aa[j].asks[n]=aI aa (b:Int)) (r:b<aa.length) (m:outside aa aa[j].asks[n]=false)
  (u:bE iR (bS aa aa[j].asks[n])=none) (z:b∈e):Ev aa aD u1 e eO iR aa[j].asks (n+1) (acc++[itoa (u1 b:Int)]):=by
 have F:bE eO (aI aa (b:Int))=none:=by
  cases h:bE eO (aI aa (b:Int)) with
  | none=>rfl
  | some v=>have:=hle _ _ h;grind
 refine h.snoc _ (fun _ f=>by rw [m] at f;cases f) fun _ f k hk=>?_;obtain⟨t,G,o⟩:=jc i p hr (List.getElem_mem hn) m hk;rw [q] at o
 have:=dY i r t o
 grind
theorem RI.meet(i:aq aa) (t:j<aa.length) (hr:aF aa j=true) (h:RI aa aD i0 aa[j].asks u1 L1 kY eO n L2 kj l5 iR acc) (G:j∈L1) (hn:n<aa[j].asks.length) (hc:ax (bS aa aa[j].asks[n])=true)
  (H:bE iR (bS aa aa[j].asks[n])=none) (O:bE kj (bS aa aa[j].asks[n])=none) :
  ∃b:Nat,bS aa aa[j].asks[n]=aI aa (b:Int)∧b<aa.length∧aF aa b=true∧RI aa aD i0 aa[j].asks u1 L1 kY eO (n+1) (L2++[b]) (cM kj (bS aa aa[j].asks[n]) (.string ⟨#[48]⟩)) true iR (acc++[⟨#[48]⟩]):=by
 obtain⟨b,o,e,q,I,J⟩:=RI.inside i t hr hn hc
 have f:b∉L2:=fun hm=>by have:=h.at_.1 b hm;grind
 have r:=h.rd.out b f;have u:cV aa i0 b:=.step (h.rd.reach j (h.pre.subset G)) I;have L:=h.rd.meet e q f u;have N:=h.rd.Gu e q f u;have z:=BE (v:=u1) (j:=b) N;have F:=RI.O2 i t hr (h.ev.mono (L':=L2++[b]) (fun _ h=>by simp [h]) (fW.refl _)) h.le hn o e J H (by simp)
 have e0:itoa ((0:Nat):Int)=⟨#[48]⟩:=by decide +kernel
 rw [r,e0] at F;refine⟨b,o,e,q,⟨hn,L,h.up.meet r,?_,h.m,h.le,⟨Nat.le_of_lt (Nat.lt_of_lt_of_le z h.p.1),fun _=>.inr (Nat.lt_of_lt_of_le z h.p.1)⟩,fun h=>(by cases h),h.pre.trans (List.prefix_append _ _),F⟩⟩;rw [o];exact h.at_.meet i (fun k hk=>(h.rd.ring k hk).1) e f r
theorem RI.VZ(f:aq aa) (m:j<aa.length) (hr:aF aa j=true) (h:RI aa aD i0 aa[j].asks u1 L1 kY eO n L2 kj l5 iR acc) (hn:n<aa[j].asks.length) (hc:ax (bS aa aa[j].asks[n])=true)
  (r:bE iR (bS aa aa[j].asks[n])=none) {v:Value}(t:bE kj (bS aa aa[j].asks[n])=some v) :
  ∃s:ByteArray,v=.string s∧s.size≤1000∧RI aa aD i0 aa[j].asks u1 L1 kY eO (n+1) L2 kj l5 iR (acc++[s]):=by
 obtain⟨b,o,p,z,F,u⟩:=RI.inside f m hr hn hc
 have q:b∈L2:=by
  by_cases hm:b∈L2
  ·
   exact hm
  have:=h.at_.2 (aI aa (b:Int)) (fun k hk e=>hm (by have:=dY f p (h.rd.ring k hk).1 e;rw [this];exact hk))
  grind
 have i:=h.at_.1 b q;rw [← o,t] at i;simp only [Option.some.injEq] at i;refine⟨_,i,?_,{h with hn:=hn,ev:=RI.O2 f m hr h.ev h.le hn o p u r q}⟩;have hle:=h.rd.le b
 have e:Lib.itoa (u1 b:Int)=Lib.decDigits (u1 b):=by unfold Lib.itoa;rw [if_neg (by omega)];rfl
 grind [itoa,Lib.decDigits,ByteArray.size]
end
end Go.Rc

namespace Go.Rc
open Go
/-! ### keys in order -/
def mL(k:Key):List Key→List Key
 | []=>[k]
 | x::r=>if bD x k<0 then x::mL k r else if x=k then x::r else k::x::r
def kl(l:List Key):List Key:=l.foldl (fun out k=>mL k out) []
theorem MF:∀(l:List Key) (k:Key) (p:Nat),p≤l.length→(∀q x,q<p→l[q]?=some x→bD x k<0)→(∀x,l[p]?=some x→0≤bD x k)→mL k l=if l[p]?=some k then l else l.take p++[k]++l.drop p:=by
 intro l
 induction l with
 | nil=>intro k p b _ _;simp at b;subst b;rfl
 | cons x r h=>
  intro k p b h1 f
  cases p with
  | zero=>
   have:=f x rfl
   simp only [mL]
   grind
  | succ p=>
   have:=h1 0 x (by omega) rfl
   simp only [mL];rw [if_pos this,h k p (by simpa using b) (fun q y i e=>h1 (q+1) y (by omega) (by simpa using e)) (fun y e=>f y (by simpa using e))]
   grind
theorem JE(k:Key):∀l,(mL k l).length≤l.length+1:=by
 intro l
 induction l with
 | nil=>simp [mL]
 | cons x r b=>grind [mL]
theorem uD(l:List Key) (k:Key):kl (l++[k])=mL k (kl l):=by simp [kl]
theorem xK(l:List Key):(kl l).length≤l.length:=by
 have key:∀(l acc:List Key),(l.foldl (fun out k=>mL k out) acc).length≤acc.length+l.length:=by
  intro l
  induction l with
  | nil=>intro acc;simp
  | cons x r b=>grind [JE]
 simpa [kl] using key l []
theorem BH(k:Key):∀(l:List Key) (x:Key),x∈mL k l↔x=k∨x∈l:=by
 intro l
 induction l with
 | nil=>intro x;simp [mL]
 | cons y r b=>grind [mL]
theorem rJ(l:List Key) (x:Key):x∈kl l↔x∈l:=by
 have key:∀(l acc:List Key),x∈l.foldl (fun out k=>mL k out) acc↔x∈acc∨x∈l:=by
  intro l
  induction l with
  | nil=>intro acc;simp
  | cons y r b=>grind [BH]
 simpa [kl] using key l []
def BI(out:List Key) (p:Nat) (x:Key):Bool:=match out[p]? with | some y=>decide (bD y x<0) | none=>false
/-! ### groups -/
def Ld(l:List Rec) (rev:Int) (a x:Key):Prop:=x∈(aC l a).reads∧bV l rev x=true
inductive bT (l:List Rec) (rev:Int) (k:Key):Key→Prop where
 | one {x:Key}:Ld l rev k x→bT l rev k x
 | step {x y:Key}:bT l rev k x→Ld l rev x y→bT l rev k y
def il(m:List (Key × Value)) (P:Key→Prop):Prop:=∀k,(bE m k=some (.bool true)↔P k)∧(bE m k=none∨bE m k=some (.bool true))
open Classical in
noncomputable def yX(l:List Rec) (rev:Int) (k x:Key):Bool:=decide (bT l rev k x)
theorem kn{l:List Rec}{rev:Int}{k x:Key}:yX l rev k x=true↔bT l rev k x:=by unfold yX;simp
noncomputable def BJ(l:List Rec) (rev:Int) (k:Key) (r:Rec):Bool:=decide (r.key≠k) && (yX l rev k r.key && yX l rev r.key k)
noncomputable def jd(l:List Rec) (rev:Int) (k:Key) (rs:List Rec):List Key:=(rs.filter (BJ l rev k)).map (·.key)
theorem sO{l:List Rec}{rev:Int}{k:Key}{i:Nat}(h:i<l.length):jd l rev k (l.take (i+1))=if BJ l rev k l[i]=true then jd l rev k (l.take i)++[l[i].key] else jd l rev k (l.take i):=by
 rw [List.take_succ_eq_append_getElem h];simp only [jd,List.filter_append,List.map_append]
 grind
theorem pf(l:List Rec) (rev:Int) (k:Key) (rs:List Rec):(jd l rev k rs).length≤rs.length:=by grind [jd]
theorem il.get{m:List (Key × Value)}{P:Key→Prop}(h:il m P) (k:Key) {b:Bool}(hb:b=true↔P k):(bE m k).getD (.bool false)=.bool b:=by
 obtain⟨h1,e⟩:=h k
 grind
theorem il.put{m:List (Key × Value)}{b:List Key}(h:il m (·∈b)) (x:Key):il (cM m x (.bool true)) (·∈b++[x]):=fun k=>by
 rw [ee]
 by_cases e:x=k
 ·
  rw [if_pos e];simp [e]
 rw [if_neg e];obtain⟨h1,f⟩:=h k
 grind
theorem il.congr{m:List (Key × Value)}{P Q:Key→Prop}(h:il m P) (b:∀k,P k↔Q k):il m Q:=fun k=>⟨(h k).1.trans (b k),(h k).2⟩
theorem il.nil:il [] (·∈([]:List Key)):=fun k=>by simp [bE]
theorem eP{L S:List Key}(h:L.Nodup) (b:∀x∈L,x∈S):L.length≤S.length:=by
 induction L generalizing S with
 | nil=>simp
 | cons a r e=>
  have f:=b a (by simp);rw [List.nodup_cons] at h
  have:=e (S:=S.erase a) h.2 fun x i=>by grind
  grind
theorem nk{l:List Rec}{rev:Int}{x:Key}(h:bV l rev x=true):x∈l.map (·.key):=by
 unfold bV at h
 rw [Bool.and_eq_true] at h
 grind [aB]
theorem bT.gA{l:List Rec}{rev:Int}{k x:Key}(h:bT l rev k x):bV l rev x=true:=by
 cases h with
 | one h=>exact h.2
 | step _ h=>exact h.2
theorem yY{l:List Rec}{rev:Int}{k:Key}{b:List Key}(e:∀x∈b,bT l rev k x) (hc:∀y∈k::b,∀x,Ld l rev y x→x∈b) (x:Key):x∈b↔bT l rev k x:=by
 refine⟨e x,fun h=>?_⟩
 induction h with
 | one h=>exact hc k (by simp) _ h
 | step _ f i=>exact hc _ (by simp [i]) _ f
noncomputable def aA(l:List Rec) (rev:Int) (k:Key):List Key:=if bV l rev k then kl (k::jd l rev k l) else [k]
def aY(rev:Int) (group:List Key) (bp:Bool) (r:Rec):Rec:=if r.key∈group then (if bp then {r with bp:=true} else {r with av:=rev}) else r
def cL(x:cz) (group:List Key) (bp:Bool):cz:={x with ah:=x.ah.map (aY x.ad group bp)}
def az(x:cz) (k:Key):Bool:=(aB x.ah k).isSome && decide ((aC x.ah k).av=x.ad)
def aR(val:Key→ByteArray) (x:cz) (k:Key):Int:=
 if ay k then (bw x.ab k).changed
 else if (aB x.ah k).isSome && (decide ((aC x.ah k).av=x.ad) || decide (val k=(aC x.ah k).value)) then (aC x.ah k).changed else x.ad
def bP(val:Key→ByteArray) (x:cz) (k:Key):ByteArray:=if ax k then val k else fY x k
/-! ### a request -/
structure ES where
 b:cz
 busy:List (Key × Value)
 bf:List Key
 e:Int
def ES.on(s:ES) (k:Key):Bool:=(bE s.busy k).isSome
def eh(s:ES) (k:Key):Bool:=ay k || ((s.on k && ax k) || az s.b k)
mutual
noncomputable def kZ(aa:List aG) (val:Key→ByteArray):Nat→ES→Key→Option ES
 | 0,_,_=>none
 | f+1,s,k=>
  if s.e≠0∨ay k=true then some s
  else if az s.b k then some s
  else if s.on k then (if ax k then some s else some {s with e:=43})
  else (cP aa val f {s with busy:=cM s.busy k (.bool true)} k 0).bind fun p=>
   (if p.2 then gO aa val f p.1 k [] [] else some p.1).bind fun s3=>some {s3 with busy:=iT s3.busy k}
noncomputable def cP(aa:List aG) (val:Key→ByteArray):Nat→ES→Key→Nat→Option (ES × Bool)
 | 0,_,_,_=>none
 | f+1,s,k,at_=>
  if s.e≠0 then some (s,false)
  else if !(aB s.b.ah k).isSome || (aC s.b.ah k).bp then some (s,true)
  else if (aC s.b.ah k).av=s.b.ad then some (s,false)
  else
   match (bB s.b.ah (aA s.b.ah s.b.ad k))[at_]? with
   | none=>some ({s with b:=cL s.b (aA s.b.ah s.b.ad k) false},false)
   | some c=>
    if eh s c.read=false then (kZ aa val f s c.read).bind fun s'=>cP aa val f s' k at_
    else if (aC s.b.ah c.dE).av<aR val s.b c.read then
     some ((if ax k then {s with b:=cL s.b (aA s.b.ah s.b.ad k) true} else s),true)
    else cP aa val f s k (at_+1)
noncomputable def gO(aa:List aG) (val:Key→ByteArray):Nat→ES→Key→List Key→List ByteArray→Option ES
 | 0,_,_,_,_=>none
 | f+1,s,k,reads,ae=>
  if s.e≠0 then some s
  else if (aH aa k ae).done then
   (if !(aB s.b.ah k).isSome && decide (4000≤s.b.ah.length) then some {s with e:=45}
   else some {s with b:={s.b with ah:=eu s.b.ah (bL s.b k (aH aa k ae).value reads)},bf:=s.bf++[k]})
  else (kZ aa val f s (aH aa k ae).ask).bind fun s'=>
   if s'.e=0 then gO aa val f s' k (reads++[(aH aa k ae).ask]) (ae++[bP val s'.b (aH aa k ae).ask]) else gO aa val f s' k reads ae
end
/-! ### a solver, as one thing -/
def As.jH(P:Program) (ST:Nat) (aa:List aG) (x:cz) (D:SD):As where
 fp y:=y=D.s∨y=D.m
 ok Z w:=D.s≠D.m∧bR w D.s ST (D.cells x)∧(∃ml,aV aa x.ab ml∧KM Key.val w D.m ml)∧(D.F P aa x).p Z w
 lt:=fun⟨_,h1,⟨_,_,h2⟩,_⟩ y hy=>by rcases hy with rfl | rfl;exact h1.lt;exact h2.lt
 mono hZ:=fun⟨h0,h1,h2,h3⟩=>⟨h0,h1,h2,(D.F P aa x).mono hZ h3⟩
 st:=fun hs hc ⟨h0,h1,⟨ml,h2,h3⟩,h4⟩=>⟨h0,(As.blk D.s ST (D.cells x)).st (Z:=fun _=>False) hs (fun y hy hl=>hc y (.inl (.inl (by rcases hy with hy | hy;exact hy;exact hy.elim))) hl) h1,
  ⟨ml,h2,(As.map Key.val D.m ml).st (Z:=fun _=>False) hs (fun y hy hl=>hc y (.inl (.inr (by rcases hy with hy | hy;exact hy;exact hy.elim))) hl) h3⟩,(D.F P aa x).st hs (fun y hy hl=>hc y (.inr hy) hl) h4⟩
section
variable {w0 w w':World}{M Z:Nat→Prop}{l:List As}{A B C:As}
theorem St.split(h:St w0 M Z w (C::l)) (o:A.ok Z w) (p:B.ok Z w) (i:∀x,A.fp x→C.fp x) (m:∀x,B.fp x→C.fp x) (q:∀x,A.fp x→¬B.fp x):St w0 M Z w (A::B::l):=by
 obtain⟨r,t⟩:=List.pairwise_cons.1 h.rG;refine⟨h.bW,h.jG,?_,?_,?_,?_⟩
 ·
  intro D b x e f;simp only [List.mem_cons] at b
  rcases b with rfl | rfl | b
  ·
   exact h.lV C (by simp) x (i x e) f
  ·
   exact h.lV C (by simp) x (m x e) f
  exact h.lV D (by simp [b]) x e f
 ·
  intro D b x e;simp only [List.mem_cons] at b
  rcases b with rfl | rfl | b
  ·
   exact h.mO C (by simp) x (i x e)
  ·
   exact h.mO C (by simp) x (m x e)
  exact h.mO D (by simp [b]) x e
 ·
  simp_all
 intro D b;simp only [List.mem_cons] at b
 rcases b with rfl | rfl | b
 ·
  exact o
 ·
  exact p
 exact h.ok D (by simp [b])
theorem St.join(h:St w0 M Z w (A::B::l)) (m:C.ok Z w) (i:∀x,C.fp x→A.fp x∨B.fp x):St w0 M Z w (C::l):=by
 obtain⟨p,o⟩:=List.pairwise_cons.1 h.rG;obtain⟨q,r⟩:=List.pairwise_cons.1 o;refine⟨h.bW,h.jG,?_,?_,?_,?_⟩
 ·
  intro D b x e f;simp only [List.mem_cons] at b
  rcases b with rfl | b
  ·
   rcases i x e with h1 | h1
   ·
    exact h.lV A (by simp) x h1 f
   exact h.lV B (by simp) x h1 f
  exact h.lV D (by simp [b]) x e f
 ·
  intro D b x e;simp only [List.mem_cons] at b
  rcases b with rfl | b
  ·
   rcases i x e with h1 | h1
   ·
    exact h.mO A (by simp) x h1
   exact h.mO B (by simp) x h1
  exact h.mO D (by simp [b]) x e
 ·
  grind [List.pairwise_cons]
 intro D b;simp only [List.mem_cons] at b
 rcases b with rfl | b
 ·
  exact m
 exact h.ok D (by simp [b])
theorem St.one(h:St w0 M Z w l) (e:A∈l):St w (mP [A]) Z w [A] where
 bW:=gM.refl _ _
 jG:=h.jG
 lV D b:=by simp at b;subst b;exact h.lV _ e
 mO D b x f:=.inl ⟨D,b,f⟩
 rG:=by simp
 ok D b:=by simp at b;subst b;exact h.ok _ e
theorem St.xL(h:St w0 M Z w l) (f:A∈l) (b:St w (mP [A]) Z w' [A]):St w0 M Z w' l:=
 h.same f (b.bW.mono fun x _ ⟨D,e,i⟩=>by simp at e;subst e;exact i) (b.ok A (by simp))
theorem Gw(f:A∈l) {x:Nat}(b:mP [A] x):mP l x:=by obtain⟨D,e,b⟩:=b;simp at e;subst e;exact⟨D,f,b⟩
end
theorem As.gv{P:Program}{ST:Nat}{aa:List aG}{x:cz}{D:SD}{Z:Nat→Prop}{w:World}(h:(As.jH P ST aa x D).ok Z w):(D.F P aa x).p Z w:=h.2.2.2
theorem As.gvb{P:Program}{ST:Nat}{aa:List aG}{x:cz}{D:SD}{Z:Nat→Prop}{w:World}(h:(As.jH P ST aa x D).ok Z w):bR w D.s ST (D.cells x):=h.2.1
structure EA where
 (a1 a2 a3:Option Addr) (n1 c1 n2 c2 n3 c3:Nat)
def EA.cells(E:EA) (sb bb:Nat) (s:ES):List Value:=
 [.pointer (some ⟨sb,0,none⟩),.int .i64 s.b.ad,.slice E.a1 E.n1 E.c1,.slice E.a2 E.n2 E.c2,.map (some bb),.slice E.a3 E.n3 E.c3,.int .i64 s.e]
theorem El{x:cz}{group:List Key}{bp:Bool}{i:Nat}(h:i<x.ah.length) (hi:i≤x.ah.length):(((x.ah.take i).map (aY x.ad group bp))++x.ah.drop i).set i (aY x.ad group bp x.ah[i])=((x.ah.take (i+1)).map (aY x.ad group bp))++x.ah.drop (i+1):=by
 rw [List.set_append_right _ _ (by simp;omega)];simp only [List.length_map,List.length_take,Nat.min_eq_left hi,Nat.sub_self]
 grind [List.drop_eq_getElem_cons]
end Go.Rc

namespace Go.Rc
open Go
structure Good (aa:List aG) (aD:List cB) (s:ES):Prop where
 aD:s.b.ab=aD
 len:s.b.ah.length≤4000
 key:∀r∈s.b.ah,eA aa r.key
 AQ:∀r∈s.b.ah,r.reads.length≤4000∧∀a∈r.reads,eA aa a
 j3:(s.busy.map (·.1)).Nodup
 busy:∀k,bE s.busy k=none∨bE s.busy k=some (.bool true)
structure Gx (s s':ES):Prop where
 bf:s.bf.length≤s'.bf.length
 rev:s'.b.ad=s.b.ad
theorem Gx.refl(s:ES):Gx s s:=⟨Nat.le_refl _,rfl⟩
theorem Gx.trans{s t u:ES}(h:Gx s t) (b:Gx t u):Gx s u:=⟨Nat.le_trans h.bf b.bf,b.rev.trans h.rev⟩
section
variable {aa:List aG}{aD:List cB}{s:ES}{k:Key}
theorem Good.on(h:Good aa aD s) (k:Key):Good aa aD {s with busy:=cM s.busy k (.bool true)}:=
 {h with j3:=gh h.j3 _ _,busy:=fun k'=>by show bE (cM s.busy k (.bool true)) k'=none∨_;rw [ee];split;exact .inr rfl;exact h.busy k'}
theorem Good.off(h:Good aa aD s) (k:Key):Good aa aD {s with busy:=iT s.busy k}:=
 {h with j3:=by grind [Jh,j3],busy:=fun k'=>by show bE (iT s.busy k) k'=none∨_;rw [Bp h.j3];split;exact .inl rfl;exact h.busy k'}
theorem Good.err(h:Good aa aD s) (e:Int):Good aa aD {s with e:=e}:={h with}
theorem cQ(rev:Int) (g:List Key) (d:Bool) (r:Rec):(aY rev g d r).key=r.key∧(aY rev g d r).reads=r.reads:=by unfold aY;grind
theorem Good.mark(h:Good aa aD s) (g:List Key) (d:Bool):Good aa aD {s with b:=cL s.b g d}:=
 {h with
  len:=by show((s.b.ah.map _).length≤4000);rw [List.length_map];exact h.len
  key:=fun r hr=>by obtain⟨q,e,rfl⟩:=List.mem_map.1 hr;rw [(cQ _ _ _ q).1];exact h.key q e
  AQ:=fun r hr=>by obtain⟨q,e,rfl⟩:=List.mem_map.1 hr;rw [(cQ _ _ _ q).2];exact h.AQ q e}
theorem Gx.mark(g:List Key) (d:Bool):Gx s {s with b:=cL s.b g d}:=⟨Nat.le_refl _,rfl⟩
theorem gC(r:Rec):∀(l:List Rec) (b:Bool) (x:Rec),x∈fe r l b→x=r∨x∈l:=by
 intro l
 induction l with
 | nil=>grind [fe]
 | cons y e f=>grind [fe]
theorem BL(r:Rec):∀(l:List Rec) (b:Bool),(fe r l b).length+(l.filter fun x=>decide (bD x.key r.key=0)).length=l.length+(if b then 0 else 1):=by
 intro l
 induction l with
 | nil=>intro b;cases b <;> simp [fe]
 | cons y f e=>
  intro b;have h1:=e (b || decide (0≤bD y.key r.key));simp only [fe,List.length_append,List.length_cons]
  grind
theorem JF{l:List Rec}{r:Rec}(h:(aB l r.key).isSome=true) (hc:bD r.key r.key=0):(eu l r).length≤l.length:=by
 have h1:=BL r l false;obtain⟨x,b⟩:=Option.isSome_iff_exists.1 h;have f:=List.mem_of_find?_eq_some b;have e:=List.find?_some b
 simp at e
 have i:0<(l.filter fun x=>decide (bD x.key r.key=0)).length:=List.length_pos_of_mem (List.mem_filter.2 ⟨f,by rw [e];simp [hc]⟩)
 unfold eu
 simp at h1
 omega
theorem xM:∀l:List UInt8,Lib.compareBytes l l=0
 | []=>by simp [Lib.compareBytes]
 | a::r=>by simp [Lib.compareBytes,xM r]
theorem iw(k:Key):bD k k=0:=by unfold bD;simp [xM]
theorem Good.put(h:Good aa aD s) {r:Rec}{bf:List Key}(hk:eA aa r.key) (hr:r.reads.length≤4000∧∀a∈r.reads,eA aa a) (f:(!(aB s.b.ah r.key).isSome && decide (4000≤s.b.ah.length))=false) :
  Good aa aD {s with b:={s.b with ah:=eu s.b.ah r},bf:=bf}:=
 {h with
  len:=by grind [eu,len,JF,iw,rD]
  key:=fun x e=>by rcases gC r _ _ x e with rfl | e;exact hk;exact h.key x e
  AQ:=fun x e=>by rcases gC r _ _ x e with rfl | e;exact hr;exact h.AQ x e}
def gZ(aa:List aG) (k:Key) (n:Nat):Prop:=∃i,i<aa.length∧k=aI aa (i:Int)∧n≤cO aa i
theorem eA.gH(h:eA aa k) (hi:ay k=false):gZ aa k 0:=by
 cases h with
 | cell h=>grind [bd]
 | eG h jo=>exact⟨_,h,rfl,Nat.zero_le _⟩
theorem gZ.next(b:aq aa) {ae:List ByteArray}(h:gZ aa k ae.length) (f:(aH aa k ae).done=false):gZ aa k (ae.length+1)∧eA aa (aH aa k ae).ask:=by
 obtain⟨i,hi,rfl,hn⟩:=h
 have jo:i≤99:=by have:=b.len;omega
 rw [eY hi jo] at f ⊢
 rcases Nat.lt_or_ge ae.length (cO aa i) with e | o
 ·
  obtain⟨a,h1,m,_⟩:=ef b hi e;rw [h1];exact⟨⟨i,hi,rfl,e⟩,m.IF b⟩
 grind [gN]
theorem gZ.le(b:aq aa) {n:Nat}(h:gZ aa k n):n≤6:=by obtain⟨i,hi,_,hn⟩:=h;have:=nj b hi;omega
theorem gZ.not(b:aq aa) {n:Nat}(h:gZ aa k n):cY k∧ay k=false:=by
 obtain⟨i,hi,rfl,hn⟩:=h;grind [aq.len,gg,cj]
theorem gZ.IF(b:aq aa) {n:Nat}(h:gZ aa k n):eA aa k:=by obtain⟨i,hi,rfl,_⟩:=h;have:=b.len;exact .eG hi (by omega)
end
section
variable {aa:List aG}{val:Key→ByteArray}{aD:List cB}
def UpG(aa:List aG) (val:Key→ByteArray) (aD:List cB) (f:Nat):Prop:=∀s k s',kZ aa val f s k=some s'→Good aa aD s→eA aa k→Good aa aD s'∧Gx s s'
def ChG(aa:List aG) (val:Key→ByteArray) (aD:List cB) (f:Nat):Prop:=∀s k n s' b,cP aa val f s k n=some (s',b)→Good aa aD s→Good aa aD s'∧Gx s s'
def RuG(aa:List aG) (val:Key→ByteArray) (aD:List cB) (f:Nat):Prop:=∀s k reads ae s',gO aa val f s k reads ae=some s'→Good aa aD s→gZ aa k ae.length→reads.length=ae.length→(∀a∈reads,eA aa a)→Good aa aD s'∧Gx s s'
theorem fO{aa:List aG}{aD:List cB}{s:ES}(h:Good aa aD s) {group:List Key}{n:Nat}{c:oq}(hc:(bB s.b.ah group)[n]?=some c):eA aa c.read:=by
 have h1:=List.mem_of_getElem? hc;obtain⟨m,hm,i⟩:=List.mem_flatMap.1 h1;obtain⟨a,o,rfl⟩:=List.mem_map.1 i;have e:=(List.mem_filter.1 o).1
 show eA aa a
 unfold aC at e
 cases f:aB s.b.ah m with
 | none=>rw [f] at e;simp [nb] at e
 | some r=>rw [f] at e;exact(h.AQ r (List.mem_of_find?_eq_some f)).2 a e
theorem ko(l:List Rec) (rev:Int) (k:Key):(aA l rev k).length≤l.length+1:=by grind [aA,xK,pf]
theorem yZ{aa:List aG}{aD:List cB}{s:ES}(h:Good aa aD s) {group:List Key}(f:group.length≤4001):∀i,((group.take i).flatMap fun m=>da group m (aC s.b.ah m).reads).length≤100000000:=by
 intro i
 have h1:∀l:List Key,(l.flatMap fun m=>da group m (aC s.b.ah m).reads).length≤l.length*4000:=by
  intro l
  induction l with
  | nil=>simp
  | cons m r o=>
   simp only [List.flatMap_cons,List.length_append,List.length_cons];have p:=jR group m (aC s.b.ah m).reads
   have q:(aC s.b.ah m).reads.length≤4000:=by
    unfold aC
    cases e:aB s.b.ah m with
    | none=>simp [nb]
    | some r=>exact(h.AQ r (List.mem_of_find?_eq_some e)).1
   rw [Nat.add_mul]
   omega
 grind
theorem tT{aa:List aG}{aD:List cB}{s:ES}(h:Good aa aD s) {group:List Key}(e:group.length≤4001):(bB s.b.ah group).length≤100000000:=by
 have h1:=yZ h e group.length;rw [List.take_of_length_le (Nat.le_refl _)] at h1;exact h1
theorem cA(u:aq aa):∀f,UpG aa val aD f∧ChG aa val aD f∧RuG aa val aD f:=by
 intro f
 induction f with
 | zero=>exact⟨fun s k s' h=>by simp [kZ] at h,fun s k n s' b h=>by simp [cP] at h,fun s k r a s' h=>by simp [gO] at h⟩
 | succ f I=>
  obtain⟨G,z,F⟩:=I;refine⟨?_,?_,?_⟩
  ·
   intro s k s' h e hk
   unfold kZ at h
   split at h
   ·
    cases h;exact⟨e,.refl _⟩
   rename_i he
   split at h
   ·
    cases h;exact⟨e,.refl _⟩
   split at h
   ·
    split at h <;> cases h
    ·
     exact⟨e,.refl _⟩
    exact⟨e.err _,⟨Nat.le_refl _,rfl⟩⟩
   obtain⟨p,J,h⟩:=Option.bind_eq_some_iff.1 h;obtain⟨t,ht,h⟩:=Option.bind_eq_some_iff.1 h
   cases h
   obtain⟨h1,o⟩:=z _ _ _ p.1 p.2 (by rw [J]) (e.on k);have H:Gx s p.1:=⟨o.bf,o.rev⟩
   have i:Good aa aD t∧Gx s t:=by
    split at ht
    ·
     obtain⟨m,L⟩:=F _ _ _ _ _ ht h1 (hk.gH (by simp at he;exact he.2)) rfl (fun a q=>by cases q);exact⟨m,H.trans L⟩
    cases ht;exact⟨h1,H⟩
   exact⟨i.1.off k,⟨i.2.bf,i.2.rev⟩⟩
  ·
   intro s k n s' b h e
   unfold cP at h
   split at h
   ·
    cases h;exact⟨e,.refl _⟩
   split at h
   ·
    cases h;exact⟨e,.refl _⟩
   split at h
   ·
    cases h;exact⟨e,.refl _⟩
   split at h
   ·
    cases h;exact⟨e.mark _ _,.mark _ _⟩
   rename_i c hc
   split at h
   ·
    obtain⟨t,ht,h⟩:=Option.bind_eq_some_iff.1 h;obtain⟨h1,o⟩:=G _ _ _ ht e (fO e hc);obtain⟨i,m⟩:=z _ _ _ _ _ h h1;exact⟨i,o.trans m⟩
   split at h
   ·
    split at h <;> cases h
    ·
     exact⟨e.mark _ _,.mark _ _⟩
    exact⟨e,.refl _⟩
   exact z _ _ _ _ _ h e
  intro s k reads ae s' h e q hl hr
  unfold gO at h
  split at h
  ·
   cases h;exact⟨e,.refl _⟩
  split at h
  ·
   split at h
   ·
    cases h;exact⟨e.err _,⟨Nat.le_refl _,rfl⟩⟩
   rename_i m
   cases h
   have O:=q.le u;exact⟨e.put (r:=bL s.b k (aH aa k ae).value reads) (q.IF u) ⟨by show reads.length≤4000;omega,hr⟩ (by show(!(aB s.b.ah k).isSome && _)=false;simpa using m),⟨by simp,rfl⟩⟩
  rename_i N
  obtain⟨t,ht,h⟩:=Option.bind_eq_some_iff.1 h;have hn:=q.next u (by simpa using N);obtain⟨h1,o⟩:=G _ _ _ ht e hn.2
  split at h
  ·
   obtain⟨i,m⟩:=F _ _ _ _ _ h h1 (by simpa using hn.1) (by simp [hl]) (fun a q=>by grind);exact⟨i,o.trans m⟩
  obtain⟨i,m⟩:=F _ _ _ _ _ h h1 q hl hr;exact⟨i,o.trans m⟩
end
end Go.Rc

