/- Base of the proof: frames, memory, ownership, and the plain meaning of rule systems. Conditions: as each lemma says. -/
import Derived.Test.YtfamnpoplgkkcaaGreatDoorOBd
import Derived.Lib.IfaceEq
import Derived.Lib.BufferWrite
import Derived.Lib.UnsafeStr
import Derived.Laws.MakeOwn
import Derived.Test.YtfamnpoplgkkcaaGreatDoorOBc
set_option linter.all false
namespace Go.Rc
open Go
theorem aS.Bo{w w':World}(h:RowKit.Below w.heap.size w w') (b:w.drawn≤w'.drawn):aS [] w w':=⟨h.os,h.tape,h.output,h.size,b,fun k hk _=>h.block k hk⟩
theorem pX(w:World) (p:Addr) (n:Nat):(w.freeze p n).drawn=w.drawn:=by grind [World.freeze]
section
variable {P:Program}{n:Nat}{kv:KV}{w w':World}{K:KV→World→Prop}{d:Tmp}{ty:TypeId}{pos:String}{af:Array Edge}{g:Option (Nat × Bool)}{T U:TypeId}{op:Op}{v:Value}{x y:Operand}
theorem OX.val(b:bp op=false) (e:Nat.blt d n=true) (hk:known kv op=true) (hr:(execOp (jE kv) ⟨some d,op,ty,pos,af,g⟩).run P w=.ok (.value v) w') (h:K ((d,v)::kv) w'):OX P ⟨some d,op,ty,pos,af,g⟩ n kv w K:=⟨b,e,hk,by rw [hr];exact h⟩
theorem PV.Jb{b:TypeDesc}(hT:P.underlying T=some b) (f:∀ms,b≠.interface ms) (e:ev kv x=some v):PV P (.makeInterface T x) ty kv w (.iface T v):=
 ⟨rfl,by simp [known,opers,e],fun _ _ _ _=>by
  simp only [execOp,aJ e,Instr.makeInterface,Sem.run_bind,run_underlying hT,Result.andThen_ok]
  simp_all⟩
theorem PV.QD{ms:Array (String × TypeId)}{e:TypeId}{q:IntKind}{a b:Int}(hT:P.underlying T=some (.interface ms)) (hc:(P.info? e).map (·.comparable)=some true) (m:P.underlying e=some (.int q)) (f:ev kv x=some (.iface e (.int .i64 a))) (i:ev kv y=some (.iface e (.int .i64 b))):PV P (.binOp .eql T x y U) ty kv w (.bool (a == b)):=
 ⟨rfl,by simp [known,opers,f,i],fun _ _ _ _=>by
  have h:=Lib.run_eql_iface_int w (k:=.i64) a b hT hc m;simp only [execOp,aJ f,aJ i]
  simp [eqGuard,h]⟩
theorem OX.Vv{r:Value}(f:Nat.blt d n=true) {u v:Value}(b:ev kv x=some u) (e:ev kv y=some v) (hr:(Instr.makeSlice T u v).run P w=.ok r w') (h:K ((d,r)::kv) w'):OX P ⟨some d,.makeSlice T x y,ty,pos,af,g⟩ n kv w K:=
 OX.val rfl f (by simp [known,opers,b,e]) (by simp only [execOp,aJ b,aJ e,Sem.run_bind,hr,Result.andThen_ok];rfl) h
theorem OX.Vw{r u v:Value}(f:Nat.blt d n=true) (b:ev kv x=some u) (e:ev kv y=some v) (hr:(Builtin.copy_ #[T,U] ty #[u,v]).run P w=.ok r w') (h:K ((d,r)::kv) w'):OX P ⟨some d,.call {callee:=.builtin .copy,args:=#[x,y],argTypes:=#[T,U]},ty,pos,af,g⟩ n kv w K:=
 OX.val rfl f (by simp [known,opers,b,e]) (by simp [execOp,aJ b,aJ e,resolve,invoke,builtin,hr]) h
theorem OX.ach{r u v:Value}(f:Nat.blt d n=true) (b:ev kv x=some u) (e:ev kv y=some v) (hr:(Builtin.unsafeString_ #[T,U] ty #[u,v]).run P w=.ok r w') (h:K ((d,r)::kv) w'):OX P ⟨some d,.call {callee:=.builtin .unsafeString,args:=#[x,y],argTypes:=#[T,U]},ty,pos,af,g⟩ n kv w K:=
 OX.val rfl f (by simp [known,opers,b,e]) (by simp [execOp,aJ b,aJ e,resolve,invoke,builtin,hr]) h
end
theorem yH{P:Program}{T S e pt it ty1 ty2:TypeId}{i:TypeInfo}(hT:P.underlying T=some (.slice e)) (hi:P.info? e=some i) (f:i.zero=some (.int .u8 0)) (h1:i.size=1) (hb:i.bytes=1) (q:P.underlying pt=some (.pointer e)) {s:ByteArray}(h0:s.size≠0) (J:s.size≤1000) (w:World) :
  ∃w1 w2 w3:World,(Instr.makeSlice T (.int .i64 (s.size:Int)) (.int .i64 (s.size:Int))).run P w=.ok (.slice (some ⟨w.heap.size,0,none⟩) s.size s.size) w1∧
   (Builtin.copy_ #[T,S] ty1 #[.slice (some ⟨w.heap.size,0,none⟩) s.size s.size,.string s]).run P w1=.ok (goInt s.size) w2∧
   (Builtin.unsafeString_ #[pt,it] ty2 #[.pointer (some ⟨w.heap.size,0,none⟩),.int .i64 (s.size:Int)]).run P w2=.ok (.string s) w3∧aS [] w w3:=by
 have r:(P.info? e).map (·.size)=some 1:=by rw [hi];simp [h1]
 have t:P.cellsOf e=1:=by simp [Program.cellsOf,hi,h1]
 have L:(Lib.byteCells s.data.toList).length=s.size:=by rw [Lib.byteCells_length,← Lib.size_eq]
 have b:=run_make (P:=P) w T e i (.int .u8 0) hT hi f .i64 .i64 (s.size:Int) (s.size:Int) (by omega) (by omega) (by rw [hb];omega) (by omega)
 have u:(madeCells (Value.int .u8 0).cells (((s.size:Nat):Int).toNat*i.size)).size=s.size:=by rw [size_madeCells,h1];simp
 generalize madeCells (Value.int .u8 0).cells (((s.size:Nat):Int).toNat*i.size)=M at b u
 rw [Int.toNat_natCast] at b;have m:=Lib.run_copy_row_string (P:=P) (w.alloc (.cells M e)) T S ty1 e w.heap.size 0 s.size s.size s M e hT r (heap_alloc_new w _) (Nat.le_refl _) (by omega)
 have F:(M.toList.take 0++Lib.byteCells s.data.toList++M.toList.drop (0+s.size)).toArray=(Lib.byteCells s.data.toList).toArray:=by grind
 rw [F] at m;have G:((w.alloc (.cells M e)).setRow w.heap.size (Lib.byteCells s.data.toList).toArray).heap[w.heap.size]?=some (.cells (Lib.byteCells s.data.toList).toArray e (0,0)):=setRow_heap _ _ M _ e (0,0) (heap_alloc_new w _);have H:s.data.toList≠[]:=fun h=>h0 (by rw [Lib.size_eq,h];rfl);have o:=Lib.run_unsafeString_row (P:=P) ((w.alloc (.cells M e)).setRow w.heap.size (Lib.byteCells s.data.toList).toArray) pt it ty2 e q t w.heap.size s.size (by grind [World.shape?]) s.data.toList H (by rw [← Lib.size_eq];omega) (by rw [← Lib.size_eq];omega)
  (fun j z f=>Lib.cells_of_row G s.size j _ (by grind [Lib.byteCells]))
 rw [← Lib.size_eq] at o;have I:RowKit.Below w.heap.size (w.alloc (.cells M e)) ((w.alloc (.cells M e)).setRow w.heap.size (Lib.byteCells s.data.toList).toArray):=⟨rfl,rfl,rfl,by simp [World.setRow],fun k hk=>setRow_other _ _ _ _ (by omega)⟩;refine⟨_,_,_,b,m,o,aS.Bo (Lib.below_freeze (((RowKit.Below.refl _ w).alloc (Nat.le_refl _) _).trans I) (p:=⟨w.heap.size,0,none⟩) (Nat.le_refl _) _) ?_⟩;rw [pX];exact Nat.le_refl _
end Go.Rc

namespace Go.Rc
open Go
instance:Inhabited cv:=⟨⟨eU,⟨#[]⟩,0⟩⟩
def cy.row(x:cy) (a1:Option Addr) (n1 c1:Nat) (a2:Option Addr) (n2 c2:Nat):List Value:=[.int .i64 x.ad,.slice a1 n1 c1,.slice a2 n2 c2]
def ia(rev:Int) (l:List cv) (i:Nat):Bool:=
 !fN l[i]!.key || (!ay l[i]!.key || ((decide (0<(i:Int)) && decide (0≤bA l[i - 1]!.key l[i]!.key)) || (decide (1073741824<(l[i]!.value.size:Int)) || (decide (l[i]!.changed<0) || decide (rev<l[i]!.changed)))))
def yI(rev:Int) (l:List cv):Prop:=∀i y,l[i]?=some y→ia rev l i=false
open Classical in
noncomputable def pY(l:List Rec):Bool:=decide (mX l)
theorem DZ{l:List Rec}{b:Bool}(h:b=true↔mX l):b=pY l:=by
 unfold pY
 grind
def gU(x:cy):Prop:=yI x.ad x.ab∧(∀(i:Nat) (r:Rec),x.ah[i]?=some r→r.av≤x.ad)∧0≤x.ad∧x.ad≤1073741824∧x.ab.length≤64∧mX x.ah
noncomputable def lU(x:cy):Bool:=decide (0≤x.ad) && (decide (x.ad≤1073741824) && (decide ((x.ab.length:Int)≤64) && pY x.ah))
theorem sy(x:cy):lU x=true↔0≤x.ad∧x.ad≤1073741824∧x.ab.length≤64∧mX x.ah:=by
 simp only [lU,pY,Bool.and_eq_true,decide_eq_true_eq]
 grind
theorem PV.um{P:Program}{kv:KV}{w:World}{T ty:TypeId}{f off:Nat}{fs:List Field}{fd:Field}(hu:P.underlying T=some (.struct fs.toArray)) (b:fs[f]?=some fd) (e:fd.offset=off) (h1:∀w,(isAgg fd.type).run P w=.ok false w)
  {x:Operand}{us:List Value}{v:Value}(h:ev kv x=some (.agg us.toArray)) (i:nth us off=some v):PV P (.field T x f) ty kv w v:=
 PV.LV hu (by simpa using b) e h1 h (by rw [← tU];exact i)
end Go.Rc
namespace Go.Rc
open Go
def cX(k:Key):Prop:=k.kind<1∨22<k.kind
def aH(aa:List aG) (k:Key) (ae:List ByteArray):yz:=if k.kind=31∨k.kind=32 then cq aa k ae else ⟨true,⟨#[]⟩,eU⟩
def tL(n:Int):ByteArray:=if n=14 then ⟨#[48]⟩ else ⟨#[]⟩
def oW(k:Key):ByteArray:=if k.kind=32 then ⟨#[48]⟩ else if ax k then tL k.kind else ⟨#[]⟩
def gM(aa:List aG) (k:Key):Bool:=fN k && ((decide (k.kind≠31) && decide (k.kind≠32)) || decide (aM aa (number k)=k))
def aC(l:List Rec) (k:Key):Rec:=(az l k).getD mW
def bU(l:List Rec) (rev:Int) (k:Key):Bool:=(az l k).isSome && (ax k && (decide ((aC l k).av<rev) && !(aC l k).bu))
def eL(x:cy) (k:Key):Bool:=ay k || ((az x.ah k).isSome && decide ((aC x.ah k).av=x.ad))
def im(x:cy) (k:Key):ByteArray:=if ay k then (bw x.ab k).value else if eL x k then (aC x.ah k).value else ⟨#[]⟩
def bJ(x:cy) (k:Key) (v:ByteArray) (reads:List Key):Rec:=
 ⟨k,v,reads,if (az x.ah k).isSome && decide ((aC x.ah k).value=v) then (aC x.ah k).changed else x.ad,x.ad,1+(reads.length:Int),false⟩
end Go.Rc
namespace Go.Rc
open Go
open Classical in
noncomputable def gB(aa:List aG) (x:cy) (goals:List Key):Int:=
 if ¬aq aa then 41 else if ¬gU x then 42 else if 32<goals.length then 3 else if goals.all (gM aa) then 0 else 40
end Go.Rc
namespace Go.Rc
open Go
structure od where
 dP:Key
 read:Key
 deriving DecidableEq
def od.cells(x:od):List Value:=[.int .i64 x.dP.kind,.string x.dP.text,.int .i64 x.read.kind,.string x.read.text]
def cY(group:List Key) (m:Key) (l:List Key):List od:=(l.filter fun x=>!decide (x∈group)).map fun x=>⟨m,x⟩
def bT(l:List Rec) (group:List Key):List od:=group.flatMap fun m=>cY group m (aC l m).reads
theorem jk{group:List Key}{m:Key}{l:List Key}{j:Nat}(h:j<l.length):cY group m (l.take (j+1))=if l[j]∈group then cY group m (l.take j) else cY group m (l.take j)++[⟨m,l[j]⟩]:=by
 rw [List.take_succ_eq_append_getElem h];simp only [cY,List.filter_append,List.map_append]
 grind
theorem jU(group:List Key) (m:Key) (l:List Key):(cY group m l).length≤l.length:=by grind [cY]
end Go.Rc
namespace Go.Rc
end Go.Rc

namespace Go.Rc
open Go
variable {E EK ER EI ES EF base:Nat}{w w':World}{a:Option Addr}{n c:Nat}{S:List Nat}
structure bm where
 key:Key
 running:Bool
 at_:Int
 reads:List Key
 ae:List ByteArray
 deriving DecidableEq
def bm.row(x:bm) (a1:Option Addr) (n1 c1:Nat) (a2:Option Addr) (n2 c2:Nat):List Value:=[.int .i64 x.key.kind,.string x.key.text,.bool x.running,.int .i64 x.at_,.slice a1 n1 c1,.slice a2 n2 c2]
/-! the plain meaning -/
def fY(l:List bm) (k:Key):Bool:=l.any fun f=>decide (f.key=k)
def cE(x:cy) (l:List bm) (k:Key):Bool:=!(ay k || fY l k) && (!(az x.ah k).isSome || decide ((aC x.ah k).av≠x.ad))
def bG(x:cy) (l others:List bm) (k:Key):Int:=
 if !ax k && fY l k then 3 else if !cE x l k then 0 else if !fY others k then 1 else if ax k then 0 else 2
end Go.Rc
namespace Go.Rc
open Go
variable {EA ERu:Nat}{w w':World}{a:Option Addr}{n c base:Nat}{S:List Nat}
def aG.row(x:aG) (a:Option Addr) (n c:Nat):List Value:=[.bool x.ring,.slice a n c,.int .i64 x.final,.int .i64 x.c]
theorem aG.one(x:aG) (a:Option Addr) (n c:Nat):∀u∈x.row a n c,u.oneCell'=true:=by simp [aG.row,Value.oneCell']
end Go.Rc

namespace Go.Rc
open Go
def RR.key:RR Key:=RR.flat Key.cells
def RR.str:RR ByteArray:=RR.flat fun s=>[.string s]
def RR.ask:RR Ask:=RR.flat Ask.cells
def RR.aD:RR cv:=RR.flat cv.cells
def RR.Ds:RR od:=RR.flat od.cells
def RR.int:RR Int:=RR.flat fun n=>[.int .i64 n]
def RR.eT:RR aG where
 r Z w x row:=Bb Z w x row
 mono hZ h:=by obtain⟨a,n,c,h1,h2⟩:=h;exact⟨a,n,c,h1,h2.mono (fun b hb _=>hZ b hb) fun _ _ h=>h⟩
 st hs hc h:=by obtain⟨a,n,c,h1,h2⟩:=h;exact⟨a,n,c,h1,SR.st hs hc (fun _ _ h=>h) h2⟩
 cut h:=by obtain⟨a,n,c,h1,h2⟩:=h;exact⟨a,n,c,h1,h2.mono (fun b hb AB=>⟨hb,AB⟩) fun _ _ h=>h⟩
def RR.dV:RR Rec where
 r Z w x row:=∃a n c,row=x.row a n c∧Rd RR.key 2 Z w a n c x.reads∧x.reads.length≤4000
 mono hZ h:=by obtain⟨a,n,c,h1,h2,h3⟩:=h;exact⟨a,n,c,h1,h2.mono hZ,h3⟩
 st hs hc h:=by obtain⟨a,n,c,h1,h2,h3⟩:=h;exact⟨a,n,c,h1,h2.st hs hc,h3⟩
 cut h:=by grind [Rd.cut]
def RR.mB:RR bm where
 r Z w x row:=∃a1 n1 c1 a2 n2 c2,row=x.row a1 n1 c1 a2 n2 c2∧Rd RR.key 2 Z w a1 n1 c1 x.reads∧Rd RR.str 1 Z w a2 n2 c2 x.ae∧x.reads.length≤4000∧x.ae.length≤4000
 mono hZ h:=by obtain⟨a,n,c,a2,n2,c2,h1,h2,h3,h4⟩:=h;exact⟨a,n,c,a2,n2,c2,h1,h2.mono hZ,h3.mono hZ,h4⟩
 st hs hc h:=by obtain⟨a,n,c,a2,n2,c2,h1,h2,h3,h4⟩:=h;exact⟨a,n,c,a2,n2,c2,h1,h2.st hs hc,h3.st hs hc,h4⟩
 cut h:=by grind [Rd.cut]
end Go.Rc

namespace Go.Rc
open Go
/-! ### numbers and their texts -/
theorem uo:∀(u:Nat) (n:Nat) (rest:List UInt8),decFrom (Lib.decDigits u++rest) (n:Int)=decFrom rest ((n*10 ^ Lib.nDigits u+u:Nat):Int):=by
 intro u
 induction u using Nat.strongRecOn with
 | _ u b=>
  intro n rest
  by_cases h:u<10
  ·
   rw [Lib.decDigits_one h,Lib.nDigits_small h]
   have e:(UInt8.ofNat (48+u)).toNat=48+u:=by rw [UInt8.toNat_ofNat'];omega
   simp only [List.cons_append,List.nil_append,decFrom,e]
   grind
  rw [Lib.decDigits,dif_neg h,Lib.nDigits_big h,List.append_assoc,b (u / 10) (by omega)]
  have e:(UInt8.ofNat (48+u % 10)).toNat=48+u % 10:=by rw [UInt8.toNat_ofNat'];omega
  simp only [List.cons_append,List.nil_append,decFrom,e]
  grind
theorem uq:∀u:Nat,∃d r,Lib.decDigits u=d::r∧(0<u→d≠48):=by
 intro u
 induction u using Nat.strongRecOn with
 | _ u b=>
  by_cases h:u<10
  ·
   refine⟨_,[],Lib.decDigits_one h,fun hu e=>?_⟩
   have:=congrArg UInt8.toNat e
   rw [UInt8.toNat_ofNat'] at this
   grind
  obtain⟨d,r,h1,f⟩:=b (u / 10) (by omega);exact⟨d,r++[UInt8.ofNat (48+u % 10)],by rw [Lib.decDigits,dif_neg h,h1];rfl,fun _=>f (by omega)⟩
theorem ur:∀(k u:Nat),u<10 ^ (k+1)→Lib.nDigits u≤k+1
 | 0,u,h=>by grind [Lib.nDigits_small]
 | k+1,u,h=>by
  by_cases h1:u<10
  ·
   rw [Lib.nDigits_small h1];omega
  rw [Lib.nDigits_big h1]
  have:=ur k (u / 10) (by rw [Nat.pow_succ] at h;omega)
  omega
theorem jV{n:Nat}(h:n<1000000000):dN (itoa (n:Int))=n:=by
 have e:Lib.itoa (n:Int)=Lib.decDigits n:=by unfold Lib.itoa;rw [if_neg (by omega)];rfl
 have hl:(Lib.decDigits n).length≤9:=by rw [Lib.decDigits_length];exact ur 8 n h
 have o:1≤(Lib.decDigits n).length:=by grind [Lib.decDigits_length,Lib.nDigits_pos]
 have f:(itoa (n:Int)).size=(Lib.decDigits n).length:=by grind [itoa,ByteArray.size]
 have b:(itoa (n:Int)).data.toList=Lib.decDigits n:=by unfold itoa;rw [e]
 unfold dN
 rw [if_neg]
 ·
  rw [b,← List.append_nil (Lib.decDigits n)]
  have:=uo n 0 []
  simp only [Nat.zero_mul,Nat.zero_add] at this;exact this
 rw [f,b];rintro(h1 | h1 | ⟨h1,p⟩)
 ·
  omega
 ·
  omega
 obtain⟨d,r,i,m⟩:=uq n;rw [i] at h1
 simp at h1
 by_cases h0:0<n
 ·
  exact m h0 h1
 grind [Lib.decDigits_one]
theorem fk{n:Nat}(h:n≤65535):cB (itoa (n:Int))=n:=by
 unfold cB
 rw [jV (by omega),if_neg (by omega)]
 rfl
theorem Bp{m n:Nat}(hm:m<1000000000) (hn:n<1000000000) (h:itoa (m:Int)=itoa (n:Int)):m=n:=by grind [jV]
/-! ### keys -/
theorem cz{aa:List aG}{i:Nat}(hi:i<aa.length) (jl:i≤99):number (aM aa (i:Int))=i:=by
 have hk:aM aa (i:Int)=⟨if aF aa i then 32 else 31,itoa i⟩:=by unfold aM;rw [if_neg (by omega)];rfl
 rw [hk]
 unfold number
 simp only
 rw [jV (by omega),if_pos]
 split <;> omega
theorem eF{aa:List aG}{i:Nat}(hi:i<aa.length) (jl:i≤99):(aM aa (i:Int)).kind=if aF aa i then 32 else 31:=by
 unfold aM;rw [if_neg (by omega)];rfl
theorem dr{aa:List aG}{i:Nat}(hi:i<aa.length) (jl:i≤99):ay (aM aa (i:Int))=false:=by grind [ay,eF]
theorem bB{n:Nat}(h:n≤99):ay (cD (n:Int))=true:=by
 unfold ay cD;rw [if_neg (by omega)];simp
theorem bE{aa:List aG}{i:Nat}(hi:i<aa.length) (jl:i≤99):ax (aM aa (i:Int))=aF aa i:=by grind [ax,eF]
theorem kb{n:Nat}(h:n≤99):ax (cD (n:Int))=false:=by
 unfold ax cD;rw [if_neg (by omega)];simp
inductive eG (aa:List aG):Key→Prop where
 | cell {n:Nat}(h:n≤99):eG aa (cD (n:Int))
 | eT {i:Nat}(h:i<aa.length) (jl:i≤99):eG aa (aM aa (i:Int))
/-! ### values -/
def cellOf(aD:List cv) (k:Key):ByteArray:=(bw aD k).value
def dW(turn:List ByteArray→yz) (gF:Key→ByteArray):Nat→List Key × List ByteArray
 | 0=>([],[])
 | n+1=>((dW turn gF n).1++[(turn (dW turn gF n).2).ask],(dW turn gF n).2++[gF (turn (dW turn gF n).2).ask])
def Jc(aD:List cv) (prev:List ByteArray) (k:Key):ByteArray:=if ay k then cellOf aD k else prev.getD (number k).toNat ⟨#[]⟩
def cN(aa:List aG) (i:Nat):Nat:=(aa[i]?.map (·.asks.length)).getD 0
def bP(aa:List aG) (x:Ask):Key:=if x.cell then cD x.n else aM aa x.n
def fM(aa:List aG) (i j:Nat):Prop:=∃r x,aa[i]?=some r∧r.ring=true∧x∈r.asks∧x.cell=false∧x.n=(j:Int)∧aF aa j=true
inductive cV (aa:List aG) (i:Nat):Nat→Prop where
 | refl:cV aa i i
 | step {j k:Nat}:cV aa i j→fM aa j k→cV aa i k
def outside(aa:List aG) (x:Ask):Bool:=x.cell || !aF aa x.n.toNat
def kJ(aa:List aG) (gF:Key→ByteArray) (j:Nat):Nat:=
 match aa[j]? with
 | some r=>fe r.c.toNat ((r.asks.filter (outside aa)).map fun x=>cB (gF (bP aa x)))
 | none=>0
open Classical in
noncomputable def ofBits(P:Nat→Prop):Nat→Nat
 | 0=>0
 | n+1=>ofBits P n ||| (if P n then 2 ^ n else 0)
theorem G5(P:Nat→Prop):∀n,ofBits P n<2 ^ n:=by
 intro n
 induction n with
 | zero=>simp [ofBits]
 | succ n b=>
  unfold ofBits
  refine Nat.or_lt_two_pow (Nat.lt_of_lt_of_le b (Nat.pow_le_pow_right (by omega) (by omega))) ?_
  grind
theorem D0(P:Nat→Prop):∀n b,(ofBits P n).testBit b=true↔b<n∧P b:=by
 intro n
 induction n with
 | zero=>intro b;simp [ofBits]
 | succ n e=>
  intro b
  unfold ofBits
  grind
noncomputable def uu(aa:List aG) (gF:Key→ByteArray) (i:Nat):Nat:=ofBits (fun b=>∃j,cV aa i j∧(kJ aa gF j).testBit b=true) 16
noncomputable def pZ(aa:List aG) (aD:List cv) (prev:List ByteArray) (i:Nat):ByteArray:=
 if aF aa i then itoa (uu aa (Jc aD prev) i:Int)
 else (cq aa (aM aa (i:Int)) (dW (cq aa (aM aa (i:Int))) (Jc aD prev) (cN aa i)).2).value
noncomputable def br(aa:List aG) (aD:List cv):Nat→List ByteArray
 | 0=>[]
 | n+1=>br aa aD n++[pZ aa aD (br aa aD n) n]
noncomputable def ts(aa:List aG) (aD:List cv) (i:Nat):ByteArray:=pZ aa aD (br aa aD i) i
noncomputable def valOf(aa:List aG) (aD:List cv) (k:Key):ByteArray:=if ay k then cellOf aD k else ts aa aD (number k).toNat
section
variable {aa:List aG}{aD:List cv}
theorem Jd:∀n,(br aa aD n).length=n:=by
 intro n;induction n with
 | zero=>rfl
 | succ n b=>simp [br,b]
theorem Je:∀n m,m<n→(br aa aD n).getD m ⟨#[]⟩=ts aa aD m:=by
 intro n
 induction n with
 | zero=>intro m h;omega
 | succ n b=>grind [br,Jd,ts]
theorem xu{n:Nat}{k:Key}(h:ay k=true∨(number k).toNat<n):Jc aD (br aa aD n) k=valOf aa aD k:=by
 unfold Jc valOf
 by_cases hi:ay k=true
 ·
  rw [if_pos hi,if_pos hi]
 rw [if_neg hi,if_neg hi,Je]
 grind
theorem gx(turn:List ByteArray→yz) (gF:Key→ByteArray):∀n,(dW turn gF n).1.length=n∧(dW turn gF n).2.length=n:=by
 intro n;induction n with
 | zero=>simp [dW]
 | succ n b=>simp [dW,b.1,b.2]
theorem uv{turn:List ByteArray→yz}{gF b:Key→ByteArray}:∀n,(∀m,m<n→gF (turn (dW turn gF m).2).ask=b (turn (dW turn gF m).2).ask)→dW turn gF n=dW turn b n:=by
 intro n
 induction n with
 | zero=>intro _;rfl
 | succ n e=>grind [dW]
end
/-! ### what valid rules ask for -/
section
variable {aa:List aG}{aD:List cv}
theorem gi(l:List aG):∀k,bD l k≤k:=by
 intro k;induction k with
 | zero=>simp [bD]
 | succ k b=>unfold bD;split <;> omega
theorem xv(l:List aG) {m:Nat}(h:m≤l.length):dJ l m≤l.length:=by grind [dJ,List.takeWhile_sublist]
theorem Bq{i:Nat}(hi:i<aa.length):block aa (i:Int)=if aF aa i then ((bD aa i:Int),(dJ aa (i+1):Int)) else ((i:Int),(i:Int)+1):=by
 unfold block;rw [if_neg (by omega)];rfl
theorem oX{i j:Nat}(hi:aF aa i=true) (h1:bD aa i≤j) (e:j<dJ aa (i+1)):aF aa j=true:=by
 have f:∀k,bD aa k≤j→j<k→aF aa j=true:=by
  intro k
  induction k with
  | zero=>intro _ h;omega
  | succ k t=>
   intro o u
   unfold bD at o
   grind
 rcases Nat.lt_trichotomy j i with h | h | h
 ·
  exact f i h1 h
 ·
  rw [h];exact hi
 have key:∀(l:List aG) (m j:Nat),m≤j→j<m+((l.drop m).takeWhile (·.ring)).length→aF l j=true:=by
  intro l m j hm z
  have b:j - m<((l.drop m).takeWhile (·.ring)).length:=by omega
  have q:=List.getElem_mem b;have hr:=List.all_eq_true.1 (List.all_takeWhile (p:=fun x:aG=>x.ring) (l:=l.drop m)) _ q;have r:((l.drop m).takeWhile (·.ring)) <+: l.drop m:=List.takeWhile_prefix _;have F:=r.getElem b
  grind [bW]
 exact key aa (i+1) j (by omega) e
theorem lF{i:Nat}(hi:i<aa.length) (hlen:aa.length≤24) {c:Bool}{n:Int}(h:gw aa i c n=true) :
  ∃m:Nat,n=m∧if c then m≤15 else m<aa.length∧(aF aa m=true∧aF aa i=true∨m<i)∧(aF aa i=false→m<i)∧(aF aa m=false→m<i):=by
 unfold gw at h
 cases c
 ·
  simp only [Bool.false_eq_true,if_false,Bool.and_eq_true,decide_eq_true_eq] at h ⊢;obtain⟨m,rfl⟩:∃m:Nat,n=m:=⟨n.toNat,by omega⟩;refine⟨m,rfl,?_⟩;have b:=h.2
  unfold fE at b
  rw [Bq hi] at b
  by_cases hr:aF aa i=true
  ·
   rw [if_pos hr] at b;simp only [hr,if_true] at b
   have f:m<dJ aa (i+1):=by omega
   have o:=xv aa (show i+1≤aa.length by omega);refine⟨by omega,?_,(fun h=>by rw [hr] at h;cases h),?_⟩
   ·
    by_cases e:m<i
    ·
     exact .inr e
    grind [oX,gi]
   grind [oX,gi]
  grind
 simp only [if_true,Bool.and_eq_true,decide_eq_true_eq] at h ⊢;exact⟨n.toNat,by omega,by omega⟩
end
end Go.Rc

namespace Go.Rc
open Go
section
variable {aa:List aG}{aD:List cv}
theorem aq.len(h:aq aa):aa.length≤24:=h.1
theorem aq.at(h:aq aa) {i:Nat}(hi:i<aa.length):lP aa i aa[i]:=h.2 i _ (ak hi)
theorem eH{i:Nat}(hi:i<aa.length):cN aa i=aa[i].asks.length:=by grind [cN]
theorem D1{m lo:Nat}(h1:lo≤m) (h:∀j,lo≤j→j<m→aF aa j=true):bD aa m≤lo:=by
 induction m with
 | zero=>simp [bD]
 | succ m b=>
  by_cases e:lo=m+1
  ·
   rw [e];exact gi _ _
  unfold bD
  grind
theorem qa(_hR:aq aa) {i:Nat}(hi:i<aa.length) (hr:aF aa i=true) {m:Nat}(h:gw aa i false (m:Int)=true) :
  m<aa.length∧(aF aa m=true→bD aa m≤bD aa i)∧(aF aa m=false→m<bD aa i):=by
 unfold gw at h
 simp only [Bool.false_eq_true,if_false,Bool.and_eq_true,decide_eq_true_eq] at h;have b:=h.2
 unfold fE at b
 rw [Bq hi,if_pos hr] at b;simp only [hr,if_true] at b
 grind [xv,D1,oX]
def eW(aa:List aG) (i:Nat) (k:Key):Prop:=
 (∃n:Nat,n≤15∧k=cD (n:Int))∨
 (∃m:Nat,m<aa.length∧k=aM aa (m:Int)∧(aF aa m=true∧aF aa i=true∨m<i)∧(aF aa i=false→m<i)∧(aF aa m=false→m<i)∧(aF aa m=false→aF aa i=true→m<bD aa i))
theorem F5(e:aq aa) {i:Nat}(hi:i<aa.length) {c:Bool}{n:Int}(h:gw aa i c n=true):eW aa i (if c then cD n else aM aa n):=by
 obtain⟨m,rfl,b⟩:=lF hi e.len h
 cases c
 ·
  exact .inr ⟨m,b.1,rfl,b.2.1,b.2.2.1,b.2.2.2,fun f o=>(qa e hi o h).2.2 f⟩
 exact .inl ⟨m,b,rfl⟩
theorem eW.Jf(b:aq aa) {i:Nat}{k:Key}(h:eW aa i k):eG aa k:=by
 have:=b.len
 rcases h with⟨n,h1,rfl⟩ | ⟨m,h1,rfl,_⟩
 ·
  exact .cell (by omega)
 exact .eT h1 (by omega)
theorem QE(e:aq aa) {i n:Nat}(hi:i<aa.length) (hn:n<aa[i].asks.length) (ae:List ByteArray) (hl:ae.length=n) :
  eW aa i (if aa[i].asks[n].cell then cD (oU aa[i].asks[n] ae) else aM aa (oU aa[i].asks[n] ae)):=by
 obtain⟨_,h,_⟩:=e.at hi;have b:=h n _ (ak hn)
 unfold fq at b
 rw [Bool.and_eq_true] at b
 unfold oU
 by_cases f:fo aa[i].asks[n] ae=true
 ·
  rw [if_pos f]
  have m:aa[i].asks[n].pick=true:=by grind [fo]
  rw [m] at b;simp only [if_true,Bool.and_eq_true] at b;exact F5 e hi b.2.2
 rw [if_neg f];exact F5 e hi b.1
theorem eh(b:aq aa) {i:Nat}(hi:i<aa.length) {ae:List ByteArray}(hn:ae.length<cN aa i) :
  ∃a,cq aa (aM aa (i:Int)) ae=⟨false,⟨#[]⟩,a⟩∧eW aa i a∧(aF aa i=true→∃x,aa[i].asks[ae.length]?=some x∧a=bP aa x):=by
 have h:=b.len;rw [eH hi] at hn;have hk:=cz hi (by omega:i≤99);refine⟨_,i6 hk hi (by rw [hk]) hn,QE b hi hn ae rfl,fun hr=>⟨_,ak hn,?_⟩⟩;obtain⟨_,f,_⟩:=b.at hi;have e:=f _ _ (ak hn)
 unfold fq at e
 rw [Bool.and_eq_true] at e
 grind [bW,bP,oU,fo]
theorem gN(b:aq aa) {i:Nat}(hi:i<aa.length) {ae:List ByteArray}(hn:ae.length=cN aa i) :
  cq aa (aM aa (i:Int)) ae=⟨true,itoa (dn aa[i].final aa[i].c.toNat (ae.map cB)),eU⟩:=by grind [aq.len,eH,cz,j5]
theorem mY(b:aq aa) {i:Nat}(hi:i<aa.length):cN aa i≤6:=by rw [eH hi];exact(b.at hi).1
theorem yJ(b:aq aa) {i:Nat}{k:Key}(h:eW aa i k) (hr:aF aa i=false∨ax k=false):ay k=true∨(number k).toNat<i:=by
 have e:=b.len
 rcases h with⟨n,h1,rfl⟩ | ⟨m,h1,rfl,f,o,p,_⟩
 ·
  grind [bB]
 grind [cz,bE]
theorem G6(b:aq aa) {i:Nat}(hi:i<aa.length) (hr:aF aa i=false) :
  cq aa (aM aa (i:Int)) (dW (cq aa (aM aa (i:Int))) (valOf aa aD) (cN aa i)).2=⟨true,ts aa aD i,eU⟩:=by
 have h:ts aa aD i=(cq aa (aM aa (i:Int)) (dW (cq aa (aM aa (i:Int))) (valOf aa aD) (cN aa i)).2).value:=by
  unfold ts pZ
  rw [if_neg (by simp [hr])]
  grind [uv,eh,gx,xu,yJ]
 grind [gN,gx]
/-! rings -/
theorem j6(b:aq aa) {i:Nat}(hi:i<aa.length) (_hr:aF aa i=true) {x:Ask}(e:x∈aa[i].asks):gw aa i x.cell x.n=true:=by
 obtain⟨k,hk,rfl⟩:=List.mem_iff_getElem.1 e
 have:=(b.at hi).2.1 k _ (ak hk)
 unfold fq at this
 grind
theorem fM.lt{i j:Nat}(h:fM aa i j):i<aa.length∧j<aa.length∧aF aa i=true∧aF aa j=true:=by
 obtain⟨r,x,h1,b,_,_,_,e⟩:=h
 grind [lN,bW]
theorem i7{i j:Nat}(hi:i<aa.length) (hr:aF aa i=true) (h:cV aa i j):j<aa.length∧aF aa j=true:=by
 induction h with
 | refl=>exact⟨hi,hr⟩
 | step _ b _=>exact⟨b.lt.2.1,b.lt.2.2.2⟩
theorem kc(e:aq aa) {i j:Nat}(h:cV aa i j):bD aa j≤bD aa i:=by
 induction h with
 | refl=>exact Nat.le_refl _
 | step h1 b f=>
  have hl:=b.lt;obtain⟨r,x,m,o,p,q,t,u⟩:=b
  grind [j6,qa]
theorem cV.head{i j k:Nat}(h:fM aa i j) (b:cV aa j k):cV aa i k:=by
 induction b with
 | refl=>exact .step .refl h
 | step _ e f=>exact .step f e
theorem cV.cases{i k:Nat}(h:cV aa i k):k=i∨∃j,fM aa i j∧cV aa j k:=by
 induction h with
 | refl=>exact .inl rfl
 | step h1 b e=>
  right
  rcases e with rfl | ⟨j,f,m⟩
  ·
   exact⟨_,b,.refl⟩
  exact⟨j,f,.step m b⟩
theorem lG:∀(l:List Nat) (c b:Nat),(fe c l).testBit b=true↔c.testBit b=true∨∃x∈l,x.testBit b=true:=by
 intro l
 induction l with
 | nil=>intro c b;simp [fe]
 | cons x r e=>
  intro c b
  have:=e (c ||| x) b
  simp only [fe,List.foldl_cons] at this ⊢
  grind
theorem uw(b:aq aa) {i:Nat}(hi:i<aa.length) (hr:aF aa i=true):aa[i].final=5∧aa[i].c.toNat≤65535:=by
 have h:=(b.at hi).2.2
 grind [gZ,bW]
theorem xw{n b:Nat}(h:n≤65535) (hb:n.testBit b=true):b<16:=by
 rcases Nat.lt_or_ge b 16 with h1 | h1
 ·
  exact h1
 have:=Nat.ge_two_pow_of_testBit hb
 have e:2 ^ 16≤2 ^ b:=Nat.pow_le_pow_right (by omega) h1
 omega
theorem fl{gF:Key→ByteArray}{i:Nat}(hi:i<aa.length) (b:Nat) :
  (kJ aa gF i).testBit b=true↔aa[i].c.toNat.testBit b=true∨∃x∈aa[i].asks,outside aa x=true∧(cB (gF (bP aa x))).testBit b=true:=by
 unfold kJ
 rw [ak hi];simp only [lG,List.mem_map,List.mem_filter]
 grind
theorem Jg(e:aq aa) {gF:Key→ByteArray}{i:Nat}(hi:i<aa.length) (hr:aF aa i=true) {b:Nat}(h:(kJ aa gF i).testBit b=true):b<16:=by
 rcases(fl hi b).1 h with h1 | ⟨x,_,_,h1⟩
 ·
  exact xw (uw e hi hr).2 h1
 exact xw (kG _) h1
theorem eB(m:aq aa) {gF:Key→ByteArray}{i:Nat}(hi:i<aa.length) (hr:aF aa i=true) (b:Nat) :
  (uu aa gF i).testBit b=true↔∃j,cV aa i j∧(kJ aa gF j).testBit b=true:=by
 unfold uu
 rw [D0]
 constructor
 ·
  exact fun h=>h.2
 rintro⟨j,h1,e⟩;have f:=i7 hi hr h1;exact⟨Jg m f.1 f.2 e,j,h1,e⟩
theorem Br{gF:Key→ByteArray}(i:Nat):uu aa gF i≤65535:=by
 have:=G5 (fun b=>∃j,cV aa i j∧(kJ aa gF j).testBit b=true) 16
 unfold uu;omega
noncomputable def rv(aa:List aG) (aD:List cv) (i:Nat):Nat:=uu aa (valOf aa aD) i
theorem yK(e:aq aa) {i:Nat}(hi:i<aa.length) (hr:aF aa i=true) {x:Ask}(h:x∈aa[i].asks) (f:outside aa x=true):ay (bP aa x)=true∨(number (bP aa x)).toNat<bD aa i:=by
 have o:=e.len;have hm:=j6 e hi hr h;obtain⟨m,h1,b⟩:=lF hi e.len hm
 unfold bP
 unfold outside at f
 cases hc:x.cell
 ·
  rw [hc] at hm f b
  right
  simp only [Bool.false_eq_true,if_false] at b ⊢
  grind [cz,qa]
 left
 rw [hc] at b;simp only [if_true] at b ⊢
 grind [bB]
theorem iq(e:aq aa) {i:Nat}(hi:i<aa.length) (hr:aF aa i=true):ts aa aD i=itoa (rv aa aD i:Int):=by
 unfold ts pZ rv
 rw [if_pos hr]
 congr 2
 refine Nat.eq_of_testBit_eq fun b=>?_;rw [Bool.eq_iff_iff,eB e hi hr,eB e hi hr]
 have key:∀j,cV aa i j→((kJ aa (Jc aD (br aa aD i)) j).testBit b=true↔(kJ aa (valOf aa aD) j).testBit b=true):=by
  intro j h;have f:=i7 hi hr h;have m:=kc e h;have hle:=gi aa i;rw [fl f.1,fl f.1];refine or_congr_right (exists_congr fun x=>and_congr_right fun o=>and_congr_right fun p=>?_);rw [xu]
  grind [yK]
 grind
theorem gS(b:aq aa) {i:Nat}(hi:i<aa.length):valOf aa aD (aM aa (i:Int))=ts aa aD i:=by
 have e:=b.len
 unfold valOf
 rw [if_neg (by grind [dr]),cz hi (by omega)]
 rfl
theorem mZ{n:Nat}(h:n≤99):valOf aa aD (cD (n:Int))=cellOf aD (cD (n:Int)):=by
 unfold valOf;rw [if_pos (bB h)]
def nW(aa:List aG) (gF:Key→ByteArray) (i:Nat):List Nat:=((aa[i]?.map (·.asks)).getD []).map fun x=>cB (gF (bP aa x))
theorem G7(b:aq aa) {i:Nat}(hi:i<aa.length) (hr:aF aa i=true) (gF:Key→ByteArray):∀n,n≤aa[i].asks.length→
  dW (cq aa (aM aa (i:Int))) gF n=((aa[i].asks.take n).map (bP aa),(aa[i].asks.take n).map fun x=>gF (bP aa x)):=by
 intro n
 induction n with
 | zero=>intro _;simp [dW]
 | succ n f=>
  intro hn;have e:=f (by omega);simp only [dW]
  have hlen:((aa[i].asks.take n).map fun x=>gF (bP aa x)).length=n:=by simp;omega
  obtain⟨a,h1,_,h⟩:=eh b hi (ae:=(aa[i].asks.take n).map fun x=>gF (bP aa x)) (by rw [hlen,eH hi];omega)
  grind [List.take_succ_eq_append_getElem]
theorem G8(b:aq aa) {i:Nat}(hi:i<aa.length) (hr:aF aa i=true) (gF:Key→ByteArray) :
  cq aa (aM aa (i:Int)) (dW (cq aa (aM aa (i:Int))) gF (cN aa i)).2=⟨true,itoa (fe aa[i].c.toNat (nW aa gF i):Int),eU⟩:=by
 rw [gN b hi ((gx _ _ _).2),G7 b hi hr gF _ (by rw [eH hi];exact Nat.le_refl _),(uw b hi hr).1,eH hi]
 unfold nW
 rw [ak hi];simp only [List.take_length,List.map_map,Option.map_some,Option.getD_some]
 rfl
theorem sA{gF:Key→ByteArray}{i:Nat}(hi:i<aa.length) (b:Nat) :
  (fe aa[i].c.toNat (nW aa gF i)).testBit b=true↔(kJ aa gF i).testBit b=true∨∃x∈aa[i].asks,outside aa x=false∧(cB (gF (bP aa x))).testBit b=true:=by
 rw [lG,fl hi]
 unfold nW
 grind
theorem ib(f:aq aa) {i:Nat}(hi:i<aa.length) (hr:aF aa i=true) {x:Ask}(h:x∈aa[i].asks) (b:outside aa x=false):∃j:Nat,fM aa i j∧bP aa x=aM aa (j:Int)∧j<aa.length:=by
 have hm:=j6 f hi hr h
 unfold outside at b
 rw [Bool.or_eq_false_iff] at b;obtain⟨m,h1,e⟩:=lF hi f.len hm;rw [b.1] at e;simp only [Bool.false_eq_true,if_false] at e
 have o:aF aa m=true:=by grind
 refine⟨m,⟨_,x,ak hi,by rw [← bW hi];exact hr,h,b.1,h1,o⟩,?_,e.1⟩
 grind [bP]
theorem oY{i j:Nat}(hi:i<aa.length) (h:fM aa i j):∃x∈aa[i].asks,outside aa x=false∧bP aa x=aM aa (j:Int):=by
 obtain⟨r,x,h1,_,b,e,f,m⟩:=h
 grind [outside,bP]
theorem QF(f:aq aa) {i:Nat}(hi:i<aa.length) (hr:aF aa i=true):fe aa[i].c.toNat (nW aa (valOf aa aD) i)=rv aa aD i:=by
 refine Nat.eq_of_testBit_eq fun b=>?_;rw [Bool.eq_iff_iff,sA hi]
 unfold rv
 rw [eB f hi hr]
 have t:∀j,j<aa.length→aF aa j=true→cB (valOf aa aD (aM aa (j:Int)))=uu aa (valOf aa aD) j:=fun j u z=>by
  rw [gS f u,iq f u z];exact fk (Br j)
 constructor
 ·
  rintro(h | ⟨x,h1,o,e⟩)
  ·
   exact⟨i,.refl,h⟩
  obtain⟨j,m,q,p⟩:=ib f hi hr h1 o;rw [q,t j p m.lt.2.2.2,eB f p m.lt.2.2.2] at e;obtain⟨k,r,F⟩:=e;exact⟨k,.head m r,F⟩
 rintro⟨k,h1,o⟩
 rcases h1.cases with rfl | ⟨j,e,m⟩
 ·
  exact .inl o
 right
 obtain⟨x,q,p,r⟩:=oY hi e;refine⟨x,q,p,?_⟩;rw [r,t j e.lt.2.1 e.lt.2.2.2,eB f e.lt.2.1 e.lt.2.2.2];exact⟨k,m,o⟩
theorem Jh(m:aq aa) {i:Nat}(hi:i<aa.length) (hr:aF aa i=true) (v:Nat→Nat)
  (h1:∀j b,cV aa i j→(kJ aa (valOf aa aD) j).testBit b=true→(v j).testBit b=true)
  (o:∀j k b,cV aa i j→fM aa j k→(v k).testBit b=true→(v j).testBit b=true) (b:Nat) (hb:(rv aa aD i).testBit b=true):(v i).testBit b=true:=by
 unfold rv at hb
 rw [eB m hi hr] at hb;obtain⟨j,e,f⟩:=hb;have h:=h1 j b e f
 clear f
 induction e with
 | refl=>exact h
 | step p q r=>exact r (o _ _ b p q h)
theorem fF(b:aq aa) {i:Nat}(hi:i<aa.length) :
  cq aa (aM aa (i:Int)) (dW (cq aa (aM aa (i:Int))) (valOf aa aD) (cN aa i)).2=⟨true,valOf aa aD (aM aa (i:Int)),eU⟩:=by grind [gS,G6,G8,QF,iq]
end
end Go.Rc

namespace Go.Rc
open Go
structure FZ where
 p:(Nat→Prop)→World→Prop
 mono:∀{Z Z':Nat→Prop}{w},(∀x,Z x→Z' x)→p Z w→p Z' w
 st:∀{Z:Nat→Prop}{w w':World},w.heap.size≤w'.heap.size→(∀x,Z x→x<w.heap.size→w'.heap[x]?=w.heap[x]?)→p Z w→p Z w'
def FZ.rd{α:Type}(R:RR α) (k:Nat) (a:Option Addr) (n c:Nat) (xs:List α):FZ:=⟨fun Z w=>Rd R k Z w a n c xs,fun h=>Rd.mono h,fun h1 h2=>Rd.st h1 h2⟩
def FZ.and(F G:FZ):FZ:=⟨fun Z w=>F.p Z w∧G.p Z w,fun h ⟨a,b⟩=>⟨F.mono h a,G.mono h b⟩,fun h1 h2 ⟨a,b⟩=>⟨F.st h1 h2 a,G.st h1 h2 b⟩⟩
def FZ.Ij(P:Program):FZ where
 p Z w:=lq P Z w
 mono h:=fun h1=>h1.of h (Nat.le_refl _) fun _ _ _=>rfl
 st h1 h2:=fun h=>h.of (fun _ h=>h) h1 h2
def As.fz(F:FZ):As where
 fp _:=False
 ok Z w:=F.p Z w
 lt _ _ hx:=hx.elim
 mono h:=F.mono h
 st h1 h2:=F.st h1 fun x hx=>h2 x (.inr hx)
theorem As.gf{F:FZ}{Z:Nat→Prop}{w:World}(h:(As.fz F).ok Z w):F.p Z w:=h
structure SD where
 (ar a1 a2:Option Addr) (r cr n1 c1 n2 c2 m q s:Nat)
def SD.F(D:SD) (P:Program) (aa:List aG) (x:cy):FZ:=
 .and (.rd RR.eT 4 D.ar D.r D.cr aa) (.and (.rd RR.aD 4 D.a1 D.n1 D.c1 x.ab) (.and (.rd RR.dV 8 D.a2 D.n2 D.c2 x.ah) (.Ij P)))
def SD.cells(D:SD) (x:cy):List Value:=
 [.slice D.ar D.r D.cr,.int .i64 x.ad,.slice D.a1 D.n1 D.c1,.slice D.a2 D.n2 D.c2,.map (some D.m),.map (some D.q)]
section
variable {D:SD}{P:Program}{aa:List aG}{x:cy}{Z:Nat→Prop}{w:World}
theorem SD.hu(h:(D.F P aa x).p Z w):Rd RR.eT 4 Z w D.ar D.r D.cr aa:=h.1
theorem SD.hi(h:(D.F P aa x).p Z w):Rd RR.aD 4 Z w D.a1 D.n1 D.c1 x.ab:=h.2.1
theorem SD.hr(h:(D.F P aa x).p Z w):Rd RR.dV 8 Z w D.a2 D.n2 D.c2 x.ah:=h.2.2.1
theorem SD.ht(h:(D.F P aa x).p Z w):lq P Z w:=h.2.2.2
end
def aU(aa:List aG) (aD:List cv) (ml:List (Key × Value)):Prop:=∀k v,bC ml k=some v→v=.string (valOf aa aD k)
section
variable {aa:List aG}{aD:List cv}
theorem aU.nil:aU aa aD []:=fun k v h=>by simp [bC] at h
theorem aU.put{ml:List (Key × Value)}(h:aU aa aD ml) (k:Key):aU aa aD (cJ ml k (.string (valOf aa aD k))):=fun k' v b=>by
 rw [ee] at b
 split at b
 ·
  grind
 exact h k' v b
def eX(m n:Nat):Prop:=∀b,m.testBit b=true→n.testBit b=true
theorem eX.le{m n:Nat}(h:eX m n):m≤n:=by
 have e:m ||| n=n:=Nat.eq_of_testBit_eq fun b=>by
  rw [Nat.testBit_or]
  cases hm:m.testBit b
  ·
   simp
  simp [h b hm]
 rw [← e];exact Nat.left_le_or
noncomputable def L7(aa:List aG) (aD:List cv) (v:Nat→Nat) (k:Key):ByteArray:=if ax k then itoa (v (number k).toNat:Int) else valOf aa aD k
noncomputable def FF(aa:List aG) (aD:List cv) (v:Nat→Nat) (j:Nat):Nat:=fe ((aa[j]?.map (·.c.toNat)).getD 0) (nW aa (L7 aa aD v) j)
theorem ja(e:aq aa) {i:Nat}(hi:i<aa.length) (hr:aF aa i=true) {x:Ask}(h:x∈aa[i].asks) (f:outside aa x=true):ax (bP aa x)=false:=by
 have o:=e.len;have hm:=j6 e hi hr h;obtain⟨m,h1,b⟩:=lF hi e.len hm
 unfold outside at f
 unfold bP
 cases hc:x.cell
 ·
  rw [hc] at b f;simp only [Bool.false_eq_true,if_false] at b ⊢
  grind [bE]
 rw [hc] at b;simp only [if_true] at b ⊢
 grind [kb]
theorem ux(o:aq aa) {v:Nat→Nat}(p:∀j,v j≤65535) {i:Nat}(hi:i<aa.length) (hr:aF aa i=true) (b:Nat) :
  (FF aa aD v i).testBit b=true↔(kJ aa (valOf aa aD) i).testBit b=true∨∃j,fM aa i j∧(v j).testBit b=true:=by
 have r:=o.len
 unfold FF
 rw [ak hi];simp only [Option.map_some,Option.getD_some];rw [sA hi];refine or_congr ?_ ?_
 ·
  rw [fl hi,fl hi];refine or_congr_right (exists_congr fun x=>and_congr_right fun t=>and_congr_right fun u=>?_)
  unfold L7
  rw [if_neg (by grind [ja])]
 constructor
 ·
  rintro⟨x,h1,h,f⟩;obtain⟨j,e,m,q⟩:=ib o hi hr h1 h;refine⟨j,e,?_⟩
  unfold L7 at f
  rw [m,if_pos (by rw [bE q (by omega)];exact e.lt.2.2.2),cz q (by omega),Int.toNat_natCast,fk (p j)] at f;exact f
 rintro⟨j,e,m⟩;obtain⟨x,h1,h,f⟩:=oY hi e;refine⟨x,h1,h,?_⟩
 unfold L7
 rw [f,if_pos (by rw [bE e.lt.2.1 (by have:=e.lt.2.1;omega)];exact e.lt.2.2.2),cz e.lt.2.1 (by have:=e.lt.2.1;omega),Int.toNat_natCast,fk (p j)];exact m
theorem sB(i:Nat):rv aa aD i≤65535:=Br i
theorem D2(f:aq aa) {i:Nat}(hi:i<aa.length) (hr:aF aa i=true) (b:Nat) :
  (rv aa aD i).testBit b=true↔(kJ aa (valOf aa aD) i).testBit b=true∨∃j,fM aa i j∧(rv aa aD j).testBit b=true:=by
 unfold rv
 rw [eB f hi hr]
 constructor
 ·
  rintro⟨k,h1,o⟩
  rcases h1.cases with rfl | ⟨j,e,m⟩
  ·
   exact .inl o
  exact .inr ⟨j,e,(eB f e.lt.2.1 e.lt.2.2.2 b).2 ⟨k,m,o⟩⟩
 rintro(h | ⟨j,e,m⟩)
 ·
  exact⟨i,.refl,h⟩
 obtain⟨k,p,q⟩:=(eB f e.lt.2.1 e.lt.2.2.2 b).1 m;exact⟨k,.head e p,q⟩
theorem F6(e:aq aa) {v v':Nat→Nat}(f:∀j,v j≤65535) (m:∀j,v' j≤65535) (h:∀j,eX (v j) (v' j)) {i:Nat}(hi:i<aa.length) (hr:aF aa i=true):eX (FF aa aD v i) (FF aa aD v' i):=fun b hb=>by
 rw [ux e f hi hr] at hb;rw [ux e m hi hr]
 rcases hb with hb | ⟨j,h1,o⟩
 ·
  exact .inl hb
 exact .inr ⟨j,h1,h j b o⟩
structure dw (aa:List aG) (aD:List cv) (i0:Nat) (L:List Nat) (u:Nat→Nat):Prop where
 nodup:L.Nodup
 first:i0∈L
 ring:∀j∈L,j<aa.length∧aF aa j=true
 out:∀j,j∉L→u j=0
 le:∀j,u j≤65535
 low:∀j,eX (u j) (rv aa aD j)
 reach:∀j∈L,cV aa i0 j
noncomputable def yn(aa:List aG) (aD:List cv) (u:Nat→Nat) (ml:List (Key × Value)) (k:Nat):Nat:=if (bC ml (aM aa (k:Int))).isSome then rv aa aD k else u k
def fW(ml mL:List (Key × Value)):Prop:=∀k v,bC ml k=some v→bC mL k=some v
def kS(aa:List aG) (aD:List cv) (L:List Nat) (u:Nat→Nat) (ml:List (Key × Value)):Prop:=∀j∈L,eX (u j) (FF aa aD (yn aa aD u ml) j)
def nX(aa:List aG) (aD:List cv) (L:List Nat) (u:Nat→Nat) (j:Nat):Prop:=
 eX (kJ aa (valOf aa aD) j) (u j)∧∀k,fM aa j k→(k∈L→eX (u k) (u j))∧(k∉L→eX (rv aa aD k) (u j))
def D3(n:Nat) (v:Nat→Nat):Nat:=((List.range n).map fun j=>65535 - v j).sum
def oy(aa:List aG) (L:List Nat) (v:Nat→Nat):Nat:=D3 aa.length v+(aa.length - L.length)
theorem fW.refl(ml:List (Key × Value)):fW ml ml:=fun _ _ h=>h
theorem fW.trans{a b c:List (Key × Value)}(h:fW a b) (k:fW b c):fW a c:=fun x v e=>k x v (h x v e)
theorem fW.put{ml:List (Key × Value)}(hm:aU aa aD ml) (k:Key):fW ml (cJ ml k (.string (valOf aa aD k))):=fun x v h=>by
 rw [ee]
 split
 ·
  rename_i e;subst e;rw [hm _ _ h]
 exact h
theorem rq{u:Nat→Nat}{ml:List (Key × Value)}(h:∀j,u j≤65535) (k:Nat):yn aa aD u ml k≤65535:=by grind [yn,sB]
theorem L8{u:Nat→Nat}{ml:List (Key × Value)}(h:∀j,eX (u j) (rv aa aD j)) (k:Nat):eX (yn aa aD u ml k) (rv aa aD k):=by unfold yn;split;exact fun _ h=>h;exact h k
theorem Bs{u b:Nat→Nat}{ml e:List (Key × Value)}(h:∀j,eX (u j) (rv aa aD j)) (hu:∀j,eX (u j) (b j)) (hm:fW ml e) (k:Nat):eX (yn aa aD u ml k) (yn aa aD b e k):=by
 unfold yn
 cases h1:bC ml (aM aa (k:Int)) with
 | some v=>rw [hm _ _ h1];simp;exact fun _ h=>h
 | none=>grind
theorem kS.mono(i:aq aa) {i0:Nat}{L:List Nat}{u:Nat→Nat}{ml f:List (Key × Value)}(hr:dw aa aD i0 L u) (h:kS aa aD L u ml) (hm:fW ml f):kS aa aD L u f:=fun j e b hb=>
 F6 i (rq hr.le) (rq hr.le) (Bs hr.low (fun _ _ h=>h) hm) (hr.ring j e).1 (hr.ring j e).2 b (h j e b hb)
theorem dw.start{i0:Nat}(hi:i0<aa.length) (hr:aF aa i0=true):dw aa aD i0 [i0] fun _=>0 where
 nodup:=by simp
 first:=by simp
 ring j e:=by grind
 out _ _:=rfl
 le _:=by omega
 low _ b h:=by simp at h
 reach j e:=by simp at e;subst e;exact .refl
theorem kS.start{i0:Nat}{ml:List (Key × Value)}:kS aa aD [i0] (fun _=>0) ml:=fun _ _ b h=>by simp at h
theorem Ji:∀{n:Nat}{L:List Nat},L.Nodup→(∀j∈L,j<n)→L.length≤n:=by
 intro n
 induction n with
 | zero=>intro L _ hl;cases L with
  | nil=>simp
  | cons a r=>exact absurd (hl a (by simp)) (by omega)
 | succ n b=>
  intro L h hl
  have h1:=b (h.erase n) fun j e=>by grind
  grind
theorem dw.len{i0:Nat}{L:List Nat}{v:Nat→Nat}(h:dw aa aD i0 L v):L.length≤aa.length:=Ji h.nodup fun j b=>(h.ring j b).1
theorem dw.meet{i0:Nat}{L:List Nat}{v:Nat→Nat}(h:dw aa aD i0 L v) {j:Nat}(b:j<aa.length) (hr:aF aa j=true) (hn:j∉L) (e:cV aa i0 j):dw aa aD i0 (L++[j]) v where
 nodup:=by grind [nodup]
 first:=by simp [h.first]
 ring k hk:=by
  rcases List.mem_append.1 hk with hk | hk
  ·
   exact h.ring k hk
  grind
 out k hk:=h.out k fun hm=>hk (by simp [hm])
 le:=h.le
 low:=h.low
 reach k hk:=by
  rcases List.mem_append.1 hk with hk | hk
  ·
   exact h.reach k hk
  grind
theorem kS.meet{L:List Nat}{u:Nat→Nat}{ml:List (Key × Value)}(h:kS aa aD L u ml) {j:Nat}(hu:u j=0):kS aa aD (L++[j]) u ml:=fun k hk=>by
 rcases List.mem_append.1 hk with hk | hk
 ·
  exact h k hk
 simp at hk;subst hk;rw [hu];intro b hb;simp at hb
theorem dw.F7{i0:Nat}{L:List Nat}{v:Nat→Nat}(h:dw aa aD i0 L v) {j:Nat}(b:j<aa.length) (hr:aF aa j=true) (hn:j∉L) (e:cV aa i0 j):L.length<aa.length:=by
 have:=(h.meet b hr hn e).len
 grind
theorem Bt{L:List Nat}{v:Nat→Nat}{j:Nat}(hl:L.length<aa.length):oy aa (L++[j]) v<oy aa L v:=by grind [oy]
def lV(v:Nat→Nat) (j u:Nat):Nat→Nat:=fun k=>if k=j then u else v k
theorem Jj:∀n (v:Nat→Nat) (j u:Nat),v j≤u→D3 n (lV v j u)≤D3 n v∧(j<n→v j<u→u≤65535→D3 n (lV v j u)<D3 n v):=by
 intro n
 induction n with
 | zero=>intro v j u _;simp [D3]
 | succ n f=>
  intro v j u h;obtain⟨h1,b⟩:=f v j u h
  unfold D3 at h1 b ⊢
  simp only [List.range_succ,List.map_append,List.map_cons,List.map_nil,List.sum_append,List.sum_cons,List.sum_nil]
  have o:65535 - lV v j u n≤65535 - v n:=by
   unfold lV;grind
  refine⟨by omega,fun p i m=>?_⟩
  by_cases e:j=n
  ·
   have:65535 - lV v j u n<65535 - v n:=by unfold lV;grind
   omega
  have:=b (by omega) i m
  omega
theorem G9{u:Nat→Nat}{j x:Nat}(h:eX (u j) x):∀k,eX (u k) (lV u j x k):=fun k b hb=>by
 unfold lV;split
 ·
  rename_i e;subst e;exact h b hb
 exact hb
theorem dw.set{i0:Nat}{L:List Nat}{u:Nat→Nat}(h:dw aa aD i0 L u) {j x:Nat}(f:j∈L) (i:x≤65535) (m:eX x (rv aa aD j)):dw aa aD i0 L (lV u j x) where
 nodup:=h.nodup
 first:=h.first
 ring:=h.ring
 out k hk:=by unfold lV;rw [if_neg (fun e=>hk (by rw [e];exact f))];exact h.out k hk
 le k:=by unfold lV;split;exact i;exact h.le k
 low k b hb:=by
  unfold lV at hb;split at hb
  ·
   rename_i e;subst e;exact m b hb
  exact h.low k b hb
 reach:=h.reach
theorem kS.set(f:aq aa) {i0:Nat}{L:List Nat}{u:Nat→Nat}{ml:List (Key × Value)}(hr:dw aa aD i0 L u) (h:kS aa aD L u ml) {j x:Nat}(i:j∈L) (m:x≤65535) (o:eX x (rv aa aD j)) (p:eX (u j) x) (q:eX x (FF aa aD (yn aa aD u ml) j)) :
  kS aa aD L (lV u j x) ml:=fun k hk=>by
 have r:=hr.set i m o;have hm:=F6 (aD:=aD) f (rq (aD:=aD) (aa:=aa) (ml:=ml) hr.le) (rq r.le) (Bs hr.low (G9 p) (fW.refl ml)) (hr.ring k hk).1 (hr.ring k hk).2;intro b hb;refine hm b ?_
 unfold lV at hb;split at hb
 ·
  rename_i e;subst e;exact q b hb
 exact h k hk b hb
theorem F8{i0:Nat}{L:List Nat}{u:Nat→Nat}(h:dw aa aD i0 L u) {j x:Nat}(b:j∈L) (e:x≤65535) (f:eX (u j) x) (i:u j≠x):oy aa L (lV u j x)<oy aa L u:=by
 have h1:=f.le
 have:=(Jj aa.length u j x h1).2 (h.ring j b).1 (by omega) e
 unfold oy;omega
theorem dw.done(r:aq aa) {i0:Nat}{L:List Nat}{u:Nat→Nat}(h:dw aa aD i0 L u) (f:∀j∈L,nX aa aD L u j):∀j∈L,u j=rv aa aD j:=by
 intro j t;obtain⟨i,o⟩:=h.ring j t;refine Nat.le_antisymm (h.low j).le (eX.le fun b hb=>?_);have key:=Jh r i o (fun k=>if k∈L then u k else rv aa aD k) (fun k b hk hb=>?_) (fun k m b hk p hb=>?_) b hb
 ·
  simpa [t] using key
 ·
  have q:=i7 i o hk
  by_cases hm:k∈L
  ·
   simp only [if_pos hm];exact(f k hm).1 b hb
  simp only [if_neg hm];grind [D2]
 have q:=i7 i o hk
 by_cases e:k∈L
 ·
  simp only [if_pos e]
  by_cases hm:m∈L
  ·
   simp only [if_pos hm] at hb;exact((f k e).2 m p).1 hm b hb
  simp only [if_neg hm] at hb;exact((f k e).2 m p).2 hm b hb
 simp only [if_neg e];refine(D2 r q.1 q.2 b).2 (.inr ⟨m,p,?_⟩)
 by_cases hm:m∈L
 ·
  simp only [if_pos hm] at hb;exact h.low m b hb
 grind
structure Ev (aa:List aG) (aD:List cv) (u:Nat→Nat) (L:List Nat) (Jk ml:List (Key × Value)) (qs:List Ask) (n:Nat) (acc:List ByteArray):Prop where
 len:acc.length=n
 out:∀m (h:m<qs.length),m<n→outside aa qs[m]=true→acc[m]?=some (valOf aa aD (bP aa qs[m]))
 ins:∀m (h:m<qs.length),m<n→outside aa qs[m]=false→∀k:Nat,qs[m].n=k→
  (acc[m]?=some (itoa (rv aa aD k:Int))∧(bC ml (aM aa (k:Int))).isSome=true)∨(acc[m]?=some (itoa (u k:Int))∧k∈L∧bC Jk (aM aa (k:Int))=none)
theorem Ev.start{u:Nat→Nat}{L:List Nat}{ml:List (Key × Value)}{qs:List Ask}:Ev aa aD u L ml ml qs 0 []:=⟨rfl,fun _ _ h=>by omega,fun _ _ h=>by omega⟩
theorem Ev.mono{u:Nat→Nat}{L L':List Nat}{Jk ml b:List (Key × Value)}{qs:List Ask}{n:Nat}{acc:List ByteArray}(h:Ev aa aD u L Jk ml qs n acc) (r:∀k∈L,k∈L') (hm:fW ml b):Ev aa aD u L' Jk b qs n acc:=
 ⟨h.len,h.out,fun m h1 i o k p=>by
  rcases h.ins m h1 i o k p with⟨e,f⟩ | ⟨e,f,t⟩
  ·
   obtain⟨v,q⟩:=Option.isSome_iff_exists.1 f;exact .inl ⟨e,by rw [hm _ _ q];rfl⟩
  grind⟩
theorem Ev.snoc{u:Nat→Nat}{L:List Nat}{Jk ml:List (Key × Value)}{qs:List Ask}{n:Nat}{acc:List ByteArray}(h:Ev aa aD u L Jk ml qs n acc) (s:ByteArray)
  (i:∀(h:n<qs.length),outside aa qs[n]=true→s=valOf aa aD (bP aa qs[n]))
  (hi:∀(h:n<qs.length),outside aa qs[n]=false→∀k:Nat,qs[n].n=k→(s=itoa (rv aa aD k:Int)∧(bC ml (aM aa (k:Int))).isSome=true)∨(s=itoa (u k:Int)∧k∈L∧bC Jk (aM aa (k:Int))=none)) :
  Ev aa aD u L Jk ml qs (n+1) (acc++[s]) where
 len:=by simp [h.len]
 out m h1 f e:=by
  rcases Nat.lt_or_ge m n with b | b
  ·
   rw [List.getElem?_append_left (by rw [h.len];exact b)];exact h.out m h1 b e
  grind [len]
 ins m h1 f e k hk:=by
  rcases Nat.lt_or_ge m n with b | b
  ·
   rw [List.getElem?_append_left (by rw [h.len];exact b)];exact h.ins m h1 b e k hk
  have:m=n:=by omega
  subst this;rw [List.getElem?_append_right (by rw [h.len];omega),h.len]
  simpa using hi h1 e k hk
theorem Ev.val(t:aq aa) {i0:Nat}{L:List Nat}{u:Nat→Nat}{Jk ml:List (Key × Value)}{j:Nat}{acc:List ByteArray}(hr:dw aa aD i0 L u) (p:j<aa.length) (F:aF aa j=true) (h:Ev aa aD u L Jk ml aa[j].asks aa[j].asks.length acc) :
  fe aa[j].c.toNat (acc.map cB)≤65535∧eX (fe aa[j].c.toNat (acc.map cB)) (rv aa aD j)∧eX (FF aa aD (yn aa aD u Jk) j) (fe aa[j].c.toNat (acc.map cB))∧
  eX (fe aa[j].c.toNat (acc.map cB)) (FF aa aD (yn aa aD u ml) j)∧(fe aa[j].c.toNat (acc.map cB)=u j→nX aa aD L u j):=by
 obtain⟨hlen,ho,eJ⟩:=h;have Ik:=t.len
 -- an answer, by its place
 have Vx:∀m (hm:m<aa[j].asks.length),∃s,acc[m]?=some s∧s∈acc:=fun m hm=>⟨acc[m],ak (by omega),List.getElem_mem _⟩
 have J:eX (kJ aa (valOf aa aD) j) (fe aa[j].c.toNat (acc.map cB)):=fun b hb=>by
  rw [lG]
  rcases(fl p b).1 hb with h1 | ⟨x,h1,z,o⟩
  ·
   exact .inl h1
  obtain⟨m,hm,rfl⟩:=List.mem_iff_getElem.1 h1
  grind
 have N:∀k,fM aa j k→∃m,∃hm:m<aa[j].asks.length,outside aa aa[j].asks[m]=false∧aa[j].asks[m].n=(k:Int):=fun k hk=>by
  obtain⟨r,x,h1,_,o,f,I,e⟩:=hk;rw [ak p] at h1
  simp at h1
  subst h1;obtain⟨m,hm,rfl⟩:=List.mem_iff_getElem.1 o;exact⟨m,hm,by unfold outside;rw [f,I];simp [e],I⟩
 have G:∀(m:Nat) (s:ByteArray) (b:Nat),acc[m]?=some s→(cB s).testBit b=true→(fe aa[j].c.toNat (acc.map cB)).testBit b=true:=fun m s b h1 z=>by
  rw [lG];grind
 have O:∀(v:Nat→Nat),(∀k,v k≤65535)→(∀k:Nat,(bC ml (aM aa (k:Int))).isSome=true→eX (rv aa aD k) (v k))→(∀k:Nat,eX (u k) (v k))→eX (fe aa[j].c.toNat (acc.map cB)) (FF aa aD v j):=fun v R h1 z b hb=>by
  rw [ux t R p F];rw [lG] at hb
  rcases hb with hb | ⟨_,V,hb⟩
  ·
   grind [fl]
  obtain⟨s,W,rfl⟩:=List.mem_map.1 V;obtain⟨m,hm,rfl⟩:=List.mem_iff_getElem.1 W
  have H:m<aa[j].asks.length:=by omega
  cases Q:outside aa aa[j].asks[m]
  ·
   obtain⟨k,o,f,I⟩:=ib t p F (List.getElem_mem H) Q
   have X:aa[j].asks[m].n=(k:Int):=by
    obtain⟨q,e,i⟩:=lF p t.len (j6 t p F (List.getElem_mem H))
    have hc:aa[j].asks[m].cell=false:=by grind [outside]
    rw [hc] at i;simp only [Bool.false_eq_true,if_false] at i
    unfold bP at f
    rw [hc,e] at f;simp only [Bool.false_eq_true,if_false] at f
    grind [cz]
   refine .inr ⟨k,o,?_⟩
   rcases eJ m H H Q k X with⟨e,i⟩ | ⟨e,i,_⟩
   ·
    rw [ak hm] at e
    simp at e
    rw [e,fk (sB k)] at hb;exact h1 k i b hb
   rw [ak hm] at e
   simp at e
   rw [e,fk (hr.le k)] at hb;exact z k b hb
  grind [fl]
 refine⟨?_,?_,?_,?_,fun he=>⟨?_,fun k hk=>⟨fun Y=>?_,fun Y=>?_⟩⟩⟩
 ·
  grind [lD,uw,kG]
 ·
  intro b hb;have h1:=O (rv aa aD) sB (fun _ _ _ h=>h) hr.low b hb
  grind [ux,sB,D2]
 ·
  intro b hb;rw [ux t (rq hr.le) p F] at hb
  rcases hb with hb | ⟨k,h1,z⟩
  ·
   exact J b hb
  obtain⟨m,hm,o,f⟩:=N k h1
  rcases eJ m hm hm o k f with⟨e,i⟩ | ⟨e,i,h8⟩
  ·
   exact G m _ b e (by rw [fk (sB k)];exact L8 hr.low k b z)
  refine G m _ b e (by rw [fk (hr.le k)];grind [yn])
 ·
  refine O _ (rq hr.le) (fun k hk b hb=>?_) fun k b hb=>?_
  ·
   unfold yn;rw [if_pos hk];exact hb
  unfold yn;split
  ·
   exact hr.low k b hb
  exact hb
 ·
  rw [← he];exact J
 ·
  intro b hb;rw [← he];obtain⟨m,hm,o,f⟩:=N k hk
  rcases eJ m hm hm o k f with⟨e,i⟩ | ⟨e,i,h8⟩
  ·
   exact G m _ b e (by rw [fk (sB k)];exact hr.low k b hb)
  exact G m _ b e (by rw [fk (hr.le k)];exact hb)
 intro b hb
 grind [fk,sB]
def mC(aa:List aG) (L:List Nat) (v:Nat→Nat) (am:List (Key × Value)):Prop:=
 (∀j∈L,bC am (aM aa (j:Int))=some (.string (itoa (v j:Int))))∧∀k,(∀j∈L,k≠aM aa (j:Int))→bC am k=none
theorem dX(b:aq aa) {i j:Nat}(hi:i<aa.length) (e:j<aa.length) (h:aM aa (i:Int)=aM aa (j:Int)):i=j:=by grind [aq.len,cz]
theorem mC.meet(b:aq aa) {L:List Nat}{v:Nat→Nat}{am:List (Key × Value)}(h:mC aa L v am) (f:∀j∈L,j<aa.length) {j:Nat}(i:j<aa.length) (hn:j∉L) (o:v j=0):mC aa (L++[j]) v (cJ am (aM aa (j:Int)) (.string ⟨#[48]⟩)):=by
 have e0:itoa ((0:Nat):Int)=⟨#[48]⟩:=by decide +kernel
 refine⟨fun k hk=>?_,fun k hk=>?_⟩
 ·
  rw [ee]
  rcases List.mem_append.1 hk with hk | hk
  ·
   rw [if_neg (fun e=>hn (by grind [dX]))];exact h.1 k hk
  grind
 rw [ee,if_neg (fun e=>hk j (by simp) e.symm)]
 exact h.2 k fun m hm=>hk m (by simp [hm])
theorem mC.set(i:aq aa) {L:List Nat}{v:Nat→Nat}{am:List (Key × Value)}(h:mC aa L v am) (b:∀j∈L,j<aa.length) {j:Nat}(f:j∈L) (u:Nat):mC aa L (lV v j u) (cJ am (aM aa (j:Int)) (.string (itoa (u:Int)))):=by
 refine⟨fun k hk=>?_,fun k hk=>?_⟩
 ·
  rw [ee]
  unfold lV
  by_cases e:k=j
  ·
   grind
  rw [if_neg (fun e2=>e (dX i (b k hk) (b j f) e2.symm)),if_neg e];exact h.1 k hk
 rw [ee,if_neg (fun e=>hk j f e.symm)];exact h.2 k hk
end
theorem jb{aa:List aG}(e:aq aa) {i:Nat}(hi:i<aa.length) (hr:aF aa i=true) {x:Ask}(f:x∈aa[i].asks) (b:outside aa x=false) {k:Nat}(hk:x.n=(k:Int)):k<aa.length∧aF aa k=true∧bP aa x=aM aa (k:Int):=by
 have hm:=j6 e hi hr f
 unfold outside at b
 rw [Bool.or_eq_false_iff] at b;rw [b.1,hk] at hm;refine⟨(qa e hi hr hm).1,?_,?_⟩
 ·
  grind
 grind [bP]
theorem aq.hb{aa:List aG}(h:aq aa):∀x∈aa,0≤x.c∧x.c≤65535∧x.asks.length≤1000:=fun x b=>by
 obtain⟨i,hi,rfl⟩:=List.mem_iff_getElem.1 b;obtain⟨h1,_,e⟩:=h.at hi
 grind [gZ]
theorem eY{aa:List aG}{i:Nat}(hi:i<aa.length) (jl:i≤99) (l:List ByteArray):aH aa (aM aa (i:Int)) l=cq aa (aM aa (i:Int)) l:=by
 unfold aH;rw [if_pos (by grind [eF])]
theorem sC{aa:List aG}{i:Nat}(hi:i<aa.length) (jl:i≤99) (hr:aF aa i=true):oW (aM aa (i:Int))=⟨#[48]⟩:=by grind [oW,eF]
theorem xx:∀{l:List (Key × Value)}{k:Key}{v:Value},bC l k=some v→cJ l k v=l:=by
 intro l
 induction l with
 | nil=>intro k v h;simp [bC] at h
 | cons p r b=>
  obtain⟨k0,v0⟩:=p;intro k v h;simp only [bC] at h;simp only [cJ]
  grind
theorem fZ{aa:List aG}{i:Nat}(hi:i<aa.length) (jl:i≤99):cX (aM aa (i:Int)):=by grind [cX,eF]
end Go.Rc

namespace Go.Rc
open Go
theorem oz:∀(l:List UInt8) (u:Nat),0<u→0≤decFrom l (u:Int)→∃v:Nat,decFrom l (u:Int)=v∧Lib.decDigits v=Lib.decDigits u++l
 | [],u,_,_=>⟨u,rfl,by simp⟩
 | c::r,u,hu,h=>by
  unfold decFrom at h ⊢
  by_cases hc:c.toNat<48∨57<c.toNat
  ·
   rw [if_pos hc] at h;omega
  rw [if_neg hc] at h ⊢;obtain⟨d,f⟩:∃d:Nat,c.toNat=48+d:=⟨c.toNat - 48,by omega⟩
  have i:d<10:=by omega
  have e:10*(u:Int)+((c.toNat:Int) - 48)=((10*u+d:Nat):Int):=by omega
  rw [e] at h ⊢;obtain⟨v,h1,b⟩:=oz r (10*u+d) (by omega) h;refine⟨v,h1,?_⟩;rw [b,Lib.decDigits,dif_neg (by omega),show(10*u+d) / 10=u by omega,show(10*u+d) % 10=d by omega,List.append_assoc]
  grind [UInt8.ofNat_toNat]
theorem wt{s:ByteArray}(h:0≤dN s):∃v:Nat,dN s=v∧s=itoa (v:Int):=by
 unfold dN at h ⊢
 by_cases hc:s.size=0∨9<s.size∨(s.data.toList.head?=some 48∧s.size≠1)
 ·
  rw [if_pos hc] at h;omega
 rw [if_neg hc] at h ⊢;obtain⟨d⟩:=s
 have key:∃v:Nat,decFrom d.toList 0=v∧Lib.decDigits v=d.toList:=by
  have hsz:(⟨d⟩:ByteArray).size=d.toList.length:=by simp [ByteArray.size]
  rw [hsz] at hc;simp only at hc h ⊢
  cases hl:d.toList with
  | nil=>rw [hl] at hc;simp at hc
  | cons c r=>
   rw [hl] at hc h
   unfold decFrom at h ⊢
   by_cases hn:c.toNat<48∨57<c.toNat
   ·
    rw [if_pos hn] at h;omega
   rw [if_neg hn] at h ⊢;obtain⟨e,he⟩:∃e:Nat,c.toNat=48+e:=⟨c.toNat - 48,by omega⟩
   have h1:10*(0:Int)+((c.toNat:Int) - 48)=(e:Nat):=by omega
   rw [h1] at h ⊢
   have b:UInt8.ofNat (48+e)=c:=by grind [UInt8.ofNat_toNat]
   by_cases h0:e=0
   ·
    subst h0
    have m:c=48:=by rw [← b];rfl
    have hr:r=[]:=by grind
    subst hr;exact⟨0,rfl,by rw [Lib.decDigits,dif_pos (by omega),b]⟩
   obtain⟨v,f,i⟩:=oz r e (by omega) h;refine⟨v,f,?_⟩;rw [i,Lib.decDigits,dif_pos (by omega),b]
   rfl
 obtain⟨v,h1,f⟩:=key;refine⟨v,h1,?_⟩
 have e:Lib.itoa (v:Int)=Lib.decDigits v:=by unfold Lib.itoa;rw [if_neg (by omega)];rfl
 unfold itoa
 rw [e,f]
theorem Ha{s:ByteArray}(h:∀n:Nat,n≤65535→s≠itoa (n:Int)):cB s=0:=by
 unfold cB
 split
 ·
  rfl
 grind [wt]
theorem Hb(l:List aG) (m:Nat):m≤dJ l m:=by unfold dJ;omega
theorem D4{aa:List aG}{i:Nat}(hi:i<aa.length):(block aa (i:Int)).1≤(block aa (i:Int)).2:=by
 have hb:block aa (i:Int)=if aF aa i then ((bD aa i:Int),(dJ aa (i+1):Int)) else ((i:Int),(i:Int)+1):=by
  unfold block;rw [if_neg (by omega)];rfl
 grind [gi,Hb]
theorem Bu(kind:Int) (c:Nat) (l:List Nat):dn kind 0 (c::l)=dn kind c l:=by
 unfold dn pQ ss fe
 simp
end Go.Rc

namespace Go.Rc
open Go
theorem Bv{κ:Type} [DecidableEq κ]:∀{l:List (κ × Value)}{k:κ}{v:Value},bC l k=none→iU (cJ l k v) k=l
 | [],k,v,_=>by simp [cJ,iU]
 | (k0,v0)::r,k,v,h=>by
  by_cases e:k0=k
  ·
   subst e;simp [bC] at h
  simp only [bC,if_neg e] at h;simp only [cJ,if_neg e,iU,Bv h]
def FZ.row(b:Nat) (r:List Value):FZ:=
 ⟨fun Z w=>Z b∧b<w.heap.size∧w.rangeAt b 0 r,fun hZ h=>⟨hZ _ h.1,h.2⟩,fun hs hc h=>⟨h.1,Nat.lt_of_lt_of_le h.2.1 hs,fun j v hv=>by rw [← h.2.2 j v hv];grind [World.cell?_of_block]⟩⟩
def SD.FV(D:SD) (P:Program) (aa:List aG) (x:cy):FZ:=(D.F P aa x).and (FZ.row D.s (D.cells x))
theorem SD.FV.rg{D:SD}{P:Program}{aa:List aG}{x:cy}{Z:Nat→Prop}{w:World}(h:(D.FV P aa x).p Z w):(As.rg D.s 0 (D.cells x)).ok Z w:=As.Vc h.2.1 h.2.2.1 h.2.2.2
theorem xy{κ:Type} [DecidableEq κ]:∀(l:List (κ × Value)) (k:κ) (v u:Value),cJ (cJ l k v) k u=cJ l k u
 | [],k,v,u=>by simp [cJ]
 | (k0,v0)::r,k,v,u=>by
  by_cases e:k0=k
  ·
   simp [cJ,e]
  simp [cJ,e,xy r k v u]
section
variable {aa:List aG}{aD:List cv}
def lH(aa:List aG) (i:Nat) (al:List (Key × Value)):Prop:=∀j:Nat,j≤i→j<aa.length→bC al (aM aa (j:Int))=none
theorem lH.mono{i m:Nat}{al:List (Key × Value)}(h:lH aa i al) (hm:m≤i):lH aa m al:=fun j b hl=>h j (by omega) hl
theorem lH.put(b:aq aa) {i m:Nat}{al:List (Key × Value)}(h:lH aa i al) (hi:i<aa.length) (hm:m<i) (v:Value):lH aa m (cJ al (aM aa (i:Int)) v):=fun j f hl=>by
 rw [ee,if_neg (fun e=>by have:=dX b hi hl e;omega)];exact h j (by omega) hl
theorem lH.nil(i:Nat):lH aa i []:=fun _ _ _=>rfl
noncomputable def cS(aa:List aG) (aD:List cv) (i:Nat):List Key:=(dW (cq aa (aM aa (i:Int))) (valOf aa aD) (cN aa i)).1
noncomputable def na(aa:List aG) (aD:List cv) (k:Key):List Key:=if ay k then [] else cS aa aD (number k).toNat
theorem gj(b:aq aa) {i:Nat}(hi:i<aa.length):na aa aD (aM aa (i:Int))=cS aa aD i:=by
 have e:=b.len
 unfold na
 rw [if_neg (by grind [dr]),cz hi (by omega),Int.toNat_natCast]
theorem eW.QG(b:aq aa) {i:Nat}{a:Key}(h:eW aa i a):ax a=decide (a.kind=32):=by
 have e:=b.len
 rcases h with⟨n,h1,rfl⟩ | ⟨m,h1,rfl,_⟩
 ·
  rw [kb (by omega)]
  unfold cD
  rw [if_neg (by omega)]
  rfl
 grind [bE,eF]
theorem eW.al(b:aq aa) {i0 j:Nat}{a:Key}{al:List (Key × Value)}(h:eW aa j a) (hr:aF aa j=true) (hc:ax a=false) (eJ:ay a=false) (hb:bD aa j≤i0) (e:lH aa i0 al):lH aa (number a).toNat al:=by
 have i:=b.len
 rcases h with⟨n,h1,rfl⟩ | ⟨m,h1,rfl,_,_,_,f⟩
 ·
  grind [bB]
 rw [bE h1 (by omega)] at hc;rw [cz h1 (by omega),Int.toNat_natCast];exact e.mono (by have:=f hc hr;omega)
structure RI (aa:List aG) (aD:List cv) (i0:Nat) (qs:List Ask) (u1:Nat→Nat) (L1:List Nat) (kT:Bool) (eO:List (Key × Value)) (n:Nat) (L2:List Nat) (ke:List (Key × Value)) (mn:Bool) (iR:List (Key × Value)) (acc:List ByteArray):Prop where
 hn:n≤qs.length
 rd:dw aa aD i0 L2 u1
 up:kS aa aD L2 u1 iR
 at_:mC aa L2 u1 ke
 m:aU aa aD iR
 le:fW eO iR
 p:oy aa L2 u1≤oy aa L1 u1∧(mn=true→kT=true∨oy aa L2 u1<oy aa L1 u1)
 c:mn=false→L2=L1∧kT=false
 pre:L1 <+: L2
 ev:Ev aa aD u1 L2 eO iR qs n acc
variable {i0 j n:Nat}{u1:Nat→Nat}{L1 L2:List Nat}{kT mn:Bool}{eO iR Ma ke:List (Key × Value)}{acc:List ByteArray}
theorem RI.start{b:List (Key × Value)}{qs:List Ask}(h1:dw aa aD i0 L1 u1) (e:kS aa aD L1 u1 eO) (f:mC aa L1 u1 b) (i:aU aa aD eO):RI aa aD i0 qs u1 L1 kT eO 0 L1 b kT eO []:=
 ⟨Nat.zero_le _,h1,e,f,i,fW.refl _,⟨Nat.le_refl _,fun h=>.inl h⟩,fun h=>⟨rfl,h⟩,List.prefix_refl _,Ev.start⟩
theorem RI.done(b:aq aa) (e:j<aa.length) (hr:aF aa j=true) (h:RI aa aD i0 aa[j].asks u1 L1 kT eO n L2 ke mn iR acc) (hn:n<aa[j].asks.length) {f:Value}(m:bC iR (bP aa aa[j].asks[n])=some f) :
  RI aa aD i0 aa[j].asks u1 L1 kT eO (n+1) L2 ke mn iR (acc++[valOf aa aD (bP aa aa[j].asks[n])]):=
 {h with
  hn:=hn
  ev:=h.ev.snoc _ (fun _ _=>rfl) fun _ i k hk=>.inl (by
   obtain⟨o,p,q⟩:=jb b e hr (List.getElem_mem hn) i hk
   grind [gS,iq])}
theorem RI.low(b:aq aa) (f:j<aa.length) (hr:aF aa j=true) (h:RI aa aD i0 aa[j].asks u1 L1 kT eO n L2 ke mn iR acc) (hn:n<aa[j].asks.length) (hc:ax (bP aa aa[j].asks[n])=false) (e:aU aa aD Ma) (hle:fW iR Ma) :
  RI aa aD i0 aa[j].asks u1 L1 kT eO (n+1) L2 ke mn Ma (acc++[valOf aa aD (bP aa aa[j].asks[n])]):=
 {h with
  hn:=hn
  up:=h.up.mono b h.rd hle
  m:=e
  le:=h.le.trans hle
  ev:=(h.ev.mono (fun _ h=>h) hle).snoc _ (fun _ _=>rfl) fun _ i k hk=>by grind [aq.len,jb,bE]}
theorem RI.inside(h:aq aa) (i:j<aa.length) (hr:aF aa j=true) (hn:n<aa[j].asks.length) (hc:ax (bP aa aa[j].asks[n])=true) :
  ∃b:Nat,bP aa aa[j].asks[n]=aM aa (b:Int)∧b<aa.length∧aF aa b=true∧fM aa j b∧outside aa aa[j].asks[n]=false:=by
 have m:=List.getElem_mem hn
 have e:outside aa aa[j].asks[n]=false:=by grind [ja]
 obtain⟨b,f,o,p⟩:=ib h i hr m e;exact⟨b,o,p,f.lt.2.2.2,f,e⟩
theorem RI.Oz(i:aq aa) (p:j<aa.length) (hr:aF aa j=true) {e:List Nat}(h:Ev aa aD u1 e eO iR aa[j].asks n acc) (hle:fW eO iR) (hn:n<aa[j].asks.length) {b:Nat}(q:bP aa aa[j].asks[n]=aM aa (b:Int)) (r:b<aa.length) (m:outside aa aa[j].asks[n]=false)
  (u:bC iR (bP aa aa[j].asks[n])=none) (z:b∈e):Ev aa aD u1 e eO iR aa[j].asks (n+1) (acc++[itoa (u1 b:Int)]):=by
 have F:bC eO (aM aa (b:Int))=none:=by
  cases h:bC eO (aM aa (b:Int)) with
  | none=>rfl
  | some v=>have:=hle _ _ h;grind
 refine h.snoc _ (fun _ f=>by rw [m] at f;cases f) fun _ f k hk=>?_;obtain⟨t,G,o⟩:=jb i p hr (List.getElem_mem hn) m hk;rw [q] at o
 have:=dX i r t o
 grind
theorem RI.meet(i:aq aa) (t:j<aa.length) (hr:aF aa j=true) (h:RI aa aD i0 aa[j].asks u1 L1 kT eO n L2 ke mn iR acc) (G:j∈L1) (hn:n<aa[j].asks.length) (hc:ax (bP aa aa[j].asks[n])=true)
  (H:bC iR (bP aa aa[j].asks[n])=none) (O:bC ke (bP aa aa[j].asks[n])=none) :
  ∃b:Nat,bP aa aa[j].asks[n]=aM aa (b:Int)∧b<aa.length∧aF aa b=true∧RI aa aD i0 aa[j].asks u1 L1 kT eO (n+1) (L2++[b]) (cJ ke (bP aa aa[j].asks[n]) (.string ⟨#[48]⟩)) true iR (acc++[⟨#[48]⟩]):=by
 obtain⟨b,o,e,q,I,J⟩:=RI.inside i t hr hn hc
 have f:b∉L2:=fun hm=>by have:=h.at_.1 b hm;grind
 have r:=h.rd.out b f;have u:cV aa i0 b:=.step (h.rd.reach j (h.pre.subset G)) I;have L:=h.rd.meet e q f u;have N:=h.rd.F7 e q f u;have z:=Bt (v:=u1) (j:=b) N;have F:=RI.Oz i t hr (h.ev.mono (L':=L2++[b]) (fun _ h=>by simp [h]) (fW.refl _)) h.le hn o e J H (by simp)
 have e0:itoa ((0:Nat):Int)=⟨#[48]⟩:=by decide +kernel
 rw [r,e0] at F;refine⟨b,o,e,q,⟨hn,L,h.up.meet r,?_,h.m,h.le,⟨Nat.le_of_lt (Nat.lt_of_lt_of_le z h.p.1),fun _=>.inr (Nat.lt_of_lt_of_le z h.p.1)⟩,fun h=>(by cases h),h.pre.trans (List.prefix_append _ _),F⟩⟩;rw [o];exact h.at_.meet i (fun k hk=>(h.rd.ring k hk).1) e f r
theorem RI.Vy(f:aq aa) (m:j<aa.length) (hr:aF aa j=true) (h:RI aa aD i0 aa[j].asks u1 L1 kT eO n L2 ke mn iR acc) (hn:n<aa[j].asks.length) (hc:ax (bP aa aa[j].asks[n])=true)
  (r:bC iR (bP aa aa[j].asks[n])=none) {v:Value}(t:bC ke (bP aa aa[j].asks[n])=some v) :
  ∃s:ByteArray,v=.string s∧s.size≤1000∧RI aa aD i0 aa[j].asks u1 L1 kT eO (n+1) L2 ke mn iR (acc++[s]):=by
 obtain⟨b,o,p,z,F,u⟩:=RI.inside f m hr hn hc
 have q:b∈L2:=by
  by_cases hm:b∈L2
  ·
   exact hm
  have:=h.at_.2 (aM aa (b:Int)) (fun k hk e=>hm (by have:=dX f p (h.rd.ring k hk).1 e;rw [this];exact hk))
  grind
 have i:=h.at_.1 b q;rw [← o,t] at i;simp only [Option.some.injEq] at i;refine⟨_,i,?_,{h with hn:=hn,ev:=RI.Oz f m hr h.ev h.le hn o p u r q}⟩;have hle:=h.rd.le b
 have e:Lib.itoa (u1 b:Int)=Lib.decDigits (u1 b):=by unfold Lib.itoa;rw [if_neg (by omega)];rfl
 grind [itoa,Lib.decDigits,ByteArray.size]
end
end Go.Rc

namespace Go.Rc
open Go
/-! ### keys in order -/
def mD(k:Key):List Key→List Key
 | []=>[k]
 | x::r=>if bA x k<0 then x::mD k r else if x=k then x::r else k::x::r
def kf(l:List Key):List Key:=l.foldl (fun out k=>mD k out) []
theorem Mb:∀(l:List Key) (k:Key) (p:Nat),p≤l.length→(∀q x,q<p→l[q]?=some x→bA x k<0)→(∀x,l[p]?=some x→0≤bA x k)→mD k l=if l[p]?=some k then l else l.take p++[k]++l.drop p:=by
 intro l
 induction l with
 | nil=>intro k p b _ _;simp at b;subst b;rfl
 | cons x r h=>
  intro k p b h1 f
  cases p with
  | zero=>
   have:=f x rfl
   simp only [mD]
   grind
  | succ p=>
   have:=h1 0 x (by omega) rfl
   simp only [mD];rw [if_pos this,h k p (by simpa using b) (fun q y i e=>h1 (q+1) y (by omega) (by simpa using e)) (fun y e=>f y (by simpa using e))]
   grind
theorem Jl(k:Key):∀l,(mD k l).length≤l.length+1:=by
 intro l
 induction l with
 | nil=>simp [mD]
 | cons x r b=>grind [mD]
theorem uy(l:List Key) (k:Key):kf (l++[k])=mD k (kf l):=by simp [kf]
theorem xz(l:List Key):(kf l).length≤l.length:=by
 have key:∀(l acc:List Key),(l.foldl (fun out k=>mD k out) acc).length≤acc.length+l.length:=by
  intro l
  induction l with
  | nil=>intro acc;simp
  | cons x r b=>grind [Jl]
 simpa [kf] using key l []
theorem Bw(k:Key):∀(l:List Key) (x:Key),x∈mD k l↔x=k∨x∈l:=by
 intro l
 induction l with
 | nil=>intro x;simp [mD]
 | cons y r b=>grind [mD]
theorem ru(l:List Key) (x:Key):x∈kf l↔x∈l:=by
 have key:∀(l acc:List Key),x∈l.foldl (fun out k=>mD k out) acc↔x∈acc∨x∈l:=by
  intro l
  induction l with
  | nil=>intro acc;simp
  | cons y r b=>grind [Bw]
 simpa [kf] using key l []
def Bx(out:List Key) (p:Nat) (x:Key):Bool:=match out[p]? with | some y=>decide (bA y x<0) | none=>false
/-! ### groups -/
def Ld(l:List Rec) (rev:Int) (a x:Key):Prop:=x∈(aC l a).reads∧bU l rev x=true
inductive bR (l:List Rec) (rev:Int) (k:Key):Key→Prop where
 | one {x:Key}:Ld l rev k x→bR l rev k x
 | step {x y:Key}:bR l rev k x→Ld l rev x y→bR l rev k y
def ic(m:List (Key × Value)) (P:Key→Prop):Prop:=∀k,(bC m k=some (.bool true)↔P k)∧(bC m k=none∨bC m k=some (.bool true))
open Classical in
noncomputable def yL(l:List Rec) (rev:Int) (k x:Key):Bool:=decide (bR l rev k x)
theorem kg{l:List Rec}{rev:Int}{k x:Key}:yL l rev k x=true↔bR l rev k x:=by unfold yL;simp
noncomputable def Bz(l:List Rec) (rev:Int) (k:Key) (r:Rec):Bool:=decide (r.key≠k) && (yL l rev k r.key && yL l rev r.key k)
noncomputable def jc(l:List Rec) (rev:Int) (k:Key) (rs:List Rec):List Key:=(rs.filter (Bz l rev k)).map (·.key)
theorem sD{l:List Rec}{rev:Int}{k:Key}{i:Nat}(h:i<l.length):jc l rev k (l.take (i+1))=if Bz l rev k l[i]=true then jc l rev k (l.take i)++[l[i].key] else jc l rev k (l.take i):=by
 rw [List.take_succ_eq_append_getElem h];simp only [jc,List.filter_append,List.map_append]
 grind
theorem oZ(l:List Rec) (rev:Int) (k:Key) (rs:List Rec):(jc l rev k rs).length≤rs.length:=by grind [jc]
theorem ic.get{m:List (Key × Value)}{P:Key→Prop}(h:ic m P) (k:Key) {b:Bool}(hb:b=true↔P k):(bC m k).getD (.bool false)=.bool b:=by
 obtain⟨h1,e⟩:=h k
 grind
theorem ic.put{m:List (Key × Value)}{b:List Key}(h:ic m (·∈b)) (x:Key):ic (cJ m x (.bool true)) (·∈b++[x]):=fun k=>by
 rw [ee]
 by_cases e:x=k
 ·
  rw [if_pos e];simp [e]
 rw [if_neg e];obtain⟨h1,f⟩:=h k
 grind
theorem ic.congr{m:List (Key × Value)}{P Q:Key→Prop}(h:ic m P) (b:∀k,P k↔Q k):ic m Q:=fun k=>⟨(h k).1.trans (b k),(h k).2⟩
theorem ic.nil:ic [] (·∈([]:List Key)):=fun k=>by simp [bC]
theorem eP{L S:List Key}(h:L.Nodup) (b:∀x∈L,x∈S):L.length≤S.length:=by
 induction L generalizing S with
 | nil=>simp
 | cons a r e=>
  have f:=b a (by simp);rw [List.nodup_cons] at h
  have:=e (S:=S.erase a) h.2 fun x i=>by grind
  grind
theorem nb{l:List Rec}{rev:Int}{x:Key}(h:bU l rev x=true):x∈l.map (·.key):=by
 unfold bU at h
 rw [Bool.and_eq_true] at h
 grind [az]
theorem bR.gC{l:List Rec}{rev:Int}{k x:Key}(h:bR l rev k x):bU l rev x=true:=by
 cases h with
 | one h=>exact h.2
 | step _ h=>exact h.2
theorem yM{l:List Rec}{rev:Int}{k:Key}{b:List Key}(e:∀x∈b,bR l rev k x) (hc:∀y∈k::b,∀x,Ld l rev y x→x∈b) (x:Key):x∈b↔bR l rev k x:=by
 refine⟨e x,fun h=>?_⟩
 induction h with
 | one h=>exact hc k (by simp) _ h
 | step _ f i=>exact hc _ (by simp [i]) _ f
noncomputable def aB(l:List Rec) (rev:Int) (k:Key):List Key:=if bU l rev k then kf (k::jc l rev k l) else [k]
def a7(rev:Int) (group:List Key) (bu:Bool) (r:Rec):Rec:=if r.key∈group then (if bu then {r with bu:=true} else {r with av:=rev}) else r
def cH(x:cy) (group:List Key) (bu:Bool):cy:={x with ah:=x.ah.map (a7 x.ad group bu)}
def aA(x:cy) (k:Key):Bool:=(az x.ah k).isSome && decide ((aC x.ah k).av=x.ad)
def aV(val:Key→ByteArray) (x:cy) (k:Key):Int:=
 if ay k then (bw x.ab k).changed
 else if (az x.ah k).isSome && (decide ((aC x.ah k).av=x.ad) || decide (val k=(aC x.ah k).value)) then (aC x.ah k).changed else x.ad
def bO(val:Key→ByteArray) (x:cy) (k:Key):ByteArray:=if ax k then val k else im x k
/-! ### a request -/
structure ES where
 b:cy
 busy:List (Key × Value)
 bf:List Key
 e:Int
def ES.on(s:ES) (k:Key):Bool:=(bC s.busy k).isSome
def ei(s:ES) (k:Key):Bool:=ay k || ((s.on k && ax k) || aA s.b k)
mutual
noncomputable def kU(aa:List aG) (val:Key→ByteArray):Nat→ES→Key→Option ES
 | 0,_,_=>none
 | f+1,s,k=>
  if s.e≠0∨ay k=true then some s
  else if aA s.b k then some s
  else if s.on k then (if ax k then some s else some {s with e:=43})
  else (cO aa val f {s with busy:=cJ s.busy k (.bool true)} k 0).bind fun p=>
   (if p.2 then gO aa val f p.1 k [] [] else some p.1).bind fun s3=>some {s3 with busy:=iU s3.busy k}
noncomputable def cO(aa:List aG) (val:Key→ByteArray):Nat→ES→Key→Nat→Option (ES × Bool)
 | 0,_,_,_=>none
 | f+1,s,k,at_=>
  if s.e≠0 then some (s,false)
  else if !(az s.b.ah k).isSome || (aC s.b.ah k).bu then some (s,true)
  else if (aC s.b.ah k).av=s.b.ad then some (s,false)
  else
   match (bT s.b.ah (aB s.b.ah s.b.ad k))[at_]? with
   | none=>some ({s with b:=cH s.b (aB s.b.ah s.b.ad k) false},false)
   | some c=>
    if ei s c.read=false then (kU aa val f s c.read).bind fun s'=>cO aa val f s' k at_
    else if (aC s.b.ah c.dP).av<aV val s.b c.read then
     some ((if ax k then {s with b:=cH s.b (aB s.b.ah s.b.ad k) true} else s),true)
    else cO aa val f s k (at_+1)
noncomputable def gO(aa:List aG) (val:Key→ByteArray):Nat→ES→Key→List Key→List ByteArray→Option ES
 | 0,_,_,_,_=>none
 | f+1,s,k,reads,ae=>
  if s.e≠0 then some s
  else if (aH aa k ae).done then
   (if !(az s.b.ah k).isSome && decide (4000≤s.b.ah.length) then some {s with e:=45}
   else some {s with b:={s.b with ah:=ey s.b.ah (bJ s.b k (aH aa k ae).value reads)},bf:=s.bf++[k]})
  else (kU aa val f s (aH aa k ae).ask).bind fun s'=>
   if s'.e=0 then gO aa val f s' k (reads++[(aH aa k ae).ask]) (ae++[bO val s'.b (aH aa k ae).ask]) else gO aa val f s' k reads ae
end
/-! ### a solver, as one thing -/
def As.jH(P:Program) (ST:Nat) (aa:List aG) (x:cy) (D:SD):As where
 fp y:=y=D.s∨y=D.m
 ok Z w:=D.s≠D.m∧bQ w D.s ST (D.cells x)∧(∃ml,aU aa x.ab ml∧KM Key.val w D.m ml)∧(D.F P aa x).p Z w
 lt:=fun⟨_,h1,⟨_,_,h2⟩,_⟩ y hy=>by rcases hy with rfl | rfl;exact h1.lt;exact h2.lt
 mono hZ:=fun⟨h0,h1,h2,h3⟩=>⟨h0,h1,h2,(D.F P aa x).mono hZ h3⟩
 st:=fun hs hc ⟨h0,h1,⟨ml,h2,h3⟩,h4⟩=>⟨h0,(As.blk D.s ST (D.cells x)).st (Z:=fun _=>False) hs (fun y hy hl=>hc y (.inl (.inl (by rcases hy with hy | hy;exact hy;exact hy.elim))) hl) h1,
  ⟨ml,h2,(As.map Key.val D.m ml).st (Z:=fun _=>False) hs (fun y hy hl=>hc y (.inl (.inr (by rcases hy with hy | hy;exact hy;exact hy.elim))) hl) h3⟩,(D.F P aa x).st hs (fun y hy hl=>hc y (.inr hy) hl) h4⟩
section
variable {w0 w w':World}{M Z:Nat→Prop}{l:List As}{A B C:As}
theorem St.split(h:St w0 M Z w (C::l)) (o:A.ok Z w) (p:B.ok Z w) (i:∀x,A.fp x→C.fp x) (m:∀x,B.fp x→C.fp x) (q:∀x,A.fp x→¬B.fp x):St w0 M Z w (A::B::l):=by
 obtain⟨r,t⟩:=List.pairwise_cons.1 h.rl;refine⟨h.bV,h.jG,?_,?_,?_,?_⟩
 ·
  intro D b x e f;simp only [List.mem_cons] at b
  rcases b with rfl | rfl | b
  ·
   exact h.lR C (by simp) x (i x e) f
  ·
   exact h.lR C (by simp) x (m x e) f
  exact h.lR D (by simp [b]) x e f
 ·
  intro D b x e;simp only [List.mem_cons] at b
  rcases b with rfl | rfl | b
  ·
   exact h.mI C (by simp) x (i x e)
  ·
   exact h.mI C (by simp) x (m x e)
  exact h.mI D (by simp [b]) x e
 ·
  simp_all
 intro D b;simp only [List.mem_cons] at b
 rcases b with rfl | rfl | b
 ·
  exact o
 ·
  exact p
 exact h.ok D (by simp [b])
theorem St.join(h:St w0 M Z w (A::B::l)) (m:C.ok Z w) (i:∀x,C.fp x→A.fp x∨B.fp x):St w0 M Z w (C::l):=by
 obtain⟨p,o⟩:=List.pairwise_cons.1 h.rl;obtain⟨q,r⟩:=List.pairwise_cons.1 o;refine⟨h.bV,h.jG,?_,?_,?_,?_⟩
 ·
  intro D b x e f;simp only [List.mem_cons] at b
  rcases b with rfl | b
  ·
   rcases i x e with h1 | h1
   ·
    exact h.lR A (by simp) x h1 f
   exact h.lR B (by simp) x h1 f
  exact h.lR D (by simp [b]) x e f
 ·
  intro D b x e;simp only [List.mem_cons] at b
  rcases b with rfl | b
  ·
   rcases i x e with h1 | h1
   ·
    exact h.mI A (by simp) x h1
   exact h.mI B (by simp) x h1
  exact h.mI D (by simp [b]) x e
 ·
  grind [List.pairwise_cons]
 intro D b;simp only [List.mem_cons] at b
 rcases b with rfl | b
 ·
  exact m
 exact h.ok D (by simp [b])
theorem St.one(h:St w0 M Z w l) (e:A∈l):St w (mJ [A]) Z w [A] where
 bV:=gK.refl _ _
 jG:=h.jG
 lR D b:=by simp at b;subst b;exact h.lR _ e
 mI D b x f:=.inl ⟨D,b,f⟩
 rl:=by simp
 ok D b:=by simp at b;subst b;exact h.ok _ e
theorem St.xA(h:St w0 M Z w l) (f:A∈l) (b:St w (mJ [A]) Z w' [A]):St w0 M Z w' l:=
 h.same f (b.bV.mono fun x _ ⟨D,e,i⟩=>by simp at e;subst e;exact i) (b.ok A (by simp))
theorem F9(f:A∈l) {x:Nat}(b:mJ [A] x):mJ l x:=by obtain⟨D,e,b⟩:=b;simp at e;subst e;exact⟨D,f,b⟩
end
theorem As.gv{P:Program}{ST:Nat}{aa:List aG}{x:cy}{D:SD}{Z:Nat→Prop}{w:World}(h:(As.jH P ST aa x D).ok Z w):(D.F P aa x).p Z w:=h.2.2.2
theorem As.gvb{P:Program}{ST:Nat}{aa:List aG}{x:cy}{D:SD}{Z:Nat→Prop}{w:World}(h:(As.jH P ST aa x D).ok Z w):bQ w D.s ST (D.cells x):=h.2.1
structure EA where
 (a1 a2 a3:Option Addr) (n1 c1 n2 c2 n3 c3:Nat)
def EA.cells(E:EA) (sb bb:Nat) (s:ES):List Value:=
 [.pointer (some ⟨sb,0,none⟩),.int .i64 s.b.ad,.slice E.a1 E.n1 E.c1,.slice E.a2 E.n2 E.c2,.map (some bb),.slice E.a3 E.n3 E.c3,.int .i64 s.e]
theorem D5{x:cy}{group:List Key}{bu:Bool}{i:Nat}(h:i<x.ah.length) (hi:i≤x.ah.length):(((x.ah.take i).map (a7 x.ad group bu))++x.ah.drop i).set i (a7 x.ad group bu x.ah[i])=((x.ah.take (i+1)).map (a7 x.ad group bu))++x.ah.drop (i+1):=by
 rw [List.set_append_right _ _ (by simp;omega)];simp only [List.length_map,List.length_take,Nat.min_eq_left hi,Nat.sub_self]
 grind [List.drop_eq_getElem_cons]
end Go.Rc

namespace Go.Rc
open Go
structure Good (aa:List aG) (aD:List cv) (s:ES):Prop where
 aD:s.b.ab=aD
 len:s.b.ah.length≤4000
 key:∀r∈s.b.ah,eG aa r.key
 AD:∀r∈s.b.ah,r.reads.length≤4000∧∀a∈r.reads,eG aa a
 j0:(s.busy.map (·.1)).Nodup
 busy:∀k,bC s.busy k=none∨bC s.busy k=some (.bool true)
structure Ga (s s':ES):Prop where
 bf:s.bf.length≤s'.bf.length
 rev:s'.b.ad=s.b.ad
theorem Ga.refl(s:ES):Ga s s:=⟨Nat.le_refl _,rfl⟩
theorem Ga.trans{s t u:ES}(h:Ga s t) (b:Ga t u):Ga s u:=⟨Nat.le_trans h.bf b.bf,b.rev.trans h.rev⟩
section
variable {aa:List aG}{aD:List cv}{s:ES}{k:Key}
theorem Good.on(h:Good aa aD s) (k:Key):Good aa aD {s with busy:=cJ s.busy k (.bool true)}:=
 {h with j0:=gg h.j0 _ _,busy:=fun k'=>by show bC (cJ s.busy k (.bool true)) k'=none∨_;rw [ee];split;exact .inr rfl;exact h.busy k'}
theorem Good.off(h:Good aa aD s) (k:Key):Good aa aD {s with busy:=iU s.busy k}:=
 {h with j0:=by grind [IX,j0],busy:=fun k'=>by show bC (iU s.busy k) k'=none∨_;rw [Bd h.j0];split;exact .inl rfl;exact h.busy k'}
theorem Good.err(h:Good aa aD s) (e:Int):Good aa aD {s with e:=e}:={h with}
theorem cQ(rev:Int) (g:List Key) (d:Bool) (r:Rec):(a7 rev g d r).key=r.key∧(a7 rev g d r).reads=r.reads:=by unfold a7;grind
theorem Good.mark(h:Good aa aD s) (g:List Key) (d:Bool):Good aa aD {s with b:=cH s.b g d}:=
 {h with
  len:=by show((s.b.ah.map _).length≤4000);rw [List.length_map];exact h.len
  key:=fun r hr=>by obtain⟨q,e,rfl⟩:=List.mem_map.1 hr;rw [(cQ _ _ _ q).1];exact h.key q e
  AD:=fun r hr=>by obtain⟨q,e,rfl⟩:=List.mem_map.1 hr;rw [(cQ _ _ _ q).2];exact h.AD q e}
theorem Ga.mark(g:List Key) (d:Bool):Ga s {s with b:=cH s.b g d}:=⟨Nat.le_refl _,rfl⟩
theorem gA(r:Rec):∀(l:List Rec) (b:Bool) (x:Rec),x∈ff r l b→x=r∨x∈l:=by
 intro l
 induction l with
 | nil=>grind [ff]
 | cons y e f=>grind [ff]
theorem BA(r:Rec):∀(l:List Rec) (b:Bool),(ff r l b).length+(l.filter fun x=>decide (bA x.key r.key=0)).length=l.length+(if b then 0 else 1):=by
 intro l
 induction l with
 | nil=>intro b;cases b <;> simp [ff]
 | cons y f e=>
  intro b;have h1:=e (b || decide (0≤bA y.key r.key));simp only [ff,List.length_append,List.length_cons]
  grind
theorem Jm{l:List Rec}{r:Rec}(h:(az l r.key).isSome=true) (hc:bA r.key r.key=0):(ey l r).length≤l.length:=by
 have h1:=BA r l false;obtain⟨x,b⟩:=Option.isSome_iff_exists.1 h;have f:=List.mem_of_find?_eq_some b;have e:=List.find?_some b
 simp at e
 have i:0<(l.filter fun x=>decide (bA x.key r.key=0)).length:=List.length_pos_of_mem (List.mem_filter.2 ⟨f,by rw [e];simp [hc]⟩)
 unfold ey
 simp at h1
 omega
theorem xB:∀l:List UInt8,Lib.compareBytes l l=0
 | []=>by simp [Lib.compareBytes]
 | a::r=>by simp [Lib.compareBytes,xB r]
theorem ir(k:Key):bA k k=0:=by unfold bA;simp [xB]
theorem Good.put(h:Good aa aD s) {r:Rec}{bf:List Key}(hk:eG aa r.key) (hr:r.reads.length≤4000∧∀a∈r.reads,eG aa a) (f:(!(az s.b.ah r.key).isSome && decide (4000≤s.b.ah.length))=false) :
  Good aa aD {s with b:={s.b with ah:=ey s.b.ah r},bf:=bf}:=
 {h with
  len:=by grind [ey,len,Jm,ir,rf]
  key:=fun x e=>by rcases gA r _ _ x e with rfl | e;exact hk;exact h.key x e
  AD:=fun x e=>by rcases gA r _ _ x e with rfl | e;exact hr;exact h.AD x e}
def gV(aa:List aG) (k:Key) (n:Nat):Prop:=∃i,i<aa.length∧k=aM aa (i:Int)∧n≤cN aa i
theorem eG.gF(h:eG aa k) (hi:ay k=false):gV aa k 0:=by
 cases h with
 | cell h=>grind [bB]
 | eT h jl=>exact⟨_,h,rfl,Nat.zero_le _⟩
theorem gV.next(b:aq aa) {ae:List ByteArray}(h:gV aa k ae.length) (f:(aH aa k ae).done=false):gV aa k (ae.length+1)∧eG aa (aH aa k ae).ask:=by
 obtain⟨i,hi,rfl,hn⟩:=h
 have jl:i≤99:=by have:=b.len;omega
 rw [eY hi jl] at f ⊢
 rcases Nat.lt_or_ge ae.length (cN aa i) with e | o
 ·
  obtain⟨a,h1,m,_⟩:=eh b hi e;rw [h1];exact⟨⟨i,hi,rfl,e⟩,m.Jf b⟩
 grind [gN]
theorem gV.le(b:aq aa) {n:Nat}(h:gV aa k n):n≤6:=by obtain⟨i,hi,_,hn⟩:=h;have:=mY b hi;omega
theorem gV.not(b:aq aa) {n:Nat}(h:gV aa k n):cX k∧ay k=false:=by
 obtain⟨i,hi,rfl,hn⟩:=h;grind [aq.len,fZ,dr]
theorem gV.Jf(b:aq aa) {n:Nat}(h:gV aa k n):eG aa k:=by obtain⟨i,hi,rfl,_⟩:=h;have:=b.len;exact .eT hi (by omega)
end
section
variable {aa:List aG}{val:Key→ByteArray}{aD:List cv}
def UpG(aa:List aG) (val:Key→ByteArray) (aD:List cv) (f:Nat):Prop:=∀s k s',kU aa val f s k=some s'→Good aa aD s→eG aa k→Good aa aD s'∧Ga s s'
def ChG(aa:List aG) (val:Key→ByteArray) (aD:List cv) (f:Nat):Prop:=∀s k n s' b,cO aa val f s k n=some (s',b)→Good aa aD s→Good aa aD s'∧Ga s s'
def RuG(aa:List aG) (val:Key→ByteArray) (aD:List cv) (f:Nat):Prop:=∀s k reads ae s',gO aa val f s k reads ae=some s'→Good aa aD s→gV aa k ae.length→reads.length=ae.length→(∀a∈reads,eG aa a)→Good aa aD s'∧Ga s s'
theorem fP{aa:List aG}{aD:List cv}{s:ES}(h:Good aa aD s) {group:List Key}{n:Nat}{c:od}(hc:(bT s.b.ah group)[n]?=some c):eG aa c.read:=by
 have h1:=List.mem_of_getElem? hc;obtain⟨m,hm,i⟩:=List.mem_flatMap.1 h1;obtain⟨a,o,rfl⟩:=List.mem_map.1 i;have e:=(List.mem_filter.1 o).1
 show eG aa a
 unfold aC at e
 cases f:az s.b.ah m with
 | none=>rw [f] at e;simp [mW] at e
 | some r=>rw [f] at e;exact(h.AD r (List.mem_of_find?_eq_some f)).2 a e
theorem kh(l:List Rec) (rev:Int) (k:Key):(aB l rev k).length≤l.length+1:=by grind [aB,xz,oZ]
theorem yN{aa:List aG}{aD:List cv}{s:ES}(h:Good aa aD s) {group:List Key}(f:group.length≤4001):∀i,((group.take i).flatMap fun m=>cY group m (aC s.b.ah m).reads).length≤100000000:=by
 intro i
 have h1:∀l:List Key,(l.flatMap fun m=>cY group m (aC s.b.ah m).reads).length≤l.length*4000:=by
  intro l
  induction l with
  | nil=>simp
  | cons m r o=>
   simp only [List.flatMap_cons,List.length_append,List.length_cons];have p:=jU group m (aC s.b.ah m).reads
   have q:(aC s.b.ah m).reads.length≤4000:=by
    unfold aC
    cases e:az s.b.ah m with
    | none=>simp [mW]
    | some r=>exact(h.AD r (List.mem_of_find?_eq_some e)).1
   rw [Nat.add_mul]
   omega
 grind
theorem tM{aa:List aG}{aD:List cv}{s:ES}(h:Good aa aD s) {group:List Key}(e:group.length≤4001):(bT s.b.ah group).length≤100000000:=by
 have h1:=yN h e group.length;rw [List.take_of_length_le (Nat.le_refl _)] at h1;exact h1
theorem ct(u:aq aa):∀f,UpG aa val aD f∧ChG aa val aD f∧RuG aa val aD f:=by
 intro f
 induction f with
 | zero=>exact⟨fun s k s' h=>by simp [kU] at h,fun s k n s' b h=>by simp [cO] at h,fun s k r a s' h=>by simp [gO] at h⟩
 | succ f I=>
  obtain⟨G,z,F⟩:=I;refine⟨?_,?_,?_⟩
  ·
   intro s k s' h e hk
   unfold kU at h
   split at h
   ·
    cases h;exact⟨e,.refl _⟩
   rename_i he
   split at h
   ·
    cases h;exact⟨e,.refl _⟩
   split at h
   ·
    split at h <;> cases h
    ·
     exact⟨e,.refl _⟩
    exact⟨e.err _,⟨Nat.le_refl _,rfl⟩⟩
   obtain⟨p,J,h⟩:=Option.bind_eq_some_iff.1 h;obtain⟨t,ht,h⟩:=Option.bind_eq_some_iff.1 h
   cases h
   obtain⟨h1,o⟩:=z _ _ _ p.1 p.2 (by rw [J]) (e.on k);have H:Ga s p.1:=⟨o.bf,o.rev⟩
   have i:Good aa aD t∧Ga s t:=by
    split at ht
    ·
     obtain⟨m,L⟩:=F _ _ _ _ _ ht h1 (hk.gF (by simp at he;exact he.2)) rfl (fun a q=>by cases q);exact⟨m,H.trans L⟩
    cases ht;exact⟨h1,H⟩
   exact⟨i.1.off k,⟨i.2.bf,i.2.rev⟩⟩
  ·
   intro s k n s' b h e
   unfold cO at h
   split at h
   ·
    cases h;exact⟨e,.refl _⟩
   split at h
   ·
    cases h;exact⟨e,.refl _⟩
   split at h
   ·
    cases h;exact⟨e,.refl _⟩
   split at h
   ·
    cases h;exact⟨e.mark _ _,.mark _ _⟩
   rename_i c hc
   split at h
   ·
    obtain⟨t,ht,h⟩:=Option.bind_eq_some_iff.1 h;obtain⟨h1,o⟩:=G _ _ _ ht e (fP e hc);obtain⟨i,m⟩:=z _ _ _ _ _ h h1;exact⟨i,o.trans m⟩
   split at h
   ·
    split at h <;> cases h
    ·
     exact⟨e.mark _ _,.mark _ _⟩
    exact⟨e,.refl _⟩
   exact z _ _ _ _ _ h e
  intro s k reads ae s' h e q hl hr
  unfold gO at h
  split at h
  ·
   cases h;exact⟨e,.refl _⟩
  split at h
  ·
   split at h
   ·
    cases h;exact⟨e.err _,⟨Nat.le_refl _,rfl⟩⟩
   rename_i m
   cases h
   have O:=q.le u;exact⟨e.put (r:=bJ s.b k (aH aa k ae).value reads) (q.Jf u) ⟨by show reads.length≤4000;omega,hr⟩ (by show(!(az s.b.ah k).isSome && _)=false;simpa using m),⟨by simp,rfl⟩⟩
  rename_i N
  obtain⟨t,ht,h⟩:=Option.bind_eq_some_iff.1 h;have hn:=q.next u (by simpa using N);obtain⟨h1,o⟩:=G _ _ _ ht e hn.2
  split at h
  ·
   obtain⟨i,m⟩:=F _ _ _ _ _ h h1 (by simpa using hn.1) (by simp [hl]) (fun a q=>by grind);exact⟨i,o.trans m⟩
  obtain⟨i,m⟩:=F _ _ _ _ _ h h1 q hl hr;exact⟨i,o.trans m⟩
end
end Go.Rc

