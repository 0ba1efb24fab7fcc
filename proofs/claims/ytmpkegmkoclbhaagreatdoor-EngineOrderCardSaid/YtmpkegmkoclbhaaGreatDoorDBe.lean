/- Base of the proof: frames, memory, ownership, and the plain meaning of rule systems. Conditions: as each lemma says. -/
import Derived.Test.YtmpkegmkoclbhaaGreatDoorDBd
import Derived.Lib.IfaceEq
import Derived.Lib.BufferWrite
import Derived.Lib.UnsafeStr
import Derived.Laws.MakeOwn
import Derived.Test.YtmpkegmkoclbhaaGreatDoorDBc
set_option linter.all false
namespace Go.Rc
open Go
theorem aT.Bt{w w':World}(h:RowKit.Below w.heap.size w w') (b:w.drawn≤w'.drawn):aT [] w w':=⟨h.os,h.tape,h.output,h.size,b,fun k hk _=>h.block k hk⟩
theorem qb(w:World) (p:Addr) (n:Nat):(w.freeze p n).drawn=w.drawn:=by grind [World.freeze]
section
variable {P:Program}{n:Nat}{kv:KV}{w w':World}{K:KV→World→Prop}{d:Tmp}{ty:TypeId}{pos:String}{af:Array Edge}{g:Option (Nat × Bool)}{T U:TypeId}{op:Op}{v:Value}{x y:Operand}
theorem OX.val(b:bw op=false) (e:Nat.blt d n=true) (hk:known kv op=true) (hr:(execOp (jI kv) ⟨some d,op,ty,pos,af,g⟩).run P w=.ok (.value v) w') (h:K ((d,v)::kv) w'):OX P ⟨some d,op,ty,pos,af,g⟩ n kv w K:=⟨b,e,hk,by rw [hr];exact h⟩
theorem PV.Jp{b:TypeDesc}(hT:P.underlying T=some b) (f:∀ms,b≠.interface ms) (e:ev kv x=some v):PV P (.makeInterface T x) ty kv w (.iface T v):=
 ⟨rfl,by simp [known,opers,e],fun _ _ _ _=>by
  simp only [execOp,aK e,Instr.makeInterface,Sem.run_bind,run_underlying hT,Result.andThen_ok]
  simp_all⟩
theorem PV.QG{ms:Array (String × TypeId)}{e:TypeId}{q:IntKind}{a b:Int}(hT:P.underlying T=some (.interface ms)) (hc:(P.info? e).map (·.comparable)=some true) (i:P.underlying e=some (.int q)) (f:ev kv x=some (.iface e (.int .i64 a))) (hy:ev kv y=some (.iface e (.int .i64 b))):PV P (.binOp .eql T x y U) ty kv w (.bool (a == b)):=
 ⟨rfl,by simp [known,opers,f,hy],fun _ _ _ _=>by
  have h:=Lib.run_eql_iface_int w (k:=.i64) a b hT hc i;simp only [execOp,aK f,aK hy]
  simp [eqGuard,h]⟩
theorem OX.VO{r:Value}(e:Nat.blt d n=true) {u v:Value}(b:ev kv x=some u) (hy:ev kv y=some v) (hr:(Instr.makeSlice T u v).run P w=.ok r w') (h:K ((d,r)::kv) w'):OX P ⟨some d,.makeSlice T x y,ty,pos,af,g⟩ n kv w K:=
 OX.val rfl e (by simp [known,opers,b,hy]) (by simp only [execOp,aK b,aK hy,Sem.run_bind,hr,Result.andThen_ok];rfl) h
theorem OX.VP{r u v:Value}(e:Nat.blt d n=true) (b:ev kv x=some u) (hy:ev kv y=some v) (hr:(Builtin.copy_ #[T,U] ty #[u,v]).run P w=.ok r w') (h:K ((d,r)::kv) w'):OX P ⟨some d,.call {callee:=.builtin .copy,args:=#[x,y],argTypes:=#[T,U]},ty,pos,af,g⟩ n kv w K:=
 OX.val rfl e (by simp [known,opers,b,hy]) (by simp [execOp,aK b,aK hy,resolve,invoke,builtin,hr]) h
theorem OX.acf{r u v:Value}(e:Nat.blt d n=true) (b:ev kv x=some u) (hy:ev kv y=some v) (hr:(Builtin.unsafeString_ #[T,U] ty #[u,v]).run P w=.ok r w') (h:K ((d,r)::kv) w'):OX P ⟨some d,.call {callee:=.builtin .unsafeString,args:=#[x,y],argTypes:=#[T,U]},ty,pos,af,g⟩ n kv w K:=
 OX.val rfl e (by simp [known,opers,b,hy]) (by simp [execOp,aK b,aK hy,resolve,invoke,builtin,hr]) h
end
theorem yH{P:Program}{T S e pt it ty1 ty2:TypeId}{i:TypeInfo}(hT:P.underlying T=some (.slice e)) (hi:P.info? e=some i) (f:i.zero=some (.int .u8 0)) (h1:i.size=1) (hb:i.bytes=1) (q:P.underlying pt=some (.pointer e)) {s:ByteArray}(h0:s.size≠0) (J:s.size≤1000) (w:World) :
  ∃w1 w2 w3:World,(Instr.makeSlice T (.int .i64 (s.size:Int)) (.int .i64 (s.size:Int))).run P w=.ok (.slice (some ⟨w.heap.size,0,none⟩) s.size s.size) w1∧
   (Builtin.copy_ #[T,S] ty1 #[.slice (some ⟨w.heap.size,0,none⟩) s.size s.size,.string s]).run P w1=.ok (goInt s.size) w2∧
   (Builtin.unsafeString_ #[pt,it] ty2 #[.pointer (some ⟨w.heap.size,0,none⟩),.int .i64 (s.size:Int)]).run P w2=.ok (.string s) w3∧aT [] w w3:=by
 have r:(P.info? e).map (·.size)=some 1:=by rw [hi];simp [h1]
 have t:P.cellsOf e=1:=by simp [Program.cellsOf,hi,h1]
 have L:(Lib.byteCells s.data.toList).length=s.size:=by rw [Lib.byteCells_length,← Lib.size_eq]
 have b:=run_make (P:=P) w T e i (.int .u8 0) hT hi f .i64 .i64 (s.size:Int) (s.size:Int) (by omega) (by omega) (by rw [hb];omega) (by omega)
 have u:(madeCells (Value.int .u8 0).cells (((s.size:Nat):Int).toNat*i.size)).size=s.size:=by rw [size_madeCells,h1];simp
 generalize madeCells (Value.int .u8 0).cells (((s.size:Nat):Int).toNat*i.size)=M at b u
 rw [Int.toNat_natCast] at b;have m:=Lib.run_copy_row_string (P:=P) (w.alloc (.cells M e)) T S ty1 e w.heap.size 0 s.size s.size s M e hT r (heap_alloc_new w _) (Nat.le_refl _) (by omega)
 have F:(M.toList.take 0++Lib.byteCells s.data.toList++M.toList.drop (0+s.size)).toArray=(Lib.byteCells s.data.toList).toArray:=by grind
 rw [F] at m;have G:((w.alloc (.cells M e)).setRow w.heap.size (Lib.byteCells s.data.toList).toArray).heap[w.heap.size]?=some (.cells (Lib.byteCells s.data.toList).toArray e (0,0)):=setRow_heap _ _ M _ e (0,0) (heap_alloc_new w _);have H:s.data.toList≠[]:=fun h=>h0 (by rw [Lib.size_eq,h];rfl);have o:=Lib.run_unsafeString_row (P:=P) ((w.alloc (.cells M e)).setRow w.heap.size (Lib.byteCells s.data.toList).toArray) pt it ty2 e q t w.heap.size s.size (by grind [World.shape?]) s.data.toList H (by rw [← Lib.size_eq];omega) (by rw [← Lib.size_eq];omega)
  (fun j z f=>Lib.cells_of_row G s.size j _ (by grind [Lib.byteCells]))
 rw [← Lib.size_eq] at o;have I:RowKit.Below w.heap.size (w.alloc (.cells M e)) ((w.alloc (.cells M e)).setRow w.heap.size (Lib.byteCells s.data.toList).toArray):=⟨rfl,rfl,rfl,by simp [World.setRow],fun k hk=>setRow_other _ _ _ _ (by omega)⟩;refine⟨_,_,_,b,m,o,aT.Bt (Lib.below_freeze (((RowKit.Below.refl _ w).alloc (Nat.le_refl _) _).trans I) (p:=⟨w.heap.size,0,none⟩) (Nat.le_refl _) _) ?_⟩;rw [qb];exact Nat.le_refl _
end Go.Rc

namespace Go.Rc
open Go
instance:Inhabited ct:=⟨⟨eS,⟨#[]⟩,0⟩⟩
def bZ.row(x:bZ) (a1:Option Addr) (n1 c1:Nat) (a2:Option Addr) (n2 c2:Nat):List Value:=[.int .i64 x.ad,.slice a1 n1 c1,.slice a2 n2 c2]
def ig(rev:Int) (l:List ct) (i:Nat):Bool:=
 !fQ l[i]!.key || (!aw l[i]!.key || ((decide (0<(i:Int)) && decide (0≤bC l[i - 1]!.key l[i]!.key)) || (decide (1073741824<(l[i]!.value.size:Int)) || (decide (l[i]!.changed<0) || decide (rev<l[i]!.changed)))))
def yI(rev:Int) (l:List ct):Prop:=∀i y,l[i]?=some y→ig rev l i=false
open Classical in
noncomputable def qc(l:List Rec):Bool:=decide (nj l)
theorem D8{l:List Rec}{b:Bool}(h:b=true↔nj l):b=qc l:=by
 unfold qc
 grind
def jB(x:bZ):Prop:=yI x.ad x.ab∧(∀(i:Nat) (r:Rec),x.ah[i]?=some r→r.av≤x.ad)∧0≤x.ad∧x.ad≤1073741824∧x.ab.length≤64∧nj x.ah
noncomputable def lY(x:bZ):Bool:=decide (0≤x.ad) && (decide (x.ad≤1073741824) && (decide ((x.ab.length:Int)≤64) && qc x.ah))
theorem sw(x:bZ):lY x=true↔0≤x.ad∧x.ad≤1073741824∧x.ab.length≤64∧nj x.ah:=by
 simp only [lY,qc,Bool.and_eq_true,decide_eq_true_eq]
 grind
theorem PV.ui{P:Program}{kv:KV}{w:World}{T ty:TypeId}{f off:Nat}{fs:List Field}{fd:Field}(hu:P.underlying T=some (.struct fs.toArray)) (b:fs[f]?=some fd) (e:fd.offset=off) (h1:∀w,(isAgg fd.type).run P w=.ok false w)
  {x:Operand}{us:List Value}{v:Value}(h:ev kv x=some (.agg us.toArray)) (i:nth us off=some v):PV P (.field T x f) ty kv w v:=
 PV.Me hu (by simpa using b) e h1 h (by rw [← tS];exact i)
end Go.Rc
namespace Go.Rc
open Go
def cY(k:Key):Prop:=k.kind<1∨22<k.kind
def aG(aa:List aH) (k:Key) (ae:List ByteArray):yB:=if k.kind=31∨k.kind=32 then cx aa k ae else ⟨true,⟨#[]⟩,eS⟩
def tL(n:Int):ByteArray:=if n=14 then ⟨#[48]⟩ else ⟨#[]⟩
def o8(k:Key):ByteArray:=if k.kind=32 then ⟨#[48]⟩ else if az k then tL k.kind else ⟨#[]⟩
def iN(aa:List aH) (k:Key):Bool:=fQ k && ((decide (k.kind≠31) && decide (k.kind≠32)) || decide (aM aa (number k)=k))
def aC(l:List Rec) (k:Key):Rec:=(aA l k).getD nh
def bT(l:List Rec) (rev:Int) (k:Key):Bool:=(aA l k).isSome && (az k && (decide ((aC l k).av<rev) && !(aC l k).bq))
def gu(x:bZ) (k:Key):Bool:=aw k || ((aA x.ah k).isSome && decide ((aC x.ah k).av=x.ad))
def i6(x:bZ) (k:Key):ByteArray:=if aw k then (bA x.ab k).value else if gu x k then (aC x.ah k).value else ⟨#[]⟩
def bs(x:bZ) (k:Key) (v:ByteArray) (reads:List Key):Rec:=
 ⟨k,v,reads,if (aA x.ah k).isSome && decide ((aC x.ah k).value=v) then (aC x.ah k).changed else x.ad,x.ad,1+(reads.length:Int),false⟩
end Go.Rc
namespace Go.Rc
open Go
open Classical in
noncomputable def gJ(aa:List aH) (x:bZ) (goals:List Key):Int:=
 if ¬aq aa then 41 else if ¬jB x then 42 else if 32<goals.length then 3 else if goals.all (iN aa) then 0 else 40
end Go.Rc
namespace Go.Rc
open Go
structure oa where
 dC:Key
 read:Key
 deriving DecidableEq
def oa.cells(x:oa):List Value:=[.int .i64 x.dC.kind,.string x.dC.text,.int .i64 x.read.kind,.string x.read.text]
def cT(group:List Key) (m:Key) (l:List Key):List oa:=(l.filter fun x=>!decide (x∈group)).map fun x=>⟨m,x⟩
def bR(l:List Rec) (group:List Key):List oa:=group.flatMap fun m=>cT group m (aC l m).reads
theorem jq{group:List Key}{m:Key}{l:List Key}{j:Nat}(h:j<l.length):cT group m (l.take (j+1))=if l[j]∈group then cT group m (l.take j) else cT group m (l.take j)++[⟨m,l[j]⟩]:=by
 rw [List.take_succ_eq_append_getElem h];simp only [cT,List.filter_append,List.map_append]
 grind
theorem jX(group:List Key) (m:Key) (l:List Key):(cT group m l).length≤l.length:=by grind [cT]
end Go.Rc
namespace Go.Rc
end Go.Rc

namespace Go.Rc
open Go
variable {E EK ER EI ES EF base:Nat}{w w':World}{a:Option Addr}{n c:Nat}{S:List Nat}
structure bp where
 key:Key
 running:Bool
 at_:Int
 reads:List Key
 ae:List ByteArray
 deriving DecidableEq
def bp.row(x:bp) (a1:Option Addr) (n1 c1:Nat) (a2:Option Addr) (n2 c2:Nat):List Value:=[.int .i64 x.key.kind,.string x.key.text,.bool x.running,.int .i64 x.at_,.slice a1 n1 c1,.slice a2 n2 c2]
/-! the plain meaning -/
def gj(l:List bp) (k:Key):Bool:=l.any fun f=>decide (f.key=k)
def cN(x:bZ) (l:List bp) (k:Key):Bool:=!(aw k || gj l k) && (!(aA x.ah k).isSome || decide ((aC x.ah k).av≠x.ad))
def bJ(x:bZ) (l others:List bp) (k:Key):Int:=
 if !az k && gj l k then 3 else if !cN x l k then 0 else if !gj others k then 1 else if az k then 0 else 2
end Go.Rc
namespace Go.Rc
open Go
variable {EA ERu:Nat}{w w':World}{a:Option Addr}{n c base:Nat}{S:List Nat}
def aH.row(x:aH) (a:Option Addr) (n c:Nat):List Value:=[.bool x.ring,.slice a n c,.int .i64 x.final,.int .i64 x.c]
theorem aH.one(x:aH) (a:Option Addr) (n c:Nat):∀u∈x.row a n c,u.oneCell'=true:=by simp [aH.row,Value.oneCell']
end Go.Rc

namespace Go.Rc
open Go
def RR.key:RR Key:=RR.flat Key.cells
def RR.str:RR ByteArray:=RR.flat fun s=>[.string s]
def RR.ask:RR Ask:=RR.flat Ask.cells
def RR.aD:RR ct:=RR.flat ct.cells
def RR.Bu:RR oa:=RR.flat oa.cells
def RR.int:RR Int:=RR.flat fun n=>[.int .i64 n]
def RR.fb:RR aH where
 r Z w x row:=Be Z w x row
 mono hZ h:=by obtain⟨a,n,c,h1,h2⟩:=h;exact⟨a,n,c,h1,h2.mono (fun b hb _=>hZ b hb) fun _ _ h=>h⟩
 st hs hc h:=by obtain⟨a,n,c,h1,h2⟩:=h;exact⟨a,n,c,h1,SR.st hs hc (fun _ _ h=>h) h2⟩
 cut h:=by obtain⟨a,n,c,h1,h2⟩:=h;exact⟨a,n,c,h1,h2.mono (fun b hb AE=>⟨hb,AE⟩) fun _ _ h=>h⟩
def RR.ei:RR Rec where
 r Z w x row:=∃a n c,row=x.row a n c∧Rd RR.key 2 Z w a n c x.reads∧x.reads.length≤4000
 mono hZ h:=by obtain⟨a,n,c,h1,h2,h3⟩:=h;exact⟨a,n,c,h1,h2.mono hZ,h3⟩
 st hs hc h:=by obtain⟨a,n,c,h1,h2,h3⟩:=h;exact⟨a,n,c,h1,h2.st hs hc,h3⟩
 cut h:=by grind [Rd.cut]
def RR.mJ:RR bp where
 r Z w x row:=∃a1 n1 c1 a2 n2 c2,row=x.row a1 n1 c1 a2 n2 c2∧Rd RR.key 2 Z w a1 n1 c1 x.reads∧Rd RR.str 1 Z w a2 n2 c2 x.ae∧x.reads.length≤4000∧x.ae.length≤4000
 mono hZ h:=by obtain⟨a,n,c,a2,n2,c2,h1,h2,h3,h4⟩:=h;exact⟨a,n,c,a2,n2,c2,h1,h2.mono hZ,h3.mono hZ,h4⟩
 st hs hc h:=by obtain⟨a,n,c,a2,n2,c2,h1,h2,h3,h4⟩:=h;exact⟨a,n,c,a2,n2,c2,h1,h2.st hs hc,h3.st hs hc,h4⟩
 cut h:=by grind [Rd.cut]
end Go.Rc

namespace Go.Rc
open Go
/-! ### numbers and their texts -/
theorem uj:∀(u:Nat) (n:Nat) (rest:List UInt8),decFrom (Lib.decDigits u++rest) (n:Int)=decFrom rest ((n*10 ^ Lib.nDigits u+u:Nat):Int):=by
 intro u
 induction u using Nat.strongRecOn with
 | _ u b=>
  intro n rest
  by_cases h:u<10
  ·
   rw [Lib.decDigits_one h,Lib.nDigits_small h]
   have e:(UInt8.ofNat (48+u)).toNat=48+u:=by rw [UInt8.toNat_ofNat'];omega
   simp only [List.cons_append,List.nil_append,decFrom,e]
   grind
  rw [Lib.decDigits,dif_neg h,Lib.nDigits_big h,List.append_assoc,b (u / 10) (by omega)]
  have e:(UInt8.ofNat (48+u % 10)).toNat=48+u % 10:=by rw [UInt8.toNat_ofNat'];omega
  simp only [List.cons_append,List.nil_append,decFrom,e]
  grind
theorem uk:∀u:Nat,∃d r,Lib.decDigits u=d::r∧(0<u→d≠48):=by
 intro u
 induction u using Nat.strongRecOn with
 | _ u b=>
  by_cases h:u<10
  ·
   refine⟨_,[],Lib.decDigits_one h,fun hu e=>?_⟩
   have:=congrArg UInt8.toNat e
   rw [UInt8.toNat_ofNat'] at this
   grind
  obtain⟨d,r,h1,f⟩:=b (u / 10) (by omega);exact⟨d,r++[UInt8.ofNat (48+u % 10)],by rw [Lib.decDigits,dif_neg h,h1];rfl,fun _=>f (by omega)⟩
theorem um:∀(k u:Nat),u<10 ^ (k+1)→Lib.nDigits u≤k+1
 | 0,u,h=>by grind [Lib.nDigits_small]
 | k+1,u,h=>by
  by_cases h1:u<10
  ·
   rw [Lib.nDigits_small h1];omega
  rw [Lib.nDigits_big h1]
  have:=um k (u / 10) (by rw [Nat.pow_succ] at h;omega)
  omega
theorem jY{n:Nat}(h:n<1000000000):dP (itoa (n:Int))=n:=by
 have e:Lib.itoa (n:Int)=Lib.decDigits n:=by unfold Lib.itoa;rw [if_neg (by omega)];rfl
 have hl:(Lib.decDigits n).length≤9:=by rw [Lib.decDigits_length];exact um 8 n h
 have o:1≤(Lib.decDigits n).length:=by grind [Lib.decDigits_length,Lib.nDigits_pos]
 have f:(itoa (n:Int)).size=(Lib.decDigits n).length:=by grind [itoa,ByteArray.size]
 have b:(itoa (n:Int)).data.toList=Lib.decDigits n:=by unfold itoa;rw [e]
 unfold dP
 rw [if_neg]
 ·
  rw [b,← List.append_nil (Lib.decDigits n)]
  have:=uj n 0 []
  simp only [Nat.zero_mul,Nat.zero_add] at this;exact this
 rw [f,b];rintro(h1 | h1 | ⟨h1,p⟩)
 ·
  omega
 ·
  omega
 obtain⟨d,r,i,m⟩:=uk n;rw [i] at h1
 simp at h1
 by_cases h0:0<n
 ·
  exact m h0 h1
 grind [Lib.decDigits_one]
theorem fj{n:Nat}(h:n≤65535):cD (itoa (n:Int))=n:=by
 unfold cD
 rw [jY (by omega),if_neg (by omega)]
 rfl
theorem Bv{m n:Nat}(hm:m<1000000000) (hn:n<1000000000) (h:itoa (m:Int)=itoa (n:Int)):m=n:=by grind [jY]
/-! ### keys -/
theorem cj{aa:List aH}{i:Nat}(hi:i<aa.length) (jr:i≤99):number (aM aa (i:Int))=i:=by
 have hk:aM aa (i:Int)=⟨if aF aa i then 32 else 31,itoa i⟩:=by unfold aM;rw [if_neg (by omega)];rfl
 rw [hk]
 unfold number
 simp only
 rw [jY (by omega),if_pos]
 split <;> omega
theorem eG{aa:List aH}{i:Nat}(hi:i<aa.length) (jr:i≤99):(aM aa (i:Int)).kind=if aF aa i then 32 else 31:=by
 unfold aM;rw [if_neg (by omega)];rfl
theorem di{aa:List aH}{i:Nat}(hi:i<aa.length) (jr:i≤99):aw (aM aa (i:Int))=false:=by grind [aw,eG]
theorem bD{n:Nat}(h:n≤99):aw (cF (n:Int))=true:=by
 unfold aw cF;rw [if_neg (by omega)];simp
theorem bf{aa:List aH}{i:Nat}(hi:i<aa.length) (jr:i≤99):az (aM aa (i:Int))=aF aa i:=by grind [az,eG]
theorem kh{n:Nat}(h:n≤99):az (cF (n:Int))=false:=by
 unfold az cF;rw [if_neg (by omega)];simp
inductive ep (aa:List aH):Key→Prop where
 | cell {n:Nat}(h:n≤99):ep aa (cF (n:Int))
 | fb {i:Nat}(h:i<aa.length) (jr:i≤99):ep aa (aM aa (i:Int))
/-! ### values -/
def cellOf(aD:List ct) (k:Key):ByteArray:=(bA aD k).value
def dW(turn:List ByteArray→yB) (gM:Key→ByteArray):Nat→List Key × List ByteArray
 | 0=>([],[])
 | n+1=>((dW turn gM n).1++[(turn (dW turn gM n).2).ask],(dW turn gM n).2++[gM (turn (dW turn gM n).2).ask])
def Jq(aD:List ct) (prev:List ByteArray) (k:Key):ByteArray:=if aw k then cellOf aD k else prev.getD (number k).toNat ⟨#[]⟩
def cL(aa:List aH) (i:Nat):Nat:=(aa[i]?.map (·.asks.length)).getD 0
def bQ(aa:List aH) (x:Ask):Key:=if x.cell then cF x.n else aM aa x.n
def fN(aa:List aH) (i j:Nat):Prop:=∃r x,aa[i]?=some r∧r.ring=true∧x∈r.asks∧x.cell=false∧x.n=(j:Int)∧aF aa j=true
inductive cU (aa:List aH) (i:Nat):Nat→Prop where
 | refl:cU aa i i
 | step {j k:Nat}:cU aa i j→fN aa j k→cU aa i k
def outside(aa:List aH) (x:Ask):Bool:=x.cell || !aF aa x.n.toNat
def kK(aa:List aH) (gM:Key→ByteArray) (j:Nat):Nat:=
 match aa[j]? with
 | some r=>fc r.c.toNat ((r.asks.filter (outside aa)).map fun x=>cD (gM (bQ aa x)))
 | none=>0
open Classical in
noncomputable def ofBits(P:Nat→Prop):Nat→Nat
 | 0=>0
 | n+1=>ofBits P n ||| (if P n then 2 ^ n else 0)
theorem Hk(P:Nat→Prop):∀n,ofBits P n<2 ^ n:=by
 intro n
 induction n with
 | zero=>simp [ofBits]
 | succ n b=>
  unfold ofBits
  refine Nat.or_lt_two_pow (Nat.lt_of_lt_of_le b (Nat.pow_le_pow_right (by omega) (by omega))) ?_
  grind
theorem D9(P:Nat→Prop):∀n b,(ofBits P n).testBit b=true↔b<n∧P b:=by
 intro n
 induction n with
 | zero=>intro b;simp [ofBits]
 | succ n e=>
  intro b
  unfold ofBits
  grind
noncomputable def uo(aa:List aH) (gM:Key→ByteArray) (i:Nat):Nat:=ofBits (fun b=>∃j,cU aa i j∧(kK aa gM j).testBit b=true) 16
noncomputable def qd(aa:List aH) (aD:List ct) (prev:List ByteArray) (i:Nat):ByteArray:=
 if aF aa i then itoa (uo aa (Jq aD prev) i:Int)
 else (cx aa (aM aa (i:Int)) (dW (cx aa (aM aa (i:Int))) (Jq aD prev) (cL aa i)).2).value
noncomputable def bj(aa:List aH) (aD:List ct):Nat→List ByteArray
 | 0=>[]
 | n+1=>bj aa aD n++[qd aa aD (bj aa aD n) n]
noncomputable def tp(aa:List aH) (aD:List ct) (i:Nat):ByteArray:=qd aa aD (bj aa aD i) i
noncomputable def valOf(aa:List aH) (aD:List ct) (k:Key):ByteArray:=if aw k then cellOf aD k else tp aa aD (number k).toNat
section
variable {aa:List aH}{aD:List ct}
theorem Jr:∀n,(bj aa aD n).length=n:=by
 intro n;induction n with
 | zero=>rfl
 | succ n b=>simp [bj,b]
theorem Js:∀n m,m<n→(bj aa aD n).getD m ⟨#[]⟩=tp aa aD m:=by
 intro n
 induction n with
 | zero=>intro m h;omega
 | succ n b=>grind [bj,Jr,tp]
theorem xy{n:Nat}{k:Key}(h:aw k=true∨(number k).toNat<n):Jq aD (bj aa aD n) k=valOf aa aD k:=by
 unfold Jq valOf
 by_cases hi:aw k=true
 ·
  rw [if_pos hi,if_pos hi]
 rw [if_neg hi,if_neg hi,Js]
 grind
theorem gC(turn:List ByteArray→yB) (gM:Key→ByteArray):∀n,(dW turn gM n).1.length=n∧(dW turn gM n).2.length=n:=by
 intro n;induction n with
 | zero=>simp [dW]
 | succ n b=>simp [dW,b.1,b.2]
theorem uq{turn:List ByteArray→yB}{gM b:Key→ByteArray}:∀n,(∀m,m<n→gM (turn (dW turn gM m).2).ask=b (turn (dW turn gM m).2).ask)→dW turn gM n=dW turn b n:=by
 intro n
 induction n with
 | zero=>intro _;rfl
 | succ n e=>grind [dW]
end
/-! ### what valid rules ask for -/
section
variable {aa:List aH}{aD:List ct}
theorem gw(l:List aH):∀k,bG l k≤k:=by
 intro k;induction k with
 | zero=>simp [bG]
 | succ k b=>unfold bG;split <;> omega
theorem xz(l:List aH) {m:Nat}(h:m≤l.length):dJ l m≤l.length:=by grind [dJ,List.takeWhile_sublist]
theorem Bw{i:Nat}(hi:i<aa.length):block aa (i:Int)=if aF aa i then ((bG aa i:Int),(dJ aa (i+1):Int)) else ((i:Int),(i:Int)+1):=by
 unfold block;rw [if_neg (by omega)];rfl
theorem o9{i j:Nat}(hi:aF aa i=true) (h1:bG aa i≤j) (e:j<dJ aa (i+1)):aF aa j=true:=by
 have f:∀k,bG aa k≤j→j<k→aF aa j=true:=by
  intro k
  induction k with
  | zero=>intro _ h;omega
  | succ k t=>
   intro o u
   unfold bG at o
   grind
 rcases Nat.lt_trichotomy j i with h | h | h
 ·
  exact f i h1 h
 ·
  rw [h];exact hi
 have key:∀(l:List aH) (m j:Nat),m≤j→j<m+((l.drop m).takeWhile (·.ring)).length→aF l j=true:=by
  intro l m j hm z
  have b:j - m<((l.drop m).takeWhile (·.ring)).length:=by omega
  have q:=List.getElem_mem b;have hr:=List.all_eq_true.1 (List.all_takeWhile (p:=fun x:aH=>x.ring) (l:=l.drop m)) _ q;have r:((l.drop m).takeWhile (·.ring)) <+: l.drop m:=List.takeWhile_prefix _;have F:=r.getElem b
  grind [bW]
 exact key aa (i+1) j (by omega) e
theorem lH{i:Nat}(hi:i<aa.length) (hlen:aa.length≤24) {c:Bool}{n:Int}(h:gB aa i c n=true) :
  ∃m:Nat,n=m∧if c then m≤15 else m<aa.length∧(aF aa m=true∧aF aa i=true∨m<i)∧(aF aa i=false→m<i)∧(aF aa m=false→m<i):=by
 unfold gB at h
 cases c
 ·
  simp only [Bool.false_eq_true,if_false,Bool.and_eq_true,decide_eq_true_eq] at h ⊢;obtain⟨m,rfl⟩:∃m:Nat,n=m:=⟨n.toNat,by omega⟩;refine⟨m,rfl,?_⟩;have b:=h.2
  unfold fD at b
  rw [Bw hi] at b
  by_cases hr:aF aa i=true
  ·
   rw [if_pos hr] at b;simp only [hr,if_true] at b
   have f:m<dJ aa (i+1):=by omega
   have o:=xz aa (show i+1≤aa.length by omega);refine⟨by omega,?_,(fun h=>by rw [hr] at h;cases h),?_⟩
   ·
    by_cases e:m<i
    ·
     exact .inr e
    grind [o9,gw]
   grind [o9,gw]
  grind
 simp only [if_true,Bool.and_eq_true,decide_eq_true_eq] at h ⊢;exact⟨n.toNat,by omega,by omega⟩
end
end Go.Rc

namespace Go.Rc
open Go
section
variable {aa:List aH}{aD:List ct}
theorem aq.len(h:aq aa):aa.length≤24:=h.1
theorem aq.at(h:aq aa) {i:Nat}(hi:i<aa.length):lT aa i aa[i]:=h.2 i _ (ak hi)
theorem dQ{i:Nat}(hi:i<aa.length):cL aa i=aa[i].asks.length:=by grind [cL]
theorem Ea{m lo:Nat}(h1:lo≤m) (h:∀j,lo≤j→j<m→aF aa j=true):bG aa m≤lo:=by
 induction m with
 | zero=>simp [bG]
 | succ m b=>
  by_cases e:lo=m+1
  ·
   rw [e];exact gw _ _
  unfold bG
  grind
theorem qe(_hR:aq aa) {i:Nat}(hi:i<aa.length) (hr:aF aa i=true) {m:Nat}(h:gB aa i false (m:Int)=true) :
  m<aa.length∧(aF aa m=true→bG aa m≤bG aa i)∧(aF aa m=false→m<bG aa i):=by
 unfold gB at h
 simp only [Bool.false_eq_true,if_false,Bool.and_eq_true,decide_eq_true_eq] at h;have b:=h.2
 unfold fD at b
 rw [Bw hi,if_pos hr] at b;simp only [hr,if_true] at b
 grind [xz,Ea,o9]
def eT(aa:List aH) (i:Nat) (k:Key):Prop:=
 (∃n:Nat,n≤15∧k=cF (n:Int))∨
 (∃m:Nat,m<aa.length∧k=aM aa (m:Int)∧(aF aa m=true∧aF aa i=true∨m<i)∧(aF aa i=false→m<i)∧(aF aa m=false→m<i)∧(aF aa m=false→aF aa i=true→m<bG aa i))
theorem Gl(e:aq aa) {i:Nat}(hi:i<aa.length) {c:Bool}{n:Int}(h:gB aa i c n=true):eT aa i (if c then cF n else aM aa n):=by
 obtain⟨m,rfl,b⟩:=lH hi e.len h
 cases c
 ·
  exact .inr ⟨m,b.1,rfl,b.2.1,b.2.2.1,b.2.2.2,fun f o=>(qe e hi o h).2.2 f⟩
 exact .inl ⟨m,b,rfl⟩
theorem eT.Jt(b:aq aa) {i:Nat}{k:Key}(h:eT aa i k):ep aa k:=by
 have:=b.len
 rcases h with⟨n,h1,rfl⟩ | ⟨m,h1,rfl,_⟩
 ·
  exact .cell (by omega)
 exact .fb h1 (by omega)
theorem QH(e:aq aa) {i n:Nat}(hi:i<aa.length) (hn:n<aa[i].asks.length) (ae:List ByteArray) (hl:ae.length=n) :
  eT aa i (if aa[i].asks[n].cell then cF (oZ aa[i].asks[n] ae) else aM aa (oZ aa[i].asks[n] ae)):=by
 obtain⟨_,h,_⟩:=e.at hi;have b:=h n _ (ak hn)
 unfold fo at b
 rw [Bool.and_eq_true] at b
 unfold oZ
 by_cases f:fm aa[i].asks[n] ae=true
 ·
  rw [if_pos f]
  have m:aa[i].asks[n].pick=true:=by grind [fm]
  rw [m] at b;simp only [if_true,Bool.and_eq_true] at b;exact Gl e hi b.2.2
 rw [if_neg f];exact Gl e hi b.1
theorem et(b:aq aa) {i:Nat}(hi:i<aa.length) {ae:List ByteArray}(hn:ae.length<cL aa i) :
  ∃a,cx aa (aM aa (i:Int)) ae=⟨false,⟨#[]⟩,a⟩∧eT aa i a∧(aF aa i=true→∃x,aa[i].asks[ae.length]?=some x∧a=bQ aa x):=by
 have h:=b.len;rw [dQ hi] at hn;have hk:=cj hi (by omega:i≤99);refine⟨_,jc hk hi (by rw [hk]) hn,QH b hi hn ae rfl,fun hr=>⟨_,ak hn,?_⟩⟩;obtain⟨_,f,_⟩:=b.at hi;have e:=f _ _ (ak hn)
 unfold fo at e
 rw [Bool.and_eq_true] at e
 grind [bW,bQ,oZ,fm]
theorem gD(b:aq aa) {i:Nat}(hi:i<aa.length) {ae:List ByteArray}(hn:ae.length=cL aa i) :
  cx aa (aM aa (i:Int)) ae=⟨true,itoa (dq aa[i].final aa[i].c.toNat (ae.map cD)),eS⟩:=by grind [aq.len,dQ,cj,j9]
theorem nk(b:aq aa) {i:Nat}(hi:i<aa.length):cL aa i≤6:=by rw [dQ hi];exact(b.at hi).1
theorem yJ(b:aq aa) {i:Nat}{k:Key}(h:eT aa i k) (hr:aF aa i=false∨az k=false):aw k=true∨(number k).toNat<i:=by
 have e:=b.len
 rcases h with⟨n,h1,rfl⟩ | ⟨m,h1,rfl,f,o,p,_⟩
 ·
  grind [bD]
 grind [cj,bf]
theorem Hl(b:aq aa) {i:Nat}(hi:i<aa.length) (hr:aF aa i=false) :
  cx aa (aM aa (i:Int)) (dW (cx aa (aM aa (i:Int))) (valOf aa aD) (cL aa i)).2=⟨true,tp aa aD i,eS⟩:=by
 have h:tp aa aD i=(cx aa (aM aa (i:Int)) (dW (cx aa (aM aa (i:Int))) (valOf aa aD) (cL aa i)).2).value:=by
  unfold tp qd
  rw [if_neg (by simp [hr])]
  grind [uq,et,gC,xy,yJ]
 grind [gD,gC]
/-! rings -/
theorem ka(b:aq aa) {i:Nat}(hi:i<aa.length) (_hr:aF aa i=true) {x:Ask}(e:x∈aa[i].asks):gB aa i x.cell x.n=true:=by
 obtain⟨k,hk,rfl⟩:=List.mem_iff_getElem.1 e
 have:=(b.at hi).2.1 k _ (ak hk)
 unfold fo at this
 grind
theorem fN.lt{i j:Nat}(h:fN aa i j):i<aa.length∧j<aa.length∧aF aa i=true∧aF aa j=true:=by
 obtain⟨r,x,h1,b,_,_,_,e⟩:=h
 grind [lR,bW]
theorem jd{i j:Nat}(hi:i<aa.length) (hr:aF aa i=true) (h:cU aa i j):j<aa.length∧aF aa j=true:=by
 induction h with
 | refl=>exact⟨hi,hr⟩
 | step _ b _=>exact⟨b.lt.2.1,b.lt.2.2.2⟩
theorem ki(e:aq aa) {i j:Nat}(h:cU aa i j):bG aa j≤bG aa i:=by
 induction h with
 | refl=>exact Nat.le_refl _
 | step h1 b f=>
  have hl:=b.lt;obtain⟨r,x,m,o,p,q,t,u⟩:=b
  grind [ka,qe]
theorem cU.head{i j k:Nat}(h:fN aa i j) (b:cU aa j k):cU aa i k:=by
 induction b with
 | refl=>exact .step .refl h
 | step _ e f=>exact .step f e
theorem cU.cases{i k:Nat}(h:cU aa i k):k=i∨∃j,fN aa i j∧cU aa j k:=by
 induction h with
 | refl=>exact .inl rfl
 | step h1 b e=>
  right
  rcases e with rfl | ⟨j,f,m⟩
  ·
   exact⟨_,b,.refl⟩
  exact⟨j,f,.step m b⟩
theorem lI:∀(l:List Nat) (c b:Nat),(fc c l).testBit b=true↔c.testBit b=true∨∃x∈l,x.testBit b=true:=by
 intro l
 induction l with
 | nil=>intro c b;simp [fc]
 | cons x r e=>
  intro c b
  have:=e (c ||| x) b
  simp only [fc,List.foldl_cons] at this ⊢
  grind
theorem ur(b:aq aa) {i:Nat}(hi:i<aa.length) (hr:aF aa i=true):aa[i].final=5∧aa[i].c.toNat≤65535:=by
 have h:=(b.at hi).2.2
 grind [ia,bW]
theorem xA{n b:Nat}(h:n≤65535) (hb:n.testBit b=true):b<16:=by
 rcases Nat.lt_or_ge b 16 with h1 | h1
 ·
  exact h1
 have:=Nat.ge_two_pow_of_testBit hb
 have e:2 ^ 16≤2 ^ b:=Nat.pow_le_pow_right (by omega) h1
 omega
theorem fk{gM:Key→ByteArray}{i:Nat}(hi:i<aa.length) (b:Nat) :
  (kK aa gM i).testBit b=true↔aa[i].c.toNat.testBit b=true∨∃x∈aa[i].asks,outside aa x=true∧(cD (gM (bQ aa x))).testBit b=true:=by
 unfold kK
 rw [ak hi];simp only [lI,List.mem_map,List.mem_filter]
 grind
theorem Ju(e:aq aa) {gM:Key→ByteArray}{i:Nat}(hi:i<aa.length) (hr:aF aa i=true) {b:Nat}(h:(kK aa gM i).testBit b=true):b<16:=by
 rcases(fk hi b).1 h with h1 | ⟨x,_,_,h1⟩
 ·
  exact xA (ur e hi hr).2 h1
 exact xA (kJ _) h1
theorem eC(m:aq aa) {gM:Key→ByteArray}{i:Nat}(hi:i<aa.length) (hr:aF aa i=true) (b:Nat) :
  (uo aa gM i).testBit b=true↔∃j,cU aa i j∧(kK aa gM j).testBit b=true:=by
 unfold uo
 rw [D9]
 constructor
 ·
  exact fun h=>h.2
 rintro⟨j,h1,e⟩;have f:=jd hi hr h1;exact⟨Ju m f.1 f.2 e,j,h1,e⟩
theorem Bx{gM:Key→ByteArray}(i:Nat):uo aa gM i≤65535:=by
 have:=Hk (fun b=>∃j,cU aa i j∧(kK aa gM j).testBit b=true) 16
 unfold uo;omega
noncomputable def rv(aa:List aH) (aD:List ct) (i:Nat):Nat:=uo aa (valOf aa aD) i
theorem yK(e:aq aa) {i:Nat}(hi:i<aa.length) (hr:aF aa i=true) {x:Ask}(h:x∈aa[i].asks) (f:outside aa x=true):aw (bQ aa x)=true∨(number (bQ aa x)).toNat<bG aa i:=by
 have o:=e.len;have hm:=ka e hi hr h;obtain⟨m,h1,b⟩:=lH hi e.len hm
 unfold bQ
 unfold outside at f
 cases hc:x.cell
 ·
  rw [hc] at hm f b
  right
  simp only [Bool.false_eq_true,if_false] at b ⊢
  grind [cj,qe]
 left
 rw [hc] at b;simp only [if_true] at b ⊢
 grind [bD]
theorem iw(e:aq aa) {i:Nat}(hi:i<aa.length) (hr:aF aa i=true):tp aa aD i=itoa (rv aa aD i:Int):=by
 unfold tp qd rv
 rw [if_pos hr]
 congr 2
 refine Nat.eq_of_testBit_eq fun b=>?_;rw [Bool.eq_iff_iff,eC e hi hr,eC e hi hr]
 have key:∀j,cU aa i j→((kK aa (Jq aD (bj aa aD i)) j).testBit b=true↔(kK aa (valOf aa aD) j).testBit b=true):=by
  intro j h;have f:=jd hi hr h;have m:=ki e h;have hle:=gw aa i;rw [fk f.1,fk f.1];refine or_congr_right (exists_congr fun x=>and_congr_right fun o=>and_congr_right fun p=>?_);rw [xy]
  grind [yK]
 grind
theorem gW(b:aq aa) {i:Nat}(hi:i<aa.length):valOf aa aD (aM aa (i:Int))=tp aa aD i:=by
 have e:=b.len
 unfold valOf
 rw [if_neg (by grind [di]),cj hi (by omega)]
 rfl
theorem nn{n:Nat}(h:n≤99):valOf aa aD (cF (n:Int))=cellOf aD (cF (n:Int)):=by
 unfold valOf;rw [if_pos (bD h)]
def ob(aa:List aH) (gM:Key→ByteArray) (i:Nat):List Nat:=((aa[i]?.map (·.asks)).getD []).map fun x=>cD (gM (bQ aa x))
theorem xB(b:aq aa) {i:Nat}(hi:i<aa.length) (hr:aF aa i=true) (gM:Key→ByteArray):∀n,n≤aa[i].asks.length→
  dW (cx aa (aM aa (i:Int))) gM n=((aa[i].asks.take n).map (bQ aa),(aa[i].asks.take n).map fun x=>gM (bQ aa x)):=by
 intro n
 induction n with
 | zero=>intro _;simp [dW]
 | succ n f=>
  intro hn;have e:=f (by omega);simp only [dW]
  have hlen:((aa[i].asks.take n).map fun x=>gM (bQ aa x)).length=n:=by simp;omega
  obtain⟨a,h1,_,h⟩:=et b hi (ae:=(aa[i].asks.take n).map fun x=>gM (bQ aa x)) (by rw [hlen,dQ hi];omega)
  grind [List.take_succ_eq_append_getElem]
theorem Hm(b:aq aa) {i:Nat}(hi:i<aa.length) (hr:aF aa i=true) (gM:Key→ByteArray) :
  cx aa (aM aa (i:Int)) (dW (cx aa (aM aa (i:Int))) gM (cL aa i)).2=⟨true,itoa (fc aa[i].c.toNat (ob aa gM i):Int),eS⟩:=by
 rw [gD b hi ((gC _ _ _).2),xB b hi hr gM _ (by rw [dQ hi];exact Nat.le_refl _),(ur b hi hr).1,dQ hi]
 unfold ob
 rw [ak hi];simp only [List.take_length,List.map_map,Option.map_some,Option.getD_some]
 rfl
theorem sy{gM:Key→ByteArray}{i:Nat}(hi:i<aa.length) (b:Nat) :
  (fc aa[i].c.toNat (ob aa gM i)).testBit b=true↔(kK aa gM i).testBit b=true∨∃x∈aa[i].asks,outside aa x=false∧(cD (gM (bQ aa x))).testBit b=true:=by
 rw [lI,fk hi]
 unfold ob
 grind
theorem ij(f:aq aa) {i:Nat}(hi:i<aa.length) (hr:aF aa i=true) {x:Ask}(h:x∈aa[i].asks) (b:outside aa x=false):∃j:Nat,fN aa i j∧bQ aa x=aM aa (j:Int)∧j<aa.length:=by
 have hm:=ka f hi hr h
 unfold outside at b
 rw [Bool.or_eq_false_iff] at b;obtain⟨m,h1,e⟩:=lH hi f.len hm;rw [b.1] at e;simp only [Bool.false_eq_true,if_false] at e
 have o:aF aa m=true:=by grind
 refine⟨m,⟨_,x,ak hi,by rw [← bW hi];exact hr,h,b.1,h1,o⟩,?_,e.1⟩
 grind [bQ]
theorem pa{i j:Nat}(hi:i<aa.length) (h:fN aa i j):∃x∈aa[i].asks,outside aa x=false∧bQ aa x=aM aa (j:Int):=by
 obtain⟨r,x,h1,_,b,e,f,m⟩:=h
 grind [outside,bQ]
theorem QI(f:aq aa) {i:Nat}(hi:i<aa.length) (hr:aF aa i=true):fc aa[i].c.toNat (ob aa (valOf aa aD) i)=rv aa aD i:=by
 refine Nat.eq_of_testBit_eq fun b=>?_;rw [Bool.eq_iff_iff,sy hi]
 unfold rv
 rw [eC f hi hr]
 have t:∀j,j<aa.length→aF aa j=true→cD (valOf aa aD (aM aa (j:Int)))=uo aa (valOf aa aD) j:=fun j u z=>by
  rw [gW f u,iw f u z];exact fj (Bx j)
 constructor
 ·
  rintro(h | ⟨x,h1,o,e⟩)
  ·
   exact⟨i,.refl,h⟩
  obtain⟨j,m,q,p⟩:=ij f hi hr h1 o;rw [q,t j p m.lt.2.2.2,eC f p m.lt.2.2.2] at e;obtain⟨k,r,F⟩:=e;exact⟨k,.head m r,F⟩
 rintro⟨k,h1,o⟩
 rcases h1.cases with rfl | ⟨j,e,m⟩
 ·
  exact .inl o
 right
 obtain⟨x,q,p,r⟩:=pa hi e;refine⟨x,q,p,?_⟩;rw [r,t j e.lt.2.1 e.lt.2.2.2,eC f e.lt.2.1 e.lt.2.2.2];exact⟨k,m,o⟩
theorem Jv(m:aq aa) {i:Nat}(hi:i<aa.length) (hr:aF aa i=true) (v:Nat→Nat)
  (h1:∀j b,cU aa i j→(kK aa (valOf aa aD) j).testBit b=true→(v j).testBit b=true)
  (o:∀j k b,cU aa i j→fN aa j k→(v k).testBit b=true→(v j).testBit b=true) (b:Nat) (hb:(rv aa aD i).testBit b=true):(v i).testBit b=true:=by
 unfold rv at hb
 rw [eC m hi hr] at hb;obtain⟨j,e,f⟩:=hb;have h:=h1 j b e f
 clear f
 induction e with
 | refl=>exact h
 | step p q r=>exact r (o _ _ b p q h)
theorem fE(b:aq aa) {i:Nat}(hi:i<aa.length) :
  cx aa (aM aa (i:Int)) (dW (cx aa (aM aa (i:Int))) (valOf aa aD) (cL aa i)).2=⟨true,valOf aa aD (aM aa (i:Int)),eS⟩:=by grind [gW,Hl,Hm,QI,iw]
end
end Go.Rc

namespace Go.Rc
open Go
structure FZ where
 p:(Nat→Prop)→World→Prop
 mono:∀{Z Z':Nat→Prop}{w},(∀x,Z x→Z' x)→p Z w→p Z' w
 st:∀{Z:Nat→Prop}{w w':World},w.heap.size≤w'.heap.size→(∀x,Z x→x<w.heap.size→w'.heap[x]?=w.heap[x]?)→p Z w→p Z w'
def FZ.rd{α:Type}(R:RR α) (k:Nat) (a:Option Addr) (n c:Nat) (xs:List α):FZ:=⟨fun Z w=>Rd R k Z w a n c xs,fun h=>Rd.mono h,fun h1 h2=>Rd.st h1 h2⟩
def FZ.and(F G:FZ):FZ:=⟨fun Z w=>F.p Z w∧G.p Z w,fun h ⟨a,b⟩=>⟨F.mono h a,G.mono h b⟩,fun h1 h2 ⟨a,b⟩=>⟨F.st h1 h2 a,G.st h1 h2 b⟩⟩
def FZ.Jw(P:Program):FZ where
 p Z w:=lD P Z w
 mono h:=fun h1=>h1.of h (Nat.le_refl _) fun _ _ _=>rfl
 st h1 h2:=fun h=>h.of (fun _ h=>h) h1 h2
def As.fz(F:FZ):As where
 fp _:=False
 ok Z w:=F.p Z w
 lt _ _ hx:=hx.elim
 mono h:=F.mono h
 st h1 h2:=F.st h1 fun x hx=>h2 x (.inr hx)
theorem As.gf{F:FZ}{Z:Nat→Prop}{w:World}(h:(As.fz F).ok Z w):F.p Z w:=h
structure SD where
 (ar a1 a2:Option Addr) (r cr n1 c1 n2 c2 m q s:Nat)
def SD.F(D:SD) (P:Program) (aa:List aH) (x:bZ):FZ:=
 .and (.rd RR.fb 4 D.ar D.r D.cr aa) (.and (.rd RR.aD 4 D.a1 D.n1 D.c1 x.ab) (.and (.rd RR.ei 8 D.a2 D.n2 D.c2 x.ah) (.Jw P)))
def SD.cells(D:SD) (x:bZ):List Value:=
 [.slice D.ar D.r D.cr,.int .i64 x.ad,.slice D.a1 D.n1 D.c1,.slice D.a2 D.n2 D.c2,.map (some D.m),.map (some D.q)]
section
variable {D:SD}{P:Program}{aa:List aH}{x:bZ}{Z:Nat→Prop}{w:World}
theorem SD.hu(h:(D.F P aa x).p Z w):Rd RR.fb 4 Z w D.ar D.r D.cr aa:=h.1
theorem SD.hi(h:(D.F P aa x).p Z w):Rd RR.aD 4 Z w D.a1 D.n1 D.c1 x.ab:=h.2.1
theorem SD.hr(h:(D.F P aa x).p Z w):Rd RR.ei 8 Z w D.a2 D.n2 D.c2 x.ah:=h.2.2.1
theorem SD.ht(h:(D.F P aa x).p Z w):lD P Z w:=h.2.2.2
end
def aU(aa:List aH) (aD:List ct) (ml:List (Key × Value)):Prop:=∀k v,bF ml k=some v→v=.string (valOf aa aD k)
section
variable {aa:List aH}{aD:List ct}
theorem aU.nil:aU aa aD []:=fun k v h=>by simp [bF] at h
theorem aU.put{ml:List (Key × Value)}(h:aU aa aD ml) (k:Key):aU aa aD (cM ml k (.string (valOf aa aD k))):=fun k' v b=>by
 rw [ek] at b
 split at b
 ·
  grind
 exact h k' v b
def eU(m n:Nat):Prop:=∀b,m.testBit b=true→n.testBit b=true
theorem eU.le{m n:Nat}(h:eU m n):m≤n:=by
 have e:m ||| n=n:=Nat.eq_of_testBit_eq fun b=>by
  rw [Nat.testBit_or]
  cases hm:m.testBit b
  ·
   simp
  simp [h b hm]
 rw [← e];exact Nat.left_le_or
noncomputable def Mn(aa:List aH) (aD:List ct) (v:Nat→Nat) (k:Key):ByteArray:=if az k then itoa (v (number k).toNat:Int) else valOf aa aD k
noncomputable def FF(aa:List aH) (aD:List ct) (v:Nat→Nat) (j:Nat):Nat:=fc ((aa[j]?.map (·.c.toNat)).getD 0) (ob aa (Mn aa aD v) j)
theorem je(e:aq aa) {i:Nat}(hi:i<aa.length) (hr:aF aa i=true) {x:Ask}(h:x∈aa[i].asks) (f:outside aa x=true):az (bQ aa x)=false:=by
 have o:=e.len;have hm:=ka e hi hr h;obtain⟨m,h1,b⟩:=lH hi e.len hm
 unfold outside at f
 unfold bQ
 cases hc:x.cell
 ·
  rw [hc] at b f;simp only [Bool.false_eq_true,if_false] at b ⊢
  grind [bf]
 rw [hc] at b;simp only [if_true] at b ⊢
 grind [kh]
theorem uu(o:aq aa) {v:Nat→Nat}(p:∀j,v j≤65535) {i:Nat}(hi:i<aa.length) (hr:aF aa i=true) (b:Nat) :
  (FF aa aD v i).testBit b=true↔(kK aa (valOf aa aD) i).testBit b=true∨∃j,fN aa i j∧(v j).testBit b=true:=by
 have r:=o.len
 unfold FF
 rw [ak hi];simp only [Option.map_some,Option.getD_some];rw [sy hi];refine or_congr ?_ ?_
 ·
  rw [fk hi,fk hi];refine or_congr_right (exists_congr fun x=>and_congr_right fun t=>and_congr_right fun u=>?_)
  unfold Mn
  rw [if_neg (by grind [je])]
 constructor
 ·
  rintro⟨x,h1,h,f⟩;obtain⟨j,e,m,q⟩:=ij o hi hr h1 h;refine⟨j,e,?_⟩
  unfold Mn at f
  rw [m,if_pos (by rw [bf q (by omega)];exact e.lt.2.2.2),cj q (by omega),Int.toNat_natCast,fj (p j)] at f;exact f
 rintro⟨j,e,m⟩;obtain⟨x,h1,h,f⟩:=pa hi e;refine⟨x,h1,h,?_⟩
 unfold Mn
 rw [f,if_pos (by rw [bf e.lt.2.1 (by have:=e.lt.2.1;omega)];exact e.lt.2.2.2),cj e.lt.2.1 (by have:=e.lt.2.1;omega),Int.toNat_natCast,fj (p j)];exact m
theorem sA(i:Nat):rv aa aD i≤65535:=Bx i
theorem Eb(f:aq aa) {i:Nat}(hi:i<aa.length) (hr:aF aa i=true) (b:Nat) :
  (rv aa aD i).testBit b=true↔(kK aa (valOf aa aD) i).testBit b=true∨∃j,fN aa i j∧(rv aa aD j).testBit b=true:=by
 unfold rv
 rw [eC f hi hr]
 constructor
 ·
  rintro⟨k,h1,o⟩
  rcases h1.cases with rfl | ⟨j,e,m⟩
  ·
   exact .inl o
  exact .inr ⟨j,e,(eC f e.lt.2.1 e.lt.2.2.2 b).2 ⟨k,m,o⟩⟩
 rintro(h | ⟨j,e,m⟩)
 ·
  exact⟨i,.refl,h⟩
 obtain⟨k,p,q⟩:=(eC f e.lt.2.1 e.lt.2.2.2 b).1 m;exact⟨k,.head e p,q⟩
theorem Gm(e:aq aa) {v v':Nat→Nat}(f:∀j,v j≤65535) (m:∀j,v' j≤65535) (h:∀j,eU (v j) (v' j)) {i:Nat}(hi:i<aa.length) (hr:aF aa i=true):eU (FF aa aD v i) (FF aa aD v' i):=fun b hb=>by
 rw [uu e f hi hr] at hb;rw [uu e m hi hr]
 rcases hb with hb | ⟨j,h1,o⟩
 ·
  exact .inl hb
 exact .inr ⟨j,h1,h j b o⟩
structure dt (aa:List aH) (aD:List ct) (i0:Nat) (L:List Nat) (u:Nat→Nat):Prop where
 nodup:L.Nodup
 first:i0∈L
 ring:∀j∈L,j<aa.length∧aF aa j=true
 out:∀j,j∉L→u j=0
 le:∀j,u j≤65535
 low:∀j,eU (u j) (rv aa aD j)
 reach:∀j∈L,cU aa i0 j
noncomputable def Gn(aa:List aH) (aD:List ct) (u:Nat→Nat) (ml:List (Key × Value)) (k:Nat):Nat:=if (bF ml (aM aa (k:Int))).isSome then rv aa aD k else u k
def gi(ml mT:List (Key × Value)):Prop:=∀k v,bF ml k=some v→bF mT k=some v
def kU(aa:List aH) (aD:List ct) (L:List Nat) (u:Nat→Nat) (ml:List (Key × Value)):Prop:=∀j∈L,eU (u j) (FF aa aD (Gn aa aD u ml) j)
def oc(aa:List aH) (aD:List ct) (L:List Nat) (u:Nat→Nat) (j:Nat):Prop:=
 eU (kK aa (valOf aa aD) j) (u j)∧∀k,fN aa j k→(k∈L→eU (u k) (u j))∧(k∉L→eU (rv aa aD k) (u j))
def Ec(n:Nat) (v:Nat→Nat):Nat:=((List.range n).map fun j=>65535 - v j).sum
def oF(aa:List aH) (L:List Nat) (v:Nat→Nat):Nat:=Ec aa.length v+(aa.length - L.length)
theorem gi.refl(ml:List (Key × Value)):gi ml ml:=fun _ _ h=>h
theorem gi.trans{a b c:List (Key × Value)}(h:gi a b) (k:gi b c):gi a c:=fun x v e=>k x v (h x v e)
theorem gi.put{ml:List (Key × Value)}(hm:aU aa aD ml) (k:Key):gi ml (cM ml k (.string (valOf aa aD k))):=fun x v h=>by
 rw [ek]
 split
 ·
  rename_i e;subst e;rw [hm _ _ h]
 exact h
theorem rp{u:Nat→Nat}{ml:List (Key × Value)}(h:∀j,u j≤65535) (k:Nat):Gn aa aD u ml k≤65535:=by grind [Gn,sA]
theorem Mo{u:Nat→Nat}{ml:List (Key × Value)}(h:∀j,eU (u j) (rv aa aD j)) (k:Nat):eU (Gn aa aD u ml k) (rv aa aD k):=by unfold Gn;split;exact fun _ h=>h;exact h k
theorem Bz{u b:Nat→Nat}{ml e:List (Key × Value)}(h:∀j,eU (u j) (rv aa aD j)) (hu:∀j,eU (u j) (b j)) (hm:gi ml e) (k:Nat):eU (Gn aa aD u ml k) (Gn aa aD b e k):=by
 unfold Gn
 cases h1:bF ml (aM aa (k:Int)) with
 | some v=>rw [hm _ _ h1];simp;exact fun _ h=>h
 | none=>grind
theorem kU.mono(i:aq aa) {i0:Nat}{L:List Nat}{u:Nat→Nat}{ml f:List (Key × Value)}(hr:dt aa aD i0 L u) (h:kU aa aD L u ml) (hm:gi ml f):kU aa aD L u f:=fun j e b hb=>
 Gm i (rp hr.le) (rp hr.le) (Bz hr.low (fun _ _ h=>h) hm) (hr.ring j e).1 (hr.ring j e).2 b (h j e b hb)
theorem dt.start{i0:Nat}(hi:i0<aa.length) (hr:aF aa i0=true):dt aa aD i0 [i0] fun _=>0 where
 nodup:=by simp
 first:=by simp
 ring j e:=by grind
 out _ _:=rfl
 le _:=by omega
 low _ b h:=by simp at h
 reach j e:=by simp at e;subst e;exact .refl
theorem kU.start{i0:Nat}{ml:List (Key × Value)}:kU aa aD [i0] (fun _=>0) ml:=fun _ _ b h=>by simp at h
theorem Jx:∀{n:Nat}{L:List Nat},L.Nodup→(∀j∈L,j<n)→L.length≤n:=by
 intro n
 induction n with
 | zero=>intro L _ hl;cases L with
  | nil=>simp
  | cons a r=>exact absurd (hl a (by simp)) (by omega)
 | succ n b=>
  intro L h hl
  have h1:=b (h.erase n) fun j e=>by grind
  grind
theorem dt.len{i0:Nat}{L:List Nat}{v:Nat→Nat}(h:dt aa aD i0 L v):L.length≤aa.length:=Jx h.nodup fun j b=>(h.ring j b).1
theorem dt.meet{i0:Nat}{L:List Nat}{v:Nat→Nat}(h:dt aa aD i0 L v) {j:Nat}(b:j<aa.length) (hr:aF aa j=true) (hn:j∉L) (e:cU aa i0 j):dt aa aD i0 (L++[j]) v where
 nodup:=by grind [nodup]
 first:=by simp [h.first]
 ring k hk:=by
  rcases List.mem_append.1 hk with hk | hk
  ·
   exact h.ring k hk
  grind
 out k hk:=h.out k fun hm=>hk (by simp [hm])
 le:=h.le
 low:=h.low
 reach k hk:=by
  rcases List.mem_append.1 hk with hk | hk
  ·
   exact h.reach k hk
  grind
theorem kU.meet{L:List Nat}{u:Nat→Nat}{ml:List (Key × Value)}(h:kU aa aD L u ml) {j:Nat}(hu:u j=0):kU aa aD (L++[j]) u ml:=fun k hk=>by
 rcases List.mem_append.1 hk with hk | hk
 ·
  exact h k hk
 simp at hk;subst hk;rw [hu];intro b hb;simp at hb
theorem dt.Gp{i0:Nat}{L:List Nat}{v:Nat→Nat}(h:dt aa aD i0 L v) {j:Nat}(b:j<aa.length) (hr:aF aa j=true) (hn:j∉L) (e:cU aa i0 j):L.length<aa.length:=by
 have:=(h.meet b hr hn e).len
 grind
theorem BA{L:List Nat}{v:Nat→Nat}{j:Nat}(hl:L.length<aa.length):oF aa (L++[j]) v<oF aa L v:=by grind [oF]
def lZ(v:Nat→Nat) (j u:Nat):Nat→Nat:=fun k=>if k=j then u else v k
theorem Jy:∀n (v:Nat→Nat) (j u:Nat),v j≤u→Ec n (lZ v j u)≤Ec n v∧(j<n→v j<u→u≤65535→Ec n (lZ v j u)<Ec n v):=by
 intro n
 induction n with
 | zero=>intro v j u _;simp [Ec]
 | succ n f=>
  intro v j u h;obtain⟨h1,b⟩:=f v j u h
  unfold Ec at h1 b ⊢
  simp only [List.range_succ,List.map_append,List.map_cons,List.map_nil,List.sum_append,List.sum_cons,List.sum_nil]
  have o:65535 - lZ v j u n≤65535 - v n:=by
   unfold lZ;grind
  refine⟨by omega,fun p i m=>?_⟩
  by_cases e:j=n
  ·
   have:65535 - lZ v j u n<65535 - v n:=by unfold lZ;grind
   omega
  have:=b (by omega) i m
  omega
theorem Hn{u:Nat→Nat}{j x:Nat}(h:eU (u j) x):∀k,eU (u k) (lZ u j x k):=fun k b hb=>by
 unfold lZ;split
 ·
  rename_i e;subst e;exact h b hb
 exact hb
theorem dt.set{i0:Nat}{L:List Nat}{u:Nat→Nat}(h:dt aa aD i0 L u) {j x:Nat}(f:j∈L) (i:x≤65535) (m:eU x (rv aa aD j)):dt aa aD i0 L (lZ u j x) where
 nodup:=h.nodup
 first:=h.first
 ring:=h.ring
 out k hk:=by unfold lZ;rw [if_neg (fun e=>hk (by rw [e];exact f))];exact h.out k hk
 le k:=by unfold lZ;split;exact i;exact h.le k
 low k b hb:=by
  unfold lZ at hb;split at hb
  ·
   rename_i e;subst e;exact m b hb
  exact h.low k b hb
 reach:=h.reach
theorem kU.set(f:aq aa) {i0:Nat}{L:List Nat}{u:Nat→Nat}{ml:List (Key × Value)}(hr:dt aa aD i0 L u) (h:kU aa aD L u ml) {j x:Nat}(i:j∈L) (m:x≤65535) (o:eU x (rv aa aD j)) (p:eU (u j) x) (q:eU x (FF aa aD (Gn aa aD u ml) j)) :
  kU aa aD L (lZ u j x) ml:=fun k hk=>by
 have r:=hr.set i m o;have hm:=Gm (aD:=aD) f (rp (aD:=aD) (aa:=aa) (ml:=ml) hr.le) (rp r.le) (Bz hr.low (Hn p) (gi.refl ml)) (hr.ring k hk).1 (hr.ring k hk).2;intro b hb;refine hm b ?_
 unfold lZ at hb;split at hb
 ·
  rename_i e;subst e;exact q b hb
 exact h k hk b hb
theorem Gq{i0:Nat}{L:List Nat}{u:Nat→Nat}(h:dt aa aD i0 L u) {j x:Nat}(b:j∈L) (e:x≤65535) (f:eU (u j) x) (i:u j≠x):oF aa L (lZ u j x)<oF aa L u:=by
 have h1:=f.le
 have:=(Jy aa.length u j x h1).2 (h.ring j b).1 (by omega) e
 unfold oF;omega
theorem dt.done(r:aq aa) {i0:Nat}{L:List Nat}{u:Nat→Nat}(h:dt aa aD i0 L u) (f:∀j∈L,oc aa aD L u j):∀j∈L,u j=rv aa aD j:=by
 intro j t;obtain⟨i,o⟩:=h.ring j t;refine Nat.le_antisymm (h.low j).le (eU.le fun b hb=>?_);have key:=Jv r i o (fun k=>if k∈L then u k else rv aa aD k) (fun k b hk hb=>?_) (fun k m b hk p hb=>?_) b hb
 ·
  simpa [t] using key
 ·
  have q:=jd i o hk
  by_cases hm:k∈L
  ·
   simp only [if_pos hm];exact(f k hm).1 b hb
  simp only [if_neg hm];grind [Eb]
 have q:=jd i o hk
 by_cases e:k∈L
 ·
  simp only [if_pos e]
  by_cases hm:m∈L
  ·
   simp only [if_pos hm] at hb;exact((f k e).2 m p).1 hm b hb
  simp only [if_neg hm] at hb;exact((f k e).2 m p).2 hm b hb
 simp only [if_neg e];refine(Eb r q.1 q.2 b).2 (.inr ⟨m,p,?_⟩)
 by_cases hm:m∈L
 ·
  simp only [if_pos hm] at hb;exact h.low m b hb
 grind
structure Ev (aa:List aH) (aD:List ct) (u:Nat→Nat) (L:List Nat) (Jz ml:List (Key × Value)) (qs:List Ask) (n:Nat) (acc:List ByteArray):Prop where
 len:acc.length=n
 out:∀m (h:m<qs.length),m<n→outside aa qs[m]=true→acc[m]?=some (valOf aa aD (bQ aa qs[m]))
 ins:∀m (h:m<qs.length),m<n→outside aa qs[m]=false→∀k:Nat,qs[m].n=k→
  (acc[m]?=some (itoa (rv aa aD k:Int))∧(bF ml (aM aa (k:Int))).isSome=true)∨(acc[m]?=some (itoa (u k:Int))∧k∈L∧bF Jz (aM aa (k:Int))=none)
theorem Ev.start{u:Nat→Nat}{L:List Nat}{ml:List (Key × Value)}{qs:List Ask}:Ev aa aD u L ml ml qs 0 []:=⟨rfl,fun _ _ h=>by omega,fun _ _ h=>by omega⟩
theorem Ev.mono{u:Nat→Nat}{L L':List Nat}{Jz ml b:List (Key × Value)}{qs:List Ask}{n:Nat}{acc:List ByteArray}(h:Ev aa aD u L Jz ml qs n acc) (r:∀k∈L,k∈L') (hm:gi ml b):Ev aa aD u L' Jz b qs n acc:=
 ⟨h.len,h.out,fun m h1 i o k p=>by
  rcases h.ins m h1 i o k p with⟨e,f⟩ | ⟨e,f,t⟩
  ·
   obtain⟨v,q⟩:=Option.isSome_iff_exists.1 f;exact .inl ⟨e,by rw [hm _ _ q];rfl⟩
  grind⟩
theorem Ev.snoc{u:Nat→Nat}{L:List Nat}{Jz ml:List (Key × Value)}{qs:List Ask}{n:Nat}{acc:List ByteArray}(h:Ev aa aD u L Jz ml qs n acc) (s:ByteArray)
  (i:∀(h:n<qs.length),outside aa qs[n]=true→s=valOf aa aD (bQ aa qs[n]))
  (hi:∀(h:n<qs.length),outside aa qs[n]=false→∀k:Nat,qs[n].n=k→(s=itoa (rv aa aD k:Int)∧(bF ml (aM aa (k:Int))).isSome=true)∨(s=itoa (u k:Int)∧k∈L∧bF Jz (aM aa (k:Int))=none)) :
  Ev aa aD u L Jz ml qs (n+1) (acc++[s]) where
 len:=by simp [h.len]
 out m h1 f e:=by
  rcases Nat.lt_or_ge m n with b | b
  ·
   rw [List.getElem?_append_left (by rw [h.len];exact b)];exact h.out m h1 b e
  grind [len]
 ins m h1 f e k hk:=by
  rcases Nat.lt_or_ge m n with b | b
  ·
   rw [List.getElem?_append_left (by rw [h.len];exact b)];exact h.ins m h1 b e k hk
  have:m=n:=by omega
  subst this;rw [List.getElem?_append_right (by rw [h.len];omega),h.len]
  simpa using hi h1 e k hk
theorem Ev.val(t:aq aa) {i0:Nat}{L:List Nat}{u:Nat→Nat}{Jz ml:List (Key × Value)}{j:Nat}{acc:List ByteArray}(hr:dt aa aD i0 L u) (p:j<aa.length) (F:aF aa j=true) (h:Ev aa aD u L Jz ml aa[j].asks aa[j].asks.length acc) :
  fc aa[j].c.toNat (acc.map cD)≤65535∧eU (fc aa[j].c.toNat (acc.map cD)) (rv aa aD j)∧eU (FF aa aD (Gn aa aD u Jz) j) (fc aa[j].c.toNat (acc.map cD))∧
  eU (fc aa[j].c.toNat (acc.map cD)) (FF aa aD (Gn aa aD u ml) j)∧(fc aa[j].c.toNat (acc.map cD)=u j→oc aa aD L u j):=by
 obtain⟨hlen,ho,eK⟩:=h;have Ho:=t.len
 -- an answer, by its place
 have VQ:∀m (hm:m<aa[j].asks.length),∃s,acc[m]?=some s∧s∈acc:=fun m hm=>⟨acc[m],ak (by omega),List.getElem_mem _⟩
 have J:eU (kK aa (valOf aa aD) j) (fc aa[j].c.toNat (acc.map cD)):=fun b hb=>by
  rw [lI]
  rcases(fk p b).1 hb with h1 | ⟨x,h1,z,o⟩
  ·
   exact .inl h1
  obtain⟨m,hm,rfl⟩:=List.mem_iff_getElem.1 h1
  grind
 have N:∀k,fN aa j k→∃m,∃hm:m<aa[j].asks.length,outside aa aa[j].asks[m]=false∧aa[j].asks[m].n=(k:Int):=fun k hk=>by
  obtain⟨r,x,h1,_,o,f,I,e⟩:=hk;rw [ak p] at h1
  simp at h1
  subst h1;obtain⟨m,hm,rfl⟩:=List.mem_iff_getElem.1 o;exact⟨m,hm,by unfold outside;rw [f,I];simp [e],I⟩
 have G:∀(m:Nat) (s:ByteArray) (b:Nat),acc[m]?=some s→(cD s).testBit b=true→(fc aa[j].c.toNat (acc.map cD)).testBit b=true:=fun m s b h1 z=>by
  rw [lI];grind
 have O:∀(v:Nat→Nat),(∀k,v k≤65535)→(∀k:Nat,(bF ml (aM aa (k:Int))).isSome=true→eU (rv aa aD k) (v k))→(∀k:Nat,eU (u k) (v k))→eU (fc aa[j].c.toNat (acc.map cD)) (FF aa aD v j):=fun v R h1 z b hb=>by
  rw [uu t R p F];rw [lI] at hb
  rcases hb with hb | ⟨_,V,hb⟩
  ·
   grind [fk]
  obtain⟨s,W,rfl⟩:=List.mem_map.1 V;obtain⟨m,hm,rfl⟩:=List.mem_iff_getElem.1 W
  have H:m<aa[j].asks.length:=by omega
  cases Q:outside aa aa[j].asks[m]
  ·
   obtain⟨k,o,f,I⟩:=ij t p F (List.getElem_mem H) Q
   have X:aa[j].asks[m].n=(k:Int):=by
    obtain⟨q,e,i⟩:=lH p t.len (ka t p F (List.getElem_mem H))
    have hc:aa[j].asks[m].cell=false:=by grind [outside]
    rw [hc] at i;simp only [Bool.false_eq_true,if_false] at i
    unfold bQ at f
    rw [hc,e] at f;simp only [Bool.false_eq_true,if_false] at f
    grind [cj]
   refine .inr ⟨k,o,?_⟩
   rcases eK m H H Q k X with⟨e,i⟩ | ⟨e,i,_⟩
   ·
    rw [ak hm] at e
    simp at e
    rw [e,fj (sA k)] at hb;exact h1 k i b hb
   rw [ak hm] at e
   simp at e
   rw [e,fj (hr.le k)] at hb;exact z k b hb
  grind [fk]
 refine⟨?_,?_,?_,?_,fun he=>⟨?_,fun k hk=>⟨fun Y=>?_,fun Y=>?_⟩⟩⟩
 ·
  grind [lE,ur,kJ]
 ·
  intro b hb;have h1:=O (rv aa aD) sA (fun _ _ _ h=>h) hr.low b hb
  grind [uu,sA,Eb]
 ·
  intro b hb;rw [uu t (rp hr.le) p F] at hb
  rcases hb with hb | ⟨k,h1,z⟩
  ·
   exact J b hb
  obtain⟨m,hm,o,f⟩:=N k h1
  rcases eK m hm hm o k f with⟨e,i⟩ | ⟨e,i,h8⟩
  ·
   exact G m _ b e (by rw [fj (sA k)];exact Mo hr.low k b z)
  refine G m _ b e (by rw [fj (hr.le k)];grind [Gn])
 ·
  refine O _ (rp hr.le) (fun k hk b hb=>?_) fun k b hb=>?_
  ·
   unfold Gn;rw [if_pos hk];exact hb
  unfold Gn;split
  ·
   exact hr.low k b hb
  exact hb
 ·
  rw [← he];exact J
 ·
  intro b hb;rw [← he];obtain⟨m,hm,o,f⟩:=N k hk
  rcases eK m hm hm o k f with⟨e,i⟩ | ⟨e,i,h8⟩
  ·
   exact G m _ b e (by rw [fj (sA k)];exact hr.low k b hb)
  exact G m _ b e (by rw [fj (hr.le k)];exact hb)
 intro b hb
 grind [fj,sA]
def mK(aa:List aH) (L:List Nat) (v:Nat→Nat) (am:List (Key × Value)):Prop:=
 (∀j∈L,bF am (aM aa (j:Int))=some (.string (itoa (v j:Int))))∧∀k,(∀j∈L,k≠aM aa (j:Int))→bF am k=none
theorem eb(b:aq aa) {i j:Nat}(hi:i<aa.length) (e:j<aa.length) (h:aM aa (i:Int)=aM aa (j:Int)):i=j:=by grind [aq.len,cj]
theorem mK.meet(b:aq aa) {L:List Nat}{v:Nat→Nat}{am:List (Key × Value)}(h:mK aa L v am) (f:∀j∈L,j<aa.length) {j:Nat}(i:j<aa.length) (hn:j∉L) (o:v j=0):mK aa (L++[j]) v (cM am (aM aa (j:Int)) (.string ⟨#[48]⟩)):=by
 have e0:itoa ((0:Nat):Int)=⟨#[48]⟩:=by decide +kernel
 refine⟨fun k hk=>?_,fun k hk=>?_⟩
 ·
  rw [ek]
  rcases List.mem_append.1 hk with hk | hk
  ·
   rw [if_neg (fun e=>hn (by grind [eb]))];exact h.1 k hk
  grind
 rw [ek,if_neg (fun e=>hk j (by simp) e.symm)]
 exact h.2 k fun m hm=>hk m (by simp [hm])
theorem mK.set(i:aq aa) {L:List Nat}{v:Nat→Nat}{am:List (Key × Value)}(h:mK aa L v am) (b:∀j∈L,j<aa.length) {j:Nat}(f:j∈L) (u:Nat):mK aa L (lZ v j u) (cM am (aM aa (j:Int)) (.string (itoa (u:Int)))):=by
 refine⟨fun k hk=>?_,fun k hk=>?_⟩
 ·
  rw [ek]
  unfold lZ
  by_cases e:k=j
  ·
   grind
  rw [if_neg (fun e2=>e (eb i (b k hk) (b j f) e2.symm)),if_neg e];exact h.1 k hk
 rw [ek,if_neg (fun e=>hk j f e.symm)];exact h.2 k hk
end
theorem jf{aa:List aH}(e:aq aa) {i:Nat}(hi:i<aa.length) (hr:aF aa i=true) {x:Ask}(f:x∈aa[i].asks) (b:outside aa x=false) {k:Nat}(hk:x.n=(k:Int)):k<aa.length∧aF aa k=true∧bQ aa x=aM aa (k:Int):=by
 have hm:=ka e hi hr f
 unfold outside at b
 rw [Bool.or_eq_false_iff] at b;rw [b.1,hk] at hm;refine⟨(qe e hi hr hm).1,?_,?_⟩
 ·
  grind
 grind [bQ]
theorem aq.hb{aa:List aH}(h:aq aa):∀x∈aa,0≤x.c∧x.c≤65535∧x.asks.length≤1000:=fun x b=>by
 obtain⟨i,hi,rfl⟩:=List.mem_iff_getElem.1 b;obtain⟨h1,_,e⟩:=h.at hi
 grind [ia]
theorem dX{aa:List aH}{i:Nat}(hi:i<aa.length) (jr:i≤99) (l:List ByteArray):aG aa (aM aa (i:Int)) l=cx aa (aM aa (i:Int)) l:=by
 unfold aG;rw [if_pos (by grind [eG])]
theorem sB{aa:List aH}{i:Nat}(hi:i<aa.length) (jr:i≤99) (hr:aF aa i=true):o8 (aM aa (i:Int))=⟨#[48]⟩:=by grind [o8,eG]
theorem xC:∀{l:List (Key × Value)}{k:Key}{v:Value},bF l k=some v→cM l k v=l:=by
 intro l
 induction l with
 | nil=>intro k v h;simp [bF] at h
 | cons p r b=>
  obtain⟨k0,v0⟩:=p;intro k v h;simp only [bF] at h;simp only [cM]
  grind
theorem gk{aa:List aH}{i:Nat}(hi:i<aa.length) (jr:i≤99):cY (aM aa (i:Int)):=by grind [cY,eG]
end Go.Rc

namespace Go.Rc
open Go
theorem oG:∀(l:List UInt8) (u:Nat),0<u→0≤decFrom l (u:Int)→∃v:Nat,decFrom l (u:Int)=v∧Lib.decDigits v=Lib.decDigits u++l
 | [],u,_,_=>⟨u,rfl,by simp⟩
 | c::r,u,hu,h=>by
  unfold decFrom at h ⊢
  by_cases hc:c.toNat<48∨57<c.toNat
  ·
   rw [if_pos hc] at h;omega
  rw [if_neg hc] at h ⊢;obtain⟨d,f⟩:∃d:Nat,c.toNat=48+d:=⟨c.toNat - 48,by omega⟩
  have i:d<10:=by omega
  have e:10*(u:Int)+((c.toNat:Int) - 48)=((10*u+d:Nat):Int):=by omega
  rw [e] at h ⊢;obtain⟨v,h1,b⟩:=oG r (10*u+d) (by omega) h;refine⟨v,h1,?_⟩;rw [b,Lib.decDigits,dif_neg (by omega),show(10*u+d) / 10=u by omega,show(10*u+d) % 10=d by omega,List.append_assoc]
  grind [UInt8.ofNat_toNat]
theorem wB{s:ByteArray}(h:0≤dP s):∃v:Nat,dP s=v∧s=itoa (v:Int):=by
 unfold dP at h ⊢
 by_cases hc:s.size=0∨9<s.size∨(s.data.toList.head?=some 48∧s.size≠1)
 ·
  rw [if_pos hc] at h;omega
 rw [if_neg hc] at h ⊢;obtain⟨d⟩:=s
 have key:∃v:Nat,decFrom d.toList 0=v∧Lib.decDigits v=d.toList:=by
  have hsz:(⟨d⟩:ByteArray).size=d.toList.length:=by simp [ByteArray.size]
  rw [hsz] at hc;simp only at hc h ⊢
  cases hl:d.toList with
  | nil=>rw [hl] at hc;simp at hc
  | cons c r=>
   rw [hl] at hc h
   unfold decFrom at h ⊢
   by_cases hn:c.toNat<48∨57<c.toNat
   ·
    rw [if_pos hn] at h;omega
   rw [if_neg hn] at h ⊢;obtain⟨e,he⟩:∃e:Nat,c.toNat=48+e:=⟨c.toNat - 48,by omega⟩
   have h1:10*(0:Int)+((c.toNat:Int) - 48)=(e:Nat):=by omega
   rw [h1] at h ⊢
   have b:UInt8.ofNat (48+e)=c:=by grind [UInt8.ofNat_toNat]
   by_cases h0:e=0
   ·
    subst h0
    have m:c=48:=by rw [← b];rfl
    have hr:r=[]:=by grind
    subst hr;exact⟨0,rfl,by rw [Lib.decDigits,dif_pos (by omega),b]⟩
   obtain⟨v,f,i⟩:=oG r e (by omega) h;refine⟨v,f,?_⟩;rw [i,Lib.decDigits,dif_pos (by omega),b]
   rfl
 obtain⟨v,h1,f⟩:=key;refine⟨v,h1,?_⟩
 have e:Lib.itoa (v:Int)=Lib.decDigits v:=by unfold Lib.itoa;rw [if_neg (by omega)];rfl
 unfold itoa
 rw [e,f]
theorem Hp{s:ByteArray}(h:∀n:Nat,n≤65535→s≠itoa (n:Int)):cD s=0:=by
 unfold cD
 split
 ·
  rfl
 grind [wB]
theorem Hq(l:List aH) (m:Nat):m≤dJ l m:=by unfold dJ;omega
theorem Ed{aa:List aH}{i:Nat}(hi:i<aa.length):(block aa (i:Int)).1≤(block aa (i:Int)).2:=by
 have hb:block aa (i:Int)=if aF aa i then ((bG aa i:Int),(dJ aa (i+1):Int)) else ((i:Int),(i:Int)+1):=by
  unfold block;rw [if_neg (by omega)];rfl
 grind [gw,Hq]
theorem BB(kind:Int) (c:Nat) (l:List Nat):dq kind 0 (c::l)=dq kind c l:=by
 unfold dq pU sr fc
 simp
end Go.Rc

namespace Go.Rc
open Go
theorem BC{κ:Type} [DecidableEq κ]:∀{l:List (κ × Value)}{k:κ}{v:Value},bF l k=none→iX (cM l k v) k=l
 | [],k,v,_=>by simp [cM,iX]
 | (k0,v0)::r,k,v,h=>by
  by_cases e:k0=k
  ·
   subst e;simp [bF] at h
  simp only [bF,if_neg e] at h;simp only [cM,if_neg e,iX,BC h]
def FZ.row(b:Nat) (r:List Value):FZ:=
 ⟨fun Z w=>Z b∧b<w.heap.size∧w.rangeAt b 0 r,fun hZ h=>⟨hZ _ h.1,h.2⟩,fun hs hc h=>⟨h.1,Nat.lt_of_lt_of_le h.2.1 hs,fun j v hv=>by rw [← h.2.2 j v hv];grind [World.cell?_of_block]⟩⟩
def SD.FV(D:SD) (P:Program) (aa:List aH) (x:bZ):FZ:=(D.F P aa x).and (FZ.row D.s (D.cells x))
theorem SD.FV.rg{D:SD}{P:Program}{aa:List aH}{x:bZ}{Z:Nat→Prop}{w:World}(h:(D.FV P aa x).p Z w):(As.rg D.s 0 (D.cells x)).ok Z w:=As.Vu h.2.1 h.2.2.1 h.2.2.2
theorem xD{κ:Type} [DecidableEq κ]:∀(l:List (κ × Value)) (k:κ) (v u:Value),cM (cM l k v) k u=cM l k u
 | [],k,v,u=>by simp [cM]
 | (k0,v0)::r,k,v,u=>by
  by_cases e:k0=k
  ·
   simp [cM,e]
  simp [cM,e,xD r k v u]
section
variable {aa:List aH}{aD:List ct}
def lJ(aa:List aH) (i:Nat) (al:List (Key × Value)):Prop:=∀j:Nat,j≤i→j<aa.length→bF al (aM aa (j:Int))=none
theorem lJ.mono{i m:Nat}{al:List (Key × Value)}(h:lJ aa i al) (hm:m≤i):lJ aa m al:=fun j b hl=>h j (by omega) hl
theorem lJ.put(b:aq aa) {i m:Nat}{al:List (Key × Value)}(h:lJ aa i al) (hi:i<aa.length) (hm:m<i) (v:Value):lJ aa m (cM al (aM aa (i:Int)) v):=fun j f hl=>by
 rw [ek,if_neg (fun e=>by have:=eb b hi hl e;omega)];exact h j (by omega) hl
theorem lJ.nil(i:Nat):lJ aa i []:=fun _ _ _=>rfl
noncomputable def cH(aa:List aH) (aD:List ct) (i:Nat):List Key:=(dW (cx aa (aM aa (i:Int))) (valOf aa aD) (cL aa i)).1
noncomputable def iO(aa:List aH) (aD:List ct) (k:Key):List Key:=if aw k then [] else cH aa aD (number k).toNat
theorem fF(b:aq aa) {i:Nat}(hi:i<aa.length):iO aa aD (aM aa (i:Int))=cH aa aD i:=by
 have e:=b.len
 unfold iO
 rw [if_neg (by grind [di]),cj hi (by omega),Int.toNat_natCast]
theorem eT.QJ(b:aq aa) {i:Nat}{a:Key}(h:eT aa i a):az a=decide (a.kind=32):=by
 have e:=b.len
 rcases h with⟨n,h1,rfl⟩ | ⟨m,h1,rfl,_⟩
 ·
  rw [kh (by omega)]
  unfold cF
  rw [if_neg (by omega)]
  rfl
 grind [bf,eG]
theorem eT.al(b:aq aa) {i0 j:Nat}{a:Key}{al:List (Key × Value)}(h:eT aa j a) (hr:aF aa j=true) (hc:az a=false) (eK:aw a=false) (hb:bG aa j≤i0) (e:lJ aa i0 al):lJ aa (number a).toNat al:=by
 have i:=b.len
 rcases h with⟨n,h1,rfl⟩ | ⟨m,h1,rfl,_,_,_,f⟩
 ·
  grind [bD]
 rw [bf h1 (by omega)] at hc;rw [cj h1 (by omega),Int.toNat_natCast];exact e.mono (by have:=f hc hr;omega)
structure RI (aa:List aH) (aD:List ct) (i0:Nat) (qs:List Ask) (u1:Nat→Nat) (L1:List Nat) (kV:Bool) (eQ:List (Key × Value)) (n:Nat) (L2:List Nat) (kj:List (Key × Value)) (mx:Bool) (iU:List (Key × Value)) (acc:List ByteArray):Prop where
 hn:n≤qs.length
 rd:dt aa aD i0 L2 u1
 up:kU aa aD L2 u1 iU
 at_:mK aa L2 u1 kj
 m:aU aa aD iU
 le:gi eQ iU
 p:oF aa L2 u1≤oF aa L1 u1∧(mx=true→kV=true∨oF aa L2 u1<oF aa L1 u1)
 c:mx=false→L2=L1∧kV=false
 pre:L1 <+: L2
 ev:Ev aa aD u1 L2 eQ iU qs n acc
variable {i0 j n:Nat}{u1:Nat→Nat}{L1 L2:List Nat}{kV mx:Bool}{eQ iU Mp kj:List (Key × Value)}{acc:List ByteArray}
theorem RI.start{b:List (Key × Value)}{qs:List Ask}(h1:dt aa aD i0 L1 u1) (e:kU aa aD L1 u1 eQ) (f:mK aa L1 u1 b) (i:aU aa aD eQ):RI aa aD i0 qs u1 L1 kV eQ 0 L1 b kV eQ []:=
 ⟨Nat.zero_le _,h1,e,f,i,gi.refl _,⟨Nat.le_refl _,fun h=>.inl h⟩,fun h=>⟨rfl,h⟩,List.prefix_refl _,Ev.start⟩
theorem RI.done(b:aq aa) (e:j<aa.length) (hr:aF aa j=true) (h:RI aa aD i0 aa[j].asks u1 L1 kV eQ n L2 kj mx iU acc) (hn:n<aa[j].asks.length) {f:Value}(m:bF iU (bQ aa aa[j].asks[n])=some f) :
  RI aa aD i0 aa[j].asks u1 L1 kV eQ (n+1) L2 kj mx iU (acc++[valOf aa aD (bQ aa aa[j].asks[n])]):=
 {h with
  hn:=hn
  ev:=h.ev.snoc _ (fun _ _=>rfl) fun _ i k hk=>.inl (by
   obtain⟨o,p,q⟩:=jf b e hr (List.getElem_mem hn) i hk
   grind [gW,iw])}
theorem RI.low(b:aq aa) (f:j<aa.length) (hr:aF aa j=true) (h:RI aa aD i0 aa[j].asks u1 L1 kV eQ n L2 kj mx iU acc) (hn:n<aa[j].asks.length) (hc:az (bQ aa aa[j].asks[n])=false) (e:aU aa aD Mp) (hle:gi iU Mp) :
  RI aa aD i0 aa[j].asks u1 L1 kV eQ (n+1) L2 kj mx Mp (acc++[valOf aa aD (bQ aa aa[j].asks[n])]):=
 {h with
  hn:=hn
  up:=h.up.mono b h.rd hle
  m:=e
  le:=h.le.trans hle
  ev:=(h.ev.mono (fun _ h=>h) hle).snoc _ (fun _ _=>rfl) fun _ i k hk=>by grind [aq.len,jf,bf]}
theorem RI.inside(h:aq aa) (i:j<aa.length) (hr:aF aa j=true) (hn:n<aa[j].asks.length) (hc:az (bQ aa aa[j].asks[n])=true) :
  ∃b:Nat,bQ aa aa[j].asks[n]=aM aa (b:Int)∧b<aa.length∧aF aa b=true∧fN aa j b∧outside aa aa[j].asks[n]=false:=by
 have m:=List.getElem_mem hn
 have e:outside aa aa[j].asks[n]=false:=by grind [je]
 obtain⟨b,f,o,p⟩:=ij h i hr m e;exact⟨b,o,p,f.lt.2.2.2,f,e⟩
theorem RI.OJ(i:aq aa) (p:j<aa.length) (hr:aF aa j=true) {e:List Nat}(h:Ev aa aD u1 e eQ iU aa[j].asks n acc) (hle:gi eQ iU) (hn:n<aa[j].asks.length) {b:Nat}(q:bQ aa aa[j].asks[n]=aM aa (b:Int)) (r:b<aa.length) (m:outside aa aa[j].asks[n]=false)
  (u:bF iU (bQ aa aa[j].asks[n])=none) (z:b∈e):Ev aa aD u1 e eQ iU aa[j].asks (n+1) (acc++[itoa (u1 b:Int)]):=by
 have F:bF eQ (aM aa (b:Int))=none:=by
  cases h:bF eQ (aM aa (b:Int)) with
  | none=>rfl
  | some v=>have:=hle _ _ h;grind
 refine h.snoc _ (fun _ f=>by rw [m] at f;cases f) fun _ f k hk=>?_;obtain⟨t,G,o⟩:=jf i p hr (List.getElem_mem hn) m hk;rw [q] at o
 have:=eb i r t o
 grind
theorem RI.meet(i:aq aa) (t:j<aa.length) (hr:aF aa j=true) (h:RI aa aD i0 aa[j].asks u1 L1 kV eQ n L2 kj mx iU acc) (G:j∈L1) (hn:n<aa[j].asks.length) (hc:az (bQ aa aa[j].asks[n])=true)
  (H:bF iU (bQ aa aa[j].asks[n])=none) (O:bF kj (bQ aa aa[j].asks[n])=none) :
  ∃b:Nat,bQ aa aa[j].asks[n]=aM aa (b:Int)∧b<aa.length∧aF aa b=true∧RI aa aD i0 aa[j].asks u1 L1 kV eQ (n+1) (L2++[b]) (cM kj (bQ aa aa[j].asks[n]) (.string ⟨#[48]⟩)) true iU (acc++[⟨#[48]⟩]):=by
 obtain⟨b,o,e,q,I,J⟩:=RI.inside i t hr hn hc
 have f:b∉L2:=fun hm=>by have:=h.at_.1 b hm;grind
 have r:=h.rd.out b f;have u:cU aa i0 b:=.step (h.rd.reach j (h.pre.subset G)) I;have L:=h.rd.meet e q f u;have N:=h.rd.Gp e q f u;have z:=BA (v:=u1) (j:=b) N;have F:=RI.OJ i t hr (h.ev.mono (L':=L2++[b]) (fun _ h=>by simp [h]) (gi.refl _)) h.le hn o e J H (by simp)
 have e0:itoa ((0:Nat):Int)=⟨#[48]⟩:=by decide +kernel
 rw [r,e0] at F;refine⟨b,o,e,q,⟨hn,L,h.up.meet r,?_,h.m,h.le,⟨Nat.le_of_lt (Nat.lt_of_lt_of_le z h.p.1),fun _=>.inr (Nat.lt_of_lt_of_le z h.p.1)⟩,fun h=>(by cases h),h.pre.trans (List.prefix_append _ _),F⟩⟩;rw [o];exact h.at_.meet i (fun k hk=>(h.rd.ring k hk).1) e f r
theorem RI.VR(f:aq aa) (m:j<aa.length) (hr:aF aa j=true) (h:RI aa aD i0 aa[j].asks u1 L1 kV eQ n L2 kj mx iU acc) (hn:n<aa[j].asks.length) (hc:az (bQ aa aa[j].asks[n])=true)
  (r:bF iU (bQ aa aa[j].asks[n])=none) {v:Value}(t:bF kj (bQ aa aa[j].asks[n])=some v) :
  ∃s:ByteArray,v=.string s∧s.size≤1000∧RI aa aD i0 aa[j].asks u1 L1 kV eQ (n+1) L2 kj mx iU (acc++[s]):=by
 obtain⟨b,o,p,z,F,u⟩:=RI.inside f m hr hn hc
 have q:b∈L2:=by
  by_cases hm:b∈L2
  ·
   exact hm
  have:=h.at_.2 (aM aa (b:Int)) (fun k hk e=>hm (by have:=eb f p (h.rd.ring k hk).1 e;rw [this];exact hk))
  grind
 have i:=h.at_.1 b q;rw [← o,t] at i;simp only [Option.some.injEq] at i;refine⟨_,i,?_,{h with hn:=hn,ev:=RI.OJ f m hr h.ev h.le hn o p u r q}⟩;have hle:=h.rd.le b
 have e:Lib.itoa (u1 b:Int)=Lib.decDigits (u1 b):=by unfold Lib.itoa;rw [if_neg (by omega)];rfl
 grind [itoa,Lib.decDigits,ByteArray.size]
end
end Go.Rc

namespace Go.Rc
open Go
/-! ### keys in order -/
def mL(k:Key):List Key→List Key
 | []=>[k]
 | x::r=>if bC x k<0 then x::mL k r else if x=k then x::r else k::x::r
def jR(l:List Key):List Key:=l.foldl (fun out k=>mL k out) []
theorem Mq:∀(l:List Key) (k:Key) (p:Nat),p≤l.length→(∀q x,q<p→l[q]?=some x→bC x k<0)→(∀x,l[p]?=some x→0≤bC x k)→mL k l=if l[p]?=some k then l else l.take p++[k]++l.drop p:=by
 intro l
 induction l with
 | nil=>intro k p b _ _;simp at b;subst b;rfl
 | cons x r f=>
  intro k p b h1 e
  cases p with
  | zero=>
   have:=e x rfl
   simp only [mL]
   grind
  | succ p=>
   have:=h1 0 x (by omega) rfl
   simp only [mL];rw [if_pos this,f k p (by simpa using b) (fun q y h hy=>h1 (q+1) y (by omega) (by simpa using hy)) (fun y hy=>e y (by simpa using hy))]
   grind
theorem JA(k:Key):∀l,(mL k l).length≤l.length+1:=by
 intro l
 induction l with
 | nil=>simp [mL]
 | cons x r b=>grind [mL]
theorem uv(l:List Key) (k:Key):jR (l++[k])=mL k (jR l):=by simp [jR]
theorem rq(l:List Key):(jR l).length≤l.length:=by
 have key:∀(l acc:List Key),(l.foldl (fun out k=>mL k out) acc).length≤acc.length+l.length:=by
  intro l
  induction l with
  | nil=>intro acc;simp
  | cons x r b=>grind [JA]
 simpa [jR] using key l []
theorem BD(k:Key):∀(l:List Key) (x:Key),x∈mL k l↔x=k∨x∈l:=by
 intro l
 induction l with
 | nil=>intro x;simp [mL]
 | cons y r b=>grind [mL]
theorem od(l:List Key) (x:Key):x∈jR l↔x∈l:=by
 have key:∀(l acc:List Key),x∈l.foldl (fun out k=>mL k out) acc↔x∈acc∨x∈l:=by
  intro l
  induction l with
  | nil=>intro acc;simp
  | cons y r b=>grind [BD]
 simpa [jR] using key l []
def BE(out:List Key) (p:Nat) (x:Key):Bool:=match out[p]? with | some y=>decide (bC y x<0) | none=>false
/-! ### groups -/
def Ld(l:List Rec) (rev:Int) (a x:Key):Prop:=x∈(aC l a).reads∧bT l rev x=true
inductive bM (l:List Rec) (rev:Int) (k:Key):Key→Prop where
 | one {x:Key}:Ld l rev k x→bM l rev k x
 | step {x y:Key}:bM l rev k x→Ld l rev x y→bM l rev k y
def ik(m:List (Key × Value)) (P:Key→Prop):Prop:=∀k,(bF m k=some (.bool true)↔P k)∧(bF m k=none∨bF m k=some (.bool true))
open Classical in
noncomputable def yL(l:List Rec) (rev:Int) (k x:Key):Bool:=decide (bM l rev k x)
theorem kl{l:List Rec}{rev:Int}{k x:Key}:yL l rev k x=true↔bM l rev k x:=by unfold yL;simp
noncomputable def BF(l:List Rec) (rev:Int) (k:Key) (r:Rec):Bool:=decide (r.key≠k) && (yL l rev k r.key && yL l rev r.key k)
noncomputable def jg(l:List Rec) (rev:Int) (k:Key) (rs:List Rec):List Key:=(rs.filter (BF l rev k)).map (·.key)
theorem sC{l:List Rec}{rev:Int}{k:Key}{i:Nat}(h:i<l.length):jg l rev k (l.take (i+1))=if BF l rev k l[i]=true then jg l rev k (l.take i)++[l[i].key] else jg l rev k (l.take i):=by
 rw [List.take_succ_eq_append_getElem h];simp only [jg,List.filter_append,List.map_append]
 grind
theorem pc(l:List Rec) (rev:Int) (k:Key) (rs:List Rec):(jg l rev k rs).length≤rs.length:=by grind [jg]
theorem ik.get{m:List (Key × Value)}{P:Key→Prop}(h:ik m P) (k:Key) {b:Bool}(hb:b=true↔P k):(bF m k).getD (.bool false)=.bool b:=by
 obtain⟨h1,e⟩:=h k
 grind
theorem ik.put{m:List (Key × Value)}{b:List Key}(h:ik m (·∈b)) (x:Key):ik (cM m x (.bool true)) (·∈b++[x]):=fun k=>by
 rw [ek]
 by_cases e:x=k
 ·
  rw [if_pos e];simp [e]
 rw [if_neg e];obtain⟨h1,f⟩:=h k
 grind
theorem ik.congr{m:List (Key × Value)}{P Q:Key→Prop}(h:ik m P) (b:∀k,P k↔Q k):ik m Q:=fun k=>⟨(h k).1.trans (b k),(h k).2⟩
theorem ik.nil:ik [] (·∈([]:List Key)):=fun k=>by simp [bF]
theorem eL{L S:List Key}(h:L.Nodup) (b:∀x∈L,x∈S):L.length≤S.length:=by
 induction L generalizing S with
 | nil=>simp
 | cons a r e=>
  have f:=b a (by simp);rw [List.nodup_cons] at h
  have:=e (S:=S.erase a) h.2 fun x i=>by grind
  grind
theorem nq{l:List Rec}{rev:Int}{x:Key}(h:bT l rev x=true):x∈l.map (·.key):=by
 unfold bT at h
 rw [Bool.and_eq_true] at h
 grind [aA]
theorem bM.gz{l:List Rec}{rev:Int}{k x:Key}(h:bM l rev k x):bT l rev x=true:=by
 cases h with
 | one h=>exact h.2
 | step _ h=>exact h.2
theorem yM{l:List Rec}{rev:Int}{k:Key}{b:List Key}(e:∀x∈b,bM l rev k x) (hc:∀y∈k::b,∀x,Ld l rev y x→x∈b) (x:Key):x∈b↔bM l rev k x:=by
 refine⟨e x,fun h=>?_⟩
 induction h with
 | one h=>exact hc k (by simp) _ h
 | step _ f i=>exact hc _ (by simp [i]) _ f
noncomputable def aB(l:List Rec) (rev:Int) (k:Key):List Key:=if bT l rev k then jR (k::jg l rev k l) else [k]
def aX(rev:Int) (group:List Key) (bq:Bool) (r:Rec):Rec:=if r.key∈group then (if bq then {r with bq:=true} else {r with av:=rev}) else r
def cI(x:bZ) (group:List Key) (bq:Bool):bZ:={x with ah:=x.ah.map (aX x.ad group bq)}
def ay(x:bZ) (k:Key):Bool:=(aA x.ah k).isSome && decide ((aC x.ah k).av=x.ad)
def aV(val:Key→ByteArray) (x:bZ) (k:Key):Int:=
 if aw k then (bA x.ab k).changed
 else if (aA x.ah k).isSome && (decide ((aC x.ah k).av=x.ad) || decide (val k=(aC x.ah k).value)) then (aC x.ah k).changed else x.ad
def bS(val:Key→ByteArray) (x:bZ) (k:Key):ByteArray:=if az k then val k else i6 x k
/-! ### a request -/
structure ES where
 b:bZ
 busy:List (Key × Value)
 a8:List Key
 e:Int
def ES.on(s:ES) (k:Key):Bool:=(bF s.busy k).isSome
def eu(s:ES) (k:Key):Bool:=aw k || ((s.on k && az k) || ay s.b k)
mutual
noncomputable def kW(aa:List aH) (val:Key→ByteArray):Nat→ES→Key→Option ES
 | 0,_,_=>none
 | f+1,s,k=>
  if s.e≠0∨aw k=true then some s
  else if ay s.b k then some s
  else if s.on k then (if az k then some s else some {s with e:=43})
  else (cP aa val f {s with busy:=cM s.busy k (.bool true)} k 0).bind fun p=>
   (if p.2 then gQ aa val f p.1 k [] [] else some p.1).bind fun s3=>some {s3 with busy:=iX s3.busy k}
noncomputable def cP(aa:List aH) (val:Key→ByteArray):Nat→ES→Key→Nat→Option (ES × Bool)
 | 0,_,_,_=>none
 | f+1,s,k,at_=>
  if s.e≠0 then some (s,false)
  else if !(aA s.b.ah k).isSome || (aC s.b.ah k).bq then some (s,true)
  else if (aC s.b.ah k).av=s.b.ad then some (s,false)
  else
   match (bR s.b.ah (aB s.b.ah s.b.ad k))[at_]? with
   | none=>some ({s with b:=cI s.b (aB s.b.ah s.b.ad k) false},false)
   | some c=>
    if eu s c.read=false then (kW aa val f s c.read).bind fun s'=>cP aa val f s' k at_
    else if (aC s.b.ah c.dC).av<aV val s.b c.read then
     some ((if az k then {s with b:=cI s.b (aB s.b.ah s.b.ad k) true} else s),true)
    else cP aa val f s k (at_+1)
noncomputable def gQ(aa:List aH) (val:Key→ByteArray):Nat→ES→Key→List Key→List ByteArray→Option ES
 | 0,_,_,_,_=>none
 | f+1,s,k,reads,ae=>
  if s.e≠0 then some s
  else if (aG aa k ae).done then
   (if !(aA s.b.ah k).isSome && decide (4000≤s.b.ah.length) then some {s with e:=45}
   else some {s with b:={s.b with ah:=dK s.b.ah (bs s.b k (aG aa k ae).value reads)},a8:=s.a8++[k]})
  else (kW aa val f s (aG aa k ae).ask).bind fun s'=>
   if s'.e=0 then gQ aa val f s' k (reads++[(aG aa k ae).ask]) (ae++[bS val s'.b (aG aa k ae).ask]) else gQ aa val f s' k reads ae
end
/-! ### a solver, as one thing -/
def As.jO(P:Program) (ST:Nat) (aa:List aH) (x:bZ) (D:SD):As where
 fp y:=y=D.s∨y=D.m
 ok Z w:=D.s≠D.m∧bU w D.s ST (D.cells x)∧(∃ml,aU aa x.ab ml∧KM Key.val w D.m ml)∧(D.F P aa x).p Z w
 lt:=fun⟨_,h1,⟨_,_,h2⟩,_⟩ y hy=>by rcases hy with rfl | rfl;exact h1.lt;exact h2.lt
 mono hZ:=fun⟨h0,h1,h2,h3⟩=>⟨h0,h1,h2,(D.F P aa x).mono hZ h3⟩
 st:=fun hs hc ⟨h0,h1,⟨ml,h2,h3⟩,h4⟩=>⟨h0,(As.blk D.s ST (D.cells x)).st (Z:=fun _=>False) hs (fun y hy hl=>hc y (.inl (.inl (by rcases hy with hy | hy;exact hy;exact hy.elim))) hl) h1,
  ⟨ml,h2,(As.map Key.val D.m ml).st (Z:=fun _=>False) hs (fun y hy hl=>hc y (.inl (.inr (by rcases hy with hy | hy;exact hy;exact hy.elim))) hl) h3⟩,(D.F P aa x).st hs (fun y hy hl=>hc y (.inr hy) hl) h4⟩
section
variable {w0 w w':World}{M Z:Nat→Prop}{l:List As}{A B C:As}
theorem St.split(h:St w0 M Z w (C::l)) (o:A.ok Z w) (p:B.ok Z w) (i:∀x,A.fp x→C.fp x) (m:∀x,B.fp x→C.fp x) (q:∀x,A.fp x→¬B.fp x):St w0 M Z w (A::B::l):=by
 obtain⟨r,t⟩:=List.pairwise_cons.1 h.rh;refine⟨h.bX,h.jL,?_,?_,?_,?_⟩
 ·
  intro D b x e f;simp only [List.mem_cons] at b
  rcases b with rfl | rfl | b
  ·
   exact h.lV C (by simp) x (i x e) f
  ·
   exact h.lV C (by simp) x (m x e) f
  exact h.lV D (by simp [b]) x e f
 ·
  intro D b x e;simp only [List.mem_cons] at b
  rcases b with rfl | rfl | b
  ·
   exact h.mQ C (by simp) x (i x e)
  ·
   exact h.mQ C (by simp) x (m x e)
  exact h.mQ D (by simp [b]) x e
 ·
  simp_all
 intro D b;simp only [List.mem_cons] at b
 rcases b with rfl | rfl | b
 ·
  exact o
 ·
  exact p
 exact h.ok D (by simp [b])
theorem St.join(h:St w0 M Z w (A::B::l)) (m:C.ok Z w) (i:∀x,C.fp x→A.fp x∨B.fp x):St w0 M Z w (C::l):=by
 obtain⟨p,o⟩:=List.pairwise_cons.1 h.rh;obtain⟨q,r⟩:=List.pairwise_cons.1 o;refine⟨h.bX,h.jL,?_,?_,?_,?_⟩
 ·
  intro D b x e f;simp only [List.mem_cons] at b
  rcases b with rfl | b
  ·
   rcases i x e with h1 | h1
   ·
    exact h.lV A (by simp) x h1 f
   exact h.lV B (by simp) x h1 f
  exact h.lV D (by simp [b]) x e f
 ·
  intro D b x e;simp only [List.mem_cons] at b
  rcases b with rfl | b
  ·
   rcases i x e with h1 | h1
   ·
    exact h.mQ A (by simp) x h1
   exact h.mQ B (by simp) x h1
  exact h.mQ D (by simp [b]) x e
 ·
  grind [List.pairwise_cons]
 intro D b;simp only [List.mem_cons] at b
 rcases b with rfl | b
 ·
  exact m
 exact h.ok D (by simp [b])
theorem St.one(h:St w0 M Z w l) (e:A∈l):St w (mR [A]) Z w [A] where
 bX:=gP.refl _ _
 jL:=h.jL
 lV D b:=by simp at b;subst b;exact h.lV _ e
 mQ D b x f:=.inl ⟨D,b,f⟩
 rh:=by simp
 ok D b:=by simp at b;subst b;exact h.ok _ e
theorem St.xE(h:St w0 M Z w l) (f:A∈l) (b:St w (mR [A]) Z w' [A]):St w0 M Z w' l:=
 h.same f (b.bX.mono fun x _ ⟨D,e,i⟩=>by simp at e;subst e;exact i) (b.ok A (by simp))
theorem Gr(f:A∈l) {x:Nat}(b:mR [A] x):mR l x:=by obtain⟨D,e,b⟩:=b;simp at e;subst e;exact⟨D,f,b⟩
end
theorem As.gv{P:Program}{ST:Nat}{aa:List aH}{x:bZ}{D:SD}{Z:Nat→Prop}{w:World}(h:(As.jO P ST aa x D).ok Z w):(D.F P aa x).p Z w:=h.2.2.2
theorem As.gvb{P:Program}{ST:Nat}{aa:List aH}{x:bZ}{D:SD}{Z:Nat→Prop}{w:World}(h:(As.jO P ST aa x D).ok Z w):bU w D.s ST (D.cells x):=h.2.1
structure EA where
 (a1 a2 a3:Option Addr) (n1 c1 n2 c2 n3 c3:Nat)
def EA.cells(E:EA) (sb bb:Nat) (s:ES):List Value:=
 [.pointer (some ⟨sb,0,none⟩),.int .i64 s.b.ad,.slice E.a1 E.n1 E.c1,.slice E.a2 E.n2 E.c2,.map (some bb),.slice E.a3 E.n3 E.c3,.int .i64 s.e]
theorem Ee{x:bZ}{group:List Key}{bq:Bool}{i:Nat}(h:i<x.ah.length) (hi:i≤x.ah.length):(((x.ah.take i).map (aX x.ad group bq))++x.ah.drop i).set i (aX x.ad group bq x.ah[i])=((x.ah.take (i+1)).map (aX x.ad group bq))++x.ah.drop (i+1):=by
 rw [List.set_append_right _ _ (by simp;omega)];simp only [List.length_map,List.length_take,Nat.min_eq_left hi,Nat.sub_self]
 grind [List.drop_eq_getElem_cons]
end Go.Rc

namespace Go.Rc
open Go
structure Good (aa:List aH) (aD:List ct) (s:ES):Prop where
 aD:s.b.ab=aD
 len:s.b.ah.length≤4000
 key:∀r∈s.b.ah,ep aa r.key
 AG:∀r∈s.b.ah,r.reads.length≤4000∧∀a∈r.reads,ep aa a
 jP:(s.busy.map (·.1)).Nodup
 busy:∀k,bF s.busy k=none∨bF s.busy k=some (.bool true)
structure Gs (s s':ES):Prop where
 a8:s.a8.length≤s'.a8.length
 rev:s'.b.ad=s.b.ad
theorem Gs.refl(s:ES):Gs s s:=⟨Nat.le_refl _,rfl⟩
theorem Gs.trans{s t u:ES}(h:Gs s t) (b:Gs t u):Gs s u:=⟨Nat.le_trans h.a8 b.a8,b.rev.trans h.rev⟩
section
variable {aa:List aH}{aD:List ct}{s:ES}{k:Key}
theorem Good.on(h:Good aa aD s) (k:Key):Good aa aD {s with busy:=cM s.busy k (.bool true)}:=
 {h with jP:=gp h.jP _ _,busy:=fun k'=>by show bF (cM s.busy k (.bool true)) k'=none∨_;rw [ek];split;exact .inr rfl;exact h.busy k'}
theorem Good.off(h:Good aa aD s) (k:Key):Good aa aD {s with busy:=iX s.busy k}:=
 {h with jP:=by grind [Jc,jP],busy:=fun k'=>by show bF (iX s.busy k) k'=none∨_;rw [Bg h.jP];split;exact .inl rfl;exact h.busy k'}
theorem Good.err(h:Good aa aD s) (e:Int):Good aa aD {s with e:=e}:={h with}
theorem cR(rev:Int) (g:List Key) (d:Bool) (r:Rec):(aX rev g d r).key=r.key∧(aX rev g d r).reads=r.reads:=by unfold aX;grind
theorem Good.mark(h:Good aa aD s) (g:List Key) (d:Bool):Good aa aD {s with b:=cI s.b g d}:=
 {h with
  len:=by show((s.b.ah.map _).length≤4000);rw [List.length_map];exact h.len
  key:=fun r hr=>by obtain⟨q,e,rfl⟩:=List.mem_map.1 hr;rw [(cR _ _ _ q).1];exact h.key q e
  AG:=fun r hr=>by obtain⟨q,e,rfl⟩:=List.mem_map.1 hr;rw [(cR _ _ _ q).2];exact h.AG q e}
theorem Gs.mark(g:List Key) (d:Bool):Gs s {s with b:=cI s.b g d}:=⟨Nat.le_refl _,rfl⟩
theorem gI(r:Rec):∀(l:List Rec) (b:Bool) (x:Rec),x∈fe r l b→x=r∨x∈l:=by
 intro l
 induction l with
 | nil=>grind [fe]
 | cons y e f=>grind [fe]
theorem BG(r:Rec):∀(l:List Rec) (b:Bool),(fe r l b).length+(l.filter fun x=>decide (bC x.key r.key=0)).length=l.length+(if b then 0 else 1):=by
 intro l
 induction l with
 | nil=>intro b;cases b <;> simp [fe]
 | cons y f e=>
  intro b;have h1:=e (b || decide (0≤bC y.key r.key));simp only [fe,List.length_append,List.length_cons]
  grind
theorem JB{l:List Rec}{r:Rec}(h:(aA l r.key).isSome=true) (hc:bC r.key r.key=0):(dK l r).length≤l.length:=by
 have h1:=BG r l false;obtain⟨x,b⟩:=Option.isSome_iff_exists.1 h;have f:=List.mem_of_find?_eq_some b;have e:=List.find?_some b
 simp at e
 have i:0<(l.filter fun x=>decide (bC x.key r.key=0)).length:=List.length_pos_of_mem (List.mem_filter.2 ⟨f,by rw [e];simp [hc]⟩)
 unfold dK
 simp at h1
 omega
theorem xF:∀l:List UInt8,Lib.compareBytes l l=0
 | []=>by simp [Lib.compareBytes]
 | a::r=>by simp [Lib.compareBytes,xF r]
theorem iy(k:Key):bC k k=0:=by unfold bC;simp [xF]
theorem Good.put(h:Good aa aD s) {r:Rec}{a8:List Key}(hk:ep aa r.key) (hr:r.reads.length≤4000∧∀a∈r.reads,ep aa a) (f:(!(aA s.b.ah r.key).isSome && decide (4000≤s.b.ah.length))=false) :
  Good aa aD {s with b:={s.b with ah:=dK s.b.ah r},a8:=a8}:=
 {h with
  len:=by grind [dK,len,JB,iy,qZ]
  key:=fun x e=>by rcases gI r _ _ x e with rfl | e;exact hk;exact h.key x e
  AG:=fun x e=>by rcases gI r _ _ x e with rfl | e;exact hr;exact h.AG x e}
def gZ(aa:List aH) (k:Key) (n:Nat):Prop:=∃i,i<aa.length∧k=aM aa (i:Int)∧n≤cL aa i
theorem ep.gM(h:ep aa k) (hi:aw k=false):gZ aa k 0:=by
 cases h with
 | cell h=>grind [bD]
 | fb h jr=>exact⟨_,h,rfl,Nat.zero_le _⟩
theorem gZ.next(b:aq aa) {ae:List ByteArray}(h:gZ aa k ae.length) (f:(aG aa k ae).done=false):gZ aa k (ae.length+1)∧ep aa (aG aa k ae).ask:=by
 obtain⟨i,hi,rfl,hn⟩:=h
 have jr:i≤99:=by have:=b.len;omega
 rw [dX hi jr] at f ⊢
 rcases Nat.lt_or_ge ae.length (cL aa i) with e | o
 ·
  obtain⟨a,h1,m,_⟩:=et b hi e;rw [h1];exact⟨⟨i,hi,rfl,e⟩,m.Jt b⟩
 grind [gD]
theorem gZ.le(b:aq aa) {n:Nat}(h:gZ aa k n):n≤6:=by obtain⟨i,hi,_,hn⟩:=h;have:=nk b hi;omega
theorem gZ.not(b:aq aa) {n:Nat}(h:gZ aa k n):cY k∧aw k=false:=by
 obtain⟨i,hi,rfl,hn⟩:=h;grind [aq.len,gk,di]
theorem gZ.Jt(b:aq aa) {n:Nat}(h:gZ aa k n):ep aa k:=by obtain⟨i,hi,rfl,_⟩:=h;have:=b.len;exact .fb hi (by omega)
end
section
variable {aa:List aH}{val:Key→ByteArray}{aD:List ct}
def UpG(aa:List aH) (val:Key→ByteArray) (aD:List ct) (f:Nat):Prop:=∀s k s',kW aa val f s k=some s'→Good aa aD s→ep aa k→Good aa aD s'∧Gs s s'
def ChG(aa:List aH) (val:Key→ByteArray) (aD:List ct) (f:Nat):Prop:=∀s k n s' b,cP aa val f s k n=some (s',b)→Good aa aD s→Good aa aD s'∧Gs s s'
def RuG(aa:List aH) (val:Key→ByteArray) (aD:List ct) (f:Nat):Prop:=∀s k reads ae s',gQ aa val f s k reads ae=some s'→Good aa aD s→gZ aa k ae.length→reads.length=ae.length→(∀a∈reads,ep aa a)→Good aa aD s'∧Gs s s'
theorem fR{aa:List aH}{aD:List ct}{s:ES}(h:Good aa aD s) {group:List Key}{n:Nat}{c:oa}(hc:(bR s.b.ah group)[n]?=some c):ep aa c.read:=by
 have h1:=List.mem_of_getElem? hc;obtain⟨m,hm,i⟩:=List.mem_flatMap.1 h1;obtain⟨a,o,rfl⟩:=List.mem_map.1 i;have e:=(List.mem_filter.1 o).1
 show ep aa a
 unfold aC at e
 cases f:aA s.b.ah m with
 | none=>rw [f] at e;simp [nh] at e
 | some r=>rw [f] at e;exact(h.AG r (List.mem_of_find?_eq_some f)).2 a e
theorem kn(l:List Rec) (rev:Int) (k:Key):(aB l rev k).length≤l.length+1:=by grind [aB,rq,pc]
theorem yN{aa:List aH}{aD:List ct}{s:ES}(h:Good aa aD s) {group:List Key}(f:group.length≤4001):∀i,((group.take i).flatMap fun m=>cT group m (aC s.b.ah m).reads).length≤100000000:=by
 intro i
 have h1:∀l:List Key,(l.flatMap fun m=>cT group m (aC s.b.ah m).reads).length≤l.length*4000:=by
  intro l
  induction l with
  | nil=>simp
  | cons m r o=>
   simp only [List.flatMap_cons,List.length_append,List.length_cons];have p:=jX group m (aC s.b.ah m).reads
   have q:(aC s.b.ah m).reads.length≤4000:=by
    unfold aC
    cases e:aA s.b.ah m with
    | none=>simp [nh]
    | some r=>exact(h.AG r (List.mem_of_find?_eq_some e)).1
   rw [Nat.add_mul]
   omega
 grind
theorem tM{aa:List aH}{aD:List ct}{s:ES}(h:Good aa aD s) {group:List Key}(e:group.length≤4001):(bR s.b.ah group).length≤100000000:=by
 have h1:=yN h e group.length;rw [List.take_of_length_le (Nat.le_refl _)] at h1;exact h1
theorem cz(u:aq aa):∀f,UpG aa val aD f∧ChG aa val aD f∧RuG aa val aD f:=by
 intro f
 induction f with
 | zero=>exact⟨fun s k s' h=>by simp [kW] at h,fun s k n s' b h=>by simp [cP] at h,fun s k r a s' h=>by simp [gQ] at h⟩
 | succ f I=>
  obtain⟨G,z,F⟩:=I;refine⟨?_,?_,?_⟩
  ·
   intro s k s' h e hk
   unfold kW at h
   split at h
   ·
    cases h;exact⟨e,.refl _⟩
   rename_i he
   split at h
   ·
    cases h;exact⟨e,.refl _⟩
   split at h
   ·
    split at h <;> cases h
    ·
     exact⟨e,.refl _⟩
    exact⟨e.err _,⟨Nat.le_refl _,rfl⟩⟩
   obtain⟨p,J,h⟩:=Option.bind_eq_some_iff.1 h;obtain⟨t,ht,h⟩:=Option.bind_eq_some_iff.1 h
   cases h
   obtain⟨h1,o⟩:=z _ _ _ p.1 p.2 (by rw [J]) (e.on k);have H:Gs s p.1:=⟨o.a8,o.rev⟩
   have i:Good aa aD t∧Gs s t:=by
    split at ht
    ·
     obtain⟨m,L⟩:=F _ _ _ _ _ ht h1 (hk.gM (by simp at he;exact he.2)) rfl (fun a q=>by cases q);exact⟨m,H.trans L⟩
    cases ht;exact⟨h1,H⟩
   exact⟨i.1.off k,⟨i.2.a8,i.2.rev⟩⟩
  ·
   intro s k n s' b h e
   unfold cP at h
   split at h
   ·
    cases h;exact⟨e,.refl _⟩
   split at h
   ·
    cases h;exact⟨e,.refl _⟩
   split at h
   ·
    cases h;exact⟨e,.refl _⟩
   split at h
   ·
    cases h;exact⟨e.mark _ _,.mark _ _⟩
   rename_i c hc
   split at h
   ·
    obtain⟨t,ht,h⟩:=Option.bind_eq_some_iff.1 h;obtain⟨h1,o⟩:=G _ _ _ ht e (fR e hc);obtain⟨i,m⟩:=z _ _ _ _ _ h h1;exact⟨i,o.trans m⟩
   split at h
   ·
    split at h <;> cases h
    ·
     exact⟨e.mark _ _,.mark _ _⟩
    exact⟨e,.refl _⟩
   exact z _ _ _ _ _ h e
  intro s k reads ae s' h e q hl hr
  unfold gQ at h
  split at h
  ·
   cases h;exact⟨e,.refl _⟩
  split at h
  ·
   split at h
   ·
    cases h;exact⟨e.err _,⟨Nat.le_refl _,rfl⟩⟩
   rename_i m
   cases h
   have O:=q.le u;exact⟨e.put (r:=bs s.b k (aG aa k ae).value reads) (q.Jt u) ⟨by show reads.length≤4000;omega,hr⟩ (by show(!(aA s.b.ah k).isSome && _)=false;simpa using m),⟨by simp,rfl⟩⟩
  rename_i N
  obtain⟨t,ht,h⟩:=Option.bind_eq_some_iff.1 h;have hn:=q.next u (by simpa using N);obtain⟨h1,o⟩:=G _ _ _ ht e hn.2
  split at h
  ·
   obtain⟨i,m⟩:=F _ _ _ _ _ h h1 (by simpa using hn.1) (by simp [hl]) (fun a q=>by grind);exact⟨i,o.trans m⟩
  obtain⟨i,m⟩:=F _ _ _ _ _ h h1 q hl hr;exact⟨i,o.trans m⟩
end
end Go.Rc

