/- Base of the proof: frames, memory, ownership, and the plain meaning of rule systems. Conditions: as each lemma says. -/
import Derived.Test.YtmpkegmkoclbhaaGreatDoorMBd
import Derived.Lib.IfaceEq
import Derived.Lib.BufferWrite
import Derived.Lib.UnsafeStr
import Derived.Laws.MakeOwn
import Derived.Test.YtmpkegmkoclbhaaGreatDoorMBc
set_option linter.all false
namespace Go.Rc
open Go
theorem aS.Bx{w w':World}(h:RowKit.Below w.heap.size w w') (b:w.drawn≤w'.drawn):aS [] w w':=⟨h.os,h.tape,h.output,h.size,b,fun k hk _=>h.block k hk⟩
theorem qj(w:World) (p:Addr) (n:Nat):(w.freeze p n).drawn=w.drawn:=by grind [World.freeze]
section
variable {P:Program}{n:Nat}{kv:KV}{w w':World}{K:KV→World→Prop}{d:Tmp}{ty:TypeId}{pos:String}{af:Array Edge}{g:Option (Nat × Bool)}{T U:TypeId}{op:Op}{v:Value}{x y:Operand}
theorem OX.val(b:bu op=false) (e:Nat.blt d n=true) (hk:known kv op=true) (hr:(execOp (jH kv) ⟨some d,op,ty,pos,af,g⟩).run P w=.ok (.value v) w') (h:K ((d,v)::kv) w'):OX P ⟨some d,op,ty,pos,af,g⟩ n kv w K:=⟨b,e,hk,by rw [hr];exact h⟩
theorem PV.Jm{b:TypeDesc}(hT:P.underlying T=some b) (f:∀ms,b≠.interface ms) (e:ev kv x=some v):PV P (.makeInterface T x) ty kv w (.iface T v):=
 ⟨rfl,by simp [known,opers,e],fun _ _ _ _=>by
  simp only [execOp,aK e,Instr.makeInterface,Sem.run_bind,run_underlying hT,Result.andThen_ok]
  simp_all⟩
theorem PV.QJ{ms:Array (String × TypeId)}{e:TypeId}{q:IntKind}{a b:Int}(hT:P.underlying T=some (.interface ms)) (hc:(P.info? e).map (·.comparable)=some true) (i:P.underlying e=some (.int q)) (f:ev kv x=some (.iface e (.int .i64 a))) (hy:ev kv y=some (.iface e (.int .i64 b))):PV P (.binOp .eql T x y U) ty kv w (.bool (a == b)):=
 ⟨rfl,by simp [known,opers,f,hy],fun _ _ _ _=>by
  have h:=Lib.run_eql_iface_int w (k:=.i64) a b hT hc i;simp only [execOp,aK f,aK hy]
  simp [eqGuard,h]⟩
theorem OX.VY{r:Value}(e:Nat.blt d n=true) {u v:Value}(b:ev kv x=some u) (hy:ev kv y=some v) (hr:(Instr.makeSlice T u v).run P w=.ok r w') (h:K ((d,r)::kv) w'):OX P ⟨some d,.makeSlice T x y,ty,pos,af,g⟩ n kv w K:=
 OX.val rfl e (by simp [known,opers,b,hy]) (by simp only [execOp,aK b,aK hy,Sem.run_bind,hr,Result.andThen_ok];rfl) h
theorem OX.VZ{r u v:Value}(e:Nat.blt d n=true) (b:ev kv x=some u) (hy:ev kv y=some v) (hr:(Builtin.copy_ #[T,U] ty #[u,v]).run P w=.ok r w') (h:K ((d,r)::kv) w'):OX P ⟨some d,.call {callee:=.builtin .copy,args:=#[x,y],argTypes:=#[T,U]},ty,pos,af,g⟩ n kv w K:=
 OX.val rfl e (by simp [known,opers,b,hy]) (by simp [execOp,aK b,aK hy,resolve,invoke,builtin,hr]) h
theorem OX.acG{r u v:Value}(e:Nat.blt d n=true) (b:ev kv x=some u) (hy:ev kv y=some v) (hr:(Builtin.unsafeString_ #[T,U] ty #[u,v]).run P w=.ok r w') (h:K ((d,r)::kv) w'):OX P ⟨some d,.call {callee:=.builtin .unsafeString,args:=#[x,y],argTypes:=#[T,U]},ty,pos,af,g⟩ n kv w K:=
 OX.val rfl e (by simp [known,opers,b,hy]) (by simp [execOp,aK b,aK hy,resolve,invoke,builtin,hr]) h
end
theorem yK{P:Program}{T S e pt it ty1 ty2:TypeId}{i:TypeInfo}(hT:P.underlying T=some (.slice e)) (hi:P.info? e=some i) (f:i.zero=some (.int .u8 0)) (h1:i.size=1) (hb:i.bytes=1) (q:P.underlying pt=some (.pointer e)) {s:ByteArray}(h0:s.size≠0) (J:s.size≤1000) (w:World) :
  ∃w1 w2 w3:World,(Instr.makeSlice T (.int .i64 (s.size:Int)) (.int .i64 (s.size:Int))).run P w=.ok (.slice (some ⟨w.heap.size,0,none⟩) s.size s.size) w1∧
   (Builtin.copy_ #[T,S] ty1 #[.slice (some ⟨w.heap.size,0,none⟩) s.size s.size,.string s]).run P w1=.ok (goInt s.size) w2∧
   (Builtin.unsafeString_ #[pt,it] ty2 #[.pointer (some ⟨w.heap.size,0,none⟩),.int .i64 (s.size:Int)]).run P w2=.ok (.string s) w3∧aS [] w w3:=by
 have r:(P.info? e).map (·.size)=some 1:=by rw [hi];simp [h1]
 have t:P.cellsOf e=1:=by simp [Program.cellsOf,hi,h1]
 have L:(Lib.byteCells s.data.toList).length=s.size:=by rw [Lib.byteCells_length,← Lib.size_eq]
 have b:=run_make (P:=P) w T e i (.int .u8 0) hT hi f .i64 .i64 (s.size:Int) (s.size:Int) (by omega) (by omega) (by rw [hb];omega) (by omega)
 have u:(madeCells (Value.int .u8 0).cells (((s.size:Nat):Int).toNat*i.size)).size=s.size:=by rw [size_madeCells,h1];simp
 generalize madeCells (Value.int .u8 0).cells (((s.size:Nat):Int).toNat*i.size)=M at b u
 rw [Int.toNat_natCast] at b;have m:=Lib.run_copy_row_string (P:=P) (w.alloc (.cells M e)) T S ty1 e w.heap.size 0 s.size s.size s M e hT r (heap_alloc_new w _) (Nat.le_refl _) (by omega)
 have F:(M.toList.take 0++Lib.byteCells s.data.toList++M.toList.drop (0+s.size)).toArray=(Lib.byteCells s.data.toList).toArray:=by grind
 rw [F] at m;have G:((w.alloc (.cells M e)).setRow w.heap.size (Lib.byteCells s.data.toList).toArray).heap[w.heap.size]?=some (.cells (Lib.byteCells s.data.toList).toArray e (0,0)):=setRow_heap _ _ M _ e (0,0) (heap_alloc_new w _);have H:s.data.toList≠[]:=fun h=>h0 (by rw [Lib.size_eq,h];rfl);have o:=Lib.run_unsafeString_row (P:=P) ((w.alloc (.cells M e)).setRow w.heap.size (Lib.byteCells s.data.toList).toArray) pt it ty2 e q t w.heap.size s.size (by grind [World.shape?]) s.data.toList H (by rw [← Lib.size_eq];omega) (by rw [← Lib.size_eq];omega)
  (fun j z f=>Lib.cells_of_row G s.size j _ (by grind [Lib.byteCells]))
 rw [← Lib.size_eq] at o;have I:RowKit.Below w.heap.size (w.alloc (.cells M e)) ((w.alloc (.cells M e)).setRow w.heap.size (Lib.byteCells s.data.toList).toArray):=⟨rfl,rfl,rfl,by simp [World.setRow],fun k hk=>setRow_other _ _ _ _ (by omega)⟩;refine⟨_,_,_,b,m,o,aS.Bx (Lib.below_freeze (((RowKit.Below.refl _ w).alloc (Nat.le_refl _) _).trans I) (p:=⟨w.heap.size,0,none⟩) (Nat.le_refl _) _) ?_⟩;rw [qj];exact Nat.le_refl _
end Go.Rc

namespace Go.Rc
open Go
instance:Inhabited cv:=⟨⟨eR,⟨#[]⟩,0⟩⟩
def cm.row(x:cm) (a1:Option Addr) (n1 c1:Nat) (a2:Option Addr) (n2 c2:Nat):List Value:=[.int .i64 x.ad,.slice a1 n1 c1,.slice a2 n2 c2]
def ig(rev:Int) (l:List cv) (i:Nat):Bool:=
 !fS l[i]!.key || (!ay l[i]!.key || ((decide (0<(i:Int)) && decide (0≤bC l[i - 1]!.key l[i]!.key)) || (decide (1073741824<(l[i]!.value.size:Int)) || (decide (l[i]!.changed<0) || decide (rev<l[i]!.changed)))))
def yL(rev:Int) (l:List cv):Prop:=∀i y,l[i]?=some y→ig rev l i=false
open Classical in
noncomputable def qk(l:List Rec):Bool:=decide (nk l)
theorem D7{l:List Rec}{b:Bool}(h:b=true↔nk l):b=qk l:=by
 unfold qk
 grind
def jz(x:cm):Prop:=yL x.ad x.ab∧(∀(i:Nat) (r:Rec),x.ah[i]?=some r→r.av≤x.ad)∧0≤x.ad∧x.ad≤1073741824∧x.ab.length≤64∧nk x.ah
noncomputable def l7(x:cm):Bool:=decide (0≤x.ad) && (decide (x.ad≤1073741824) && (decide ((x.ab.length:Int)≤64) && qk x.ah))
theorem sB(x:cm):l7 x=true↔0≤x.ad∧x.ad≤1073741824∧x.ab.length≤64∧nk x.ah:=by
 simp only [l7,qk,Bool.and_eq_true,decide_eq_true_eq]
 grind
theorem PV.ui{P:Program}{kv:KV}{w:World}{T ty:TypeId}{f off:Nat}{fs:List Field}{fd:Field}(hu:P.underlying T=some (.struct fs.toArray)) (b:fs[f]?=some fd) (e:fd.offset=off) (h1:∀w,(isAgg fd.type).run P w=.ok false w)
  {x:Operand}{us:List Value}{v:Value}(h:ev kv x=some (.agg us.toArray)) (i:nth us off=some v):PV P (.field T x f) ty kv w v:=
 PV.L7 hu (by simpa using b) e h1 h (by rw [← tT];exact i)
end Go.Rc
namespace Go.Rc
open Go
def cZ(k:Key):Prop:=k.kind<1∨22<k.kind
def aH(aa:List aG) (k:Key) (ae:List ByteArray):yE:=if k.kind=31∨k.kind=32 then cx aa k ae else ⟨true,⟨#[]⟩,eR⟩
def tM(n:Int):ByteArray:=if n=14 then ⟨#[48]⟩ else ⟨#[]⟩
def ph(k:Key):ByteArray:=if k.kind=32 then ⟨#[48]⟩ else if ax k then tM k.kind else ⟨#[]⟩
def iN(aa:List aG) (k:Key):Bool:=fS k && ((decide (k.kind≠31) && decide (k.kind≠32)) || decide (aL aa (number k)=k))
def aD(l:List Rec) (k:Key):Rec:=(aA l k).getD nj
def bU(l:List Rec) (rev:Int) (k:Key):Bool:=(aA l k).isSome && (ax k && (decide ((aD l k).av<rev) && !(aD l k).bA))
def gq(x:cm) (k:Key):Bool:=ay k || ((aA x.ah k).isSome && decide ((aD x.ah k).av=x.ad))
def i1(x:cm) (k:Key):ByteArray:=if ay k then (bz x.ab k).value else if gq x k then (aD x.ah k).value else ⟨#[]⟩
def bF(x:cm) (k:Key) (v:ByteArray) (reads:List Key):Rec:=
 ⟨k,v,reads,if (aA x.ah k).isSome && decide ((aD x.ah k).value=v) then (aD x.ah k).changed else x.ad,x.ad,1+(reads.length:Int),false⟩
end Go.Rc
namespace Go.Rc
open Go
open Classical in
noncomputable def gI(aa:List aG) (x:cm) (goals:List Key):Int:=
 if ¬aq aa then 41 else if ¬jz x then 42 else if 32<goals.length then 3 else if goals.all (iN aa) then 0 else 40
end Go.Rc
namespace Go.Rc
open Go
structure ob where
 dC:Key
 read:Key
 deriving DecidableEq
def ob.cells(x:ob):List Value:=[.int .i64 x.dC.kind,.string x.dC.text,.int .i64 x.read.kind,.string x.read.text]
def cT(group:List Key) (m:Key) (l:List Key):List ob:=(l.filter fun x=>!decide (x∈group)).map fun x=>⟨m,x⟩
def bR(l:List Rec) (group:List Key):List ob:=group.flatMap fun m=>cT group m (aD l m).reads
theorem jn{group:List Key}{m:Key}{l:List Key}{j:Nat}(h:j<l.length):cT group m (l.take (j+1))=if l[j]∈group then cT group m (l.take j) else cT group m (l.take j)++[⟨m,l[j]⟩]:=by
 rw [List.take_succ_eq_append_getElem h];simp only [cT,List.filter_append,List.map_append]
 grind
theorem jV(group:List Key) (m:Key) (l:List Key):(cT group m l).length≤l.length:=by grind [cT]
end Go.Rc
namespace Go.Rc
end Go.Rc

namespace Go.Rc
open Go
variable {E EK ER EI ES EF base:Nat}{w w':World}{a:Option Addr}{n c:Nat}{S:List Nat}
structure br where
 key:Key
 running:Bool
 at_:Int
 reads:List Key
 ae:List ByteArray
 deriving DecidableEq
def br.row(x:br) (a1:Option Addr) (n1 c1:Nat) (a2:Option Addr) (n2 c2:Nat):List Value:=[.int .i64 x.key.kind,.string x.key.text,.bool x.running,.int .i64 x.at_,.slice a1 n1 c1,.slice a2 n2 c2]
/-! the plain meaning -/
def gi(l:List br) (k:Key):Bool:=l.any fun f=>decide (f.key=k)
def cM(x:cm) (l:List br) (k:Key):Bool:=!(ay k || gi l k) && (!(aA x.ah k).isSome || decide ((aD x.ah k).av≠x.ad))
def bJ(x:cm) (l others:List br) (k:Key):Int:=
 if !ax k && gi l k then 3 else if !cM x l k then 0 else if !gi others k then 1 else if ax k then 0 else 2
end Go.Rc
namespace Go.Rc
open Go
variable {EA ERu:Nat}{w w':World}{a:Option Addr}{n c base:Nat}{S:List Nat}
def aG.row(x:aG) (a:Option Addr) (n c:Nat):List Value:=[.bool x.ring,.slice a n c,.int .i64 x.final,.int .i64 x.c]
theorem aG.one(x:aG) (a:Option Addr) (n c:Nat):∀u∈x.row a n c,u.oneCell'=true:=by simp [aG.row,Value.oneCell']
end Go.Rc

namespace Go.Rc
open Go
def RR.key:RR Key:=RR.flat Key.cells
def RR.str:RR ByteArray:=RR.flat fun s=>[.string s]
def RR.ask:RR Ask:=RR.flat Ask.cells
def RR.aC:RR cv:=RR.flat cv.cells
def RR.Bz:RR ob:=RR.flat ob.cells
def RR.int:RR Int:=RR.flat fun n=>[.int .i64 n]
def RR.eX:RR aG where
 r Z w x row:=Bl Z w x row
 mono hZ h:=by obtain⟨a,n,c,h1,h2⟩:=h;exact⟨a,n,c,h1,h2.mono (fun b hb _=>hZ b hb) fun _ _ h=>h⟩
 st hs hc h:=by obtain⟨a,n,c,h1,h2⟩:=h;exact⟨a,n,c,h1,SR.st hs hc (fun _ _ h=>h) h2⟩
 cut h:=by obtain⟨a,n,c,h1,h2⟩:=h;exact⟨a,n,c,h1,h2.mono (fun b hb AH=>⟨hb,AH⟩) fun _ _ h=>h⟩
def RR.ei:RR Rec where
 r Z w x row:=∃a n c,row=x.row a n c∧Rd RR.key 2 Z w a n c x.reads∧x.reads.length≤4000
 mono hZ h:=by obtain⟨a,n,c,h1,h2,h3⟩:=h;exact⟨a,n,c,h1,h2.mono hZ,h3⟩
 st hs hc h:=by obtain⟨a,n,c,h1,h2,h3⟩:=h;exact⟨a,n,c,h1,h2.st hs hc,h3⟩
 cut h:=by grind [Rd.cut]
def RR.mL:RR br where
 r Z w x row:=∃a1 n1 c1 a2 n2 c2,row=x.row a1 n1 c1 a2 n2 c2∧Rd RR.key 2 Z w a1 n1 c1 x.reads∧Rd RR.str 1 Z w a2 n2 c2 x.ae∧x.reads.length≤4000∧x.ae.length≤4000
 mono hZ h:=by obtain⟨a,n,c,a2,n2,c2,h1,h2,h3,h4⟩:=h;exact⟨a,n,c,a2,n2,c2,h1,h2.mono hZ,h3.mono hZ,h4⟩
 st hs hc h:=by obtain⟨a,n,c,a2,n2,c2,h1,h2,h3,h4⟩:=h;exact⟨a,n,c,a2,n2,c2,h1,h2.st hs hc,h3.st hs hc,h4⟩
 cut h:=by grind [Rd.cut]
end Go.Rc

namespace Go.Rc
open Go
/-! ### numbers and their texts -/
theorem uj:∀(u:Nat) (n:Nat) (rest:List UInt8),decFrom (Lib.decDigits u++rest) (n:Int)=decFrom rest ((n*10 ^ Lib.nDigits u+u:Nat):Int):=by
 intro u
 induction u using Nat.strongRecOn with
 | _ u b=>
  intro n rest
  by_cases h:u<10
  ·
   rw [Lib.decDigits_one h,Lib.nDigits_small h]
   have e:(UInt8.ofNat (48+u)).toNat=48+u:=by rw [UInt8.toNat_ofNat'];omega
   simp only [List.cons_append,List.nil_append,decFrom,e]
   grind
  rw [Lib.decDigits,dif_neg h,Lib.nDigits_big h,List.append_assoc,b (u / 10) (by omega)]
  have e:(UInt8.ofNat (48+u % 10)).toNat=48+u % 10:=by rw [UInt8.toNat_ofNat'];omega
  simp only [List.cons_append,List.nil_append,decFrom,e]
  grind
theorem uk:∀u:Nat,∃d r,Lib.decDigits u=d::r∧(0<u→d≠48):=by
 intro u
 induction u using Nat.strongRecOn with
 | _ u b=>
  by_cases h:u<10
  ·
   refine⟨_,[],Lib.decDigits_one h,fun hu e=>?_⟩
   have:=congrArg UInt8.toNat e
   rw [UInt8.toNat_ofNat'] at this
   grind
  obtain⟨d,r,h1,f⟩:=b (u / 10) (by omega);exact⟨d,r++[UInt8.ofNat (48+u % 10)],by rw [Lib.decDigits,dif_neg h,h1];rfl,fun _=>f (by omega)⟩
theorem um:∀(k u:Nat),u<10 ^ (k+1)→Lib.nDigits u≤k+1
 | 0,u,h=>by grind [Lib.nDigits_small]
 | k+1,u,h=>by
  by_cases h1:u<10
  ·
   rw [Lib.nDigits_small h1];omega
  rw [Lib.nDigits_big h1]
  have:=um k (u / 10) (by rw [Nat.pow_succ] at h;omega)
  omega
theorem jW{n:Nat}(h:n<1000000000):dN (itoa (n:Int))=n:=by
 have e:Lib.itoa (n:Int)=Lib.decDigits n:=by unfold Lib.itoa;rw [if_neg (by omega)];rfl
 have hl:(Lib.decDigits n).length≤9:=by rw [Lib.decDigits_length];exact um 8 n h
 have o:1≤(Lib.decDigits n).length:=by grind [Lib.decDigits_length,Lib.nDigits_pos]
 have f:(itoa (n:Int)).size=(Lib.decDigits n).length:=by grind [itoa,ByteArray.size]
 have b:(itoa (n:Int)).data.toList=Lib.decDigits n:=by unfold itoa;rw [e]
 unfold dN
 rw [if_neg]
 ·
  rw [b,← List.append_nil (Lib.decDigits n)]
  have:=uj n 0 []
  simp only [Nat.zero_mul,Nat.zero_add] at this;exact this
 rw [f,b];rintro(h1 | h1 | ⟨h1,p⟩)
 ·
  omega
 ·
  omega
 obtain⟨d,r,i,m⟩:=uk n;rw [i] at h1
 simp at h1
 by_cases h0:0<n
 ·
  exact m h0 h1
 grind [Lib.decDigits_one]
theorem fc{n:Nat}(h:n≤65535):cD (itoa (n:Int))=n:=by
 unfold cD
 rw [jW (by omega),if_neg (by omega)]
 rfl
theorem BA{m n:Nat}(hm:m<1000000000) (hn:n<1000000000) (h:itoa (m:Int)=itoa (n:Int)):m=n:=by grind [jW]
/-! ### keys -/
theorem ck{aa:List aG}{i:Nat}(hi:i<aa.length) (jo:i≤99):number (aL aa (i:Int))=i:=by
 have hk:aL aa (i:Int)=⟨if aF aa i then 32 else 31,itoa i⟩:=by unfold aL;rw [if_neg (by omega)];rfl
 rw [hk]
 unfold number
 simp only
 rw [jW (by omega),if_pos]
 split <;> omega
theorem eF{aa:List aG}{i:Nat}(hi:i<aa.length) (jo:i≤99):(aL aa (i:Int)).kind=if aF aa i then 32 else 31:=by
 unfold aL;rw [if_neg (by omega)];rfl
theorem dj{aa:List aG}{i:Nat}(hi:i<aa.length) (jo:i≤99):ay (aL aa (i:Int))=false:=by grind [ay,eF]
theorem bp{n:Nat}(h:n≤99):ay (bZ (n:Int))=true:=by
 unfold ay bZ;rw [if_neg (by omega)];simp
theorem bd{aa:List aG}{i:Nat}(hi:i<aa.length) (jo:i≤99):ax (aL aa (i:Int))=aF aa i:=by grind [ax,eF]
theorem kf{n:Nat}(h:n≤99):ax (bZ (n:Int))=false:=by
 unfold ax bZ;rw [if_neg (by omega)];simp
inductive dX (aa:List aG):Key→Prop where
 | cell {n:Nat}(h:n≤99):dX aa (bZ (n:Int))
 | eX {i:Nat}(h:i<aa.length) (jo:i≤99):dX aa (aL aa (i:Int))
/-! ### values -/
def cellOf(aC:List cv) (k:Key):ByteArray:=(bz aC k).value
def dT(turn:List ByteArray→yE) (gL:Key→ByteArray):Nat→List Key × List ByteArray
 | 0=>([],[])
 | n+1=>((dT turn gL n).1++[(turn (dT turn gL n).2).ask],(dT turn gL n).2++[gL (turn (dT turn gL n).2).ask])
def Jn(aC:List cv) (prev:List ByteArray) (k:Key):ByteArray:=if ay k then cellOf aC k else prev.getD (number k).toNat ⟨#[]⟩
def cJ(aa:List aG) (i:Nat):Nat:=(aa[i]?.map (·.asks.length)).getD 0
def bQ(aa:List aG) (x:Ask):Key:=if x.cell then bZ x.n else aL aa x.n
def fP(aa:List aG) (i j:Nat):Prop:=∃r x,aa[i]?=some r∧r.ring=true∧x∈r.asks∧x.cell=false∧x.n=(j:Int)∧aF aa j=true
inductive cU (aa:List aG) (i:Nat):Nat→Prop where
 | refl:cU aa i i
 | step {j k:Nat}:cU aa i j→fP aa j k→cU aa i k
def outside(aa:List aG) (x:Ask):Bool:=x.cell || !aF aa x.n.toNat
def kJ(aa:List aG) (gL:Key→ByteArray) (j:Nat):Nat:=
 match aa[j]? with
 | some r=>eY r.c.toNat ((r.asks.filter (outside aa)).map fun x=>cD (gL (bQ aa x)))
 | none=>0
open Classical in
noncomputable def ofBits(P:Nat→Prop):Nat→Nat
 | 0=>0
 | n+1=>ofBits P n ||| (if P n then 2 ^ n else 0)
theorem Hi(P:Nat→Prop):∀n,ofBits P n<2 ^ n:=by
 intro n
 induction n with
 | zero=>simp [ofBits]
 | succ n b=>
  unfold ofBits
  refine Nat.or_lt_two_pow (Nat.lt_of_lt_of_le b (Nat.pow_le_pow_right (by omega) (by omega))) ?_
  grind
theorem D8(P:Nat→Prop):∀n b,(ofBits P n).testBit b=true↔b<n∧P b:=by
 intro n
 induction n with
 | zero=>intro b;simp [ofBits]
 | succ n e=>
  intro b
  unfold ofBits
  grind
noncomputable def uo(aa:List aG) (gL:Key→ByteArray) (i:Nat):Nat:=ofBits (fun b=>∃j,cU aa i j∧(kJ aa gL j).testBit b=true) 16
noncomputable def ql(aa:List aG) (aC:List cv) (prev:List ByteArray) (i:Nat):ByteArray:=
 if aF aa i then itoa (uo aa (Jn aC prev) i:Int)
 else (cx aa (aL aa (i:Int)) (dT (cx aa (aL aa (i:Int))) (Jn aC prev) (cJ aa i)).2).value
noncomputable def bf(aa:List aG) (aC:List cv):Nat→List ByteArray
 | 0=>[]
 | n+1=>bf aa aC n++[ql aa aC (bf aa aC n) n]
noncomputable def ts(aa:List aG) (aC:List cv) (i:Nat):ByteArray:=ql aa aC (bf aa aC i) i
noncomputable def valOf(aa:List aG) (aC:List cv) (k:Key):ByteArray:=if ay k then cellOf aC k else ts aa aC (number k).toNat
section
variable {aa:List aG}{aC:List cv}
theorem Jo:∀n,(bf aa aC n).length=n:=by
 intro n;induction n with
 | zero=>rfl
 | succ n b=>simp [bf,b]
theorem Jp:∀n m,m<n→(bf aa aC n).getD m ⟨#[]⟩=ts aa aC m:=by
 intro n
 induction n with
 | zero=>intro m h;omega
 | succ n b=>grind [bf,Jo,ts]
theorem xC{n:Nat}{k:Key}(h:ay k=true∨(number k).toNat<n):Jn aC (bf aa aC n) k=valOf aa aC k:=by
 unfold Jn valOf
 by_cases hi:ay k=true
 ·
  rw [if_pos hi,if_pos hi]
 rw [if_neg hi,if_neg hi,Jp]
 grind
theorem gA(turn:List ByteArray→yE) (gL:Key→ByteArray):∀n,(dT turn gL n).1.length=n∧(dT turn gL n).2.length=n:=by
 intro n;induction n with
 | zero=>simp [dT]
 | succ n b=>simp [dT,b.1,b.2]
theorem uq{turn:List ByteArray→yE}{gL b:Key→ByteArray}:∀n,(∀m,m<n→gL (turn (dT turn gL m).2).ask=b (turn (dT turn gL m).2).ask)→dT turn gL n=dT turn b n:=by
 intro n
 induction n with
 | zero=>intro _;rfl
 | succ n e=>grind [dT]
end
/-! ### what valid rules ask for -/
section
variable {aa:List aG}{aC:List cv}
theorem gu(l:List aG):∀k,bE l k≤k:=by
 intro k;induction k with
 | zero=>simp [bE]
 | succ k b=>unfold bE;split <;> omega
theorem xD(l:List aG) {m:Nat}(h:m≤l.length):dJ l m≤l.length:=by grind [dJ,List.takeWhile_sublist]
theorem BB{i:Nat}(hi:i<aa.length):block aa (i:Int)=if aF aa i then ((bE aa i:Int),(dJ aa (i+1):Int)) else ((i:Int),(i:Int)+1):=by
 unfold block;rw [if_neg (by omega)];rfl
theorem pj{i j:Nat}(hi:aF aa i=true) (h1:bE aa i≤j) (e:j<dJ aa (i+1)):aF aa j=true:=by
 have f:∀k,bE aa k≤j→j<k→aF aa j=true:=by
  intro k
  induction k with
  | zero=>intro _ h;omega
  | succ k t=>
   intro o u
   unfold bE at o
   grind
 rcases Nat.lt_trichotomy j i with h | h | h
 ·
  exact f i h1 h
 ·
  rw [h];exact hi
 have key:∀(l:List aG) (m j:Nat),m≤j→j<m+((l.drop m).takeWhile (·.ring)).length→aF l j=true:=by
  intro l m j hm z
  have b:j - m<((l.drop m).takeWhile (·.ring)).length:=by omega
  have q:=List.getElem_mem b;have hr:=List.all_eq_true.1 (List.all_takeWhile (p:=fun x:aG=>x.ring) (l:=l.drop m)) _ q;have r:((l.drop m).takeWhile (·.ring)) <+: l.drop m:=List.takeWhile_prefix _;have F:=r.getElem b
  grind [bW]
 exact key aa (i+1) j (by omega) e
theorem lI{i:Nat}(hi:i<aa.length) (hlen:aa.length≤24) {c:Bool}{n:Int}(h:gz aa i c n=true) :
  ∃m:Nat,n=m∧if c then m≤15 else m<aa.length∧(aF aa m=true∧aF aa i=true∨m<i)∧(aF aa i=false→m<i)∧(aF aa m=false→m<i):=by
 unfold gz at h
 cases c
 ·
  simp only [Bool.false_eq_true,if_false,Bool.and_eq_true,decide_eq_true_eq] at h ⊢;obtain⟨m,rfl⟩:∃m:Nat,n=m:=⟨n.toNat,by omega⟩;refine⟨m,rfl,?_⟩;have b:=h.2
  unfold fE at b
  rw [BB hi] at b
  by_cases hr:aF aa i=true
  ·
   rw [if_pos hr] at b;simp only [hr,if_true] at b
   have f:m<dJ aa (i+1):=by omega
   have o:=xD aa (show i+1≤aa.length by omega);refine⟨by omega,?_,(fun h=>by rw [hr] at h;cases h),?_⟩
   ·
    by_cases e:m<i
    ·
     exact .inr e
    grind [pj,gu]
   grind [pj,gu]
  grind
 simp only [if_true,Bool.and_eq_true,decide_eq_true_eq] at h ⊢;exact⟨n.toNat,by omega,by omega⟩
end
end Go.Rc

namespace Go.Rc
open Go
section
variable {aa:List aG}{aC:List cv}
theorem aq.len(h:aq aa):aa.length≤24:=h.1
theorem aq.at(h:aq aa) {i:Nat}(hi:i<aa.length):lY aa i aa[i]:=h.2 i _ (ak hi)
theorem dO{i:Nat}(hi:i<aa.length):cJ aa i=aa[i].asks.length:=by grind [cJ]
theorem D9{m lo:Nat}(h1:lo≤m) (h:∀j,lo≤j→j<m→aF aa j=true):bE aa m≤lo:=by
 induction m with
 | zero=>simp [bE]
 | succ m b=>
  by_cases e:lo=m+1
  ·
   rw [e];exact gu _ _
  unfold bE
  grind
theorem qm(_hR:aq aa) {i:Nat}(hi:i<aa.length) (hr:aF aa i=true) {m:Nat}(h:gz aa i false (m:Int)=true) :
  m<aa.length∧(aF aa m=true→bE aa m≤bE aa i)∧(aF aa m=false→m<bE aa i):=by
 unfold gz at h
 simp only [Bool.false_eq_true,if_false,Bool.and_eq_true,decide_eq_true_eq] at h;have b:=h.2
 unfold fE at b
 rw [BB hi,if_pos hr] at b;simp only [hr,if_true] at b
 grind [xD,D9,pj]
def eT(aa:List aG) (i:Nat) (k:Key):Prop:=
 (∃n:Nat,n≤15∧k=bZ (n:Int))∨
 (∃m:Nat,m<aa.length∧k=aL aa (m:Int)∧(aF aa m=true∧aF aa i=true∨m<i)∧(aF aa i=false→m<i)∧(aF aa m=false→m<i)∧(aF aa m=false→aF aa i=true→m<bE aa i))
theorem Gj(e:aq aa) {i:Nat}(hi:i<aa.length) {c:Bool}{n:Int}(h:gz aa i c n=true):eT aa i (if c then bZ n else aL aa n):=by
 obtain⟨m,rfl,b⟩:=lI hi e.len h
 cases c
 ·
  exact .inr ⟨m,b.1,rfl,b.2.1,b.2.2.1,b.2.2.2,fun f o=>(qm e hi o h).2.2 f⟩
 exact .inl ⟨m,b,rfl⟩
theorem eT.Ix(b:aq aa) {i:Nat}{k:Key}(h:eT aa i k):dX aa k:=by
 have:=b.len
 rcases h with⟨n,h1,rfl⟩ | ⟨m,h1,rfl,_⟩
 ·
  exact .cell (by omega)
 exact .eX h1 (by omega)
theorem QK(e:aq aa) {i n:Nat}(hi:i<aa.length) (hn:n<aa[i].asks.length) (ae:List ByteArray) (hl:ae.length=n) :
  eT aa i (if aa[i].asks[n].cell then bZ (pe aa[i].asks[n] ae) else aL aa (pe aa[i].asks[n] ae)):=by
 obtain⟨_,h,_⟩:=e.at hi;have b:=h n _ (ak hn)
 unfold fk at b
 rw [Bool.and_eq_true] at b
 unfold pe
 by_cases f:fj aa[i].asks[n] ae=true
 ·
  rw [if_pos f]
  have m:aa[i].asks[n].pick=true:=by grind [fj]
  rw [m] at b;simp only [if_true,Bool.and_eq_true] at b;exact Gj e hi b.2.2
 rw [if_neg f];exact Gj e hi b.1
theorem ek(b:aq aa) {i:Nat}(hi:i<aa.length) {ae:List ByteArray}(hn:ae.length<cJ aa i) :
  ∃a,cx aa (aL aa (i:Int)) ae=⟨false,⟨#[]⟩,a⟩∧eT aa i a∧(aF aa i=true→∃x,aa[i].asks[ae.length]?=some x∧a=bQ aa x):=by
 have h:=b.len;rw [dO hi] at hn;have hk:=ck hi (by omega:i≤99);refine⟨_,jb hk hi (by rw [hk]) hn,QK b hi hn ae rfl,fun hr=>⟨_,ak hn,?_⟩⟩;obtain⟨_,f,_⟩:=b.at hi;have e:=f _ _ (ak hn)
 unfold fk at e
 rw [Bool.and_eq_true] at e
 grind [bW,bQ,pe,fj]
theorem gB(b:aq aa) {i:Nat}(hi:i<aa.length) {ae:List ByteArray}(hn:ae.length=cJ aa i) :
  cx aa (aL aa (i:Int)) ae=⟨true,itoa (dp aa[i].final aa[i].c.toNat (ae.map cD)),eR⟩:=by grind [aq.len,dO,ck,j9]
theorem nn(b:aq aa) {i:Nat}(hi:i<aa.length):cJ aa i≤6:=by rw [dO hi];exact(b.at hi).1
theorem yM(b:aq aa) {i:Nat}{k:Key}(h:eT aa i k) (hr:aF aa i=false∨ax k=false):ay k=true∨(number k).toNat<i:=by
 have e:=b.len
 rcases h with⟨n,h1,rfl⟩ | ⟨m,h1,rfl,f,o,p,_⟩
 ·
  grind [bp]
 grind [ck,bd]
theorem Hj(b:aq aa) {i:Nat}(hi:i<aa.length) (hr:aF aa i=false) :
  cx aa (aL aa (i:Int)) (dT (cx aa (aL aa (i:Int))) (valOf aa aC) (cJ aa i)).2=⟨true,ts aa aC i,eR⟩:=by
 have h:ts aa aC i=(cx aa (aL aa (i:Int)) (dT (cx aa (aL aa (i:Int))) (valOf aa aC) (cJ aa i)).2).value:=by
  unfold ts ql
  rw [if_neg (by simp [hr])]
  grind [uq,ek,gA,xC,yM]
 grind [gB,gA]
/-! rings -/
theorem ka(b:aq aa) {i:Nat}(hi:i<aa.length) (_hr:aF aa i=true) {x:Ask}(e:x∈aa[i].asks):gz aa i x.cell x.n=true:=by
 obtain⟨k,hk,rfl⟩:=List.mem_iff_getElem.1 e
 have:=(b.at hi).2.1 k _ (ak hk)
 unfold fk at this
 grind
theorem fP.lt{i j:Nat}(h:fP aa i j):i<aa.length∧j<aa.length∧aF aa i=true∧aF aa j=true:=by
 obtain⟨r,x,h1,b,_,_,_,e⟩:=h
 grind [lW,bW]
theorem jc{i j:Nat}(hi:i<aa.length) (hr:aF aa i=true) (h:cU aa i j):j<aa.length∧aF aa j=true:=by
 induction h with
 | refl=>exact⟨hi,hr⟩
 | step _ b _=>exact⟨b.lt.2.1,b.lt.2.2.2⟩
theorem kg(e:aq aa) {i j:Nat}(h:cU aa i j):bE aa j≤bE aa i:=by
 induction h with
 | refl=>exact Nat.le_refl _
 | step h1 b f=>
  have hl:=b.lt;obtain⟨r,x,m,o,p,q,t,u⟩:=b
  grind [ka,qm]
theorem cU.head{i j k:Nat}(h:fP aa i j) (b:cU aa j k):cU aa i k:=by
 induction b with
 | refl=>exact .step .refl h
 | step _ e f=>exact .step f e
theorem cU.cases{i k:Nat}(h:cU aa i k):k=i∨∃j,fP aa i j∧cU aa j k:=by
 induction h with
 | refl=>exact .inl rfl
 | step h1 b e=>
  right
  rcases e with rfl | ⟨j,f,m⟩
  ·
   exact⟨_,b,.refl⟩
  exact⟨j,f,.step m b⟩
theorem lJ:∀(l:List Nat) (c b:Nat),(eY c l).testBit b=true↔c.testBit b=true∨∃x∈l,x.testBit b=true:=by
 intro l
 induction l with
 | nil=>intro c b;simp [eY]
 | cons x r e=>
  intro c b
  have:=e (c ||| x) b
  simp only [eY,List.foldl_cons] at this ⊢
  grind
theorem ur(b:aq aa) {i:Nat}(hi:i<aa.length) (hr:aF aa i=true):aa[i].final=5∧aa[i].c.toNat≤65535:=by
 have h:=(b.at hi).2.2
 grind [hY,bW]
theorem xE{n b:Nat}(h:n≤65535) (hb:n.testBit b=true):b<16:=by
 rcases Nat.lt_or_ge b 16 with h1 | h1
 ·
  exact h1
 have:=Nat.ge_two_pow_of_testBit hb
 have e:2 ^ 16≤2 ^ b:=Nat.pow_le_pow_right (by omega) h1
 omega
theorem fe{gL:Key→ByteArray}{i:Nat}(hi:i<aa.length) (b:Nat) :
  (kJ aa gL i).testBit b=true↔aa[i].c.toNat.testBit b=true∨∃x∈aa[i].asks,outside aa x=true∧(cD (gL (bQ aa x))).testBit b=true:=by
 unfold kJ
 rw [ak hi];simp only [lJ,List.mem_map,List.mem_filter]
 grind
theorem Jq(e:aq aa) {gL:Key→ByteArray}{i:Nat}(hi:i<aa.length) (hr:aF aa i=true) {b:Nat}(h:(kJ aa gL i).testBit b=true):b<16:=by
 rcases(fe hi b).1 h with h1 | ⟨x,_,_,h1⟩
 ·
  exact xE (ur e hi hr).2 h1
 exact xE (kI _) h1
theorem eA(m:aq aa) {gL:Key→ByteArray}{i:Nat}(hi:i<aa.length) (hr:aF aa i=true) (b:Nat) :
  (uo aa gL i).testBit b=true↔∃j,cU aa i j∧(kJ aa gL j).testBit b=true:=by
 unfold uo
 rw [D8]
 constructor
 ·
  exact fun h=>h.2
 rintro⟨j,h1,e⟩;have f:=jc hi hr h1;exact⟨Jq m f.1 f.2 e,j,h1,e⟩
theorem BC{gL:Key→ByteArray}(i:Nat):uo aa gL i≤65535:=by
 have:=Hi (fun b=>∃j,cU aa i j∧(kJ aa gL j).testBit b=true) 16
 unfold uo;omega
noncomputable def rv(aa:List aG) (aC:List cv) (i:Nat):Nat:=uo aa (valOf aa aC) i
theorem yN(e:aq aa) {i:Nat}(hi:i<aa.length) (hr:aF aa i=true) {x:Ask}(h:x∈aa[i].asks) (f:outside aa x=true):ay (bQ aa x)=true∨(number (bQ aa x)).toNat<bE aa i:=by
 have o:=e.len;have hm:=ka e hi hr h;obtain⟨m,h1,b⟩:=lI hi e.len hm
 unfold bQ
 unfold outside at f
 cases hc:x.cell
 ·
  rw [hc] at hm f b
  right
  simp only [Bool.false_eq_true,if_false] at b ⊢
  grind [ck,qm]
 left
 rw [hc] at b;simp only [if_true] at b ⊢
 grind [bp]
theorem iv(e:aq aa) {i:Nat}(hi:i<aa.length) (hr:aF aa i=true):ts aa aC i=itoa (rv aa aC i:Int):=by
 unfold ts ql rv
 rw [if_pos hr]
 congr 2
 refine Nat.eq_of_testBit_eq fun b=>?_;rw [Bool.eq_iff_iff,eA e hi hr,eA e hi hr]
 have key:∀j,cU aa i j→((kJ aa (Jn aC (bf aa aC i)) j).testBit b=true↔(kJ aa (valOf aa aC) j).testBit b=true):=by
  intro j h;have f:=jc hi hr h;have m:=kg e h;have hle:=gu aa i;rw [fe f.1,fe f.1];refine or_congr_right (exists_congr fun x=>and_congr_right fun o=>and_congr_right fun p=>?_);rw [xC]
  grind [yN]
 grind
theorem gY(b:aq aa) {i:Nat}(hi:i<aa.length):valOf aa aC (aL aa (i:Int))=ts aa aC i:=by
 have e:=b.len
 unfold valOf
 rw [if_neg (by grind [dj]),ck hi (by omega)]
 rfl
theorem nq{n:Nat}(h:n≤99):valOf aa aC (bZ (n:Int))=cellOf aC (bZ (n:Int)):=by
 unfold valOf;rw [if_pos (bp h)]
def oc(aa:List aG) (gL:Key→ByteArray) (i:Nat):List Nat:=((aa[i]?.map (·.asks)).getD []).map fun x=>cD (gL (bQ aa x))
theorem xF(b:aq aa) {i:Nat}(hi:i<aa.length) (hr:aF aa i=true) (gL:Key→ByteArray):∀n,n≤aa[i].asks.length→
  dT (cx aa (aL aa (i:Int))) gL n=((aa[i].asks.take n).map (bQ aa),(aa[i].asks.take n).map fun x=>gL (bQ aa x)):=by
 intro n
 induction n with
 | zero=>intro _;simp [dT]
 | succ n f=>
  intro hn;have e:=f (by omega);simp only [dT]
  have hlen:((aa[i].asks.take n).map fun x=>gL (bQ aa x)).length=n:=by simp;omega
  obtain⟨a,h1,_,h⟩:=ek b hi (ae:=(aa[i].asks.take n).map fun x=>gL (bQ aa x)) (by rw [hlen,dO hi];omega)
  grind [List.take_succ_eq_append_getElem]
theorem Hk(b:aq aa) {i:Nat}(hi:i<aa.length) (hr:aF aa i=true) (gL:Key→ByteArray) :
  cx aa (aL aa (i:Int)) (dT (cx aa (aL aa (i:Int))) gL (cJ aa i)).2=⟨true,itoa (eY aa[i].c.toNat (oc aa gL i):Int),eR⟩:=by
 rw [gB b hi ((gA _ _ _).2),xF b hi hr gL _ (by rw [dO hi];exact Nat.le_refl _),(ur b hi hr).1,dO hi]
 unfold oc
 rw [ak hi];simp only [List.take_length,List.map_map,Option.map_some,Option.getD_some]
 rfl
theorem sC{gL:Key→ByteArray}{i:Nat}(hi:i<aa.length) (b:Nat) :
  (eY aa[i].c.toNat (oc aa gL i)).testBit b=true↔(kJ aa gL i).testBit b=true∨∃x∈aa[i].asks,outside aa x=false∧(cD (gL (bQ aa x))).testBit b=true:=by
 rw [lJ,fe hi]
 unfold oc
 grind
theorem ij(f:aq aa) {i:Nat}(hi:i<aa.length) (hr:aF aa i=true) {x:Ask}(h:x∈aa[i].asks) (b:outside aa x=false):∃j:Nat,fP aa i j∧bQ aa x=aL aa (j:Int)∧j<aa.length:=by
 have hm:=ka f hi hr h
 unfold outside at b
 rw [Bool.or_eq_false_iff] at b;obtain⟨m,h1,e⟩:=lI hi f.len hm;rw [b.1] at e;simp only [Bool.false_eq_true,if_false] at e
 have o:aF aa m=true:=by grind
 refine⟨m,⟨_,x,ak hi,by rw [← bW hi];exact hr,h,b.1,h1,o⟩,?_,e.1⟩
 grind [bQ]
theorem pn{i j:Nat}(hi:i<aa.length) (h:fP aa i j):∃x∈aa[i].asks,outside aa x=false∧bQ aa x=aL aa (j:Int):=by
 obtain⟨r,x,h1,_,b,e,f,m⟩:=h
 grind [outside,bQ]
theorem QL(f:aq aa) {i:Nat}(hi:i<aa.length) (hr:aF aa i=true):eY aa[i].c.toNat (oc aa (valOf aa aC) i)=rv aa aC i:=by
 refine Nat.eq_of_testBit_eq fun b=>?_;rw [Bool.eq_iff_iff,sC hi]
 unfold rv
 rw [eA f hi hr]
 have t:∀j,j<aa.length→aF aa j=true→cD (valOf aa aC (aL aa (j:Int)))=uo aa (valOf aa aC) j:=fun j u z=>by
  rw [gY f u,iv f u z];exact fc (BC j)
 constructor
 ·
  rintro(h | ⟨x,h1,o,e⟩)
  ·
   exact⟨i,.refl,h⟩
  obtain⟨j,m,q,p⟩:=ij f hi hr h1 o;rw [q,t j p m.lt.2.2.2,eA f p m.lt.2.2.2] at e;obtain⟨k,r,F⟩:=e;exact⟨k,.head m r,F⟩
 rintro⟨k,h1,o⟩
 rcases h1.cases with rfl | ⟨j,e,m⟩
 ·
  exact .inl o
 right
 obtain⟨x,q,p,r⟩:=pn hi e;refine⟨x,q,p,?_⟩;rw [r,t j e.lt.2.1 e.lt.2.2.2,eA f e.lt.2.1 e.lt.2.2.2];exact⟨k,m,o⟩
theorem Jr(m:aq aa) {i:Nat}(hi:i<aa.length) (hr:aF aa i=true) (v:Nat→Nat)
  (h1:∀j b,cU aa i j→(kJ aa (valOf aa aC) j).testBit b=true→(v j).testBit b=true)
  (o:∀j k b,cU aa i j→fP aa j k→(v k).testBit b=true→(v j).testBit b=true) (b:Nat) (hb:(rv aa aC i).testBit b=true):(v i).testBit b=true:=by
 unfold rv at hb
 rw [eA m hi hr] at hb;obtain⟨j,e,f⟩:=hb;have h:=h1 j b e f
 clear f
 induction e with
 | refl=>exact h
 | step p q r=>exact r (o _ _ b p q h)
theorem fF(b:aq aa) {i:Nat}(hi:i<aa.length) :
  cx aa (aL aa (i:Int)) (dT (cx aa (aL aa (i:Int))) (valOf aa aC) (cJ aa i)).2=⟨true,valOf aa aC (aL aa (i:Int)),eR⟩:=by grind [gY,Hj,Hk,QL,iv]
end
end Go.Rc

namespace Go.Rc
open Go
structure FZ where
 p:(Nat→Prop)→World→Prop
 mono:∀{Z Z':Nat→Prop}{w},(∀x,Z x→Z' x)→p Z w→p Z' w
 st:∀{Z:Nat→Prop}{w w':World},w.heap.size≤w'.heap.size→(∀x,Z x→x<w.heap.size→w'.heap[x]?=w.heap[x]?)→p Z w→p Z w'
def FZ.rd{α:Type}(R:RR α) (k:Nat) (a:Option Addr) (n c:Nat) (xs:List α):FZ:=⟨fun Z w=>Rd R k Z w a n c xs,fun h=>Rd.mono h,fun h1 h2=>Rd.st h1 h2⟩
def FZ.and(F G:FZ):FZ:=⟨fun Z w=>F.p Z w∧G.p Z w,fun h ⟨a,b⟩=>⟨F.mono h a,G.mono h b⟩,fun h1 h2 ⟨a,b⟩=>⟨F.st h1 h2 a,G.st h1 h2 b⟩⟩
def FZ.Js(P:Program):FZ where
 p Z w:=lE P Z w
 mono h:=fun h1=>h1.of h (Nat.le_refl _) fun _ _ _=>rfl
 st h1 h2:=fun h=>h.of (fun _ h=>h) h1 h2
def As.fz(F:FZ):As where
 fp _:=False
 ok Z w:=F.p Z w
 lt _ _ hx:=hx.elim
 mono h:=F.mono h
 st h1 h2:=F.st h1 fun x hx=>h2 x (.inr hx)
theorem As.gf{F:FZ}{Z:Nat→Prop}{w:World}(h:(As.fz F).ok Z w):F.p Z w:=h
structure SD where
 (ar a1 a2:Option Addr) (r cr n1 c1 n2 c2 m q s:Nat)
def SD.F(D:SD) (P:Program) (aa:List aG) (x:cm):FZ:=
 .and (.rd RR.eX 4 D.ar D.r D.cr aa) (.and (.rd RR.aC 4 D.a1 D.n1 D.c1 x.ab) (.and (.rd RR.ei 8 D.a2 D.n2 D.c2 x.ah) (.Js P)))
def SD.cells(D:SD) (x:cm):List Value:=
 [.slice D.ar D.r D.cr,.int .i64 x.ad,.slice D.a1 D.n1 D.c1,.slice D.a2 D.n2 D.c2,.map (some D.m),.map (some D.q)]
section
variable {D:SD}{P:Program}{aa:List aG}{x:cm}{Z:Nat→Prop}{w:World}
theorem SD.hu(h:(D.F P aa x).p Z w):Rd RR.eX 4 Z w D.ar D.r D.cr aa:=h.1
theorem SD.hi(h:(D.F P aa x).p Z w):Rd RR.aC 4 Z w D.a1 D.n1 D.c1 x.ab:=h.2.1
theorem SD.hr(h:(D.F P aa x).p Z w):Rd RR.ei 8 Z w D.a2 D.n2 D.c2 x.ah:=h.2.2.1
theorem SD.ht(h:(D.F P aa x).p Z w):lE P Z w:=h.2.2.2
end
def aU(aa:List aG) (aC:List cv) (ml:List (Key × Value)):Prop:=∀k v,bD ml k=some v→v=.string (valOf aa aC k)
section
variable {aa:List aG}{aC:List cv}
theorem aU.nil:aU aa aC []:=fun k v h=>by simp [bD] at h
theorem aU.put{ml:List (Key × Value)}(h:aU aa aC ml) (k:Key):aU aa aC (cL ml k (.string (valOf aa aC k))):=fun k' v b=>by
 rw [ef] at b
 split at b
 ·
  grind
 exact h k' v b
def eU(m n:Nat):Prop:=∀b,m.testBit b=true→n.testBit b=true
theorem eU.le{m n:Nat}(h:eU m n):m≤n:=by
 have e:m ||| n=n:=Nat.eq_of_testBit_eq fun b=>by
  rw [Nat.testBit_or]
  cases hm:m.testBit b
  ·
   simp
  simp [h b hm]
 rw [← e];exact Nat.left_le_or
noncomputable def Mh(aa:List aG) (aC:List cv) (v:Nat→Nat) (k:Key):ByteArray:=if ax k then itoa (v (number k).toNat:Int) else valOf aa aC k
noncomputable def FF(aa:List aG) (aC:List cv) (v:Nat→Nat) (j:Nat):Nat:=eY ((aa[j]?.map (·.c.toNat)).getD 0) (oc aa (Mh aa aC v) j)
theorem jd(e:aq aa) {i:Nat}(hi:i<aa.length) (hr:aF aa i=true) {x:Ask}(h:x∈aa[i].asks) (f:outside aa x=true):ax (bQ aa x)=false:=by
 have o:=e.len;have hm:=ka e hi hr h;obtain⟨m,h1,b⟩:=lI hi e.len hm
 unfold outside at f
 unfold bQ
 cases hc:x.cell
 ·
  rw [hc] at b f;simp only [Bool.false_eq_true,if_false] at b ⊢
  grind [bd]
 rw [hc] at b;simp only [if_true] at b ⊢
 grind [kf]
theorem uu(o:aq aa) {v:Nat→Nat}(p:∀j,v j≤65535) {i:Nat}(hi:i<aa.length) (hr:aF aa i=true) (b:Nat) :
  (FF aa aC v i).testBit b=true↔(kJ aa (valOf aa aC) i).testBit b=true∨∃j,fP aa i j∧(v j).testBit b=true:=by
 have r:=o.len
 unfold FF
 rw [ak hi];simp only [Option.map_some,Option.getD_some];rw [sC hi];refine or_congr ?_ ?_
 ·
  rw [fe hi,fe hi];refine or_congr_right (exists_congr fun x=>and_congr_right fun t=>and_congr_right fun u=>?_)
  unfold Mh
  rw [if_neg (by grind [jd])]
 constructor
 ·
  rintro⟨x,h1,h,f⟩;obtain⟨j,e,m,q⟩:=ij o hi hr h1 h;refine⟨j,e,?_⟩
  unfold Mh at f
  rw [m,if_pos (by rw [bd q (by omega)];exact e.lt.2.2.2),ck q (by omega),Int.toNat_natCast,fc (p j)] at f;exact f
 rintro⟨j,e,m⟩;obtain⟨x,h1,h,f⟩:=pn hi e;refine⟨x,h1,h,?_⟩
 unfold Mh
 rw [f,if_pos (by rw [bd e.lt.2.1 (by have:=e.lt.2.1;omega)];exact e.lt.2.2.2),ck e.lt.2.1 (by have:=e.lt.2.1;omega),Int.toNat_natCast,fc (p j)];exact m
theorem sD(i:Nat):rv aa aC i≤65535:=BC i
theorem Ea(f:aq aa) {i:Nat}(hi:i<aa.length) (hr:aF aa i=true) (b:Nat) :
  (rv aa aC i).testBit b=true↔(kJ aa (valOf aa aC) i).testBit b=true∨∃j,fP aa i j∧(rv aa aC j).testBit b=true:=by
 unfold rv
 rw [eA f hi hr]
 constructor
 ·
  rintro⟨k,h1,o⟩
  rcases h1.cases with rfl | ⟨j,e,m⟩
  ·
   exact .inl o
  exact .inr ⟨j,e,(eA f e.lt.2.1 e.lt.2.2.2 b).2 ⟨k,m,o⟩⟩
 rintro(h | ⟨j,e,m⟩)
 ·
  exact⟨i,.refl,h⟩
 obtain⟨k,p,q⟩:=(eA f e.lt.2.1 e.lt.2.2.2 b).1 m;exact⟨k,.head e p,q⟩
theorem Gk(e:aq aa) {v v':Nat→Nat}(f:∀j,v j≤65535) (m:∀j,v' j≤65535) (h:∀j,eU (v j) (v' j)) {i:Nat}(hi:i<aa.length) (hr:aF aa i=true):eU (FF aa aC v i) (FF aa aC v' i):=fun b hb=>by
 rw [uu e f hi hr] at hb;rw [uu e m hi hr]
 rcases hb with hb | ⟨j,h1,o⟩
 ·
  exact .inl hb
 exact .inr ⟨j,h1,h j b o⟩
structure dt (aa:List aG) (aC:List cv) (i0:Nat) (L:List Nat) (u:Nat→Nat):Prop where
 nodup:L.Nodup
 first:i0∈L
 ring:∀j∈L,j<aa.length∧aF aa j=true
 out:∀j,j∉L→u j=0
 le:∀j,u j≤65535
 low:∀j,eU (u j) (rv aa aC j)
 reach:∀j∈L,cU aa i0 j
noncomputable def Gl(aa:List aG) (aC:List cv) (u:Nat→Nat) (ml:List (Key × Value)) (k:Nat):Nat:=if (bD ml (aL aa (k:Int))).isSome then rv aa aC k else u k
def gh(ml mT:List (Key × Value)):Prop:=∀k v,bD ml k=some v→bD mT k=some v
def kT(aa:List aG) (aC:List cv) (L:List Nat) (u:Nat→Nat) (ml:List (Key × Value)):Prop:=∀j∈L,eU (u j) (FF aa aC (Gl aa aC u ml) j)
def od(aa:List aG) (aC:List cv) (L:List Nat) (u:Nat→Nat) (j:Nat):Prop:=
 eU (kJ aa (valOf aa aC) j) (u j)∧∀k,fP aa j k→(k∈L→eU (u k) (u j))∧(k∉L→eU (rv aa aC k) (u j))
def Eb(n:Nat) (v:Nat→Nat):Nat:=((List.range n).map fun j=>65535 - v j).sum
def oM(aa:List aG) (L:List Nat) (v:Nat→Nat):Nat:=Eb aa.length v+(aa.length - L.length)
theorem gh.refl(ml:List (Key × Value)):gh ml ml:=fun _ _ h=>h
theorem gh.trans{a b c:List (Key × Value)}(h:gh a b) (k:gh b c):gh a c:=fun x v e=>k x v (h x v e)
theorem gh.put{ml:List (Key × Value)}(hm:aU aa aC ml) (k:Key):gh ml (cL ml k (.string (valOf aa aC k))):=fun x v h=>by
 rw [ef]
 split
 ·
  rename_i e;subst e;rw [hm _ _ h]
 exact h
theorem rA{u:Nat→Nat}{ml:List (Key × Value)}(h:∀j,u j≤65535) (k:Nat):Gl aa aC u ml k≤65535:=by grind [Gl,sD]
theorem Mi{u:Nat→Nat}{ml:List (Key × Value)}(h:∀j,eU (u j) (rv aa aC j)) (k:Nat):eU (Gl aa aC u ml k) (rv aa aC k):=by unfold Gl;split;exact fun _ h=>h;exact h k
theorem BD{u b:Nat→Nat}{ml e:List (Key × Value)}(h:∀j,eU (u j) (rv aa aC j)) (hu:∀j,eU (u j) (b j)) (hm:gh ml e) (k:Nat):eU (Gl aa aC u ml k) (Gl aa aC b e k):=by
 unfold Gl
 cases h1:bD ml (aL aa (k:Int)) with
 | some v=>rw [hm _ _ h1];simp;exact fun _ h=>h
 | none=>grind
theorem kT.mono(i:aq aa) {i0:Nat}{L:List Nat}{u:Nat→Nat}{ml f:List (Key × Value)}(hr:dt aa aC i0 L u) (h:kT aa aC L u ml) (hm:gh ml f):kT aa aC L u f:=fun j e b hb=>
 Gk i (rA hr.le) (rA hr.le) (BD hr.low (fun _ _ h=>h) hm) (hr.ring j e).1 (hr.ring j e).2 b (h j e b hb)
theorem dt.start{i0:Nat}(hi:i0<aa.length) (hr:aF aa i0=true):dt aa aC i0 [i0] fun _=>0 where
 nodup:=by simp
 first:=by simp
 ring j e:=by grind
 out _ _:=rfl
 le _:=by omega
 low _ b h:=by simp at h
 reach j e:=by simp at e;subst e;exact .refl
theorem kT.start{i0:Nat}{ml:List (Key × Value)}:kT aa aC [i0] (fun _=>0) ml:=fun _ _ b h=>by simp at h
theorem Jt:∀{n:Nat}{L:List Nat},L.Nodup→(∀j∈L,j<n)→L.length≤n:=by
 intro n
 induction n with
 | zero=>intro L _ hl;cases L with
  | nil=>simp
  | cons a r=>exact absurd (hl a (by simp)) (by omega)
 | succ n b=>
  intro L h hl
  have h1:=b (h.erase n) fun j e=>by grind
  grind
theorem dt.len{i0:Nat}{L:List Nat}{v:Nat→Nat}(h:dt aa aC i0 L v):L.length≤aa.length:=Jt h.nodup fun j b=>(h.ring j b).1
theorem dt.meet{i0:Nat}{L:List Nat}{v:Nat→Nat}(h:dt aa aC i0 L v) {j:Nat}(b:j<aa.length) (hr:aF aa j=true) (hn:j∉L) (e:cU aa i0 j):dt aa aC i0 (L++[j]) v where
 nodup:=by grind [nodup]
 first:=by simp [h.first]
 ring k hk:=by
  rcases List.mem_append.1 hk with hk | hk
  ·
   exact h.ring k hk
  grind
 out k hk:=h.out k fun hm=>hk (by simp [hm])
 le:=h.le
 low:=h.low
 reach k hk:=by
  rcases List.mem_append.1 hk with hk | hk
  ·
   exact h.reach k hk
  grind
theorem kT.meet{L:List Nat}{u:Nat→Nat}{ml:List (Key × Value)}(h:kT aa aC L u ml) {j:Nat}(hu:u j=0):kT aa aC (L++[j]) u ml:=fun k hk=>by
 rcases List.mem_append.1 hk with hk | hk
 ·
  exact h k hk
 simp at hk;subst hk;rw [hu];intro b hb;simp at hb
theorem dt.Gm{i0:Nat}{L:List Nat}{v:Nat→Nat}(h:dt aa aC i0 L v) {j:Nat}(b:j<aa.length) (hr:aF aa j=true) (hn:j∉L) (e:cU aa i0 j):L.length<aa.length:=by
 have:=(h.meet b hr hn e).len
 grind
theorem BE{L:List Nat}{v:Nat→Nat}{j:Nat}(hl:L.length<aa.length):oM aa (L++[j]) v<oM aa L v:=by grind [oM]
def l8(v:Nat→Nat) (j u:Nat):Nat→Nat:=fun k=>if k=j then u else v k
theorem Ju:∀n (v:Nat→Nat) (j u:Nat),v j≤u→Eb n (l8 v j u)≤Eb n v∧(j<n→v j<u→u≤65535→Eb n (l8 v j u)<Eb n v):=by
 intro n
 induction n with
 | zero=>intro v j u _;simp [Eb]
 | succ n f=>
  intro v j u h;obtain⟨h1,b⟩:=f v j u h
  unfold Eb at h1 b ⊢
  simp only [List.range_succ,List.map_append,List.map_cons,List.map_nil,List.sum_append,List.sum_cons,List.sum_nil]
  have o:65535 - l8 v j u n≤65535 - v n:=by
   unfold l8;grind
  refine⟨by omega,fun p i m=>?_⟩
  by_cases e:j=n
  ·
   have:65535 - l8 v j u n<65535 - v n:=by unfold l8;grind
   omega
  have:=b (by omega) i m
  omega
theorem Hl{u:Nat→Nat}{j x:Nat}(h:eU (u j) x):∀k,eU (u k) (l8 u j x k):=fun k b hb=>by
 unfold l8;split
 ·
  rename_i e;subst e;exact h b hb
 exact hb
theorem dt.set{i0:Nat}{L:List Nat}{u:Nat→Nat}(h:dt aa aC i0 L u) {j x:Nat}(f:j∈L) (i:x≤65535) (m:eU x (rv aa aC j)):dt aa aC i0 L (l8 u j x) where
 nodup:=h.nodup
 first:=h.first
 ring:=h.ring
 out k hk:=by unfold l8;rw [if_neg (fun e=>hk (by rw [e];exact f))];exact h.out k hk
 le k:=by unfold l8;split;exact i;exact h.le k
 low k b hb:=by
  unfold l8 at hb;split at hb
  ·
   rename_i e;subst e;exact m b hb
  exact h.low k b hb
 reach:=h.reach
theorem kT.set(f:aq aa) {i0:Nat}{L:List Nat}{u:Nat→Nat}{ml:List (Key × Value)}(hr:dt aa aC i0 L u) (h:kT aa aC L u ml) {j x:Nat}(i:j∈L) (m:x≤65535) (o:eU x (rv aa aC j)) (p:eU (u j) x) (q:eU x (FF aa aC (Gl aa aC u ml) j)) :
  kT aa aC L (l8 u j x) ml:=fun k hk=>by
 have r:=hr.set i m o;have hm:=Gk (aC:=aC) f (rA (aC:=aC) (aa:=aa) (ml:=ml) hr.le) (rA r.le) (BD hr.low (Hl p) (gh.refl ml)) (hr.ring k hk).1 (hr.ring k hk).2;intro b hb;refine hm b ?_
 unfold l8 at hb;split at hb
 ·
  rename_i e;subst e;exact q b hb
 exact h k hk b hb
theorem Gn{i0:Nat}{L:List Nat}{u:Nat→Nat}(h:dt aa aC i0 L u) {j x:Nat}(b:j∈L) (e:x≤65535) (f:eU (u j) x) (i:u j≠x):oM aa L (l8 u j x)<oM aa L u:=by
 have h1:=f.le
 have:=(Ju aa.length u j x h1).2 (h.ring j b).1 (by omega) e
 unfold oM;omega
theorem dt.done(r:aq aa) {i0:Nat}{L:List Nat}{u:Nat→Nat}(h:dt aa aC i0 L u) (f:∀j∈L,od aa aC L u j):∀j∈L,u j=rv aa aC j:=by
 intro j t;obtain⟨i,o⟩:=h.ring j t;refine Nat.le_antisymm (h.low j).le (eU.le fun b hb=>?_);have key:=Jr r i o (fun k=>if k∈L then u k else rv aa aC k) (fun k b hk hb=>?_) (fun k m b hk p hb=>?_) b hb
 ·
  simpa [t] using key
 ·
  have q:=jc i o hk
  by_cases hm:k∈L
  ·
   simp only [if_pos hm];exact(f k hm).1 b hb
  simp only [if_neg hm];grind [Ea]
 have q:=jc i o hk
 by_cases e:k∈L
 ·
  simp only [if_pos e]
  by_cases hm:m∈L
  ·
   simp only [if_pos hm] at hb;exact((f k e).2 m p).1 hm b hb
  simp only [if_neg hm] at hb;exact((f k e).2 m p).2 hm b hb
 simp only [if_neg e];refine(Ea r q.1 q.2 b).2 (.inr ⟨m,p,?_⟩)
 by_cases hm:m∈L
 ·
  simp only [if_pos hm] at hb;exact h.low m b hb
 grind
structure Ev (aa:List aG) (aC:List cv) (u:Nat→Nat) (L:List Nat) (Jv ml:List (Key × Value)) (qs:List Ask) (n:Nat) (acc:List ByteArray):Prop where
 len:acc.length=n
 out:∀m (h:m<qs.length),m<n→outside aa qs[m]=true→acc[m]?=some (valOf aa aC (bQ aa qs[m]))
 ins:∀m (h:m<qs.length),m<n→outside aa qs[m]=false→∀k:Nat,qs[m].n=k→
  (acc[m]?=some (itoa (rv aa aC k:Int))∧(bD ml (aL aa (k:Int))).isSome=true)∨(acc[m]?=some (itoa (u k:Int))∧k∈L∧bD Jv (aL aa (k:Int))=none)
theorem Ev.start{u:Nat→Nat}{L:List Nat}{ml:List (Key × Value)}{qs:List Ask}:Ev aa aC u L ml ml qs 0 []:=⟨rfl,fun _ _ h=>by omega,fun _ _ h=>by omega⟩
theorem Ev.mono{u:Nat→Nat}{L L':List Nat}{Jv ml b:List (Key × Value)}{qs:List Ask}{n:Nat}{acc:List ByteArray}(h:Ev aa aC u L Jv ml qs n acc) (r:∀k∈L,k∈L') (hm:gh ml b):Ev aa aC u L' Jv b qs n acc:=
 ⟨h.len,h.out,fun m h1 i o k p=>by
  rcases h.ins m h1 i o k p with⟨e,f⟩ | ⟨e,f,t⟩
  ·
   obtain⟨v,q⟩:=Option.isSome_iff_exists.1 f;exact .inl ⟨e,by rw [hm _ _ q];rfl⟩
  grind⟩
theorem Ev.snoc{u:Nat→Nat}{L:List Nat}{Jv ml:List (Key × Value)}{qs:List Ask}{n:Nat}{acc:List ByteArray}(h:Ev aa aC u L Jv ml qs n acc) (s:ByteArray)
  (i:∀(h:n<qs.length),outside aa qs[n]=true→s=valOf aa aC (bQ aa qs[n]))
  (hi:∀(h:n<qs.length),outside aa qs[n]=false→∀k:Nat,qs[n].n=k→(s=itoa (rv aa aC k:Int)∧(bD ml (aL aa (k:Int))).isSome=true)∨(s=itoa (u k:Int)∧k∈L∧bD Jv (aL aa (k:Int))=none)) :
  Ev aa aC u L Jv ml qs (n+1) (acc++[s]) where
 len:=by simp [h.len]
 out m h1 f e:=by
  rcases Nat.lt_or_ge m n with b | b
  ·
   rw [List.getElem?_append_left (by rw [h.len];exact b)];exact h.out m h1 b e
  grind [len]
 ins m h1 f e k hk:=by
  rcases Nat.lt_or_ge m n with b | b
  ·
   rw [List.getElem?_append_left (by rw [h.len];exact b)];exact h.ins m h1 b e k hk
  have:m=n:=by omega
  subst this;rw [List.getElem?_append_right (by rw [h.len];omega),h.len]
  simpa using hi h1 e k hk
theorem Ev.val(t:aq aa) {i0:Nat}{L:List Nat}{u:Nat→Nat}{Jv ml:List (Key × Value)}{j:Nat}{acc:List ByteArray}(hr:dt aa aC i0 L u) (p:j<aa.length) (F:aF aa j=true) (h:Ev aa aC u L Jv ml aa[j].asks aa[j].asks.length acc) :
  eY aa[j].c.toNat (acc.map cD)≤65535∧eU (eY aa[j].c.toNat (acc.map cD)) (rv aa aC j)∧eU (FF aa aC (Gl aa aC u Jv) j) (eY aa[j].c.toNat (acc.map cD))∧
  eU (eY aa[j].c.toNat (acc.map cD)) (FF aa aC (Gl aa aC u ml) j)∧(eY aa[j].c.toNat (acc.map cD)=u j→od aa aC L u j):=by
 obtain⟨hlen,ho,eQ⟩:=h;have Hm:=t.len
 -- an answer, by its place
 have V0:∀m (hm:m<aa[j].asks.length),∃s,acc[m]?=some s∧s∈acc:=fun m hm=>⟨acc[m],ak (by omega),List.getElem_mem _⟩
 have J:eU (kJ aa (valOf aa aC) j) (eY aa[j].c.toNat (acc.map cD)):=fun b hb=>by
  rw [lJ]
  rcases(fe p b).1 hb with h1 | ⟨x,h1,z,o⟩
  ·
   exact .inl h1
  obtain⟨m,hm,rfl⟩:=List.mem_iff_getElem.1 h1
  grind
 have N:∀k,fP aa j k→∃m,∃hm:m<aa[j].asks.length,outside aa aa[j].asks[m]=false∧aa[j].asks[m].n=(k:Int):=fun k hk=>by
  obtain⟨r,x,h1,_,o,f,I,e⟩:=hk;rw [ak p] at h1
  simp at h1
  subst h1;obtain⟨m,hm,rfl⟩:=List.mem_iff_getElem.1 o;exact⟨m,hm,by unfold outside;rw [f,I];simp [e],I⟩
 have G:∀(m:Nat) (s:ByteArray) (b:Nat),acc[m]?=some s→(cD s).testBit b=true→(eY aa[j].c.toNat (acc.map cD)).testBit b=true:=fun m s b h1 z=>by
  rw [lJ];grind
 have O:∀(v:Nat→Nat),(∀k,v k≤65535)→(∀k:Nat,(bD ml (aL aa (k:Int))).isSome=true→eU (rv aa aC k) (v k))→(∀k:Nat,eU (u k) (v k))→eU (eY aa[j].c.toNat (acc.map cD)) (FF aa aC v j):=fun v R h1 z b hb=>by
  rw [uu t R p F];rw [lJ] at hb
  rcases hb with hb | ⟨_,V,hb⟩
  ·
   grind [fe]
  obtain⟨s,W,rfl⟩:=List.mem_map.1 V;obtain⟨m,hm,rfl⟩:=List.mem_iff_getElem.1 W
  have H:m<aa[j].asks.length:=by omega
  cases Q:outside aa aa[j].asks[m]
  ·
   obtain⟨k,o,f,I⟩:=ij t p F (List.getElem_mem H) Q
   have X:aa[j].asks[m].n=(k:Int):=by
    obtain⟨q,e,i⟩:=lI p t.len (ka t p F (List.getElem_mem H))
    have hc:aa[j].asks[m].cell=false:=by grind [outside]
    rw [hc] at i;simp only [Bool.false_eq_true,if_false] at i
    unfold bQ at f
    rw [hc,e] at f;simp only [Bool.false_eq_true,if_false] at f
    grind [ck]
   refine .inr ⟨k,o,?_⟩
   rcases eQ m H H Q k X with⟨e,i⟩ | ⟨e,i,_⟩
   ·
    rw [ak hm] at e
    simp at e
    rw [e,fc (sD k)] at hb;exact h1 k i b hb
   rw [ak hm] at e
   simp at e
   rw [e,fc (hr.le k)] at hb;exact z k b hb
  grind [fe]
 refine⟨?_,?_,?_,?_,fun he=>⟨?_,fun k hk=>⟨fun Y=>?_,fun Y=>?_⟩⟩⟩
 ·
  grind [lF,ur,kI]
 ·
  intro b hb;have h1:=O (rv aa aC) sD (fun _ _ _ h=>h) hr.low b hb
  grind [uu,sD,Ea]
 ·
  intro b hb;rw [uu t (rA hr.le) p F] at hb
  rcases hb with hb | ⟨k,h1,z⟩
  ·
   exact J b hb
  obtain⟨m,hm,o,f⟩:=N k h1
  rcases eQ m hm hm o k f with⟨e,i⟩ | ⟨e,i,h8⟩
  ·
   exact G m _ b e (by rw [fc (sD k)];exact Mi hr.low k b z)
  refine G m _ b e (by rw [fc (hr.le k)];grind [Gl])
 ·
  refine O _ (rA hr.le) (fun k hk b hb=>?_) fun k b hb=>?_
  ·
   unfold Gl;rw [if_pos hk];exact hb
  unfold Gl;split
  ·
   exact hr.low k b hb
  exact hb
 ·
  rw [← he];exact J
 ·
  intro b hb;rw [← he];obtain⟨m,hm,o,f⟩:=N k hk
  rcases eQ m hm hm o k f with⟨e,i⟩ | ⟨e,i,h8⟩
  ·
   exact G m _ b e (by rw [fc (sD k)];exact hr.low k b hb)
  exact G m _ b e (by rw [fc (hr.le k)];exact hb)
 intro b hb
 grind [fc,sD]
def mM(aa:List aG) (L:List Nat) (v:Nat→Nat) (am:List (Key × Value)):Prop:=
 (∀j∈L,bD am (aL aa (j:Int))=some (.string (itoa (v j:Int))))∧∀k,(∀j∈L,k≠aL aa (j:Int))→bD am k=none
theorem dY(b:aq aa) {i j:Nat}(hi:i<aa.length) (e:j<aa.length) (h:aL aa (i:Int)=aL aa (j:Int)):i=j:=by grind [aq.len,ck]
theorem mM.meet(b:aq aa) {L:List Nat}{v:Nat→Nat}{am:List (Key × Value)}(h:mM aa L v am) (f:∀j∈L,j<aa.length) {j:Nat}(i:j<aa.length) (hn:j∉L) (o:v j=0):mM aa (L++[j]) v (cL am (aL aa (j:Int)) (.string ⟨#[48]⟩)):=by
 have e0:itoa ((0:Nat):Int)=⟨#[48]⟩:=by decide +kernel
 refine⟨fun k hk=>?_,fun k hk=>?_⟩
 ·
  rw [ef]
  rcases List.mem_append.1 hk with hk | hk
  ·
   rw [if_neg (fun e=>hn (by grind [dY]))];exact h.1 k hk
  grind
 rw [ef,if_neg (fun e=>hk j (by simp) e.symm)]
 exact h.2 k fun m hm=>hk m (by simp [hm])
theorem mM.set(i:aq aa) {L:List Nat}{v:Nat→Nat}{am:List (Key × Value)}(h:mM aa L v am) (b:∀j∈L,j<aa.length) {j:Nat}(f:j∈L) (u:Nat):mM aa L (l8 v j u) (cL am (aL aa (j:Int)) (.string (itoa (u:Int)))):=by
 refine⟨fun k hk=>?_,fun k hk=>?_⟩
 ·
  rw [ef]
  unfold l8
  by_cases e:k=j
  ·
   grind
  rw [if_neg (fun e2=>e (dY i (b k hk) (b j f) e2.symm)),if_neg e];exact h.1 k hk
 rw [ef,if_neg (fun e=>hk j f e.symm)];exact h.2 k hk
end
theorem je{aa:List aG}(e:aq aa) {i:Nat}(hi:i<aa.length) (hr:aF aa i=true) {x:Ask}(f:x∈aa[i].asks) (b:outside aa x=false) {k:Nat}(hk:x.n=(k:Int)):k<aa.length∧aF aa k=true∧bQ aa x=aL aa (k:Int):=by
 have hm:=ka e hi hr f
 unfold outside at b
 rw [Bool.or_eq_false_iff] at b;rw [b.1,hk] at hm;refine⟨(qm e hi hr hm).1,?_,?_⟩
 ·
  grind
 grind [bQ]
theorem aq.hb{aa:List aG}(h:aq aa):∀x∈aa,0≤x.c∧x.c≤65535∧x.asks.length≤1000:=fun x b=>by
 obtain⟨i,hi,rfl⟩:=List.mem_iff_getElem.1 b;obtain⟨h1,_,e⟩:=h.at hi
 grind [hY]
theorem dU{aa:List aG}{i:Nat}(hi:i<aa.length) (jo:i≤99) (l:List ByteArray):aH aa (aL aa (i:Int)) l=cx aa (aL aa (i:Int)) l:=by
 unfold aH;rw [if_pos (by grind [eF])]
theorem sE{aa:List aG}{i:Nat}(hi:i<aa.length) (jo:i≤99) (hr:aF aa i=true):ph (aL aa (i:Int))=⟨#[48]⟩:=by grind [ph,eF]
theorem xG:∀{l:List (Key × Value)}{k:Key}{v:Value},bD l k=some v→cL l k v=l:=by
 intro l
 induction l with
 | nil=>intro k v h;simp [bD] at h
 | cons p r b=>
  obtain⟨k0,v0⟩:=p;intro k v h;simp only [bD] at h;simp only [cL]
  grind
theorem gj{aa:List aG}{i:Nat}(hi:i<aa.length) (jo:i≤99):cZ (aL aa (i:Int)):=by grind [cZ,eF]
end Go.Rc

namespace Go.Rc
open Go
theorem oN:∀(l:List UInt8) (u:Nat),0<u→0≤decFrom l (u:Int)→∃v:Nat,decFrom l (u:Int)=v∧Lib.decDigits v=Lib.decDigits u++l
 | [],u,_,_=>⟨u,rfl,by simp⟩
 | c::r,u,hu,h=>by
  unfold decFrom at h ⊢
  by_cases hc:c.toNat<48∨57<c.toNat
  ·
   rw [if_pos hc] at h;omega
  rw [if_neg hc] at h ⊢;obtain⟨d,f⟩:∃d:Nat,c.toNat=48+d:=⟨c.toNat - 48,by omega⟩
  have i:d<10:=by omega
  have e:10*(u:Int)+((c.toNat:Int) - 48)=((10*u+d:Nat):Int):=by omega
  rw [e] at h ⊢;obtain⟨v,h1,b⟩:=oN r (10*u+d) (by omega) h;refine⟨v,h1,?_⟩;rw [b,Lib.decDigits,dif_neg (by omega),show(10*u+d) / 10=u by omega,show(10*u+d) % 10=d by omega,List.append_assoc]
  grind [UInt8.ofNat_toNat]
theorem wC{s:ByteArray}(h:0≤dN s):∃v:Nat,dN s=v∧s=itoa (v:Int):=by
 unfold dN at h ⊢
 by_cases hc:s.size=0∨9<s.size∨(s.data.toList.head?=some 48∧s.size≠1)
 ·
  rw [if_pos hc] at h;omega
 rw [if_neg hc] at h ⊢;obtain⟨d⟩:=s
 have key:∃v:Nat,decFrom d.toList 0=v∧Lib.decDigits v=d.toList:=by
  have hsz:(⟨d⟩:ByteArray).size=d.toList.length:=by simp [ByteArray.size]
  rw [hsz] at hc;simp only at hc h ⊢
  cases hl:d.toList with
  | nil=>rw [hl] at hc;simp at hc
  | cons c r=>
   rw [hl] at hc h
   unfold decFrom at h ⊢
   by_cases hn:c.toNat<48∨57<c.toNat
   ·
    rw [if_pos hn] at h;omega
   rw [if_neg hn] at h ⊢;obtain⟨e,he⟩:∃e:Nat,c.toNat=48+e:=⟨c.toNat - 48,by omega⟩
   have h1:10*(0:Int)+((c.toNat:Int) - 48)=(e:Nat):=by omega
   rw [h1] at h ⊢
   have b:UInt8.ofNat (48+e)=c:=by grind [UInt8.ofNat_toNat]
   by_cases h0:e=0
   ·
    subst h0
    have m:c=48:=by rw [← b];rfl
    have hr:r=[]:=by grind
    subst hr;exact⟨0,rfl,by rw [Lib.decDigits,dif_pos (by omega),b]⟩
   obtain⟨v,f,i⟩:=oN r e (by omega) h;refine⟨v,f,?_⟩;rw [i,Lib.decDigits,dif_pos (by omega),b]
   rfl
 obtain⟨v,h1,f⟩:=key;refine⟨v,h1,?_⟩
 have e:Lib.itoa (v:Int)=Lib.decDigits v:=by unfold Lib.itoa;rw [if_neg (by omega)];rfl
 unfold itoa
 rw [e,f]
theorem Hn{s:ByteArray}(h:∀n:Nat,n≤65535→s≠itoa (n:Int)):cD s=0:=by
 unfold cD
 split
 ·
  rfl
 grind [wC]
theorem Ho(l:List aG) (m:Nat):m≤dJ l m:=by unfold dJ;omega
theorem Ec{aa:List aG}{i:Nat}(hi:i<aa.length):(block aa (i:Int)).1≤(block aa (i:Int)).2:=by
 have hb:block aa (i:Int)=if aF aa i then ((bE aa i:Int),(dJ aa (i+1):Int)) else ((i:Int),(i:Int)+1):=by
  unfold block;rw [if_neg (by omega)];rfl
 grind [gu,Ho]
theorem BF(kind:Int) (c:Nat) (l:List Nat):dp kind 0 (c::l)=dp kind c l:=by
 unfold dp qc su eY
 simp
end Go.Rc

namespace Go.Rc
open Go
theorem BG{κ:Type} [DecidableEq κ]:∀{l:List (κ × Value)}{k:κ}{v:Value},bD l k=none→iW (cL l k v) k=l
 | [],k,v,_=>by simp [cL,iW]
 | (k0,v0)::r,k,v,h=>by
  by_cases e:k0=k
  ·
   subst e;simp [bD] at h
  simp only [bD,if_neg e] at h;simp only [cL,if_neg e,iW,BG h]
def FZ.row(b:Nat) (r:List Value):FZ:=
 ⟨fun Z w=>Z b∧b<w.heap.size∧w.rangeAt b 0 r,fun hZ h=>⟨hZ _ h.1,h.2⟩,fun hs hc h=>⟨h.1,Nat.lt_of_lt_of_le h.2.1 hs,fun j v hv=>by rw [← h.2.2 j v hv];grind [World.cell?_of_block]⟩⟩
def SD.FV(D:SD) (P:Program) (aa:List aG) (x:cm):FZ:=(D.F P aa x).and (FZ.row D.s (D.cells x))
theorem SD.FV.rg{D:SD}{P:Program}{aa:List aG}{x:cm}{Z:Nat→Prop}{w:World}(h:(D.FV P aa x).p Z w):(As.rg D.s 0 (D.cells x)).ok Z w:=As.VF h.2.1 h.2.2.1 h.2.2.2
theorem xH{κ:Type} [DecidableEq κ]:∀(l:List (κ × Value)) (k:κ) (v u:Value),cL (cL l k v) k u=cL l k u
 | [],k,v,u=>by simp [cL]
 | (k0,v0)::r,k,v,u=>by
  by_cases e:k0=k
  ·
   simp [cL,e]
  simp [cL,e,xH r k v u]
section
variable {aa:List aG}{aC:List cv}
def lK(aa:List aG) (i:Nat) (al:List (Key × Value)):Prop:=∀j:Nat,j≤i→j<aa.length→bD al (aL aa (j:Int))=none
theorem lK.mono{i m:Nat}{al:List (Key × Value)}(h:lK aa i al) (hm:m≤i):lK aa m al:=fun j b hl=>h j (by omega) hl
theorem lK.put(b:aq aa) {i m:Nat}{al:List (Key × Value)}(h:lK aa i al) (hi:i<aa.length) (hm:m<i) (v:Value):lK aa m (cL al (aL aa (i:Int)) v):=fun j f hl=>by
 rw [ef,if_neg (fun e=>by have:=dY b hi hl e;omega)];exact h j (by omega) hl
theorem lK.nil(i:Nat):lK aa i []:=fun _ _ _=>rfl
noncomputable def cG(aa:List aG) (aC:List cv) (i:Nat):List Key:=(dT (cx aa (aL aa (i:Int))) (valOf aa aC) (cJ aa i)).1
noncomputable def kh(aa:List aG) (aC:List cv) (k:Key):List Key:=if ay k then [] else cG aa aC (number k).toNat
theorem fG(b:aq aa) {i:Nat}(hi:i<aa.length):kh aa aC (aL aa (i:Int))=cG aa aC i:=by
 have e:=b.len
 unfold kh
 rw [if_neg (by grind [dj]),ck hi (by omega),Int.toNat_natCast]
theorem eT.QM(b:aq aa) {i:Nat}{a:Key}(h:eT aa i a):ax a=decide (a.kind=32):=by
 have e:=b.len
 rcases h with⟨n,h1,rfl⟩ | ⟨m,h1,rfl,_⟩
 ·
  rw [kf (by omega)]
  unfold bZ
  rw [if_neg (by omega)]
  rfl
 grind [bd,eF]
theorem eT.al(b:aq aa) {i0 j:Nat}{a:Key}{al:List (Key × Value)}(h:eT aa j a) (hr:aF aa j=true) (hc:ax a=false) (eQ:ay a=false) (hb:bE aa j≤i0) (e:lK aa i0 al):lK aa (number a).toNat al:=by
 have i:=b.len
 rcases h with⟨n,h1,rfl⟩ | ⟨m,h1,rfl,_,_,_,f⟩
 ·
  grind [bp]
 rw [bd h1 (by omega)] at hc;rw [ck h1 (by omega),Int.toNat_natCast];exact e.mono (by have:=f hc hr;omega)
structure RI (aa:List aG) (aC:List cv) (i0:Nat) (qs:List Ask) (u1:Nat→Nat) (L1:List Nat) (kU:Bool) (eO:List (Key × Value)) (n:Nat) (L2:List Nat) (ki:List (Key × Value)) (mB:Bool) (iT:List (Key × Value)) (acc:List ByteArray):Prop where
 hn:n≤qs.length
 rd:dt aa aC i0 L2 u1
 up:kT aa aC L2 u1 iT
 at_:mM aa L2 u1 ki
 m:aU aa aC iT
 le:gh eO iT
 p:oM aa L2 u1≤oM aa L1 u1∧(mB=true→kU=true∨oM aa L2 u1<oM aa L1 u1)
 c:mB=false→L2=L1∧kU=false
 pre:L1 <+: L2
 ev:Ev aa aC u1 L2 eO iT qs n acc
variable {i0 j n:Nat}{u1:Nat→Nat}{L1 L2:List Nat}{kU mB:Bool}{eO iT Mj ki:List (Key × Value)}{acc:List ByteArray}
theorem RI.start{b:List (Key × Value)}{qs:List Ask}(h1:dt aa aC i0 L1 u1) (e:kT aa aC L1 u1 eO) (f:mM aa L1 u1 b) (i:aU aa aC eO):RI aa aC i0 qs u1 L1 kU eO 0 L1 b kU eO []:=
 ⟨Nat.zero_le _,h1,e,f,i,gh.refl _,⟨Nat.le_refl _,fun h=>.inl h⟩,fun h=>⟨rfl,h⟩,List.prefix_refl _,Ev.start⟩
theorem RI.done(b:aq aa) (e:j<aa.length) (hr:aF aa j=true) (h:RI aa aC i0 aa[j].asks u1 L1 kU eO n L2 ki mB iT acc) (hn:n<aa[j].asks.length) {f:Value}(m:bD iT (bQ aa aa[j].asks[n])=some f) :
  RI aa aC i0 aa[j].asks u1 L1 kU eO (n+1) L2 ki mB iT (acc++[valOf aa aC (bQ aa aa[j].asks[n])]):=
 {h with
  hn:=hn
  ev:=h.ev.snoc _ (fun _ _=>rfl) fun _ i k hk=>.inl (by
   obtain⟨o,p,q⟩:=je b e hr (List.getElem_mem hn) i hk
   grind [gY,iv])}
theorem RI.low(b:aq aa) (f:j<aa.length) (hr:aF aa j=true) (h:RI aa aC i0 aa[j].asks u1 L1 kU eO n L2 ki mB iT acc) (hn:n<aa[j].asks.length) (hc:ax (bQ aa aa[j].asks[n])=false) (e:aU aa aC Mj) (hle:gh iT Mj) :
  RI aa aC i0 aa[j].asks u1 L1 kU eO (n+1) L2 ki mB Mj (acc++[valOf aa aC (bQ aa aa[j].asks[n])]):=
 {h with
  hn:=hn
  up:=h.up.mono b h.rd hle
  m:=e
  le:=h.le.trans hle
  ev:=(h.ev.mono (fun _ h=>h) hle).snoc _ (fun _ _=>rfl) fun _ i k hk=>by grind [aq.len,je,bd]}
theorem RI.inside(h:aq aa) (i:j<aa.length) (hr:aF aa j=true) (hn:n<aa[j].asks.length) (hc:ax (bQ aa aa[j].asks[n])=true) :
  ∃b:Nat,bQ aa aa[j].asks[n]=aL aa (b:Int)∧b<aa.length∧aF aa b=true∧fP aa j b∧outside aa aa[j].asks[n]=false:=by
 have m:=List.getElem_mem hn
 have e:outside aa aa[j].asks[n]=false:=by grind [jd]
 obtain⟨b,f,o,p⟩:=ij h i hr m e;exact⟨b,o,p,f.lt.2.2.2,f,e⟩
theorem RI.OH(i:aq aa) (p:j<aa.length) (hr:aF aa j=true) {e:List Nat}(h:Ev aa aC u1 e eO iT aa[j].asks n acc) (hle:gh eO iT) (hn:n<aa[j].asks.length) {b:Nat}(q:bQ aa aa[j].asks[n]=aL aa (b:Int)) (r:b<aa.length) (m:outside aa aa[j].asks[n]=false)
  (u:bD iT (bQ aa aa[j].asks[n])=none) (z:b∈e):Ev aa aC u1 e eO iT aa[j].asks (n+1) (acc++[itoa (u1 b:Int)]):=by
 have F:bD eO (aL aa (b:Int))=none:=by
  cases h:bD eO (aL aa (b:Int)) with
  | none=>rfl
  | some v=>have:=hle _ _ h;grind
 refine h.snoc _ (fun _ f=>by rw [m] at f;cases f) fun _ f k hk=>?_;obtain⟨t,G,o⟩:=je i p hr (List.getElem_mem hn) m hk;rw [q] at o
 have:=dY i r t o
 grind
theorem RI.meet(i:aq aa) (t:j<aa.length) (hr:aF aa j=true) (h:RI aa aC i0 aa[j].asks u1 L1 kU eO n L2 ki mB iT acc) (G:j∈L1) (hn:n<aa[j].asks.length) (hc:ax (bQ aa aa[j].asks[n])=true)
  (H:bD iT (bQ aa aa[j].asks[n])=none) (O:bD ki (bQ aa aa[j].asks[n])=none) :
  ∃b:Nat,bQ aa aa[j].asks[n]=aL aa (b:Int)∧b<aa.length∧aF aa b=true∧RI aa aC i0 aa[j].asks u1 L1 kU eO (n+1) (L2++[b]) (cL ki (bQ aa aa[j].asks[n]) (.string ⟨#[48]⟩)) true iT (acc++[⟨#[48]⟩]):=by
 obtain⟨b,o,e,q,I,J⟩:=RI.inside i t hr hn hc
 have f:b∉L2:=fun hm=>by have:=h.at_.1 b hm;grind
 have r:=h.rd.out b f;have u:cU aa i0 b:=.step (h.rd.reach j (h.pre.subset G)) I;have L:=h.rd.meet e q f u;have N:=h.rd.Gm e q f u;have z:=BE (v:=u1) (j:=b) N;have F:=RI.OH i t hr (h.ev.mono (L':=L2++[b]) (fun _ h=>by simp [h]) (gh.refl _)) h.le hn o e J H (by simp)
 have e0:itoa ((0:Nat):Int)=⟨#[48]⟩:=by decide +kernel
 rw [r,e0] at F;refine⟨b,o,e,q,⟨hn,L,h.up.meet r,?_,h.m,h.le,⟨Nat.le_of_lt (Nat.lt_of_lt_of_le z h.p.1),fun _=>.inr (Nat.lt_of_lt_of_le z h.p.1)⟩,fun h=>(by cases h),h.pre.trans (List.prefix_append _ _),F⟩⟩;rw [o];exact h.at_.meet i (fun k hk=>(h.rd.ring k hk).1) e f r
theorem RI.V2(f:aq aa) (m:j<aa.length) (hr:aF aa j=true) (h:RI aa aC i0 aa[j].asks u1 L1 kU eO n L2 ki mB iT acc) (hn:n<aa[j].asks.length) (hc:ax (bQ aa aa[j].asks[n])=true)
  (r:bD iT (bQ aa aa[j].asks[n])=none) {v:Value}(t:bD ki (bQ aa aa[j].asks[n])=some v) :
  ∃s:ByteArray,v=.string s∧s.size≤1000∧RI aa aC i0 aa[j].asks u1 L1 kU eO (n+1) L2 ki mB iT (acc++[s]):=by
 obtain⟨b,o,p,z,F,u⟩:=RI.inside f m hr hn hc
 have q:b∈L2:=by
  by_cases hm:b∈L2
  ·
   exact hm
  have:=h.at_.2 (aL aa (b:Int)) (fun k hk e=>hm (by have:=dY f p (h.rd.ring k hk).1 e;rw [this];exact hk))
  grind
 have i:=h.at_.1 b q;rw [← o,t] at i;simp only [Option.some.injEq] at i;refine⟨_,i,?_,{h with hn:=hn,ev:=RI.OH f m hr h.ev h.le hn o p u r q}⟩;have hle:=h.rd.le b
 have e:Lib.itoa (u1 b:Int)=Lib.decDigits (u1 b):=by unfold Lib.itoa;rw [if_neg (by omega)];rfl
 grind [itoa,Lib.decDigits,ByteArray.size]
end
end Go.Rc

namespace Go.Rc
open Go
/-! ### keys in order -/
def mN(k:Key):List Key→List Key
 | []=>[k]
 | x::r=>if bC x k<0 then x::mN k r else if x=k then x::r else k::x::r
def jP(l:List Key):List Key:=l.foldl (fun out k=>mN k out) []
theorem Mk:∀(l:List Key) (k:Key) (p:Nat),p≤l.length→(∀q x,q<p→l[q]?=some x→bC x k<0)→(∀x,l[p]?=some x→0≤bC x k)→mN k l=if l[p]?=some k then l else l.take p++[k]++l.drop p:=by
 intro l
 induction l with
 | nil=>intro k p b _ _;simp at b;subst b;rfl
 | cons x r f=>
  intro k p b h1 e
  cases p with
  | zero=>
   have:=e x rfl
   simp only [mN]
   grind
  | succ p=>
   have:=h1 0 x (by omega) rfl
   simp only [mN];rw [if_pos this,f k p (by simpa using b) (fun q y h hy=>h1 (q+1) y (by omega) (by simpa using hy)) (fun y hy=>e y (by simpa using hy))]
   grind
theorem Jw(k:Key):∀l,(mN k l).length≤l.length+1:=by
 intro l
 induction l with
 | nil=>simp [mN]
 | cons x r b=>grind [mN]
theorem uv(l:List Key) (k:Key):jP (l++[k])=mN k (jP l):=by simp [jP]
theorem rB(l:List Key):(jP l).length≤l.length:=by
 have key:∀(l acc:List Key),(l.foldl (fun out k=>mN k out) acc).length≤acc.length+l.length:=by
  intro l
  induction l with
  | nil=>intro acc;simp
  | cons x r b=>grind [Jw]
 simpa [jP] using key l []
theorem BH(k:Key):∀(l:List Key) (x:Key),x∈mN k l↔x=k∨x∈l:=by
 intro l
 induction l with
 | nil=>intro x;simp [mN]
 | cons y r b=>grind [mN]
theorem oe(l:List Key) (x:Key):x∈jP l↔x∈l:=by
 have key:∀(l acc:List Key),x∈l.foldl (fun out k=>mN k out) acc↔x∈acc∨x∈l:=by
  intro l
  induction l with
  | nil=>intro acc;simp
  | cons y r b=>grind [BH]
 simpa [jP] using key l []
def BI(out:List Key) (p:Nat) (x:Key):Bool:=match out[p]? with | some y=>decide (bC y x<0) | none=>false
/-! ### groups -/
def Ld(l:List Rec) (rev:Int) (a x:Key):Prop:=x∈(aD l a).reads∧bU l rev x=true
inductive bM (l:List Rec) (rev:Int) (k:Key):Key→Prop where
 | one {x:Key}:Ld l rev k x→bM l rev k x
 | step {x y:Key}:bM l rev k x→Ld l rev x y→bM l rev k y
def ik(m:List (Key × Value)) (P:Key→Prop):Prop:=∀k,(bD m k=some (.bool true)↔P k)∧(bD m k=none∨bD m k=some (.bool true))
open Classical in
noncomputable def yO(l:List Rec) (rev:Int) (k x:Key):Bool:=decide (bM l rev k x)
theorem kj{l:List Rec}{rev:Int}{k x:Key}:yO l rev k x=true↔bM l rev k x:=by unfold yO;simp
noncomputable def BJ(l:List Rec) (rev:Int) (k:Key) (r:Rec):Bool:=decide (r.key≠k) && (yO l rev k r.key && yO l rev r.key k)
noncomputable def jf(l:List Rec) (rev:Int) (k:Key) (rs:List Rec):List Key:=(rs.filter (BJ l rev k)).map (·.key)
theorem sF{l:List Rec}{rev:Int}{k:Key}{i:Nat}(h:i<l.length):jf l rev k (l.take (i+1))=if BJ l rev k l[i]=true then jf l rev k (l.take i)++[l[i].key] else jf l rev k (l.take i):=by
 rw [List.take_succ_eq_append_getElem h];simp only [jf,List.filter_append,List.map_append]
 grind
theorem po(l:List Rec) (rev:Int) (k:Key) (rs:List Rec):(jf l rev k rs).length≤rs.length:=by grind [jf]
theorem ik.get{m:List (Key × Value)}{P:Key→Prop}(h:ik m P) (k:Key) {b:Bool}(hb:b=true↔P k):(bD m k).getD (.bool false)=.bool b:=by
 obtain⟨h1,e⟩:=h k
 grind
theorem ik.put{m:List (Key × Value)}{b:List Key}(h:ik m (·∈b)) (x:Key):ik (cL m x (.bool true)) (·∈b++[x]):=fun k=>by
 rw [ef]
 by_cases e:x=k
 ·
  rw [if_pos e];simp [e]
 rw [if_neg e];obtain⟨h1,f⟩:=h k
 grind
theorem ik.congr{m:List (Key × Value)}{P Q:Key→Prop}(h:ik m P) (b:∀k,P k↔Q k):ik m Q:=fun k=>⟨(h k).1.trans (b k),(h k).2⟩
theorem ik.nil:ik [] (·∈([]:List Key)):=fun k=>by simp [bD]
theorem eK{L S:List Key}(h:L.Nodup) (b:∀x∈L,x∈S):L.length≤S.length:=by
 induction L generalizing S with
 | nil=>simp
 | cons a r e=>
  have f:=b a (by simp);rw [List.nodup_cons] at h
  have:=e (S:=S.erase a) h.2 fun x i=>by grind
  grind
theorem nt{l:List Rec}{rev:Int}{x:Key}(h:bU l rev x=true):x∈l.map (·.key):=by
 unfold bU at h
 rw [Bool.and_eq_true] at h
 grind [aA]
theorem bM.gC{l:List Rec}{rev:Int}{k x:Key}(h:bM l rev k x):bU l rev x=true:=by
 cases h with
 | one h=>exact h.2
 | step _ h=>exact h.2
theorem yP{l:List Rec}{rev:Int}{k:Key}{b:List Key}(e:∀x∈b,bM l rev k x) (hc:∀y∈k::b,∀x,Ld l rev y x→x∈b) (x:Key):x∈b↔bM l rev k x:=by
 refine⟨e x,fun h=>?_⟩
 induction h with
 | one h=>exact hc k (by simp) _ h
 | step _ f i=>exact hc _ (by simp [i]) _ f
noncomputable def aB(l:List Rec) (rev:Int) (k:Key):List Key:=if bU l rev k then jP (k::jf l rev k l) else [k]
def a7(rev:Int) (group:List Key) (bA:Bool) (r:Rec):Rec:=if r.key∈group then (if bA then {r with bA:=true} else {r with av:=rev}) else r
def cH(x:cm) (group:List Key) (bA:Bool):cm:={x with ah:=x.ah.map (a7 x.ad group bA)}
def az(x:cm) (k:Key):Bool:=(aA x.ah k).isSome && decide ((aD x.ah k).av=x.ad)
def aV(val:Key→ByteArray) (x:cm) (k:Key):Int:=
 if ay k then (bz x.ab k).changed
 else if (aA x.ah k).isSome && (decide ((aD x.ah k).av=x.ad) || decide (val k=(aD x.ah k).value)) then (aD x.ah k).changed else x.ad
def bS(val:Key→ByteArray) (x:cm) (k:Key):ByteArray:=if ax k then val k else i1 x k
/-! ### a request -/
structure ES where
 b:cm
 busy:List (Key × Value)
 bj:List Key
 e:Int
def ES.on(s:ES) (k:Key):Bool:=(bD s.busy k).isSome
def ep(s:ES) (k:Key):Bool:=ay k || ((s.on k && ax k) || az s.b k)
mutual
noncomputable def kV(aa:List aG) (val:Key→ByteArray):Nat→ES→Key→Option ES
 | 0,_,_=>none
 | f+1,s,k=>
  if s.e≠0∨ay k=true then some s
  else if az s.b k then some s
  else if s.on k then (if ax k then some s else some {s with e:=43})
  else (cP aa val f {s with busy:=cL s.busy k (.bool true)} k 0).bind fun p=>
   (if p.2 then gQ aa val f p.1 k [] [] else some p.1).bind fun s3=>some {s3 with busy:=iW s3.busy k}
noncomputable def cP(aa:List aG) (val:Key→ByteArray):Nat→ES→Key→Nat→Option (ES × Bool)
 | 0,_,_,_=>none
 | f+1,s,k,at_=>
  if s.e≠0 then some (s,false)
  else if !(aA s.b.ah k).isSome || (aD s.b.ah k).bA then some (s,true)
  else if (aD s.b.ah k).av=s.b.ad then some (s,false)
  else
   match (bR s.b.ah (aB s.b.ah s.b.ad k))[at_]? with
   | none=>some ({s with b:=cH s.b (aB s.b.ah s.b.ad k) false},false)
   | some c=>
    if ep s c.read=false then (kV aa val f s c.read).bind fun s'=>cP aa val f s' k at_
    else if (aD s.b.ah c.dC).av<aV val s.b c.read then
     some ((if ax k then {s with b:=cH s.b (aB s.b.ah s.b.ad k) true} else s),true)
    else cP aa val f s k (at_+1)
noncomputable def gQ(aa:List aG) (val:Key→ByteArray):Nat→ES→Key→List Key→List ByteArray→Option ES
 | 0,_,_,_,_=>none
 | f+1,s,k,reads,ae=>
  if s.e≠0 then some s
  else if (aH aa k ae).done then
   (if !(aA s.b.ah k).isSome && decide (4000≤s.b.ah.length) then some {s with e:=45}
   else some {s with b:={s.b with ah:=eh s.b.ah (bF s.b k (aH aa k ae).value reads)},bj:=s.bj++[k]})
  else (kV aa val f s (aH aa k ae).ask).bind fun s'=>
   if s'.e=0 then gQ aa val f s' k (reads++[(aH aa k ae).ask]) (ae++[bS val s'.b (aH aa k ae).ask]) else gQ aa val f s' k reads ae
end
/-! ### a solver, as one thing -/
def As.jM(P:Program) (ST:Nat) (aa:List aG) (x:cm) (D:SD):As where
 fp y:=y=D.s∨y=D.m
 ok Z w:=D.s≠D.m∧bT w D.s ST (D.cells x)∧(∃ml,aU aa x.ab ml∧KM Key.val w D.m ml)∧(D.F P aa x).p Z w
 lt:=fun⟨_,h1,⟨_,_,h2⟩,_⟩ y hy=>by rcases hy with rfl | rfl;exact h1.lt;exact h2.lt
 mono hZ:=fun⟨h0,h1,h2,h3⟩=>⟨h0,h1,h2,(D.F P aa x).mono hZ h3⟩
 st:=fun hs hc ⟨h0,h1,⟨ml,h2,h3⟩,h4⟩=>⟨h0,(As.blk D.s ST (D.cells x)).st (Z:=fun _=>False) hs (fun y hy hl=>hc y (.inl (.inl (by rcases hy with hy | hy;exact hy;exact hy.elim))) hl) h1,
  ⟨ml,h2,(As.map Key.val D.m ml).st (Z:=fun _=>False) hs (fun y hy hl=>hc y (.inl (.inr (by rcases hy with hy | hy;exact hy;exact hy.elim))) hl) h3⟩,(D.F P aa x).st hs (fun y hy hl=>hc y (.inr hy) hl) h4⟩
section
variable {w0 w w':World}{M Z:Nat→Prop}{l:List As}{A B C:As}
theorem St.split(h:St w0 M Z w (C::l)) (o:A.ok Z w) (p:B.ok Z w) (i:∀x,A.fp x→C.fp x) (m:∀x,B.fp x→C.fp x) (q:∀x,A.fp x→¬B.fp x):St w0 M Z w (A::B::l):=by
 obtain⟨r,t⟩:=List.pairwise_cons.1 h.ry;refine⟨h.bV,h.jK,?_,?_,?_,?_⟩
 ·
  intro D b x e f;simp only [List.mem_cons] at b
  rcases b with rfl | rfl | b
  ·
   exact h.l4 C (by simp) x (i x e) f
  ·
   exact h.l4 C (by simp) x (m x e) f
  exact h.l4 D (by simp [b]) x e f
 ·
  intro D b x e;simp only [List.mem_cons] at b
  rcases b with rfl | rfl | b
  ·
   exact h.mQ C (by simp) x (i x e)
  ·
   exact h.mQ C (by simp) x (m x e)
  exact h.mQ D (by simp [b]) x e
 ·
  simp_all
 intro D b;simp only [List.mem_cons] at b
 rcases b with rfl | rfl | b
 ·
  exact o
 ·
  exact p
 exact h.ok D (by simp [b])
theorem St.join(h:St w0 M Z w (A::B::l)) (m:C.ok Z w) (i:∀x,C.fp x→A.fp x∨B.fp x):St w0 M Z w (C::l):=by
 obtain⟨p,o⟩:=List.pairwise_cons.1 h.ry;obtain⟨q,r⟩:=List.pairwise_cons.1 o;refine⟨h.bV,h.jK,?_,?_,?_,?_⟩
 ·
  intro D b x e f;simp only [List.mem_cons] at b
  rcases b with rfl | b
  ·
   rcases i x e with h1 | h1
   ·
    exact h.l4 A (by simp) x h1 f
   exact h.l4 B (by simp) x h1 f
  exact h.l4 D (by simp [b]) x e f
 ·
  intro D b x e;simp only [List.mem_cons] at b
  rcases b with rfl | b
  ·
   rcases i x e with h1 | h1
   ·
    exact h.mQ A (by simp) x h1
   exact h.mQ B (by simp) x h1
  exact h.mQ D (by simp [b]) x e
 ·
  grind [List.pairwise_cons]
 intro D b;simp only [List.mem_cons] at b
 rcases b with rfl | b
 ·
  exact m
 exact h.ok D (by simp [b])
theorem St.one(h:St w0 M Z w l) (e:A∈l):St w (mR [A]) Z w [A] where
 bV:=gP.refl _ _
 jK:=h.jK
 l4 D b:=by simp at b;subst b;exact h.l4 _ e
 mQ D b x f:=.inl ⟨D,b,f⟩
 ry:=by simp
 ok D b:=by simp at b;subst b;exact h.ok _ e
theorem St.xI(h:St w0 M Z w l) (f:A∈l) (b:St w (mR [A]) Z w' [A]):St w0 M Z w' l:=
 h.same f (b.bV.mono fun x _ ⟨D,e,i⟩=>by simp at e;subst e;exact i) (b.ok A (by simp))
theorem Gp(f:A∈l) {x:Nat}(b:mR [A] x):mR l x:=by obtain⟨D,e,b⟩:=b;simp at e;subst e;exact⟨D,f,b⟩
end
theorem As.gv{P:Program}{ST:Nat}{aa:List aG}{x:cm}{D:SD}{Z:Nat→Prop}{w:World}(h:(As.jM P ST aa x D).ok Z w):(D.F P aa x).p Z w:=h.2.2.2
theorem As.gvb{P:Program}{ST:Nat}{aa:List aG}{x:cm}{D:SD}{Z:Nat→Prop}{w:World}(h:(As.jM P ST aa x D).ok Z w):bT w D.s ST (D.cells x):=h.2.1
structure EA where
 (a1 a2 a3:Option Addr) (n1 c1 n2 c2 n3 c3:Nat)
def EA.cells(E:EA) (sb bb:Nat) (s:ES):List Value:=
 [.pointer (some ⟨sb,0,none⟩),.int .i64 s.b.ad,.slice E.a1 E.n1 E.c1,.slice E.a2 E.n2 E.c2,.map (some bb),.slice E.a3 E.n3 E.c3,.int .i64 s.e]
theorem Ed{x:cm}{group:List Key}{bA:Bool}{i:Nat}(h:i<x.ah.length) (hi:i≤x.ah.length):(((x.ah.take i).map (a7 x.ad group bA))++x.ah.drop i).set i (a7 x.ad group bA x.ah[i])=((x.ah.take (i+1)).map (a7 x.ad group bA))++x.ah.drop (i+1):=by
 rw [List.set_append_right _ _ (by simp;omega)];simp only [List.length_map,List.length_take,Nat.min_eq_left hi,Nat.sub_self]
 grind [List.drop_eq_getElem_cons]
end Go.Rc

namespace Go.Rc
open Go
structure Good (aa:List aG) (aC:List cv) (s:ES):Prop where
 aC:s.b.ab=aC
 len:s.b.ah.length≤4000
 key:∀r∈s.b.ah,dX aa r.key
 AK:∀r∈s.b.ah,r.reads.length≤4000∧∀a∈r.reads,dX aa a
 j5:(s.busy.map (·.1)).Nodup
 busy:∀k,bD s.busy k=none∨bD s.busy k=some (.bool true)
structure Gq (s s':ES):Prop where
 bj:s.bj.length≤s'.bj.length
 rev:s'.b.ad=s.b.ad
theorem Gq.refl(s:ES):Gq s s:=⟨Nat.le_refl _,rfl⟩
theorem Gq.trans{s t u:ES}(h:Gq s t) (b:Gq t u):Gq s u:=⟨Nat.le_trans h.bj b.bj,b.rev.trans h.rev⟩
section
variable {aa:List aG}{aC:List cv}{s:ES}{k:Key}
theorem Good.on(h:Good aa aC s) (k:Key):Good aa aC {s with busy:=cL s.busy k (.bool true)}:=
 {h with j5:=gk h.j5 _ _,busy:=fun k'=>by show bD (cL s.busy k (.bool true)) k'=none∨_;rw [ef];split;exact .inr rfl;exact h.busy k'}
theorem Good.off(h:Good aa aC s) (k:Key):Good aa aC {s with busy:=iW s.busy k}:=
 {h with j5:=by grind [I8,j5],busy:=fun k'=>by show bD (iW s.busy k) k'=none∨_;rw [Bn h.j5];split;exact .inl rfl;exact h.busy k'}
theorem Good.err(h:Good aa aC s) (e:Int):Good aa aC {s with e:=e}:={h with}
theorem cR(rev:Int) (g:List Key) (d:Bool) (r:Rec):(a7 rev g d r).key=r.key∧(a7 rev g d r).reads=r.reads:=by unfold a7;grind
theorem Good.mark(h:Good aa aC s) (g:List Key) (d:Bool):Good aa aC {s with b:=cH s.b g d}:=
 {h with
  len:=by show((s.b.ah.map _).length≤4000);rw [List.length_map];exact h.len
  key:=fun r hr=>by obtain⟨q,e,rfl⟩:=List.mem_map.1 hr;rw [(cR _ _ _ q).1];exact h.key q e
  AK:=fun r hr=>by obtain⟨q,e,rfl⟩:=List.mem_map.1 hr;rw [(cR _ _ _ q).2];exact h.AK q e}
theorem Gq.mark(g:List Key) (d:Bool):Gq s {s with b:=cH s.b g d}:=⟨Nat.le_refl _,rfl⟩
theorem gH(r:Rec):∀(l:List Rec) (b:Bool) (x:Rec),x∈eZ r l b→x=r∨x∈l:=by
 intro l
 induction l with
 | nil=>grind [eZ]
 | cons y e f=>grind [eZ]
theorem BL(r:Rec):∀(l:List Rec) (b:Bool),(eZ r l b).length+(l.filter fun x=>decide (bC x.key r.key=0)).length=l.length+(if b then 0 else 1):=by
 intro l
 induction l with
 | nil=>intro b;cases b <;> simp [eZ]
 | cons y f e=>
  intro b;have h1:=e (b || decide (0≤bC y.key r.key));simp only [eZ,List.length_append,List.length_cons]
  grind
theorem Jx{l:List Rec}{r:Rec}(h:(aA l r.key).isSome=true) (hc:bC r.key r.key=0):(eh l r).length≤l.length:=by
 have h1:=BL r l false;obtain⟨x,b⟩:=Option.isSome_iff_exists.1 h;have f:=List.mem_of_find?_eq_some b;have e:=List.find?_some b
 simp at e
 have i:0<(l.filter fun x=>decide (bC x.key r.key=0)).length:=List.length_pos_of_mem (List.mem_filter.2 ⟨f,by rw [e];simp [hc]⟩)
 unfold eh
 simp at h1
 omega
theorem xJ:∀l:List UInt8,Lib.compareBytes l l=0
 | []=>by simp [Lib.compareBytes]
 | a::r=>by simp [Lib.compareBytes,xJ r]
theorem iw(k:Key):bC k k=0:=by unfold bC;simp [xJ]
theorem Good.put(h:Good aa aC s) {r:Rec}{bj:List Key}(hk:dX aa r.key) (hr:r.reads.length≤4000∧∀a∈r.reads,dX aa a) (f:(!(aA s.b.ah r.key).isSome && decide (4000≤s.b.ah.length))=false) :
  Good aa aC {s with b:={s.b with ah:=eh s.b.ah r},bj:=bj}:=
 {h with
  len:=by grind [eh,len,Jx,iw,rp]
  key:=fun x e=>by rcases gH r _ _ x e with rfl | e;exact hk;exact h.key x e
  AK:=fun x e=>by rcases gH r _ _ x e with rfl | e;exact hr;exact h.AK x e}
def hh(aa:List aG) (k:Key) (n:Nat):Prop:=∃i,i<aa.length∧k=aL aa (i:Int)∧n≤cJ aa i
theorem dX.gL(h:dX aa k) (hi:ay k=false):hh aa k 0:=by
 cases h with
 | cell h=>grind [bp]
 | eX h jo=>exact⟨_,h,rfl,Nat.zero_le _⟩
theorem hh.next(b:aq aa) {ae:List ByteArray}(h:hh aa k ae.length) (f:(aH aa k ae).done=false):hh aa k (ae.length+1)∧dX aa (aH aa k ae).ask:=by
 obtain⟨i,hi,rfl,hn⟩:=h
 have jo:i≤99:=by have:=b.len;omega
 rw [dU hi jo] at f ⊢
 rcases Nat.lt_or_ge ae.length (cJ aa i) with e | o
 ·
  obtain⟨a,h1,m,_⟩:=ek b hi e;rw [h1];exact⟨⟨i,hi,rfl,e⟩,m.Ix b⟩
 grind [gB]
theorem hh.le(b:aq aa) {n:Nat}(h:hh aa k n):n≤6:=by obtain⟨i,hi,_,hn⟩:=h;have:=nn b hi;omega
theorem hh.not(b:aq aa) {n:Nat}(h:hh aa k n):cZ k∧ay k=false:=by
 obtain⟨i,hi,rfl,hn⟩:=h;grind [aq.len,gj,dj]
theorem hh.Ix(b:aq aa) {n:Nat}(h:hh aa k n):dX aa k:=by obtain⟨i,hi,rfl,_⟩:=h;have:=b.len;exact .eX hi (by omega)
end
section
variable {aa:List aG}{val:Key→ByteArray}{aC:List cv}
def UpG(aa:List aG) (val:Key→ByteArray) (aC:List cv) (f:Nat):Prop:=∀s k s',kV aa val f s k=some s'→Good aa aC s→dX aa k→Good aa aC s'∧Gq s s'
def ChG(aa:List aG) (val:Key→ByteArray) (aC:List cv) (f:Nat):Prop:=∀s k n s' b,cP aa val f s k n=some (s',b)→Good aa aC s→Good aa aC s'∧Gq s s'
def RuG(aa:List aG) (val:Key→ByteArray) (aC:List cv) (f:Nat):Prop:=∀s k reads ae s',gQ aa val f s k reads ae=some s'→Good aa aC s→hh aa k ae.length→reads.length=ae.length→(∀a∈reads,dX aa a)→Good aa aC s'∧Gq s s'
theorem fT{aa:List aG}{aC:List cv}{s:ES}(h:Good aa aC s) {group:List Key}{n:Nat}{c:ob}(hc:(bR s.b.ah group)[n]?=some c):dX aa c.read:=by
 have h1:=List.mem_of_getElem? hc;obtain⟨m,hm,i⟩:=List.mem_flatMap.1 h1;obtain⟨a,o,rfl⟩:=List.mem_map.1 i;have e:=(List.mem_filter.1 o).1
 show dX aa a
 unfold aD at e
 cases f:aA s.b.ah m with
 | none=>rw [f] at e;simp [nj] at e
 | some r=>rw [f] at e;exact(h.AK r (List.mem_of_find?_eq_some f)).2 a e
theorem kl(l:List Rec) (rev:Int) (k:Key):(aB l rev k).length≤l.length+1:=by grind [aB,rB,po]
theorem yR{aa:List aG}{aC:List cv}{s:ES}(h:Good aa aC s) {group:List Key}(f:group.length≤4001):∀i,((group.take i).flatMap fun m=>cT group m (aD s.b.ah m).reads).length≤100000000:=by
 intro i
 have h1:∀l:List Key,(l.flatMap fun m=>cT group m (aD s.b.ah m).reads).length≤l.length*4000:=by
  intro l
  induction l with
  | nil=>simp
  | cons m r o=>
   simp only [List.flatMap_cons,List.length_append,List.length_cons];have p:=jV group m (aD s.b.ah m).reads
   have q:(aD s.b.ah m).reads.length≤4000:=by
    unfold aD
    cases e:aA s.b.ah m with
    | none=>simp [nj]
    | some r=>exact(h.AK r (List.mem_of_find?_eq_some e)).1
   rw [Nat.add_mul]
   omega
 grind
theorem tN{aa:List aG}{aC:List cv}{s:ES}(h:Good aa aC s) {group:List Key}(e:group.length≤4001):(bR s.b.ah group).length≤100000000:=by
 have h1:=yR h e group.length;rw [List.take_of_length_le (Nat.le_refl _)] at h1;exact h1
theorem cy(u:aq aa):∀f,UpG aa val aC f∧ChG aa val aC f∧RuG aa val aC f:=by
 intro f
 induction f with
 | zero=>exact⟨fun s k s' h=>by simp [kV] at h,fun s k n s' b h=>by simp [cP] at h,fun s k r a s' h=>by simp [gQ] at h⟩
 | succ f I=>
  obtain⟨G,z,F⟩:=I;refine⟨?_,?_,?_⟩
  ·
   intro s k s' h e hk
   unfold kV at h
   split at h
   ·
    cases h;exact⟨e,.refl _⟩
   rename_i he
   split at h
   ·
    cases h;exact⟨e,.refl _⟩
   split at h
   ·
    split at h <;> cases h
    ·
     exact⟨e,.refl _⟩
    exact⟨e.err _,⟨Nat.le_refl _,rfl⟩⟩
   obtain⟨p,J,h⟩:=Option.bind_eq_some_iff.1 h;obtain⟨t,ht,h⟩:=Option.bind_eq_some_iff.1 h
   cases h
   obtain⟨h1,o⟩:=z _ _ _ p.1 p.2 (by rw [J]) (e.on k);have H:Gq s p.1:=⟨o.bj,o.rev⟩
   have i:Good aa aC t∧Gq s t:=by
    split at ht
    ·
     obtain⟨m,L⟩:=F _ _ _ _ _ ht h1 (hk.gL (by simp at he;exact he.2)) rfl (fun a q=>by cases q);exact⟨m,H.trans L⟩
    cases ht;exact⟨h1,H⟩
   exact⟨i.1.off k,⟨i.2.bj,i.2.rev⟩⟩
  ·
   intro s k n s' b h e
   unfold cP at h
   split at h
   ·
    cases h;exact⟨e,.refl _⟩
   split at h
   ·
    cases h;exact⟨e,.refl _⟩
   split at h
   ·
    cases h;exact⟨e,.refl _⟩
   split at h
   ·
    cases h;exact⟨e.mark _ _,.mark _ _⟩
   rename_i c hc
   split at h
   ·
    obtain⟨t,ht,h⟩:=Option.bind_eq_some_iff.1 h;obtain⟨h1,o⟩:=G _ _ _ ht e (fT e hc);obtain⟨i,m⟩:=z _ _ _ _ _ h h1;exact⟨i,o.trans m⟩
   split at h
   ·
    split at h <;> cases h
    ·
     exact⟨e.mark _ _,.mark _ _⟩
    exact⟨e,.refl _⟩
   exact z _ _ _ _ _ h e
  intro s k reads ae s' h e q hl hr
  unfold gQ at h
  split at h
  ·
   cases h;exact⟨e,.refl _⟩
  split at h
  ·
   split at h
   ·
    cases h;exact⟨e.err _,⟨Nat.le_refl _,rfl⟩⟩
   rename_i m
   cases h
   have O:=q.le u;exact⟨e.put (r:=bF s.b k (aH aa k ae).value reads) (q.Ix u) ⟨by show reads.length≤4000;omega,hr⟩ (by show(!(aA s.b.ah k).isSome && _)=false;simpa using m),⟨by simp,rfl⟩⟩
  rename_i N
  obtain⟨t,ht,h⟩:=Option.bind_eq_some_iff.1 h;have hn:=q.next u (by simpa using N);obtain⟨h1,o⟩:=G _ _ _ ht e hn.2
  split at h
  ·
   obtain⟨i,m⟩:=F _ _ _ _ _ h h1 (by simpa using hn.1) (by simp [hl]) (fun a q=>by grind);exact⟨i,o.trans m⟩
  obtain⟨i,m⟩:=F _ _ _ _ _ h h1 q hl hr;exact⟨i,o.trans m⟩
end
end Go.Rc

