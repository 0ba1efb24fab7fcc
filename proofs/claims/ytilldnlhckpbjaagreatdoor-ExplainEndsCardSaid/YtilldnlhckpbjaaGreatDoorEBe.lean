/- Base of the proof: frames, memory, ownership, and the plain meaning of rule systems. Conditions: as each lemma says. -/
import Derived.Test.YtilldnlhckpbjaaGreatDoorEBd
import Derived.Lib.IfaceEq
import Derived.Lib.BufferWrite
import Derived.Lib.UnsafeStr
import Derived.Laws.MakeOwn
import Derived.Test.YtilldnlhckpbjaaGreatDoorEBc
set_option linter.all false
namespace Go.Rc
open Go
theorem aK.xr{w w':World}(h:RowKit.Below w.heap.size w w') (b:w.drawn≤w'.drawn):aK [] w w':=⟨h.os,h.tape,h.output,h.size,b,fun k hk _=>h.block k hk⟩
theorem nE(w:World) (p:Addr) (n:Nat):(w.freeze p n).drawn=w.drawn:=by grind [World.freeze]
section
variable {P:Program}{n:Nat}{kv:KV}{w w':World}{K:KV→World→Prop}{d:Tmp}{ty:TypeId}{pos:String}{af:Array Edge}{g:Option (Nat × Bool)}{T U:TypeId}{op:Op}{v:Value}{x y:Operand}
theorem OX.val(b:aY op=false) (e:Nat.blt d n=true) (hk:known kv op=true) (hr:(execOp (gZ kv) ⟨some d,op,ty,pos,af,g⟩).run P w=.ok (.value v) w') (h:K ((d,v)::kv) w'):OX P ⟨some d,op,ty,pos,af,g⟩ n kv w K:=⟨b,e,hk,by rw [hr];exact h⟩
theorem PV.Ed{b:TypeDesc}(hT:P.underlying T=some b) (f:∀ms,b≠.interface ms) (e:ev kv x=some v):PV P (.makeInterface T x) ty kv w (.iface T v):=
 ⟨rfl,by simp [known,opers,e],fun _ _ _ _=>by
  simp only [execOp,aG e,Instr.makeInterface,Sem.run_bind,run_underlying hT,Result.andThen_ok]
  simp_all⟩
theorem PV.Kx{ms:Array (String × TypeId)}{e:TypeId}{q:IntKind}{a b:Int}(hT:P.underlying T=some (.interface ms)) (hc:(P.info? e).map (·.comparable)=some true) (i:P.underlying e=some (.int q)) (f:ev kv x=some (.iface e (.int .i64 a))) (hy:ev kv y=some (.iface e (.int .i64 b))):PV P (.binOp .eql T x y U) ty kv w (.bool (a == b)):=
 ⟨rfl,by simp [known,opers,f,hy],fun _ _ _ _=>by
  have h:=Lib.run_eql_iface_int w (k:=.i64) a b hT hc i;simp only [execOp,aG f,aG hy]
  simp [eqGuard,h]⟩
theorem OX.Pf{r:Value}(e:Nat.blt d n=true) {u v:Value}(b:ev kv x=some u) (hy:ev kv y=some v) (hr:(Instr.makeSlice T u v).run P w=.ok r w') (h:K ((d,r)::kv) w'):OX P ⟨some d,.makeSlice T x y,ty,pos,af,g⟩ n kv w K:=
 OX.val rfl e (by simp [known,opers,b,hy]) (by simp only [execOp,aG b,aG hy,Sem.run_bind,hr,Result.andThen_ok];rfl) h
theorem OX.Pg{r u v:Value}(e:Nat.blt d n=true) (b:ev kv x=some u) (hy:ev kv y=some v) (hr:(Builtin.copy_ #[T,U] ty #[u,v]).run P w=.ok r w') (h:K ((d,r)::kv) w'):OX P ⟨some d,.call {callee:=.builtin .copy,args:=#[x,y],argTypes:=#[T,U]},ty,pos,af,g⟩ n kv w K:=
 OX.val rfl e (by simp [known,opers,b,hy]) (by simp [execOp,aG b,aG hy,resolve,invoke,builtin,hr]) h
theorem OX.U8{r u v:Value}(e:Nat.blt d n=true) (b:ev kv x=some u) (hy:ev kv y=some v) (hr:(Builtin.unsafeString_ #[T,U] ty #[u,v]).run P w=.ok r w') (h:K ((d,r)::kv) w'):OX P ⟨some d,.call {callee:=.builtin .unsafeString,args:=#[x,y],argTypes:=#[T,U]},ty,pos,af,g⟩ n kv w K:=
 OX.val rfl e (by simp [known,opers,b,hy]) (by simp [execOp,aG b,aG hy,resolve,invoke,builtin,hr]) h
end
theorem vd{P:Program}{T S e pt it U9 Va:TypeId}{i:TypeInfo}(hT:P.underlying T=some (.slice e)) (hi:P.info? e=some i) (f:i.zero=some (.int .u8 0)) (h1:i.size=1) (hb:i.bytes=1) (q:P.underlying pt=some (.pointer e)) {s:ByteArray}(h0:s.size≠0) (J:s.size≤1000) (w:World) :
  ∃w1 w2 w3:World,(Instr.makeSlice T (.int .i64 (s.size:Int)) (.int .i64 (s.size:Int))).run P w=.ok (.slice (some ⟨w.heap.size,0,none⟩) s.size s.size) w1∧
   (Builtin.copy_ #[T,S] U9 #[.slice (some ⟨w.heap.size,0,none⟩) s.size s.size,.string s]).run P w1=.ok (goInt s.size) w2∧
   (Builtin.unsafeString_ #[pt,it] Va #[.pointer (some ⟨w.heap.size,0,none⟩),.int .i64 (s.size:Int)]).run P w2=.ok (.string s) w3∧aK [] w w3:=by
 have r:(P.info? e).map (·.size)=some 1:=by rw [hi];simp [h1]
 have t:P.cellsOf e=1:=by simp [Program.cellsOf,hi,h1]
 have L:(Lib.byteCells s.data.toList).length=s.size:=by rw [Lib.byteCells_length,← Lib.size_eq]
 have b:=run_make (P:=P) w T e i (.int .u8 0) hT hi f .i64 .i64 (s.size:Int) (s.size:Int) (by omega) (by omega) (by rw [hb];omega) (by omega)
 have u:(madeCells (Value.int .u8 0).cells (((s.size:Nat):Int).toNat*i.size)).size=s.size:=by rw [size_madeCells,h1];simp
 generalize madeCells (Value.int .u8 0).cells (((s.size:Nat):Int).toNat*i.size)=M at b u
 rw [Int.toNat_natCast] at b;have m:=Lib.run_copy_row_string (P:=P) (w.alloc (.cells M e)) T S U9 e w.heap.size 0 s.size s.size s M e hT r (heap_alloc_new w _) (Nat.le_refl _) (by omega)
 have F:(M.toList.take 0++Lib.byteCells s.data.toList++M.toList.drop (0+s.size)).toArray=(Lib.byteCells s.data.toList).toArray:=by grind
 rw [F] at m;have G:((w.alloc (.cells M e)).setRow w.heap.size (Lib.byteCells s.data.toList).toArray).heap[w.heap.size]?=some (.cells (Lib.byteCells s.data.toList).toArray e (0,0)):=setRow_heap _ _ M _ e (0,0) (heap_alloc_new w _);have H:s.data.toList≠[]:=fun h=>h0 (by rw [Lib.size_eq,h];rfl);have o:=Lib.run_unsafeString_row (P:=P) ((w.alloc (.cells M e)).setRow w.heap.size (Lib.byteCells s.data.toList).toArray) pt it Va e q t w.heap.size s.size (by grind [World.shape?]) s.data.toList H (by rw [← Lib.size_eq];omega) (by rw [← Lib.size_eq];omega)
  (fun j z f=>Lib.cells_of_row G s.size j _ (by grind [Lib.byteCells]))
 rw [← Lib.size_eq] at o;have I:RowKit.Below w.heap.size (w.alloc (.cells M e)) ((w.alloc (.cells M e)).setRow w.heap.size (Lib.byteCells s.data.toList).toArray):=⟨rfl,rfl,rfl,by simp [World.setRow],fun k hk=>setRow_other _ _ _ _ (by omega)⟩;refine⟨_,_,_,b,m,o,aK.xr (Lib.below_freeze (((RowKit.Below.refl _ w).alloc (Nat.le_refl _) _).trans I) (p:=⟨w.heap.size,0,none⟩) (Nat.le_refl _) _) ?_⟩;rw [nE];exact Nat.le_refl _
end Go.Rc

namespace Go.Rc
open Go
instance:Inhabited cj:=⟨⟨bO,⟨#[]⟩,0⟩⟩
def cW.row(x:cW) (a1:Option Addr) (n1 c1:Nat) (a2:Option Addr) (n2 c2:Nat):List Value:=[.int .i64 x.ad,.slice a1 n1 c1,.slice a2 n2 c2]
def fJ(rev:Int) (l:List cj) (i:Nat):Bool:=
 !el l[i]!.key || (!aw l[i]!.key || ((decide (0<(i:Int)) && decide (0≤bl l[i - 1]!.key l[i]!.key)) || (decide (1073741824<(l[i]!.value.size:Int)) || (decide (l[i]!.changed<0) || decide (rev<l[i]!.changed)))))
def ve(rev:Int) (l:List cj):Prop:=∀i y,l[i]?=some y→fJ rev l i=false
open Classical in
noncomputable def nF(l:List Rec):Bool:=decide (kT l)
theorem zo{l:List Rec}{b:Bool}(h:b=true↔kT l):b=nF l:=by
 unfold nF
 grind
def fR(x:cW):Prop:=ve x.ad x.ab∧(∀(i:Nat) (r:Rec),x.ah[i]?=some r→r.av≤x.ad)∧0≤x.ad∧x.ad≤1073741824∧x.ab.length≤64∧kT x.ah
noncomputable def jZ(x:cW):Bool:=decide (0≤x.ad) && (decide (x.ad≤1073741824) && (decide ((x.ab.length:Int)≤64) && nF x.ah))
theorem pg(x:cW):jZ x=true↔0≤x.ad∧x.ad≤1073741824∧x.ab.length≤64∧kT x.ah:=by
 simp only [jZ,nF,Bool.and_eq_true,decide_eq_true_eq]
 grind
theorem PV.qR{P:Program}{kv:KV}{w:World}{T ty:TypeId}{f off:Nat}{fs:List Field}{fd:Field}(hu:P.underlying T=some (.struct fs.toArray)) (b:fs[f]?=some fd) (e:fd.offset=off) (h1:∀w,(isAgg fd.type).run P w=.ok false w)
  {x:Operand}{us:List Value}{v:Value}(h:ev kv x=some (.agg us.toArray)) (i:nth us off=some v):PV P (.field T x f) ty kv w v:=
 PV.GU hu (by simpa using b) e h1 h (by rw [← qA];exact i)
end Go.Rc
namespace Go.Rc
open Go
def eP(k:Key):Prop:=k.kind<1∨22<k.kind
def bB(aa:List aD) (k:Key) (ai:List ByteArray):xk:=if k.kind=31∨k.kind=32 then ca aa k ai else ⟨true,⟨#[]⟩,bO⟩
def qv(n:Int):ByteArray:=if n=14 then ⟨#[48]⟩ else ⟨#[]⟩
def mK(k:Key):ByteArray:=if k.kind=32 then ⟨#[48]⟩ else if aB k then qv k.kind else ⟨#[]⟩
def eu(aa:List aD) (k:Key):Bool:=el k && ((decide (k.kind≠31) && decide (k.kind≠32)) || decide (aH aa (number k)=k))
def aF(l:List Rec) (k:Key):Rec:=(az l k).getD l8
def bD(l:List Rec) (rev:Int) (k:Key):Bool:=(az l k).isSome && (aB k && (decide ((aF l k).av<rev) && !(aF l k).bp))
def jh(x:cW) (k:Key):Bool:=aw k || ((az x.ah k).isSome && decide ((aF x.ah k).av=x.ad))
def nG(x:cW) (k:Key):ByteArray:=if aw k then (bs x.ab k).value else if jh x k then (aF x.ah k).value else ⟨#[]⟩
def di(x:cW) (k:Key) (v:ByteArray) (reads:List Key):Rec:=
 ⟨k,v,reads,if (az x.ah k).isSome && decide ((aF x.ah k).value=v) then (aF x.ah k).changed else x.ad,x.ad,1+(reads.length:Int),false⟩
end Go.Rc
namespace Go.Rc
open Go
open Classical in
noncomputable def fk(aa:List aD) (x:cW) (goals:List Key):Int:=
 if ¬ao aa then 41 else if ¬fR x then 42 else if 32<goals.length then 3 else if goals.all (eu aa) then 0 else 40
end Go.Rc
namespace Go.Rc
open Go
structure ph where
 eQ:Key
 read:Key
 deriving DecidableEq
def ph.cells(x:ph):List Value:=[.int .i64 x.eQ.kind,.string x.eQ.text,.int .i64 x.read.kind,.string x.read.text]
def ct(group:List Key) (m:Key) (l:List Key):List ph:=(l.filter fun x=>!decide (x∈group)).map fun x=>⟨m,x⟩
def bP(l:List Rec) (group:List Key):List ph:=group.flatMap fun m=>ct group m (aF l m).reads
theorem gI{group:List Key}{m:Key}{l:List Key}{j:Nat}(h:j<l.length):ct group m (l.take (j+1))=if l[j]∈group then ct group m (l.take j) else ct group m (l.take j)++[⟨m,l[j]⟩]:=by
 rw [List.take_succ_eq_append_getElem h];simp only [ct,List.filter_append,List.map_append]
 grind
theorem ig(group:List Key) (m:Key) (l:List Key):(ct group m l).length≤l.length:=by grind [ct]
end Go.Rc
namespace Go.Rc
end Go.Rc

namespace Go.Rc
open Go
variable {E EK ER EI ES EF base:Nat}{w w':World}{a:Option Addr}{n c:Nat}{S:List Nat}
/-! the plain meaning -/
end Go.Rc
namespace Go.Rc
open Go
variable {EA ERu:Nat}{w w':World}{a:Option Addr}{n c base:Nat}{S:List Nat}
end Go.Rc

namespace Go.Rc
open Go
def RR.key:RR Key:=RR.flat Key.cells
def RR.str:RR ByteArray:=RR.flat fun s=>[.string s]
def RR.ask:RR Ask:=RR.flat Ask.cells
def RR.aA:RR cj:=RR.flat cj.cells
def RR.I8:RR ph:=RR.flat ph.cells
def RR.int:RR Int:=RR.flat fun n=>[.int .i64 n]
def RR.eF:RR aD where
 r Z w x row:=wZ Z w x row
 mono hZ h:=by obtain⟨a,n,c,h1,h2⟩:=h;exact⟨a,n,c,h1,h2.mono (fun b hb _=>hZ b hb) fun _ _ h=>h⟩
 st hs hc h:=by obtain⟨a,n,c,h1,h2⟩:=h;exact⟨a,n,c,h1,SR.st hs hc (fun _ _ h=>h) h2⟩
 cut h:=by obtain⟨a,n,c,h1,h2⟩:=h;exact⟨a,n,c,h1,h2.mono (fun b hb tU=>⟨hb,tU⟩) fun _ _ h=>h⟩
def RR.fl:RR Rec where
 r Z w x row:=∃a n c,row=x.row a n c∧Rd RR.key 2 Z w a n c x.reads∧x.reads.length≤4000
 mono hZ h:=by obtain⟨a,n,c,h1,h2,h3⟩:=h;exact⟨a,n,c,h1,h2.mono hZ,h3⟩
 st hs hc h:=by obtain⟨a,n,c,h1,h2,h3⟩:=h;exact⟨a,n,c,h1,h2.st hs hc,h3⟩
 cut h:=by grind [Rd.cut]
end Go.Rc

namespace Go.Rc
open Go
/-! ### numbers and their texts -/
theorem qS:∀(u:Nat) (n:Nat) (rest:List UInt8),decFrom (Lib.decDigits u++rest) (n:Int)=decFrom rest ((n*10 ^ Lib.nDigits u+u:Nat):Int):=by
 intro u
 induction u using Nat.strongRecOn with
 | _ u b=>
  intro n rest
  by_cases h:u<10
  ·
   rw [Lib.decDigits_one h,Lib.nDigits_small h]
   have e:(UInt8.ofNat (48+u)).toNat=48+u:=by rw [UInt8.toNat_ofNat'];omega
   simp only [List.cons_append,List.nil_append,decFrom,e]
   grind
  rw [Lib.decDigits,dif_neg h,Lib.nDigits_big h,List.append_assoc,b (u / 10) (by omega)]
  have e:(UInt8.ofNat (48+u % 10)).toNat=48+u % 10:=by rw [UInt8.toNat_ofNat'];omega
  simp only [List.cons_append,List.nil_append,decFrom,e]
  grind
theorem qT:∀u:Nat,∃d r,Lib.decDigits u=d::r∧(0<u→d≠48):=by
 intro u
 induction u using Nat.strongRecOn with
 | _ u b=>
  by_cases h:u<10
  ·
   refine⟨_,[],Lib.decDigits_one h,fun hu e=>?_⟩
   have:=congrArg UInt8.toNat e
   rw [UInt8.toNat_ofNat'] at this
   grind
  obtain⟨d,r,h1,f⟩:=b (u / 10) (by omega);exact⟨d,r++[UInt8.ofNat (48+u % 10)],by rw [Lib.decDigits,dif_neg h,h1];rfl,fun _=>f (by omega)⟩
theorem qU:∀(k u:Nat),u<10 ^ (k+1)→Lib.nDigits u≤k+1
 | 0,u,h=>by grind [Lib.nDigits_small]
 | k+1,u,h=>by
  by_cases h1:u<10
  ·
   rw [Lib.nDigits_small h1];omega
  rw [Lib.nDigits_big h1]
  have:=qU k (u / 10) (by rw [Nat.pow_succ] at h;omega)
  omega
theorem ij{n:Nat}(h:n<1000000000):cY (itoa (n:Int))=n:=by
 have e:Lib.itoa (n:Int)=Lib.decDigits n:=by unfold Lib.itoa;rw [if_neg (by omega)];rfl
 have hl:(Lib.decDigits n).length≤9:=by rw [Lib.decDigits_length];exact qU 8 n h
 have o:1≤(Lib.decDigits n).length:=by grind [Lib.decDigits_length,Lib.nDigits_pos]
 have f:(itoa (n:Int)).size=(Lib.decDigits n).length:=by grind [itoa,ByteArray.size]
 have b:(itoa (n:Int)).data.toList=Lib.decDigits n:=by unfold itoa;rw [e]
 unfold cY
 rw [if_neg]
 ·
  rw [b,← List.append_nil (Lib.decDigits n)]
  have:=qS n 0 []
  simp only [Nat.zero_mul,Nat.zero_add] at this;exact this
 rw [f,b];rintro(h1 | h1 | ⟨h1,p⟩)
 ·
  omega
 ·
  omega
 obtain⟨d,r,i,m⟩:=qT n;rw [i] at h1
 simp at h1
 by_cases h0:0<n
 ·
  exact m h0 h1
 grind [Lib.decDigits_one]
theorem dV{n:Nat}(h:n≤65535):cc (itoa (n:Int))=n:=by
 unfold cc
 rw [ij (by omega),if_neg (by omega)]
 rfl
theorem xt{m n:Nat}(hm:m<1000000000) (hn:n<1000000000) (h:itoa (m:Int)=itoa (n:Int)):m=n:=by grind [ij]
/-! ### keys -/
theorem bG{aa:List aD}{i:Nat}(hi:i<aa.length) (gq:i≤99):number (aH aa (i:Int))=i:=by
 have hk:aH aa (i:Int)=⟨if ax aa i then 32 else 31,itoa i⟩:=by unfold aH;rw [if_neg (by omega)];rfl
 rw [hk]
 unfold number
 simp only
 rw [ij (by omega),if_pos]
 split <;> omega
theorem dA{aa:List aD}{i:Nat}(hi:i<aa.length) (gq:i≤99):(aH aa (i:Int)).kind=if ax aa i then 32 else 31:=by
 unfold aH;rw [if_neg (by omega)];rfl
theorem bX{aa:List aD}{i:Nat}(hi:i<aa.length) (gq:i≤99):aw (aH aa (i:Int))=false:=by grind [aw,dA]
theorem aN{n:Nat}(h:n≤99):aw (bz (n:Int))=true:=by
 unfold aw bz;rw [if_neg (by omega)];simp
theorem bd{aa:List aD}{i:Nat}(hi:i<aa.length) (gq:i≤99):aB (aH aa (i:Int))=ax aa i:=by grind [aB,dA]
theorem iB{n:Nat}(h:n≤99):aB (bz (n:Int))=false:=by
 unfold aB bz;rw [if_neg (by omega)];simp
inductive eB (aa:List aD):Key→Prop where
 | cell {n:Nat}(h:n≤99):eB aa (bz (n:Int))
 | eF {i:Nat}(h:i<aa.length) (gq:i≤99):eB aa (aH aa (i:Int))
/-! ### values -/
def cellOf(aA:List cj) (k:Key):ByteArray:=(bs aA k).value
def dG(turn:List ByteArray→xk) (gx:Key→ByteArray):Nat→List Key × List ByteArray
 | 0=>([],[])
 | n+1=>((dG turn gx n).1++[(turn (dG turn gx n).2).ask],(dG turn gx n).2++[gx (turn (dG turn gx n).2).ask])
def Ee(aA:List cj) (prev:List ByteArray) (k:Key):ByteArray:=if aw k then cellOf aA k else prev.getD (number k).toNat ⟨#[]⟩
def cy(aa:List aD) (i:Nat):Nat:=(aa[i]?.map (·.asks.length)).getD 0
def bw(aa:List aD) (x:Ask):Key:=if x.cell then bz x.n else aH aa x.n
def eC(aa:List aD) (i j:Nat):Prop:=∃r x,aa[i]?=some r∧r.ring=true∧x∈r.asks∧x.cell=false∧x.n=(j:Int)∧ax aa j=true
inductive cv (aa:List aD) (i:Nat):Nat→Prop where
 | refl:cv aa i i
 | step {j k:Nat}:cv aa i j→eC aa j k→cv aa i k
def outside(aa:List aD) (x:Ask):Bool:=x.cell || !ax aa x.n.toNat
def iV(aa:List aD) (gx:Key→ByteArray) (j:Nat):Nat:=
 match aa[j]? with
 | some r=>dQ r.c.toNat ((r.asks.filter (outside aa)).map fun x=>cc (gx (bw aa x)))
 | none=>0
open Classical in
noncomputable def ofBits(P:Nat→Prop):Nat→Nat
 | 0=>0
 | n+1=>ofBits P n ||| (if P n then 2 ^ n else 0)
theorem Cm(P:Nat→Prop):∀n,ofBits P n<2 ^ n:=by
 intro n
 induction n with
 | zero=>simp [ofBits]
 | succ n b=>
  unfold ofBits
  refine Nat.or_lt_two_pow (Nat.lt_of_lt_of_le b (Nat.pow_le_pow_right (by omega) (by omega))) ?_
  grind
theorem zp(P:Nat→Prop):∀n b,(ofBits P n).testBit b=true↔b<n∧P b:=by
 intro n
 induction n with
 | zero=>intro b;simp [ofBits]
 | succ n e=>
  intro b
  unfold ofBits
  grind
noncomputable def qV(aa:List aD) (gx:Key→ByteArray) (i:Nat):Nat:=ofBits (fun b=>∃j,cv aa i j∧(iV aa gx j).testBit b=true) 16
noncomputable def nH(aa:List aD) (aA:List cj) (prev:List ByteArray) (i:Nat):ByteArray:=
 if ax aa i then itoa (qV aa (Ee aA prev) i:Int)
 else (ca aa (aH aa (i:Int)) (dG (ca aa (aH aa (i:Int))) (Ee aA prev) (cy aa i)).2).value
noncomputable def aV(aa:List aD) (aA:List cj):Nat→List ByteArray
 | 0=>[]
 | n+1=>aV aa aA n++[nH aa aA (aV aa aA n) n]
noncomputable def pW(aa:List aD) (aA:List cj) (i:Nat):ByteArray:=nH aa aA (aV aa aA i) i
noncomputable def valOf(aa:List aD) (aA:List cj) (k:Key):ByteArray:=if aw k then cellOf aA k else pW aa aA (number k).toNat
section
variable {aa:List aD}{aA:List cj}
theorem Ef:∀n,(aV aa aA n).length=n:=by
 intro n;induction n with
 | zero=>rfl
 | succ n b=>simp [aV,b]
theorem Eg:∀n m,m<n→(aV aa aA n).getD m ⟨#[]⟩=pW aa aA m:=by
 intro n
 induction n with
 | zero=>intro m h;omega
 | succ n b=>grind [aV,Ef,pW]
theorem tX{n:Nat}{k:Key}(h:aw k=true∨(number k).toNat<n):Ee aA (aV aa aA n) k=valOf aa aA k:=by
 unfold Ee valOf
 by_cases hi:aw k=true
 ·
  rw [if_pos hi,if_pos hi]
 rw [if_neg hi,if_neg hi,Eg]
 grind
theorem ed(turn:List ByteArray→xk) (gx:Key→ByteArray):∀n,(dG turn gx n).1.length=n∧(dG turn gx n).2.length=n:=by
 intro n;induction n with
 | zero=>simp [dG]
 | succ n b=>simp [dG,b.1,b.2]
theorem qW{turn:List ByteArray→xk}{gx b:Key→ByteArray}:∀n,(∀m,m<n→gx (turn (dG turn gx m).2).ask=b (turn (dG turn gx m).2).ask)→dG turn gx n=dG turn b n:=by
 intro n
 induction n with
 | zero=>intro _;rfl
 | succ n e=>grind [dG]
end
/-! ### what valid rules ask for -/
section
variable {aa:List aD}{aA:List cj}
theorem ew(l:List aD):∀k,ba l k≤k:=by
 intro k;induction k with
 | zero=>simp [ba]
 | succ k b=>unfold ba;split <;> omega
theorem tY(l:List aD) {m:Nat}(h:m≤l.length):cU l m≤l.length:=by grind [cU,List.takeWhile_sublist]
theorem xu{i:Nat}(hi:i<aa.length):block aa (i:Int)=if ax aa i then ((ba aa i:Int),(cU aa (i+1):Int)) else ((i:Int),(i:Int)+1):=by
 unfold block;rw [if_neg (by omega)];rfl
theorem mL{i j:Nat}(hi:ax aa i=true) (h1:ba aa i≤j) (e:j<cU aa (i+1)):ax aa j=true:=by
 have f:∀k,ba aa k≤j→j<k→ax aa j=true:=by
  intro k
  induction k with
  | zero=>intro _ h;omega
  | succ k t=>
   intro o u
   unfold ba at o
   grind
 rcases Nat.lt_trichotomy j i with h | h | h
 ·
  exact f i h1 h
 ·
  rw [h];exact hi
 have key:∀(l:List aD) (m j:Nat),m≤j→j<m+((l.drop m).takeWhile (·.ring)).length→ax l j=true:=by
  intro l m j hm z
  have b:j - m<((l.drop m).takeWhile (·.ring)).length:=by omega
  have q:=List.getElem_mem b;have hr:=List.all_eq_true.1 (List.all_takeWhile (p:=fun x:aD=>x.ring) (l:=l.drop m)) _ q;have r:((l.drop m).takeWhile (·.ring)) <+: l.drop m:=List.takeWhile_prefix _;have F:=r.getElem b
  grind [bE]
 exact key aa (i+1) j (by omega) e
theorem jE{i:Nat}(hi:i<aa.length) (hlen:aa.length≤24) {c:Bool}{n:Int}(h:eT aa i c n=true) :
  ∃m:Nat,n=m∧if c then m≤15 else m<aa.length∧(ax aa m=true∧ax aa i=true∨m<i)∧(ax aa i=false→m<i)∧(ax aa m=false→m<i):=by
 unfold eT at h
 cases c
 ·
  simp only [Bool.false_eq_true,if_false,Bool.and_eq_true,decide_eq_true_eq] at h ⊢;obtain⟨m,rfl⟩:∃m:Nat,n=m:=⟨n.toNat,by omega⟩;refine⟨m,rfl,?_⟩;have b:=h.2
  unfold ep at b
  rw [xu hi] at b
  by_cases hr:ax aa i=true
  ·
   rw [if_pos hr] at b;simp only [hr,if_true] at b
   have f:m<cU aa (i+1):=by omega
   have o:=tY aa (show i+1≤aa.length by omega);refine⟨by omega,?_,(fun h=>by rw [hr] at h;cases h),?_⟩
   ·
    by_cases e:m<i
    ·
     exact .inr e
    grind [mL,ew]
   grind [mL,ew]
  grind
 simp only [if_true,Bool.and_eq_true,decide_eq_true_eq] at h ⊢;exact⟨n.toNat,by omega,by omega⟩
end
end Go.Rc

namespace Go.Rc
open Go
section
variable {aa:List aD}{aA:List cj}
theorem ao.len(h:ao aa):aa.length≤24:=h.1
theorem ao.at(h:ao aa) {i:Nat}(hi:i<aa.length):jU aa i aa[i]:=h.2 i _ (ae hi)
theorem dB{i:Nat}(hi:i<aa.length):cy aa i=aa[i].asks.length:=by grind [cy]
theorem zq{m lo:Nat}(h1:lo≤m) (h:∀j,lo≤j→j<m→ax aa j=true):ba aa m≤lo:=by
 induction m with
 | zero=>simp [ba]
 | succ m b=>
  by_cases e:lo=m+1
  ·
   rw [e];exact ew _ _
  unfold ba
  grind
theorem nI(_hR:ao aa) {i:Nat}(hi:i<aa.length) (hr:ax aa i=true) {m:Nat}(h:eT aa i false (m:Int)=true) :
  m<aa.length∧(ax aa m=true→ba aa m≤ba aa i)∧(ax aa m=false→m<ba aa i):=by
 unfold eT at h
 simp only [Bool.false_eq_true,if_false,Bool.and_eq_true,decide_eq_true_eq] at h;have b:=h.2
 unfold ep at b
 rw [xu hi,if_pos hr] at b;simp only [hr,if_true] at b
 grind [tY,zq,mL]
def dJ(aa:List aD) (i:Nat) (k:Key):Prop:=
 (∃n:Nat,n≤15∧k=bz (n:Int))∨
 (∃m:Nat,m<aa.length∧k=aH aa (m:Int)∧(ax aa m=true∧ax aa i=true∨m<i)∧(ax aa i=false→m<i)∧(ax aa m=false→m<i)∧(ax aa m=false→ax aa i=true→m<ba aa i))
theorem Br(e:ao aa) {i:Nat}(hi:i<aa.length) {c:Bool}{n:Int}(h:eT aa i c n=true):dJ aa i (if c then bz n else aH aa n):=by
 obtain⟨m,rfl,b⟩:=jE hi e.len h
 cases c
 ·
  exact .inr ⟨m,b.1,rfl,b.2.1,b.2.2.1,b.2.2.2,fun f o=>(nI e hi o h).2.2 f⟩
 exact .inl ⟨m,b,rfl⟩
theorem dJ.vf(b:ao aa) {i:Nat}{k:Key}(h:dJ aa i k):eB aa k:=by
 have:=b.len
 rcases h with⟨n,h1,rfl⟩ | ⟨m,h1,rfl,_⟩
 ·
  exact .cell (by omega)
 exact .eF h1 (by omega)
theorem Ky(e:ao aa) {i n:Nat}(hi:i<aa.length) (hn:n<aa[i].asks.length) (ai:List ByteArray) (hl:ai.length=n) :
  dJ aa i (if aa[i].asks[n].cell then bz (mH aa[i].asks[n] ai) else aH aa (mH aa[i].asks[n] ai)):=by
 obtain⟨_,h,_⟩:=e.at hi;have b:=h n _ (ae hn)
 unfold dY at b
 rw [Bool.and_eq_true] at b
 unfold mH
 by_cases f:dX aa[i].asks[n] ai=true
 ·
  rw [if_pos f]
  have m:aa[i].asks[n].pick=true:=by grind [dX]
  rw [m] at b;simp only [if_true,Bool.and_eq_true] at b;exact Br e hi b.2.2
 rw [if_neg f];exact Br e hi b.1
theorem da(b:ao aa) {i:Nat}(hi:i<aa.length) {ai:List ByteArray}(hn:ai.length<cy aa i) :
  ∃a,ca aa (aH aa (i:Int)) ai=⟨false,⟨#[]⟩,a⟩∧dJ aa i a∧(ax aa i=true→∃x,aa[i].asks[ai.length]?=some x∧a=bw aa x):=by
 have h:=b.len;rw [dB hi] at hn;have hk:=bG hi (by omega:i≤99);refine⟨_,jB hk hi (by rw [hk]) hn,Ky b hi hn ai rfl,fun hr=>⟨_,ae hn,?_⟩⟩;obtain⟨_,f,_⟩:=b.at hi;have e:=f _ _ (ae hn)
 unfold dY at e
 rw [Bool.and_eq_true] at e
 grind [bE,bw,mH,dX]
theorem eU(b:ao aa) {i:Nat}(hi:i<aa.length) {ai:List ByteArray}(hn:ai.length=cy aa i) :
  ca aa (aH aa (i:Int)) ai=⟨true,itoa (cV aa[i].final aa[i].c.toNat (ai.map cc)),bO⟩:=by grind [ao.len,dB,bG,jA]
theorem iC(b:ao aa) {i:Nat}(hi:i<aa.length):cy aa i≤6:=by rw [dB hi];exact(b.at hi).1
theorem nJ(b:ao aa) {i:Nat}{k:Key}(h:dJ aa i k) (hr:ax aa i=false∨aB k=false):aw k=true∨(number k).toNat<i:=by
 have e:=b.len
 rcases h with⟨n,h1,rfl⟩ | ⟨m,h1,rfl,f,o,p,_⟩
 ·
  grind [aN]
 grind [bG,bd]
theorem Co(b:ao aa) {i:Nat}(hi:i<aa.length) (hr:ax aa i=false) :
  ca aa (aH aa (i:Int)) (dG (ca aa (aH aa (i:Int))) (valOf aa aA) (cy aa i)).2=⟨true,pW aa aA i,bO⟩:=by
 have h:pW aa aA i=(ca aa (aH aa (i:Int)) (dG (ca aa (aH aa (i:Int))) (valOf aa aA) (cy aa i)).2).value:=by
  unfold pW nH
  rw [if_neg (by simp [hr])]
  grind [qW,da,ed,tX,nJ]
 grind [eU,ed]
/-! rings -/
theorem iy(b:ao aa) {i:Nat}(hi:i<aa.length) (_hr:ax aa i=true) {x:Ask}(e:x∈aa[i].asks):eT aa i x.cell x.n=true:=by
 obtain⟨k,hk,rfl⟩:=List.mem_iff_getElem.1 e
 have:=(b.at hi).2.1 k _ (ae hk)
 unfold dY at this
 grind
theorem eC.lt{i j:Nat}(h:eC aa i j):i<aa.length∧j<aa.length∧ax aa i=true∧ax aa j=true:=by
 obtain⟨r,x,h1,b,_,_,_,e⟩:=h
 grind [jR,bE]
theorem gz{i j:Nat}(hi:i<aa.length) (hr:ax aa i=true) (h:cv aa i j):j<aa.length∧ax aa j=true:=by
 induction h with
 | refl=>exact⟨hi,hr⟩
 | step _ b _=>exact⟨b.lt.2.1,b.lt.2.2.2⟩
theorem iD(e:ao aa) {i j:Nat}(h:cv aa i j):ba aa j≤ba aa i:=by
 induction h with
 | refl=>exact Nat.le_refl _
 | step h1 b f=>
  have hl:=b.lt;obtain⟨r,x,m,o,p,q,t,u⟩:=b
  grind [iy,nI]
theorem cv.head{i j k:Nat}(h:eC aa i j) (b:cv aa j k):cv aa i k:=by
 induction b with
 | refl=>exact .step .refl h
 | step _ e f=>exact .step f e
theorem cv.cases{i k:Nat}(h:cv aa i k):k=i∨∃j,eC aa i j∧cv aa j k:=by
 induction h with
 | refl=>exact .inl rfl
 | step h1 b e=>
  right
  rcases e with rfl | ⟨j,f,m⟩
  ·
   exact⟨_,b,.refl⟩
  exact⟨j,f,.step m b⟩
theorem jF:∀(l:List Nat) (c b:Nat),(dQ c l).testBit b=true↔c.testBit b=true∨∃x∈l,x.testBit b=true:=by
 intro l
 induction l with
 | nil=>intro c b;simp [dQ]
 | cons x r e=>
  intro c b
  have:=e (c ||| x) b
  simp only [dQ,List.foldl_cons] at this ⊢
  grind
theorem qX(b:ao aa) {i:Nat}(hi:i<aa.length) (hr:ax aa i=true):aa[i].final=5∧aa[i].c.toNat≤65535:=by
 have h:=(b.at hi).2.2
 grind [fB,bE]
theorem tZ{n b:Nat}(h:n≤65535) (hb:n.testBit b=true):b<16:=by
 rcases Nat.lt_or_ge b 16 with h1 | h1
 ·
  exact h1
 have:=Nat.ge_two_pow_of_testBit hb
 have e:2 ^ 16≤2 ^ b:=Nat.pow_le_pow_right (by omega) h1
 omega
theorem dW{gx:Key→ByteArray}{i:Nat}(hi:i<aa.length) (b:Nat) :
  (iV aa gx i).testBit b=true↔aa[i].c.toNat.testBit b=true∨∃x∈aa[i].asks,outside aa x=true∧(cc (gx (bw aa x))).testBit b=true:=by
 unfold iV
 rw [ae hi];simp only [jF,List.mem_map,List.mem_filter]
 grind
theorem Eh(e:ao aa) {gx:Key→ByteArray}{i:Nat}(hi:i<aa.length) (hr:ax aa i=true) {b:Nat}(h:(iV aa gx i).testBit b=true):b<16:=by
 rcases(dW hi b).1 h with h1 | ⟨x,_,_,h1⟩
 ·
  exact tZ (qX e hi hr).2 h1
 exact tZ (iU _) h1
theorem dq(m:ao aa) {gx:Key→ByteArray}{i:Nat}(hi:i<aa.length) (hr:ax aa i=true) (b:Nat) :
  (qV aa gx i).testBit b=true↔∃j,cv aa i j∧(iV aa gx j).testBit b=true:=by
 unfold qV
 rw [zp]
 constructor
 ·
  exact fun h=>h.2
 rintro⟨j,h1,e⟩;have f:=gz hi hr h1;exact⟨Eh m f.1 f.2 e,j,h1,e⟩
theorem xv{gx:Key→ByteArray}(i:Nat):qV aa gx i≤65535:=by
 have:=Cm (fun b=>∃j,cv aa i j∧(iV aa gx j).testBit b=true) 16
 unfold qV;omega
noncomputable def rv(aa:List aD) (aA:List cj) (i:Nat):Nat:=qV aa (valOf aa aA) i
theorem vg(e:ao aa) {i:Nat}(hi:i<aa.length) (hr:ax aa i=true) {x:Ask}(h:x∈aa[i].asks) (f:outside aa x=true):aw (bw aa x)=true∨(number (bw aa x)).toNat<ba aa i:=by
 have o:=e.len;have hm:=iy e hi hr h;obtain⟨m,h1,b⟩:=jE hi e.len hm
 unfold bw
 unfold outside at f
 cases hc:x.cell
 ·
  rw [hc] at hm f b
  right
  simp only [Bool.false_eq_true,if_false] at b ⊢
  grind [bG,nI]
 left
 rw [hc] at b;simp only [if_true] at b ⊢
 grind [aN]
theorem fS(e:ao aa) {i:Nat}(hi:i<aa.length) (hr:ax aa i=true):pW aa aA i=itoa (rv aa aA i:Int):=by
 unfold pW nH rv
 rw [if_pos hr]
 congr 2
 refine Nat.eq_of_testBit_eq fun b=>?_;rw [Bool.eq_iff_iff,dq e hi hr,dq e hi hr]
 have key:∀j,cv aa i j→((iV aa (Ee aA (aV aa aA i)) j).testBit b=true↔(iV aa (valOf aa aA) j).testBit b=true):=by
  intro j h;have f:=gz hi hr h;have m:=iD e h;have hle:=ew aa i;rw [dW f.1,dW f.1];refine or_congr_right (exists_congr fun x=>and_congr_right fun o=>and_congr_right fun p=>?_);rw [tX]
  grind [vg]
 grind
theorem fx(b:ao aa) {i:Nat}(hi:i<aa.length):valOf aa aA (aH aa (i:Int))=pW aa aA i:=by
 have e:=b.len
 unfold valOf
 rw [if_neg (by grind [bX]),bG hi (by omega)]
 rfl
theorem kY{n:Nat}(h:n≤99):valOf aa aA (bz (n:Int))=cellOf aA (bz (n:Int)):=by
 unfold valOf;rw [if_pos (aN h)]
def lH(aa:List aD) (gx:Key→ByteArray) (i:Nat):List Nat:=((aa[i]?.map (·.asks)).getD []).map fun x=>cc (gx (bw aa x))
theorem Cp(b:ao aa) {i:Nat}(hi:i<aa.length) (hr:ax aa i=true) (gx:Key→ByteArray):∀n,n≤aa[i].asks.length→
  dG (ca aa (aH aa (i:Int))) gx n=((aa[i].asks.take n).map (bw aa),(aa[i].asks.take n).map fun x=>gx (bw aa x)):=by
 intro n
 induction n with
 | zero=>intro _;simp [dG]
 | succ n f=>
  intro hn;have e:=f (by omega);simp only [dG]
  have hlen:((aa[i].asks.take n).map fun x=>gx (bw aa x)).length=n:=by simp;omega
  obtain⟨a,h1,_,h⟩:=da b hi (ai:=(aa[i].asks.take n).map fun x=>gx (bw aa x)) (by rw [hlen,dB hi];omega)
  grind [List.take_succ_eq_append_getElem]
theorem Cq(b:ao aa) {i:Nat}(hi:i<aa.length) (hr:ax aa i=true) (gx:Key→ByteArray) :
  ca aa (aH aa (i:Int)) (dG (ca aa (aH aa (i:Int))) gx (cy aa i)).2=⟨true,itoa (dQ aa[i].c.toNat (lH aa gx i):Int),bO⟩:=by
 rw [eU b hi ((ed _ _ _).2),Cp b hi hr gx _ (by rw [dB hi];exact Nat.le_refl _),(qX b hi hr).1,dB hi]
 unfold lH
 rw [ae hi];simp only [List.take_length,List.map_map,Option.map_some,Option.getD_some]
 rfl
theorem pj{gx:Key→ByteArray}{i:Nat}(hi:i<aa.length) (b:Nat) :
  (dQ aa[i].c.toNat (lH aa gx i)).testBit b=true↔(iV aa gx i).testBit b=true∨∃x∈aa[i].asks,outside aa x=false∧(cc (gx (bw aa x))).testBit b=true:=by
 rw [jF,dW hi]
 unfold lH
 grind
theorem fK(f:ao aa) {i:Nat}(hi:i<aa.length) (hr:ax aa i=true) {x:Ask}(h:x∈aa[i].asks) (b:outside aa x=false):∃j:Nat,eC aa i j∧bw aa x=aH aa (j:Int)∧j<aa.length:=by
 have hm:=iy f hi hr h
 unfold outside at b
 rw [Bool.or_eq_false_iff] at b;obtain⟨m,h1,e⟩:=jE hi f.len hm;rw [b.1] at e;simp only [Bool.false_eq_true,if_false] at e
 have o:ax aa m=true:=by grind
 refine⟨m,⟨_,x,ae hi,by rw [← bE hi];exact hr,h,b.1,h1,o⟩,?_,e.1⟩
 grind [bw]
theorem mM{i j:Nat}(hi:i<aa.length) (h:eC aa i j):∃x∈aa[i].asks,outside aa x=false∧bw aa x=aH aa (j:Int):=by
 obtain⟨r,x,h1,_,b,e,f,m⟩:=h
 grind [outside,bw]
theorem Kz(f:ao aa) {i:Nat}(hi:i<aa.length) (hr:ax aa i=true):dQ aa[i].c.toNat (lH aa (valOf aa aA) i)=rv aa aA i:=by
 refine Nat.eq_of_testBit_eq fun b=>?_;rw [Bool.eq_iff_iff,pj hi]
 unfold rv
 rw [dq f hi hr]
 have t:∀j,j<aa.length→ax aa j=true→cc (valOf aa aA (aH aa (j:Int)))=qV aa (valOf aa aA) j:=fun j u z=>by
  rw [fx f u,fS f u z];exact dV (xv j)
 constructor
 ·
  rintro(h | ⟨x,h1,o,e⟩)
  ·
   exact⟨i,.refl,h⟩
  obtain⟨j,m,q,p⟩:=fK f hi hr h1 o;rw [q,t j p m.lt.2.2.2,dq f p m.lt.2.2.2] at e;obtain⟨k,r,F⟩:=e;exact⟨k,.head m r,F⟩
 rintro⟨k,h1,o⟩
 rcases h1.cases with rfl | ⟨j,e,m⟩
 ·
  exact .inl o
 right
 obtain⟨x,q,p,r⟩:=mM hi e;refine⟨x,q,p,?_⟩;rw [r,t j e.lt.2.1 e.lt.2.2.2,dq f e.lt.2.1 e.lt.2.2.2];exact⟨k,m,o⟩
theorem Ei(m:ao aa) {i:Nat}(hi:i<aa.length) (hr:ax aa i=true) (v:Nat→Nat)
  (h1:∀j b,cv aa i j→(iV aa (valOf aa aA) j).testBit b=true→(v j).testBit b=true)
  (o:∀j k b,cv aa i j→eC aa j k→(v k).testBit b=true→(v j).testBit b=true) (b:Nat) (hb:(rv aa aA i).testBit b=true):(v i).testBit b=true:=by
 unfold rv at hb
 rw [dq m hi hr] at hb;obtain⟨j,e,f⟩:=hb;have h:=h1 j b e f
 clear f
 induction e with
 | refl=>exact h
 | step p q r=>exact r (o _ _ b p q h)
theorem fL(b:ao aa) {i:Nat}(hi:i<aa.length) :
  ca aa (aH aa (i:Int)) (dG (ca aa (aH aa (i:Int))) (valOf aa aA) (cy aa i)).2=⟨true,valOf aa aA (aH aa (i:Int)),bO⟩:=by grind [fx,Co,Cq,Kz,fS]
end
end Go.Rc

namespace Go.Rc
open Go
structure FZ where
 p:(Nat→Prop)→World→Prop
 mono:∀{Z Z':Nat→Prop}{w},(∀x,Z x→Z' x)→p Z w→p Z' w
 st:∀{Z:Nat→Prop}{w w':World},w.heap.size≤w'.heap.size→(∀x,Z x→x<w.heap.size→w'.heap[x]?=w.heap[x]?)→p Z w→p Z w'
def FZ.rd{α:Type}(R:RR α) (k:Nat) (a:Option Addr) (n c:Nat) (xs:List α):FZ:=⟨fun Z w=>Rd R k Z w a n c xs,fun h=>Rd.mono h,fun h1 h2=>Rd.st h1 h2⟩
def FZ.and(F G:FZ):FZ:=⟨fun Z w=>F.p Z w∧G.p Z w,fun h ⟨a,b⟩=>⟨F.mono h a,G.mono h b⟩,fun h1 h2 ⟨a,b⟩=>⟨F.st h1 h2 a,G.st h1 h2 b⟩⟩
def FZ.Ej(P:Program):FZ where
 p Z w:=jM P Z w
 mono h:=fun h1=>h1.of h (Nat.le_refl _) fun _ _ _=>rfl
 st h1 h2:=fun h=>h.of (fun _ h=>h) h1 h2
def As.fz(F:FZ):As where
 fp _:=False
 ok Z w:=F.p Z w
 lt _ _ hx:=hx.elim
 mono h:=F.mono h
 st h1 h2:=F.st h1 fun x hx=>h2 x (.inr hx)
theorem As.gf{F:FZ}{Z:Nat→Prop}{w:World}(h:(As.fz F).ok Z w):F.p Z w:=h
structure SD where
 (ar a1 a2:Option Addr) (r cr n1 c1 n2 c2 m q s:Nat)
def SD.F(D:SD) (P:Program) (aa:List aD) (x:cW):FZ:=
 .and (.rd RR.eF 4 D.ar D.r D.cr aa) (.and (.rd RR.aA 4 D.a1 D.n1 D.c1 x.ab) (.and (.rd RR.fl 8 D.a2 D.n2 D.c2 x.ah) (.Ej P)))
def SD.cells(D:SD) (x:cW):List Value:=
 [.slice D.ar D.r D.cr,.int .i64 x.ad,.slice D.a1 D.n1 D.c1,.slice D.a2 D.n2 D.c2,.map (some D.m),.map (some D.q)]
section
variable {D:SD}{P:Program}{aa:List aD}{x:cW}{Z:Nat→Prop}{w:World}
theorem SD.hu(h:(D.F P aa x).p Z w):Rd RR.eF 4 Z w D.ar D.r D.cr aa:=h.1
theorem SD.hi(h:(D.F P aa x).p Z w):Rd RR.aA 4 Z w D.a1 D.n1 D.c1 x.ab:=h.2.1
theorem SD.hr(h:(D.F P aa x).p Z w):Rd RR.fl 8 Z w D.a2 D.n2 D.c2 x.ah:=h.2.2.1
theorem SD.ht(h:(D.F P aa x).p Z w):jM P Z w:=h.2.2.2
end
def aJ(aa:List aD) (aA:List cj) (ml:List (Key × Value)):Prop:=∀k v,aX ml k=some v→v=.string (valOf aa aA k)
section
variable {aa:List aD}{aA:List cj}
theorem aJ.nil:aJ aa aA []:=fun k v h=>by simp [aX] at h
theorem aJ.put{ml:List (Key × Value)}(h:aJ aa aA ml) (k:Key):aJ aa aA (bZ ml k (.string (valOf aa aA k))):=fun k' v b=>by
 rw [cZ] at b
 split at b
 ·
  grind
 exact h k' v b
def dK(m n:Nat):Prop:=∀b,m.testBit b=true→n.testBit b=true
theorem dK.le{m n:Nat}(h:dK m n):m≤n:=by
 have e:m ||| n=n:=Nat.eq_of_testBit_eq fun b=>by
  rw [Nat.testBit_or]
  cases hm:m.testBit b
  ·
   simp
  simp [h b hm]
 rw [← e];exact Nat.left_le_or
noncomputable def G2(aa:List aD) (aA:List cj) (v:Nat→Nat) (k:Key):ByteArray:=if aB k then itoa (v (number k).toNat:Int) else valOf aa aA k
noncomputable def FF(aa:List aD) (aA:List cj) (v:Nat→Nat) (j:Nat):Nat:=dQ ((aa[j]?.map (·.c.toNat)).getD 0) (lH aa (G2 aa aA v) j)
theorem gA(e:ao aa) {i:Nat}(hi:i<aa.length) (hr:ax aa i=true) {x:Ask}(h:x∈aa[i].asks) (f:outside aa x=true):aB (bw aa x)=false:=by
 have o:=e.len;have hm:=iy e hi hr h;obtain⟨m,h1,b⟩:=jE hi e.len hm
 unfold outside at f
 unfold bw
 cases hc:x.cell
 ·
  rw [hc] at b f;simp only [Bool.false_eq_true,if_false] at b ⊢
  grind [bd]
 rw [hc] at b;simp only [if_true] at b ⊢
 grind [iB]
theorem qY(o:ao aa) {v:Nat→Nat}(p:∀j,v j≤65535) {i:Nat}(hi:i<aa.length) (hr:ax aa i=true) (b:Nat) :
  (FF aa aA v i).testBit b=true↔(iV aa (valOf aa aA) i).testBit b=true∨∃j,eC aa i j∧(v j).testBit b=true:=by
 have r:=o.len
 unfold FF
 rw [ae hi];simp only [Option.map_some,Option.getD_some];rw [pj hi];refine or_congr ?_ ?_
 ·
  rw [dW hi,dW hi];refine or_congr_right (exists_congr fun x=>and_congr_right fun t=>and_congr_right fun u=>?_)
  unfold G2
  rw [if_neg (by grind [gA])]
 constructor
 ·
  rintro⟨x,h1,h,f⟩;obtain⟨j,e,m,q⟩:=fK o hi hr h1 h;refine⟨j,e,?_⟩
  unfold G2 at f
  rw [m,if_pos (by rw [bd q (by omega)];exact e.lt.2.2.2),bG q (by omega),Int.toNat_natCast,dV (p j)] at f;exact f
 rintro⟨j,e,m⟩;obtain⟨x,h1,h,f⟩:=mM hi e;refine⟨x,h1,h,?_⟩
 unfold G2
 rw [f,if_pos (by rw [bd e.lt.2.1 (by have:=e.lt.2.1;omega)];exact e.lt.2.2.2),bG e.lt.2.1 (by have:=e.lt.2.1;omega),Int.toNat_natCast,dV (p j)];exact m
theorem pk(i:Nat):rv aa aA i≤65535:=xv i
theorem zr(f:ao aa) {i:Nat}(hi:i<aa.length) (hr:ax aa i=true) (b:Nat) :
  (rv aa aA i).testBit b=true↔(iV aa (valOf aa aA) i).testBit b=true∨∃j,eC aa i j∧(rv aa aA j).testBit b=true:=by
 unfold rv
 rw [dq f hi hr]
 constructor
 ·
  rintro⟨k,h1,o⟩
  rcases h1.cases with rfl | ⟨j,e,m⟩
  ·
   exact .inl o
  exact .inr ⟨j,e,(dq f e.lt.2.1 e.lt.2.2.2 b).2 ⟨k,m,o⟩⟩
 rintro(h | ⟨j,e,m⟩)
 ·
  exact⟨i,.refl,h⟩
 obtain⟨k,p,q⟩:=(dq f e.lt.2.1 e.lt.2.2.2 b).1 m;exact⟨k,.head e p,q⟩
theorem Bs(e:ao aa) {v v':Nat→Nat}(f:∀j,v j≤65535) (m:∀j,v' j≤65535) (h:∀j,dK (v j) (v' j)) {i:Nat}(hi:i<aa.length) (hr:ax aa i=true):dK (FF aa aA v i) (FF aa aA v' i):=fun b hb=>by
 rw [qY e f hi hr] at hb;rw [qY e m hi hr]
 rcases hb with hb | ⟨j,h1,o⟩
 ·
  exact .inl hb
 exact .inr ⟨j,h1,h j b o⟩
structure cL (aa:List aD) (aA:List cj) (i0:Nat) (L:List Nat) (u:Nat→Nat):Prop where
 nodup:L.Nodup
 first:i0∈L
 ring:∀j∈L,j<aa.length∧ax aa j=true
 out:∀j,j∉L→u j=0
 le:∀j,u j≤65535
 low:∀j,dK (u j) (rv aa aA j)
 reach:∀j∈L,cv aa i0 j
noncomputable def Bt(aa:List aD) (aA:List cj) (u:Nat→Nat) (ml:List (Key × Value)) (k:Nat):Nat:=if (aX ml (aH aa (k:Int))).isSome then rv aa aA k else u k
def fu(ml kZ:List (Key × Value)):Prop:=∀k v,aX ml k=some v→aX kZ k=some v
def ji(aa:List aD) (aA:List cj) (L:List Nat) (u:Nat→Nat) (ml:List (Key × Value)):Prop:=∀j∈L,dK (u j) (FF aa aA (Bt aa aA u ml) j)
def lI(aa:List aD) (aA:List cj) (L:List Nat) (u:Nat→Nat) (j:Nat):Prop:=
 dK (iV aa (valOf aa aA) j) (u j)∧∀k,eC aa j k→(k∈L→dK (u k) (u j))∧(k∉L→dK (rv aa aA k) (u j))
def zs(n:Nat) (v:Nat→Nat):Nat:=((List.range n).map fun j=>65535 - v j).sum
def mb(aa:List aD) (L:List Nat) (v:Nat→Nat):Nat:=zs aa.length v+(aa.length - L.length)
theorem fu.refl(ml:List (Key × Value)):fu ml ml:=fun _ _ h=>h
theorem fu.trans{a b c:List (Key × Value)}(h:fu a b) (k:fu b c):fu a c:=fun x v e=>k x v (h x v e)
theorem fu.put{ml:List (Key × Value)}(hm:aJ aa aA ml) (k:Key):fu ml (bZ ml k (.string (valOf aa aA k))):=fun x v h=>by
 rw [cZ]
 split
 ·
  rename_i e;subst e;rw [hm _ _ h]
 exact h
theorem ox{u:Nat→Nat}{ml:List (Key × Value)}(h:∀j,u j≤65535) (k:Nat):Bt aa aA u ml k≤65535:=by grind [Bt,pk]
theorem G3{u:Nat→Nat}{ml:List (Key × Value)}(h:∀j,dK (u j) (rv aa aA j)) (k:Nat):dK (Bt aa aA u ml k) (rv aa aA k):=by unfold Bt;split;exact fun _ h=>h;exact h k
theorem xw{u b:Nat→Nat}{ml e:List (Key × Value)}(h:∀j,dK (u j) (rv aa aA j)) (hu:∀j,dK (u j) (b j)) (hm:fu ml e) (k:Nat):dK (Bt aa aA u ml k) (Bt aa aA b e k):=by
 unfold Bt
 cases h1:aX ml (aH aa (k:Int)) with
 | some v=>rw [hm _ _ h1];simp;exact fun _ h=>h
 | none=>grind
theorem ji.mono(i:ao aa) {i0:Nat}{L:List Nat}{u:Nat→Nat}{ml f:List (Key × Value)}(hr:cL aa aA i0 L u) (h:ji aa aA L u ml) (hm:fu ml f):ji aa aA L u f:=fun j e b hb=>
 Bs i (ox hr.le) (ox hr.le) (xw hr.low (fun _ _ h=>h) hm) (hr.ring j e).1 (hr.ring j e).2 b (h j e b hb)
theorem cL.start{i0:Nat}(hi:i0<aa.length) (hr:ax aa i0=true):cL aa aA i0 [i0] fun _=>0 where
 nodup:=by simp
 first:=by simp
 ring j e:=by grind
 out _ _:=rfl
 le _:=by omega
 low _ b h:=by simp at h
 reach j e:=by simp at e;subst e;exact .refl
theorem ji.start{i0:Nat}{ml:List (Key × Value)}:ji aa aA [i0] (fun _=>0) ml:=fun _ _ b h=>by simp at h
theorem Ek:∀{n:Nat}{L:List Nat},L.Nodup→(∀j∈L,j<n)→L.length≤n:=by
 intro n
 induction n with
 | zero=>intro L _ hl;cases L with
  | nil=>simp
  | cons a r=>exact absurd (hl a (by simp)) (by omega)
 | succ n b=>
  intro L h hl
  have h1:=b (h.erase n) fun j e=>by grind
  grind
theorem cL.len{i0:Nat}{L:List Nat}{v:Nat→Nat}(h:cL aa aA i0 L v):L.length≤aa.length:=Ek h.nodup fun j b=>(h.ring j b).1
theorem cL.meet{i0:Nat}{L:List Nat}{v:Nat→Nat}(h:cL aa aA i0 L v) {j:Nat}(b:j<aa.length) (hr:ax aa j=true) (hn:j∉L) (e:cv aa i0 j):cL aa aA i0 (L++[j]) v where
 nodup:=by grind [nodup]
 first:=by simp [h.first]
 ring k hk:=by
  rcases List.mem_append.1 hk with hk | hk
  ·
   exact h.ring k hk
  grind
 out k hk:=h.out k fun hm=>hk (by simp [hm])
 le:=h.le
 low:=h.low
 reach k hk:=by
  rcases List.mem_append.1 hk with hk | hk
  ·
   exact h.reach k hk
  grind
theorem ji.meet{L:List Nat}{u:Nat→Nat}{ml:List (Key × Value)}(h:ji aa aA L u ml) {j:Nat}(hu:u j=0):ji aa aA (L++[j]) u ml:=fun k hk=>by
 rcases List.mem_append.1 hk with hk | hk
 ·
  exact h k hk
 simp at hk;subst hk;rw [hu];intro b hb;simp at hb
theorem cL.Bu{i0:Nat}{L:List Nat}{v:Nat→Nat}(h:cL aa aA i0 L v) {j:Nat}(b:j<aa.length) (hr:ax aa j=true) (hn:j∉L) (e:cv aa i0 j):L.length<aa.length:=by
 have:=(h.meet b hr hn e).len
 grind
theorem xx{L:List Nat}{v:Nat→Nat}{j:Nat}(hl:L.length<aa.length):mb aa (L++[j]) v<mb aa L v:=by grind [mb]
def j0(v:Nat→Nat) (j u:Nat):Nat→Nat:=fun k=>if k=j then u else v k
theorem El:∀n (v:Nat→Nat) (j u:Nat),v j≤u→zs n (j0 v j u)≤zs n v∧(j<n→v j<u→u≤65535→zs n (j0 v j u)<zs n v):=by
 intro n
 induction n with
 | zero=>intro v j u _;simp [zs]
 | succ n f=>
  intro v j u h;obtain⟨h1,b⟩:=f v j u h
  unfold zs at h1 b ⊢
  simp only [List.range_succ,List.map_append,List.map_cons,List.map_nil,List.sum_append,List.sum_cons,List.sum_nil]
  have o:65535 - j0 v j u n≤65535 - v n:=by
   unfold j0;grind
  refine⟨by omega,fun p i m=>?_⟩
  by_cases e:j=n
  ·
   have:65535 - j0 v j u n<65535 - v n:=by unfold j0;grind
   omega
  have:=b (by omega) i m
  omega
theorem Cr{u:Nat→Nat}{j x:Nat}(h:dK (u j) x):∀k,dK (u k) (j0 u j x k):=fun k b hb=>by
 unfold j0;split
 ·
  rename_i e;subst e;exact h b hb
 exact hb
theorem cL.set{i0:Nat}{L:List Nat}{u:Nat→Nat}(h:cL aa aA i0 L u) {j x:Nat}(f:j∈L) (i:x≤65535) (m:dK x (rv aa aA j)):cL aa aA i0 L (j0 u j x) where
 nodup:=h.nodup
 first:=h.first
 ring:=h.ring
 out k hk:=by unfold j0;rw [if_neg (fun e=>hk (by rw [e];exact f))];exact h.out k hk
 le k:=by unfold j0;split;exact i;exact h.le k
 low k b hb:=by
  unfold j0 at hb;split at hb
  ·
   rename_i e;subst e;exact m b hb
  exact h.low k b hb
 reach:=h.reach
theorem ji.set(f:ao aa) {i0:Nat}{L:List Nat}{u:Nat→Nat}{ml:List (Key × Value)}(hr:cL aa aA i0 L u) (h:ji aa aA L u ml) {j x:Nat}(i:j∈L) (m:x≤65535) (o:dK x (rv aa aA j)) (p:dK (u j) x) (q:dK x (FF aa aA (Bt aa aA u ml) j)) :
  ji aa aA L (j0 u j x) ml:=fun k hk=>by
 have r:=hr.set i m o;have hm:=Bs (aA:=aA) f (ox (aA:=aA) (aa:=aa) (ml:=ml) hr.le) (ox r.le) (xw hr.low (Cr p) (fu.refl ml)) (hr.ring k hk).1 (hr.ring k hk).2;intro b hb;refine hm b ?_
 unfold j0 at hb;split at hb
 ·
  rename_i e;subst e;exact q b hb
 exact h k hk b hb
theorem Bv{i0:Nat}{L:List Nat}{u:Nat→Nat}(h:cL aa aA i0 L u) {j x:Nat}(b:j∈L) (e:x≤65535) (f:dK (u j) x) (i:u j≠x):mb aa L (j0 u j x)<mb aa L u:=by
 have h1:=f.le
 have:=(El aa.length u j x h1).2 (h.ring j b).1 (by omega) e
 unfold mb;omega
theorem cL.done(r:ao aa) {i0:Nat}{L:List Nat}{u:Nat→Nat}(h:cL aa aA i0 L u) (f:∀j∈L,lI aa aA L u j):∀j∈L,u j=rv aa aA j:=by
 intro j t;obtain⟨i,o⟩:=h.ring j t;refine Nat.le_antisymm (h.low j).le (dK.le fun b hb=>?_);have key:=Ei r i o (fun k=>if k∈L then u k else rv aa aA k) (fun k b hk hb=>?_) (fun k m b hk p hb=>?_) b hb
 ·
  simpa [t] using key
 ·
  have q:=gz i o hk
  by_cases hm:k∈L
  ·
   simp only [if_pos hm];exact(f k hm).1 b hb
  simp only [if_neg hm];grind [zr]
 have q:=gz i o hk
 by_cases e:k∈L
 ·
  simp only [if_pos e]
  by_cases hm:m∈L
  ·
   simp only [if_pos hm] at hb;exact((f k e).2 m p).1 hm b hb
  simp only [if_neg hm] at hb;exact((f k e).2 m p).2 hm b hb
 simp only [if_neg e];refine(zr r q.1 q.2 b).2 (.inr ⟨m,p,?_⟩)
 by_cases hm:m∈L
 ·
  simp only [if_pos hm] at hb;exact h.low m b hb
 grind
structure Ev (aa:List aD) (aA:List cj) (u:Nat→Nat) (L:List Nat) (Em ml:List (Key × Value)) (qs:List Ask) (n:Nat) (acc:List ByteArray):Prop where
 len:acc.length=n
 out:∀m (h:m<qs.length),m<n→outside aa qs[m]=true→acc[m]?=some (valOf aa aA (bw aa qs[m]))
 ins:∀m (h:m<qs.length),m<n→outside aa qs[m]=false→∀k:Nat,qs[m].n=k→
  (acc[m]?=some (itoa (rv aa aA k:Int))∧(aX ml (aH aa (k:Int))).isSome=true)∨(acc[m]?=some (itoa (u k:Int))∧k∈L∧aX Em (aH aa (k:Int))=none)
theorem Ev.start{u:Nat→Nat}{L:List Nat}{ml:List (Key × Value)}{qs:List Ask}:Ev aa aA u L ml ml qs 0 []:=⟨rfl,fun _ _ h=>by omega,fun _ _ h=>by omega⟩
theorem Ev.mono{u:Nat→Nat}{L L':List Nat}{Em ml b:List (Key × Value)}{qs:List Ask}{n:Nat}{acc:List ByteArray}(h:Ev aa aA u L Em ml qs n acc) (r:∀k∈L,k∈L') (hm:fu ml b):Ev aa aA u L' Em b qs n acc:=
 ⟨h.len,h.out,fun m h1 i o k p=>by
  rcases h.ins m h1 i o k p with⟨e,f⟩ | ⟨e,f,t⟩
  ·
   obtain⟨v,q⟩:=Option.isSome_iff_exists.1 f;exact .inl ⟨e,by rw [hm _ _ q];rfl⟩
  grind⟩
theorem Ev.snoc{u:Nat→Nat}{L:List Nat}{Em ml:List (Key × Value)}{qs:List Ask}{n:Nat}{acc:List ByteArray}(h:Ev aa aA u L Em ml qs n acc) (s:ByteArray)
  (i:∀(h:n<qs.length),outside aa qs[n]=true→s=valOf aa aA (bw aa qs[n]))
  (hi:∀(h:n<qs.length),outside aa qs[n]=false→∀k:Nat,qs[n].n=k→(s=itoa (rv aa aA k:Int)∧(aX ml (aH aa (k:Int))).isSome=true)∨(s=itoa (u k:Int)∧k∈L∧aX Em (aH aa (k:Int))=none)) :
  Ev aa aA u L Em ml qs (n+1) (acc++[s]) where
 len:=by simp [h.len]
 out m h1 f e:=by
  rcases Nat.lt_or_ge m n with b | b
  ·
   rw [List.getElem?_append_left (by rw [h.len];exact b)];exact h.out m h1 b e
  grind [len]
 ins m h1 f e k hk:=by
  rcases Nat.lt_or_ge m n with b | b
  ·
   rw [List.getElem?_append_left (by rw [h.len];exact b)];exact h.ins m h1 b e k hk
  have:m=n:=by omega
  subst this;rw [List.getElem?_append_right (by rw [h.len];omega),h.len]
  simpa using hi h1 e k hk
theorem Ev.val(t:ao aa) {i0:Nat}{L:List Nat}{u:Nat→Nat}{Em ml:List (Key × Value)}{j:Nat}{acc:List ByteArray}(hr:cL aa aA i0 L u) (p:j<aa.length) (F:ax aa j=true) (h:Ev aa aA u L Em ml aa[j].asks aa[j].asks.length acc) :
  dQ aa[j].c.toNat (acc.map cc)≤65535∧dK (dQ aa[j].c.toNat (acc.map cc)) (rv aa aA j)∧dK (FF aa aA (Bt aa aA u Em) j) (dQ aa[j].c.toNat (acc.map cc))∧
  dK (dQ aa[j].c.toNat (acc.map cc)) (FF aa aA (Bt aa aA u ml) j)∧(dQ aa[j].c.toNat (acc.map cc)=u j→lI aa aA L u j):=by
 obtain⟨hlen,ho,eJ⟩:=h;have Cs:=t.len
 -- an answer, by its place
 have Ph:∀m (hm:m<aa[j].asks.length),∃s,acc[m]?=some s∧s∈acc:=fun m hm=>⟨acc[m],ae (by omega),List.getElem_mem _⟩
 have J:dK (iV aa (valOf aa aA) j) (dQ aa[j].c.toNat (acc.map cc)):=fun b hb=>by
  rw [jF]
  rcases(dW p b).1 hb with h1 | ⟨x,h1,z,o⟩
  ·
   exact .inl h1
  obtain⟨m,hm,rfl⟩:=List.mem_iff_getElem.1 h1
  grind
 have N:∀k,eC aa j k→∃m,∃hm:m<aa[j].asks.length,outside aa aa[j].asks[m]=false∧aa[j].asks[m].n=(k:Int):=fun k hk=>by
  obtain⟨r,x,h1,_,o,f,I,e⟩:=hk;rw [ae p] at h1
  simp at h1
  subst h1;obtain⟨m,hm,rfl⟩:=List.mem_iff_getElem.1 o;exact⟨m,hm,by unfold outside;rw [f,I];simp [e],I⟩
 have G:∀(m:Nat) (s:ByteArray) (b:Nat),acc[m]?=some s→(cc s).testBit b=true→(dQ aa[j].c.toNat (acc.map cc)).testBit b=true:=fun m s b h1 z=>by
  rw [jF];grind
 have O:∀(v:Nat→Nat),(∀k,v k≤65535)→(∀k:Nat,(aX ml (aH aa (k:Int))).isSome=true→dK (rv aa aA k) (v k))→(∀k:Nat,dK (u k) (v k))→dK (dQ aa[j].c.toNat (acc.map cc)) (FF aa aA v j):=fun v R h1 z b hb=>by
  rw [qY t R p F];rw [jF] at hb
  rcases hb with hb | ⟨_,V,hb⟩
  ·
   grind [dW]
  obtain⟨s,W,rfl⟩:=List.mem_map.1 V;obtain⟨m,hm,rfl⟩:=List.mem_iff_getElem.1 W
  have H:m<aa[j].asks.length:=by omega
  cases Q:outside aa aa[j].asks[m]
  ·
   obtain⟨k,o,f,I⟩:=fK t p F (List.getElem_mem H) Q
   have X:aa[j].asks[m].n=(k:Int):=by
    obtain⟨q,e,i⟩:=jE p t.len (iy t p F (List.getElem_mem H))
    have hc:aa[j].asks[m].cell=false:=by grind [outside]
    rw [hc] at i;simp only [Bool.false_eq_true,if_false] at i
    unfold bw at f
    rw [hc,e] at f;simp only [Bool.false_eq_true,if_false] at f
    grind [bG]
   refine .inr ⟨k,o,?_⟩
   rcases eJ m H H Q k X with⟨e,i⟩ | ⟨e,i,_⟩
   ·
    rw [ae hm] at e
    simp at e
    rw [e,dV (pk k)] at hb;exact h1 k i b hb
   rw [ae hm] at e
   simp at e
   rw [e,dV (hr.le k)] at hb;exact z k b hb
  grind [dW]
 refine⟨?_,?_,?_,?_,fun he=>⟨?_,fun k hk=>⟨fun Y=>?_,fun Y=>?_⟩⟩⟩
 ·
  grind [jz,qX,iU]
 ·
  intro b hb;have h1:=O (rv aa aA) pk (fun _ _ _ h=>h) hr.low b hb
  grind [qY,pk,zr]
 ·
  intro b hb;rw [qY t (ox hr.le) p F] at hb
  rcases hb with hb | ⟨k,h1,z⟩
  ·
   exact J b hb
  obtain⟨m,hm,o,f⟩:=N k h1
  rcases eJ m hm hm o k f with⟨e,i⟩ | ⟨e,i,h8⟩
  ·
   exact G m _ b e (by rw [dV (pk k)];exact G3 hr.low k b z)
  refine G m _ b e (by rw [dV (hr.le k)];grind [Bt])
 ·
  refine O _ (ox hr.le) (fun k hk b hb=>?_) fun k b hb=>?_
  ·
   unfold Bt;rw [if_pos hk];exact hb
  unfold Bt;split
  ·
   exact hr.low k b hb
  exact hb
 ·
  rw [← he];exact J
 ·
  intro b hb;rw [← he];obtain⟨m,hm,o,f⟩:=N k hk
  rcases eJ m hm hm o k f with⟨e,i⟩ | ⟨e,i,h8⟩
  ·
   exact G m _ b e (by rw [dV (pk k)];exact hr.low k b hb)
  exact G m _ b e (by rw [dV (hr.le k)];exact hb)
 intro b hb
 grind [dV,pk]
def kD(aa:List aD) (L:List Nat) (v:Nat→Nat) (am:List (Key × Value)):Prop:=
 (∀j∈L,aX am (aH aa (j:Int))=some (.string (itoa (v j:Int))))∧∀k,(∀j∈L,k≠aH aa (j:Int))→aX am k=none
theorem dh(b:ao aa) {i j:Nat}(hi:i<aa.length) (e:j<aa.length) (h:aH aa (i:Int)=aH aa (j:Int)):i=j:=by grind [ao.len,bG]
theorem kD.meet(b:ao aa) {L:List Nat}{v:Nat→Nat}{am:List (Key × Value)}(h:kD aa L v am) (f:∀j∈L,j<aa.length) {j:Nat}(i:j<aa.length) (hn:j∉L) (o:v j=0):kD aa (L++[j]) v (bZ am (aH aa (j:Int)) (.string ⟨#[48]⟩)):=by
 have e0:itoa ((0:Nat):Int)=⟨#[48]⟩:=by decide +kernel
 refine⟨fun k hk=>?_,fun k hk=>?_⟩
 ·
  rw [cZ]
  rcases List.mem_append.1 hk with hk | hk
  ·
   rw [if_neg (fun e=>hn (by grind [dh]))];exact h.1 k hk
  grind
 rw [cZ,if_neg (fun e=>hk j (by simp) e.symm)]
 exact h.2 k fun m hm=>hk m (by simp [hm])
theorem kD.set(i:ao aa) {L:List Nat}{v:Nat→Nat}{am:List (Key × Value)}(h:kD aa L v am) (b:∀j∈L,j<aa.length) {j:Nat}(f:j∈L) (u:Nat):kD aa L (j0 v j u) (bZ am (aH aa (j:Int)) (.string (itoa (u:Int)))):=by
 refine⟨fun k hk=>?_,fun k hk=>?_⟩
 ·
  rw [cZ]
  unfold j0
  by_cases e:k=j
  ·
   grind
  rw [if_neg (fun e2=>e (dh i (b k hk) (b j f) e2.symm)),if_neg e];exact h.1 k hk
 rw [cZ,if_neg (fun e=>hk j f e.symm)];exact h.2 k hk
end
theorem gB{aa:List aD}(e:ao aa) {i:Nat}(hi:i<aa.length) (hr:ax aa i=true) {x:Ask}(f:x∈aa[i].asks) (b:outside aa x=false) {k:Nat}(hk:x.n=(k:Int)):k<aa.length∧ax aa k=true∧bw aa x=aH aa (k:Int):=by
 have hm:=iy e hi hr f
 unfold outside at b
 rw [Bool.or_eq_false_iff] at b;rw [b.1,hk] at hm;refine⟨(nI e hi hr hm).1,?_,?_⟩
 ·
  grind
 grind [bw]
theorem ao.hb{aa:List aD}(h:ao aa):∀x∈aa,0≤x.c∧x.c≤65535∧x.asks.length≤1000:=fun x b=>by
 obtain⟨i,hi,rfl⟩:=List.mem_iff_getElem.1 b;obtain⟨h1,_,e⟩:=h.at hi
 grind [fB]
theorem ey{aa:List aD}{i:Nat}(hi:i<aa.length) (gq:i≤99) (l:List ByteArray):bB aa (aH aa (i:Int)) l=ca aa (aH aa (i:Int)) l:=by
 unfold bB;rw [if_pos (by grind [dA])]
theorem pn{aa:List aD}{i:Nat}(hi:i<aa.length) (gq:i≤99) (hr:ax aa i=true):mK (aH aa (i:Int))=⟨#[48]⟩:=by grind [mK,dA]
theorem ua:∀{l:List (Key × Value)}{k:Key}{v:Value},aX l k=some v→bZ l k v=l:=by
 intro l
 induction l with
 | nil=>intro k v h;simp [aX] at h
 | cons p r b=>
  obtain⟨k0,v0⟩:=p;intro k v h;simp only [aX] at h;simp only [bZ]
  grind
theorem ee{aa:List aD}{i:Nat}(hi:i<aa.length) (gq:i≤99):eP (aH aa (i:Int)):=by grind [eP,dA]
end Go.Rc

namespace Go.Rc
open Go
theorem mc:∀(l:List UInt8) (u:Nat),0<u→0≤decFrom l (u:Int)→∃v:Nat,decFrom l (u:Int)=v∧Lib.decDigits v=Lib.decDigits u++l
 | [],u,_,_=>⟨u,rfl,by simp⟩
 | c::r,u,hu,h=>by
  unfold decFrom at h ⊢
  by_cases hc:c.toNat<48∨57<c.toNat
  ·
   rw [if_pos hc] at h;omega
  rw [if_neg hc] at h ⊢;obtain⟨d,f⟩:∃d:Nat,c.toNat=48+d:=⟨c.toNat - 48,by omega⟩
  have i:d<10:=by omega
  have e:10*(u:Int)+((c.toNat:Int) - 48)=((10*u+d:Nat):Int):=by omega
  rw [e] at h ⊢;obtain⟨v,h1,b⟩:=mc r (10*u+d) (by omega) h;refine⟨v,h1,?_⟩;rw [b,Lib.decDigits,dif_neg (by omega),show(10*u+d) / 10=u by omega,show(10*u+d) % 10=d by omega,List.append_assoc]
  grind [UInt8.ofNat_toNat]
theorem sS{s:ByteArray}(h:0≤cY s):∃v:Nat,cY s=v∧s=itoa (v:Int):=by
 unfold cY at h ⊢
 by_cases hc:s.size=0∨9<s.size∨(s.data.toList.head?=some 48∧s.size≠1)
 ·
  rw [if_pos hc] at h;omega
 rw [if_neg hc] at h ⊢;obtain⟨d⟩:=s
 have key:∃v:Nat,decFrom d.toList 0=v∧Lib.decDigits v=d.toList:=by
  have hsz:(⟨d⟩:ByteArray).size=d.toList.length:=by simp [ByteArray.size]
  rw [hsz] at hc;simp only at hc h ⊢
  cases hl:d.toList with
  | nil=>rw [hl] at hc;simp at hc
  | cons c r=>
   rw [hl] at hc h
   unfold decFrom at h ⊢
   by_cases hn:c.toNat<48∨57<c.toNat
   ·
    rw [if_pos hn] at h;omega
   rw [if_neg hn] at h ⊢;obtain⟨e,he⟩:∃e:Nat,c.toNat=48+e:=⟨c.toNat - 48,by omega⟩
   have h1:10*(0:Int)+((c.toNat:Int) - 48)=(e:Nat):=by omega
   rw [h1] at h ⊢
   have b:UInt8.ofNat (48+e)=c:=by grind [UInt8.ofNat_toNat]
   by_cases h0:e=0
   ·
    subst h0
    have m:c=48:=by rw [← b];rfl
    have hr:r=[]:=by grind
    subst hr;exact⟨0,rfl,by rw [Lib.decDigits,dif_pos (by omega),b]⟩
   obtain⟨v,f,i⟩:=mc r e (by omega) h;refine⟨v,f,?_⟩;rw [i,Lib.decDigits,dif_pos (by omega),b]
   rfl
 obtain⟨v,h1,f⟩:=key;refine⟨v,h1,?_⟩
 have e:Lib.itoa (v:Int)=Lib.decDigits v:=by unfold Lib.itoa;rw [if_neg (by omega)];rfl
 unfold itoa
 rw [e,f]
theorem Ct{s:ByteArray}(h:∀n:Nat,n≤65535→s≠itoa (n:Int)):cc s=0:=by
 unfold cc
 split
 ·
  rfl
 grind [sS]
theorem Cu(l:List aD) (m:Nat):m≤cU l m:=by unfold cU;omega
theorem zt{aa:List aD}{i:Nat}(hi:i<aa.length):(block aa (i:Int)).1≤(block aa (i:Int)).2:=by
 have hb:block aa (i:Int)=if ax aa i then ((ba aa i:Int),(cU aa (i+1):Int)) else ((i:Int),(i:Int)+1):=by
  unfold block;rw [if_neg (by omega)];rfl
 grind [ew,Cu]
theorem xy(kind:Int) (c:Nat) (l:List Nat):cV kind 0 (c::l)=cV kind c l:=by
 unfold cV pS pc dQ
 simp
end Go.Rc

namespace Go.Rc
open Go
theorem xz{κ:Type} [DecidableEq κ]:∀{l:List (κ × Value)}{k:κ}{v:Value},aX l k=none→fI (bZ l k v) k=l
 | [],k,v,_=>by simp [bZ,fI]
 | (k0,v0)::r,k,v,h=>by
  by_cases e:k0=k
  ·
   subst e;simp [aX] at h
  simp only [aX,if_neg e] at h;simp only [bZ,if_neg e,fI,xz h]
def FZ.row(b:Nat) (r:List Value):FZ:=
 ⟨fun Z w=>Z b∧b<w.heap.size∧w.rangeAt b 0 r,fun hZ h=>⟨hZ _ h.1,h.2⟩,fun hs hc h=>⟨h.1,Nat.lt_of_lt_of_le h.2.1 hs,fun j v hv=>by rw [← h.2.2 j v hv];grind [World.cell?_of_block]⟩⟩
def SD.FV(D:SD) (P:Program) (aa:List aD) (x:cW):FZ:=(D.F P aa x).and (FZ.row D.s (D.cells x))
theorem SD.FV.rg{D:SD}{P:Program}{aa:List aD}{x:cW}{Z:Nat→Prop}{w:World}(h:(D.FV P aa x).p Z w):(As.rg D.s 0 (D.cells x)).ok Z w:=As.OV h.2.1 h.2.2.1 h.2.2.2
theorem ub{κ:Type} [DecidableEq κ]:∀(l:List (κ × Value)) (k:κ) (v u:Value),bZ (bZ l k v) k u=bZ l k u
 | [],k,v,u=>by simp [bZ]
 | (k0,v0)::r,k,v,u=>by
  by_cases e:k0=k
  ·
   simp [bZ,e]
  simp [bZ,e,ub r k v u]
section
variable {aa:List aD}{aA:List cj}
def j1(aa:List aD) (i:Nat) (al:List (Key × Value)):Prop:=∀j:Nat,j≤i→j<aa.length→aX al (aH aa (j:Int))=none
theorem j1.mono{i m:Nat}{al:List (Key × Value)}(h:j1 aa i al) (hm:m≤i):j1 aa m al:=fun j b hl=>h j (by omega) hl
theorem j1.put(b:ao aa) {i m:Nat}{al:List (Key × Value)}(h:j1 aa i al) (hi:i<aa.length) (hm:m<i) (v:Value):j1 aa m (bZ al (aH aa (i:Int)) v):=fun j f hl=>by
 rw [cZ,if_neg (fun e=>by have:=dh b hi hl e;omega)];exact h j (by omega) hl
theorem j1.nil(i:Nat):j1 aa i []:=fun _ _ _=>rfl
noncomputable def cO(aa:List aD) (aA:List cj) (i:Nat):List Key:=(dG (ca aa (aH aa (i:Int))) (valOf aa aA) (cy aa i)).1
noncomputable def cX(aa:List aD) (aA:List cj) (k:Key):List Key:=if aw k then [] else cO aa aA (number k).toNat
theorem dL(b:ao aa) {i:Nat}(hi:i<aa.length):cX aa aA (aH aa (i:Int))=cO aa aA i:=by
 have e:=b.len
 unfold cX
 rw [if_neg (by grind [bX]),bG hi (by omega),Int.toNat_natCast]
theorem dJ.cyc(b:ao aa) {i:Nat}{a:Key}(h:dJ aa i a):aB a=decide (a.kind=32):=by
 have e:=b.len
 rcases h with⟨n,h1,rfl⟩ | ⟨m,h1,rfl,_⟩
 ·
  rw [iB (by omega)]
  unfold bz
  rw [if_neg (by omega)]
  rfl
 grind [bd,dA]
theorem dJ.al(b:ao aa) {i0 j:Nat}{a:Key}{al:List (Key × Value)}(h:dJ aa j a) (hr:ax aa j=true) (hc:aB a=false) (eJ:aw a=false) (hb:ba aa j≤i0) (e:j1 aa i0 al):j1 aa (number a).toNat al:=by
 have i:=b.len
 rcases h with⟨n,h1,rfl⟩ | ⟨m,h1,rfl,_,_,_,f⟩
 ·
  grind [aN]
 rw [bd h1 (by omega)] at hc;rw [bG h1 (by omega),Int.toNat_natCast];exact e.mono (by have:=f hc hr;omega)
structure RI (aa:List aD) (aA:List cj) (i0:Nat) (qs:List Ask) (u1:Nat→Nat) (L1:List Nat) (iW:Bool) (dr:List (Key × Value)) (n:Nat) (L2:List Nat) (iE:List (Key × Value)) (j2:Bool) (gw:List (Key × Value)) (acc:List ByteArray):Prop where
 hn:n≤qs.length
 rd:cL aa aA i0 L2 u1
 up:ji aa aA L2 u1 gw
 at_:kD aa L2 u1 iE
 m:aJ aa aA gw
 le:fu dr gw
 p:mb aa L2 u1≤mb aa L1 u1∧(j2=true→iW=true∨mb aa L2 u1<mb aa L1 u1)
 c:j2=false→L2=L1∧iW=false
 pre:L1 <+: L2
 ev:Ev aa aA u1 L2 dr gw qs n acc
variable {i0 j n:Nat}{u1:Nat→Nat}{L1 L2:List Nat}{iW j2:Bool}{dr gw G4 iE:List (Key × Value)}{acc:List ByteArray}
theorem RI.start{b:List (Key × Value)}{qs:List Ask}(h1:cL aa aA i0 L1 u1) (e:ji aa aA L1 u1 dr) (f:kD aa L1 u1 b) (i:aJ aa aA dr):RI aa aA i0 qs u1 L1 iW dr 0 L1 b iW dr []:=
 ⟨Nat.zero_le _,h1,e,f,i,fu.refl _,⟨Nat.le_refl _,fun h=>.inl h⟩,fun h=>⟨rfl,h⟩,List.prefix_refl _,Ev.start⟩
theorem RI.done(b:ao aa) (e:j<aa.length) (hr:ax aa j=true) (h:RI aa aA i0 aa[j].asks u1 L1 iW dr n L2 iE j2 gw acc) (hn:n<aa[j].asks.length) {f:Value}(m:aX gw (bw aa aa[j].asks[n])=some f) :
  RI aa aA i0 aa[j].asks u1 L1 iW dr (n+1) L2 iE j2 gw (acc++[valOf aa aA (bw aa aa[j].asks[n])]):=
 {h with
  hn:=hn
  ev:=h.ev.snoc _ (fun _ _=>rfl) fun _ i k hk=>.inl (by
   obtain⟨o,p,q⟩:=gB b e hr (List.getElem_mem hn) i hk
   grind [fx,fS])}
theorem RI.low(b:ao aa) (f:j<aa.length) (hr:ax aa j=true) (h:RI aa aA i0 aa[j].asks u1 L1 iW dr n L2 iE j2 gw acc) (hn:n<aa[j].asks.length) (hc:aB (bw aa aa[j].asks[n])=false) (e:aJ aa aA G4) (hle:fu gw G4) :
  RI aa aA i0 aa[j].asks u1 L1 iW dr (n+1) L2 iE j2 G4 (acc++[valOf aa aA (bw aa aa[j].asks[n])]):=
 {h with
  hn:=hn
  up:=h.up.mono b h.rd hle
  m:=e
  le:=h.le.trans hle
  ev:=(h.ev.mono (fun _ h=>h) hle).snoc _ (fun _ _=>rfl) fun _ i k hk=>by grind [ao.len,gB,bd]}
theorem RI.inside(h:ao aa) (i:j<aa.length) (hr:ax aa j=true) (hn:n<aa[j].asks.length) (hc:aB (bw aa aa[j].asks[n])=true) :
  ∃b:Nat,bw aa aa[j].asks[n]=aH aa (b:Int)∧b<aa.length∧ax aa b=true∧eC aa j b∧outside aa aa[j].asks[n]=false:=by
 have m:=List.getElem_mem hn
 have e:outside aa aa[j].asks[n]=false:=by grind [gA]
 obtain⟨b,f,o,p⟩:=fK h i hr m e;exact⟨b,o,p,f.lt.2.2.2,f,e⟩
theorem RI.I9(i:ao aa) (p:j<aa.length) (hr:ax aa j=true) {e:List Nat}(h:Ev aa aA u1 e dr gw aa[j].asks n acc) (hle:fu dr gw) (hn:n<aa[j].asks.length) {b:Nat}(q:bw aa aa[j].asks[n]=aH aa (b:Int)) (r:b<aa.length) (m:outside aa aa[j].asks[n]=false)
  (u:aX gw (bw aa aa[j].asks[n])=none) (z:b∈e):Ev aa aA u1 e dr gw aa[j].asks (n+1) (acc++[itoa (u1 b:Int)]):=by
 have F:aX dr (aH aa (b:Int))=none:=by
  cases h:aX dr (aH aa (b:Int)) with
  | none=>rfl
  | some v=>have:=hle _ _ h;grind
 refine h.snoc _ (fun _ f=>by rw [m] at f;cases f) fun _ f k hk=>?_;obtain⟨t,G,o⟩:=gB i p hr (List.getElem_mem hn) m hk;rw [q] at o
 have:=dh i r t o
 grind
theorem RI.meet(i:ao aa) (t:j<aa.length) (hr:ax aa j=true) (h:RI aa aA i0 aa[j].asks u1 L1 iW dr n L2 iE j2 gw acc) (G:j∈L1) (hn:n<aa[j].asks.length) (hc:aB (bw aa aa[j].asks[n])=true)
  (H:aX gw (bw aa aa[j].asks[n])=none) (O:aX iE (bw aa aa[j].asks[n])=none) :
  ∃b:Nat,bw aa aa[j].asks[n]=aH aa (b:Int)∧b<aa.length∧ax aa b=true∧RI aa aA i0 aa[j].asks u1 L1 iW dr (n+1) (L2++[b]) (bZ iE (bw aa aa[j].asks[n]) (.string ⟨#[48]⟩)) true gw (acc++[⟨#[48]⟩]):=by
 obtain⟨b,o,e,q,I,J⟩:=RI.inside i t hr hn hc
 have f:b∉L2:=fun hm=>by have:=h.at_.1 b hm;grind
 have r:=h.rd.out b f;have u:cv aa i0 b:=.step (h.rd.reach j (h.pre.subset G)) I;have L:=h.rd.meet e q f u;have N:=h.rd.Bu e q f u;have z:=xx (v:=u1) (j:=b) N;have F:=RI.I9 i t hr (h.ev.mono (L':=L2++[b]) (fun _ h=>by simp [h]) (fu.refl _)) h.le hn o e J H (by simp)
 have e0:itoa ((0:Nat):Int)=⟨#[48]⟩:=by decide +kernel
 rw [r,e0] at F;refine⟨b,o,e,q,⟨hn,L,h.up.meet r,?_,h.m,h.le,⟨Nat.le_of_lt (Nat.lt_of_lt_of_le z h.p.1),fun _=>.inr (Nat.lt_of_lt_of_le z h.p.1)⟩,fun h=>(by cases h),h.pre.trans (List.prefix_append _ _),F⟩⟩;rw [o];exact h.at_.meet i (fun k hk=>(h.rd.ring k hk).1) e f r
theorem RI.Pj(f:ao aa) (m:j<aa.length) (hr:ax aa j=true) (h:RI aa aA i0 aa[j].asks u1 L1 iW dr n L2 iE j2 gw acc) (hn:n<aa[j].asks.length) (hc:aB (bw aa aa[j].asks[n])=true)
  (r:aX gw (bw aa aa[j].asks[n])=none) {v:Value}(t:aX iE (bw aa aa[j].asks[n])=some v) :
  ∃s:ByteArray,v=.string s∧s.size≤1000∧RI aa aA i0 aa[j].asks u1 L1 iW dr (n+1) L2 iE j2 gw (acc++[s]):=by
 obtain⟨b,o,p,z,F,u⟩:=RI.inside f m hr hn hc
 have q:b∈L2:=by
  by_cases hm:b∈L2
  ·
   exact hm
  have:=h.at_.2 (aH aa (b:Int)) (fun k hk e=>hm (by have:=dh f p (h.rd.ring k hk).1 e;rw [this];exact hk))
  grind
 have i:=h.at_.1 b q;rw [← o,t] at i;simp only [Option.some.injEq] at i;refine⟨_,i,?_,{h with hn:=hn,ev:=RI.I9 f m hr h.ev h.le hn o p u r q}⟩;have hle:=h.rd.le b
 have e:Lib.itoa (u1 b:Int)=Lib.decDigits (u1 b):=by unfold Lib.itoa;rw [if_neg (by omega)];rfl
 grind [itoa,Lib.decDigits,ByteArray.size]
end
end Go.Rc

namespace Go.Rc
open Go
/-! ### keys in order -/
def kE(k:Key):List Key→List Key
 | []=>[k]
 | x::r=>if bl x k<0 then x::kE k r else if x=k then x::r else k::x::r
def gP(l:List Key):List Key:=l.foldl (fun out k=>kE k out) []
theorem G5:∀(l:List Key) (k:Key) (p:Nat),p≤l.length→(∀q x,q<p→l[q]?=some x→bl x k<0)→(∀x,l[p]?=some x→0≤bl x k)→kE k l=if l[p]?=some k then l else l.take p++[k]++l.drop p:=by
 intro l
 induction l with
 | nil=>intro k p b _ _;simp at b;subst b;rfl
 | cons x r f=>
  intro k p b h1 e
  cases p with
  | zero=>
   have:=e x rfl
   simp only [kE]
   grind
  | succ p=>
   have:=h1 0 x (by omega) rfl
   simp only [kE];rw [if_pos this,f k p (by simpa using b) (fun q y h hy=>h1 (q+1) y (by omega) (by simpa using hy)) (fun y hy=>e y (by simpa using hy))]
   grind
theorem En(k:Key):∀l,(kE k l).length≤l.length+1:=by
 intro l
 induction l with
 | nil=>simp [kE]
 | cons x r b=>grind [kE]
theorem qZ(l:List Key) (k:Key):gP (l++[k])=kE k (gP l):=by simp [gP]
theorem oy(l:List Key):(gP l).length≤l.length:=by
 have key:∀(l acc:List Key),(l.foldl (fun out k=>kE k out) acc).length≤acc.length+l.length:=by
  intro l
  induction l with
  | nil=>intro acc;simp
  | cons x r b=>grind [En]
 simpa [gP] using key l []
theorem xA(k:Key):∀(l:List Key) (x:Key),x∈kE k l↔x=k∨x∈l:=by
 intro l
 induction l with
 | nil=>intro x;simp [kE]
 | cons y r b=>grind [kE]
theorem iz(l:List Key) (x:Key):x∈gP l↔x∈l:=by
 have key:∀(l acc:List Key),x∈l.foldl (fun out k=>kE k out) acc↔x∈acc∨x∈l:=by
  intro l
  induction l with
  | nil=>intro acc;simp
  | cons y r b=>grind [xA]
 simpa [gP] using key l []
def xB(out:List Key) (p:Nat) (x:Key):Bool:=match out[p]? with | some y=>decide (bl y x<0) | none=>false
/-! ### groups -/
def Ld(l:List Rec) (rev:Int) (a x:Key):Prop:=x∈(aF l a).reads∧bD l rev x=true
inductive bj (l:List Rec) (rev:Int) (k:Key):Key→Prop where
 | one {x:Key}:Ld l rev k x→bj l rev k x
 | step {x y:Key}:bj l rev k x→Ld l rev x y→bj l rev k y
def fM(m:List (Key × Value)) (P:Key→Prop):Prop:=∀k,(aX m k=some (.bool true)↔P k)∧(aX m k=none∨aX m k=some (.bool true))
open Classical in
noncomputable def vh(l:List Rec) (rev:Int) (k x:Key):Bool:=decide (bj l rev k x)
theorem iF{l:List Rec}{rev:Int}{k x:Key}:vh l rev k x=true↔bj l rev k x:=by unfold vh;simp
noncomputable def xC(l:List Rec) (rev:Int) (k:Key) (r:Rec):Bool:=decide (r.key≠k) && (vh l rev k r.key && vh l rev r.key k)
noncomputable def gC(l:List Rec) (rev:Int) (k:Key) (rs:List Rec):List Key:=(rs.filter (xC l rev k)).map (·.key)
theorem po{l:List Rec}{rev:Int}{k:Key}{i:Nat}(h:i<l.length):gC l rev k (l.take (i+1))=if xC l rev k l[i]=true then gC l rev k (l.take i)++[l[i].key] else gC l rev k (l.take i):=by
 rw [List.take_succ_eq_append_getElem h];simp only [gC,List.filter_append,List.map_append]
 grind
theorem mN(l:List Rec) (rev:Int) (k:Key) (rs:List Rec):(gC l rev k rs).length≤rs.length:=by grind [gC]
theorem fM.get{m:List (Key × Value)}{P:Key→Prop}(h:fM m P) (k:Key) {b:Bool}(hb:b=true↔P k):(aX m k).getD (.bool false)=.bool b:=by
 obtain⟨h1,e⟩:=h k
 grind
theorem fM.put{m:List (Key × Value)}{b:List Key}(h:fM m (·∈b)) (x:Key):fM (bZ m x (.bool true)) (·∈b++[x]):=fun k=>by
 rw [cZ]
 by_cases e:x=k
 ·
  rw [if_pos e];simp [e]
 rw [if_neg e];obtain⟨h1,f⟩:=h k
 grind
theorem fM.congr{m:List (Key × Value)}{P Q:Key→Prop}(h:fM m P) (b:∀k,P k↔Q k):fM m Q:=fun k=>⟨(h k).1.trans (b k),(h k).2⟩
theorem fM.nil:fM [] (·∈([]:List Key)):=fun k=>by simp [aX]
theorem ez{L S:List Key}(h:L.Nodup) (b:∀x∈L,x∈S):L.length≤S.length:=by
 induction L generalizing S with
 | nil=>simp
 | cons a r e=>
  have f:=b a (by simp);rw [List.nodup_cons] at h
  have:=e (S:=S.erase a) h.2 fun x i=>by grind
  grind
theorem k7{l:List Rec}{rev:Int}{x:Key}(h:bD l rev x=true):x∈l.map (·.key):=by
 unfold bD at h
 rw [Bool.and_eq_true] at h
 grind [az]
theorem bj.eY{l:List Rec}{rev:Int}{k x:Key}(h:bj l rev k x):bD l rev x=true:=by
 cases h with
 | one h=>exact h.2
 | step _ h=>exact h.2
theorem vi{l:List Rec}{rev:Int}{k:Key}{b:List Key}(e:∀x∈b,bj l rev k x) (hc:∀y∈k::b,∀x,Ld l rev y x→x∈b) (x:Key):x∈b↔bj l rev k x:=by
 refine⟨e x,fun h=>?_⟩
 induction h with
 | one h=>exact hc k (by simp) _ h
 | step _ f i=>exact hc _ (by simp [i]) _ f
noncomputable def aC(l:List Rec) (rev:Int) (k:Key):List Key:=if bD l rev k then gP (k::gC l rev k l) else [k]
def bK(rev:Int) (group:List Key) (bp:Bool) (r:Rec):Rec:=if r.key∈group then (if bp then {r with bp:=true} else {r with av:=rev}) else r
def de(x:cW) (group:List Key) (bp:Bool):cW:={x with ah:=x.ah.map (bK x.ad group bp)}
def aI(x:cW) (k:Key):Bool:=(az x.ah k).isSome && decide ((aF x.ah k).av=x.ad)
def aP(val:Key→ByteArray) (x:cW) (k:Key):Int:=
 if aw k then (bs x.ab k).changed
 else if (az x.ah k).isSome && (decide ((aF x.ah k).av=x.ad) || decide (val k=(aF x.ah k).value)) then (aF x.ah k).changed else x.ad
def dt(val:Key→ByteArray) (x:cW) (k:Key):ByteArray:=if aB k then val k else nG x k
/-! ### a request -/
structure ES where
 b:cW
 busy:List (Key × Value)
 cz:List Key
 e:Int
def ES.on(s:ES) (k:Key):Bool:=(aX s.busy k).isSome
def dj(s:ES) (k:Key):Bool:=aw k || ((s.on k && aB k) || aI s.b k)
mutual
noncomputable def hY(aa:List aD) (val:Key→ByteArray):Nat→ES→Key→Option ES
 | 0,_,_=>none
 | f+1,s,k=>
  if s.e≠0∨aw k=true then some s
  else if aI s.b k then some s
  else if s.on k then (if aB k then some s else some {s with e:=43})
  else (cm aa val f {s with busy:=bZ s.busy k (.bool true)} k 0).bind fun p=>
   (if p.2 then eG aa val f p.1 k [] [] else some p.1).bind fun s3=>some {s3 with busy:=fI s3.busy k}
noncomputable def cm(aa:List aD) (val:Key→ByteArray):Nat→ES→Key→Nat→Option (ES × Bool)
 | 0,_,_,_=>none
 | f+1,s,k,at_=>
  if s.e≠0 then some (s,false)
  else if !(az s.b.ah k).isSome || (aF s.b.ah k).bp then some (s,true)
  else if (aF s.b.ah k).av=s.b.ad then some (s,false)
  else
   match (bP s.b.ah (aC s.b.ah s.b.ad k))[at_]? with
   | none=>some ({s with b:=de s.b (aC s.b.ah s.b.ad k) false},false)
   | some c=>
    if dj s c.read=false then (hY aa val f s c.read).bind fun s'=>cm aa val f s' k at_
    else if (aF s.b.ah c.eQ).av<aP val s.b c.read then
     some ((if aB k then {s with b:=de s.b (aC s.b.ah s.b.ad k) true} else s),true)
    else cm aa val f s k (at_+1)
noncomputable def eG(aa:List aD) (val:Key→ByteArray):Nat→ES→Key→List Key→List ByteArray→Option ES
 | 0,_,_,_,_=>none
 | f+1,s,k,reads,ai=>
  if s.e≠0 then some s
  else if (bB aa k ai).done then
   (if !(az s.b.ah k).isSome && decide (4000≤s.b.ah.length) then some {s with e:=45}
   else some {s with b:={s.b with ah:=eN s.b.ah (di s.b k (bB aa k ai).value reads)},cz:=s.cz++[k]})
  else (hY aa val f s (bB aa k ai).ask).bind fun s'=>
   if s'.e=0 then eG aa val f s' k (reads++[(bB aa k ai).ask]) (ai++[dt val s'.b (bB aa k ai).ask]) else eG aa val f s' k reads ai
end
/-! ### a solver, as one thing -/
def As.k8(P:Program) (ST:Nat) (aa:List aD) (x:cW) (D:SD):As where
 fp y:=y=D.s∨y=D.m
 ok Z w:=D.s≠D.m∧bM w D.s ST (D.cells x)∧(∃ml,aJ aa x.ab ml∧KM Key.val w D.m ml)∧(D.F P aa x).p Z w
 lt:=fun⟨_,h1,⟨_,_,h2⟩,_⟩ y hy=>by rcases hy with rfl | rfl;exact h1.lt;exact h2.lt
 mono hZ:=fun⟨h0,h1,h2,h3⟩=>⟨h0,h1,h2,(D.F P aa x).mono hZ h3⟩
 st:=fun hs hc ⟨h0,h1,⟨ml,h2,h3⟩,h4⟩=>⟨h0,(As.blk D.s ST (D.cells x)).st (Z:=fun _=>False) hs (fun y hy hl=>hc y (.inl (.inl (by rcases hy with hy | hy;exact hy;exact hy.elim))) hl) h1,
  ⟨ml,h2,(As.map Key.val D.m ml).st (Z:=fun _=>False) hs (fun y hy hl=>hc y (.inl (.inr (by rcases hy with hy | hy;exact hy;exact hy.elim))) hl) h3⟩,(D.F P aa x).st hs (fun y hy hl=>hc y (.inr hy) hl) h4⟩
section
variable {w0 w w':World}{M Z:Nat→Prop}{l:List As}{A B C:As}
theorem St.split(h:St w0 M Z w (C::l)) (o:A.ok Z w) (p:B.ok Z w) (i:∀x,A.fp x→C.fp x) (m:∀x,B.fp x→C.fp x) (q:∀x,A.fp x→¬B.fp x):St w0 M Z w (A::B::l):=by
 obtain⟨r,t⟩:=List.pairwise_cons.1 h.pd;refine⟨h.bS,h.hV,?_,?_,?_,?_⟩
 ·
  intro D b x e f;simp only [List.mem_cons] at b
  rcases b with rfl | rfl | b
  ·
   exact h.jV C (by simp) x (i x e) f
  ·
   exact h.jV C (by simp) x (m x e) f
  exact h.jV D (by simp [b]) x e f
 ·
  intro D b x e;simp only [List.mem_cons] at b
  rcases b with rfl | rfl | b
  ·
   exact h.kU C (by simp) x (i x e)
  ·
   exact h.kU C (by simp) x (m x e)
  exact h.kU D (by simp [b]) x e
 ·
  simp_all
 intro D b;simp only [List.mem_cons] at b
 rcases b with rfl | rfl | b
 ·
  exact o
 ·
  exact p
 exact h.ok D (by simp [b])
theorem St.join(h:St w0 M Z w (A::B::l)) (m:C.ok Z w) (i:∀x,C.fp x→A.fp x∨B.fp x):St w0 M Z w (C::l):=by
 obtain⟨p,o⟩:=List.pairwise_cons.1 h.pd;obtain⟨q,r⟩:=List.pairwise_cons.1 o;refine⟨h.bS,h.hV,?_,?_,?_,?_⟩
 ·
  intro D b x e f;simp only [List.mem_cons] at b
  rcases b with rfl | b
  ·
   rcases i x e with h1 | h1
   ·
    exact h.jV A (by simp) x h1 f
   exact h.jV B (by simp) x h1 f
  exact h.jV D (by simp [b]) x e f
 ·
  intro D b x e;simp only [List.mem_cons] at b
  rcases b with rfl | b
  ·
   rcases i x e with h1 | h1
   ·
    exact h.kU A (by simp) x h1
   exact h.kU B (by simp) x h1
  exact h.kU D (by simp [b]) x e
 ·
  grind [List.pairwise_cons]
 intro D b;simp only [List.mem_cons] at b
 rcases b with rfl | b
 ·
  exact m
 exact h.ok D (by simp [b])
theorem St.one(h:St w0 M Z w l) (e:A∈l):St w (lS [A]) Z w [A] where
 bS:=fj.refl _ _
 hV:=h.hV
 jV D b:=by simp at b;subst b;exact h.jV _ e
 kU D b x f:=.inl ⟨D,b,f⟩
 pd:=by simp
 ok D b:=by simp at b;subst b;exact h.ok _ e
theorem St.xD(h:St w0 M Z w l) (f:A∈l) (b:St w (lS [A]) Z w' [A]):St w0 M Z w' l:=
 h.same f (b.bS.mono fun x _ ⟨D,e,i⟩=>by simp at e;subst e;exact i) (b.ok A (by simp))
theorem Bw(f:A∈l) {x:Nat}(b:lS [A] x):lS l x:=by obtain⟨D,e,b⟩:=b;simp at e;subst e;exact⟨D,f,b⟩
end
theorem As.gv{P:Program}{ST:Nat}{aa:List aD}{x:cW}{D:SD}{Z:Nat→Prop}{w:World}(h:(As.k8 P ST aa x D).ok Z w):(D.F P aa x).p Z w:=h.2.2.2
theorem As.gvb{P:Program}{ST:Nat}{aa:List aD}{x:cW}{D:SD}{Z:Nat→Prop}{w:World}(h:(As.k8 P ST aa x D).ok Z w):bM w D.s ST (D.cells x):=h.2.1
structure EA where
 (a1 a2 a3:Option Addr) (n1 c1 n2 c2 n3 c3:Nat)
def EA.cells(E:EA) (sb bb:Nat) (s:ES):List Value:=
 [.pointer (some ⟨sb,0,none⟩),.int .i64 s.b.ad,.slice E.a1 E.n1 E.c1,.slice E.a2 E.n2 E.c2,.map (some bb),.slice E.a3 E.n3 E.c3,.int .i64 s.e]
theorem zu{x:cW}{group:List Key}{bp:Bool}{i:Nat}(h:i<x.ah.length) (hi:i≤x.ah.length):(((x.ah.take i).map (bK x.ad group bp))++x.ah.drop i).set i (bK x.ad group bp x.ah[i])=((x.ah.take (i+1)).map (bK x.ad group bp))++x.ah.drop (i+1):=by
 rw [List.set_append_right _ _ (by simp;omega)];simp only [List.length_map,List.length_take,Nat.min_eq_left hi,Nat.sub_self]
 grind [List.drop_eq_getElem_cons]
end Go.Rc

namespace Go.Rc
open Go
structure Good (aa:List aD) (aA:List cj) (s:ES):Prop where
 aA:s.b.ab=aA
 len:s.b.ah.length≤4000
 key:∀r∈s.b.ah,eB aa r.key
 G6:∀r∈s.b.ah,r.reads.length≤4000∧∀a∈r.reads,eB aa a
 ie:(s.busy.map (·.1)).Nodup
 busy:∀k,aX s.busy k=none∨aX s.busy k=some (.bool true)
structure Bx (s s':ES):Prop where
 cz:s.cz.length≤s'.cz.length
 rev:s'.b.ad=s.b.ad
theorem Bx.refl(s:ES):Bx s s:=⟨Nat.le_refl _,rfl⟩
theorem Bx.trans{s t u:ES}(h:Bx s t) (b:Bx t u):Bx s u:=⟨Nat.le_trans h.cz b.cz,b.rev.trans h.rev⟩
section
variable {aa:List aD}{aA:List cj}{s:ES}{k:Key}
theorem Good.on(h:Good aa aA s) (k:Key):Good aa aA {s with busy:=bZ s.busy k (.bool true)}:=
 {h with ie:=eM h.ie _ _,busy:=fun k'=>by show aX (bZ s.busy k (.bool true)) k'=none∨_;rw [cZ];split;exact .inr rfl;exact h.busy k'}
theorem Good.off(h:Good aa aA s) (k:Key):Good aa aA {s with busy:=fI s.busy k}:=
 {h with ie:=by grind [D0,ie],busy:=fun k'=>by show aX (fI s.busy k) k'=none∨_;rw [xf h.ie];split;exact .inl rfl;exact h.busy k'}
theorem Good.err(h:Good aa aA s) (e:Int):Good aa aA {s with e:=e}:={h with}
theorem cn(rev:Int) (g:List Key) (d:Bool) (r:Rec):(bK rev g d r).key=r.key∧(bK rev g d r).reads=r.reads:=by unfold bK;grind
theorem Good.mark(h:Good aa aA s) (g:List Key) (d:Bool):Good aa aA {s with b:=de s.b g d}:=
 {h with
  len:=by show((s.b.ah.map _).length≤4000);rw [List.length_map];exact h.len
  key:=fun r hr=>by obtain⟨q,e,rfl⟩:=List.mem_map.1 hr;rw [(cn _ _ _ q).1];exact h.key q e
  G6:=fun r hr=>by obtain⟨q,e,rfl⟩:=List.mem_map.1 hr;rw [(cn _ _ _ q).2];exact h.G6 q e}
theorem Bx.mark(g:List Key) (d:Bool):Bx s {s with b:=de s.b g d}:=⟨Nat.le_refl _,rfl⟩
theorem eW(r:Rec):∀(l:List Rec) (b:Bool) (x:Rec),x∈dH r l b→x=r∨x∈l:=by
 intro l
 induction l with
 | nil=>grind [dH]
 | cons y e f=>grind [dH]
theorem xE(r:Rec):∀(l:List Rec) (b:Bool),(dH r l b).length+(l.filter fun x=>decide (bl x.key r.key=0)).length=l.length+(if b then 0 else 1):=by
 intro l
 induction l with
 | nil=>intro b;cases b <;> simp [dH]
 | cons y f e=>
  intro b;have h1:=e (b || decide (0≤bl y.key r.key));simp only [dH,List.length_append,List.length_cons]
  grind
theorem Eo{l:List Rec}{r:Rec}(h:(az l r.key).isSome=true) (hc:bl r.key r.key=0):(eN l r).length≤l.length:=by
 have h1:=xE r l false;obtain⟨x,b⟩:=Option.isSome_iff_exists.1 h;have f:=List.mem_of_find?_eq_some b;have e:=List.find?_some b
 simp at e
 have i:0<(l.filter fun x=>decide (bl x.key r.key=0)).length:=List.length_pos_of_mem (List.mem_filter.2 ⟨f,by rw [e];simp [hc]⟩)
 unfold eN
 simp at h1
 omega
theorem uc:∀l:List UInt8,Lib.compareBytes l l=0
 | []=>by simp [Lib.compareBytes]
 | a::r=>by simp [Lib.compareBytes,uc r]
theorem gD(k:Key):bl k k=0:=by unfold bl;simp [uc]
theorem Good.put(h:Good aa aA s) {r:Rec}{cz:List Key}(hk:eB aa r.key) (hr:r.reads.length≤4000∧∀a∈r.reads,eB aa a) (f:(!(az s.b.ah r.key).isSome && decide (4000≤s.b.ah.length))=false) :
  Good aa aA {s with b:={s.b with ah:=eN s.b.ah r},cz:=cz}:=
 {h with
  len:=by grind [eN,len,Eo,gD,ot]
  key:=fun x e=>by rcases eW r _ _ x e with rfl | e;exact hk;exact h.key x e
  G6:=fun x e=>by rcases eW r _ _ x e with rfl | e;exact hr;exact h.G6 x e}
def gh(aa:List aD) (k:Key) (n:Nat):Prop:=∃i,i<aa.length∧k=aH aa (i:Int)∧n≤cy aa i
theorem eB.gx(h:eB aa k) (hi:aw k=false):gh aa k 0:=by
 cases h with
 | cell h=>grind [aN]
 | eF h gq=>exact⟨_,h,rfl,Nat.zero_le _⟩
theorem gh.next(b:ao aa) {ai:List ByteArray}(h:gh aa k ai.length) (f:(bB aa k ai).done=false):gh aa k (ai.length+1)∧eB aa (bB aa k ai).ask:=by
 obtain⟨i,hi,rfl,hn⟩:=h
 have gq:i≤99:=by have:=b.len;omega
 rw [ey hi gq] at f ⊢
 rcases Nat.lt_or_ge ai.length (cy aa i) with e | o
 ·
  obtain⟨a,h1,m,_⟩:=da b hi e;rw [h1];exact⟨⟨i,hi,rfl,e⟩,m.vf b⟩
 grind [eU]
theorem gh.le(b:ao aa) {n:Nat}(h:gh aa k n):n≤6:=by obtain⟨i,hi,_,hn⟩:=h;have:=iC b hi;omega
theorem gh.not(b:ao aa) {n:Nat}(h:gh aa k n):eP k∧aw k=false:=by
 obtain⟨i,hi,rfl,hn⟩:=h;grind [ao.len,ee,bX]
theorem gh.vf(b:ao aa) {n:Nat}(h:gh aa k n):eB aa k:=by obtain⟨i,hi,rfl,_⟩:=h;have:=b.len;exact .eF hi (by omega)
end
section
variable {aa:List aD}{val:Key→ByteArray}{aA:List cj}
def UpG(aa:List aD) (val:Key→ByteArray) (aA:List cj) (f:Nat):Prop:=∀s k s',hY aa val f s k=some s'→Good aa aA s→eB aa k→Good aa aA s'∧Bx s s'
def ChG(aa:List aD) (val:Key→ByteArray) (aA:List cj) (f:Nat):Prop:=∀s k n s' b,cm aa val f s k n=some (s',b)→Good aa aA s→Good aa aA s'∧Bx s s'
def RuG(aa:List aD) (val:Key→ByteArray) (aA:List cj) (f:Nat):Prop:=∀s k reads ai s',eG aa val f s k reads ai=some s'→Good aa aA s→gh aa k ai.length→reads.length=ai.length→(∀a∈reads,eB aa a)→Good aa aA s'∧Bx s s'
theorem fm{aa:List aD}{aA:List cj}{s:ES}(h:Good aa aA s) {group:List Key}{n:Nat}{c:ph}(hc:(bP s.b.ah group)[n]?=some c):eB aa c.read:=by
 have h1:=List.mem_of_getElem? hc;obtain⟨m,hm,i⟩:=List.mem_flatMap.1 h1;obtain⟨a,o,rfl⟩:=List.mem_map.1 i;have e:=(List.mem_filter.1 o).1
 show eB aa a
 unfold aF at e
 cases f:az s.b.ah m with
 | none=>rw [f] at e;simp [l8] at e
 | some r=>rw [f] at e;exact(h.G6 r (List.mem_of_find?_eq_some f)).2 a e
theorem mO(l:List Rec) (rev:Int) (k:Key):(aC l rev k).length≤l.length+1:=by grind [aC,oy,mN]
theorem Bz{aa:List aD}{aA:List cj}{s:ES}(h:Good aa aA s) {group:List Key}(f:group.length≤4001):∀i,((group.take i).flatMap fun m=>ct group m (aF s.b.ah m).reads).length≤100000000:=by
 intro i
 have h1:∀l:List Key,(l.flatMap fun m=>ct group m (aF s.b.ah m).reads).length≤l.length*4000:=by
  intro l
  induction l with
  | nil=>simp
  | cons m r o=>
   simp only [List.flatMap_cons,List.length_append,List.length_cons];have p:=ig group m (aF s.b.ah m).reads
   have q:(aF s.b.ah m).reads.length≤4000:=by
    unfold aF
    cases e:az s.b.ah m with
    | none=>simp [l8]
    | some r=>exact(h.G6 r (List.mem_of_find?_eq_some e)).1
   rw [Nat.add_mul]
   omega
 grind
theorem BA{aa:List aD}{aA:List cj}{s:ES}(h:Good aa aA s) {group:List Key}(e:group.length≤4001):(bP s.b.ah group).length≤100000000:=by
 have h1:=Bz h e group.length;rw [List.take_of_length_le (Nat.le_refl _)] at h1;exact h1
theorem bR(u:ao aa):∀f,UpG aa val aA f∧ChG aa val aA f∧RuG aa val aA f:=by
 intro f
 induction f with
 | zero=>exact⟨fun s k s' h=>by simp [hY] at h,fun s k n s' b h=>by simp [cm] at h,fun s k r a s' h=>by simp [eG] at h⟩
 | succ f I=>
  obtain⟨G,z,F⟩:=I;refine⟨?_,?_,?_⟩
  ·
   intro s k s' h e hk
   unfold hY at h
   split at h
   ·
    cases h;exact⟨e,.refl _⟩
   rename_i he
   split at h
   ·
    cases h;exact⟨e,.refl _⟩
   split at h
   ·
    split at h <;> cases h
    ·
     exact⟨e,.refl _⟩
    exact⟨e.err _,⟨Nat.le_refl _,rfl⟩⟩
   obtain⟨p,J,h⟩:=Option.bind_eq_some_iff.1 h;obtain⟨t,ht,h⟩:=Option.bind_eq_some_iff.1 h
   cases h
   obtain⟨h1,o⟩:=z _ _ _ p.1 p.2 (by rw [J]) (e.on k);have H:Bx s p.1:=⟨o.cz,o.rev⟩
   have i:Good aa aA t∧Bx s t:=by
    split at ht
    ·
     obtain⟨m,L⟩:=F _ _ _ _ _ ht h1 (hk.gx (by simp at he;exact he.2)) rfl (fun a q=>by cases q);exact⟨m,H.trans L⟩
    cases ht;exact⟨h1,H⟩
   exact⟨i.1.off k,⟨i.2.cz,i.2.rev⟩⟩
  ·
   intro s k n s' b h e
   unfold cm at h
   split at h
   ·
    cases h;exact⟨e,.refl _⟩
   split at h
   ·
    cases h;exact⟨e,.refl _⟩
   split at h
   ·
    cases h;exact⟨e,.refl _⟩
   split at h
   ·
    cases h;exact⟨e.mark _ _,.mark _ _⟩
   rename_i c hc
   split at h
   ·
    obtain⟨t,ht,h⟩:=Option.bind_eq_some_iff.1 h;obtain⟨h1,o⟩:=G _ _ _ ht e (fm e hc);obtain⟨i,m⟩:=z _ _ _ _ _ h h1;exact⟨i,o.trans m⟩
   split at h
   ·
    split at h <;> cases h
    ·
     exact⟨e.mark _ _,.mark _ _⟩
    exact⟨e,.refl _⟩
   exact z _ _ _ _ _ h e
  intro s k reads ai s' h e q hl hr
  unfold eG at h
  split at h
  ·
   cases h;exact⟨e,.refl _⟩
  split at h
  ·
   split at h
   ·
    cases h;exact⟨e.err _,⟨Nat.le_refl _,rfl⟩⟩
   rename_i m
   cases h
   have O:=q.le u;exact⟨e.put (r:=di s.b k (bB aa k ai).value reads) (q.vf u) ⟨by show reads.length≤4000;omega,hr⟩ (by show(!(az s.b.ah k).isSome && _)=false;simpa using m),⟨by simp,rfl⟩⟩
  rename_i N
  obtain⟨t,ht,h⟩:=Option.bind_eq_some_iff.1 h;have hn:=q.next u (by simpa using N);obtain⟨h1,o⟩:=G _ _ _ ht e hn.2
  split at h
  ·
   obtain⟨i,m⟩:=F _ _ _ _ _ h h1 (by simpa using hn.1) (by simp [hl]) (fun a q=>by grind);exact⟨i,o.trans m⟩
  obtain⟨i,m⟩:=F _ _ _ _ _ h h1 q hl hr;exact⟨i,o.trans m⟩
end
end Go.Rc

