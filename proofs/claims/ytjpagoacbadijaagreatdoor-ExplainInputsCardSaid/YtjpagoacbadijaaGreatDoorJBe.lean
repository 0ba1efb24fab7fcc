/- Base of the proof: frames, memory, ownership, and the plain meaning of rule systems. Conditions: as each lemma says. -/
import Derived.Test.YtjpagoacbadijaaGreatDoorJBd
import Derived.Lib.IfaceEq
import Derived.Lib.BufferWrite
import Derived.Lib.UnsafeStr
import Derived.Laws.MakeOwn
import Derived.Test.YtjpagoacbadijaaGreatDoorJBc
set_option linter.all false
namespace Go.Rc
open Go
theorem aJ.wP{w w':World}(h:RowKit.Below w.heap.size w w') (b:w.drawn≤w'.drawn):aJ [] w w':=⟨h.os,h.tape,h.output,h.size,b,fun k hk _=>h.block k hk⟩
theorem nb(w:World) (p:Addr) (n:Nat):(w.freeze p n).drawn=w.drawn:=by grind [World.freeze]
section
variable {P:Program}{n:Nat}{kv:KV}{w w':World}{K:KV→World→Prop}{d:Tmp}{ty:TypeId}{pos:String}{af:Array Edge}{g:Option (Nat × Bool)}{T U:TypeId}{op:Op}{v:Value}{x y:Operand}
theorem OX.val(b:aV op=false) (e:Nat.blt d n=true) (hk:known kv op=true) (hr:(execOp (gX kv) ⟨some d,op,ty,pos,af,g⟩).run P w=.ok (.value v) w') (h:K ((d,v)::kv) w'):OX P ⟨some d,op,ty,pos,af,g⟩ n kv w K:=⟨b,e,hk,by rw [hr];exact h⟩
theorem PV.DK{b:TypeDesc}(hT:P.underlying T=some b) (f:∀ms,b≠.interface ms) (e:ev kv x=some v):PV P (.makeInterface T x) ty kv w (.iface T v):=
 ⟨rfl,by simp [known,opers,e],fun _ _ _ _=>by
  simp only [execOp,aF e,Instr.makeInterface,Sem.run_bind,run_underlying hT,Result.andThen_ok]
  simp_all⟩
theorem PV.JM{ms:Array (String × TypeId)}{e:TypeId}{q:IntKind}{a b:Int}(hT:P.underlying T=some (.interface ms)) (hc:(P.info? e).map (·.comparable)=some true) (i:P.underlying e=some (.int q)) (f:ev kv x=some (.iface e (.int .i64 a))) (hy:ev kv y=some (.iface e (.int .i64 b))):PV P (.binOp .eql T x y U) ty kv w (.bool (a == b)):=
 ⟨rfl,by simp [known,opers,f,hy],fun _ _ _ _=>by
  have h:=Lib.run_eql_iface_int w (k:=.i64) a b hT hc i;simp only [execOp,aF f,aF hy]
  simp [eqGuard,h]⟩
theorem OX.Of{r:Value}(e:Nat.blt d n=true) {u v:Value}(b:ev kv x=some u) (hy:ev kv y=some v) (hr:(Instr.makeSlice T u v).run P w=.ok r w') (h:K ((d,r)::kv) w'):OX P ⟨some d,.makeSlice T x y,ty,pos,af,g⟩ n kv w K:=
 OX.val rfl e (by simp [known,opers,b,hy]) (by simp only [execOp,aF b,aF hy,Sem.run_bind,hr,Result.andThen_ok];rfl) h
theorem OX.Og{r u v:Value}(e:Nat.blt d n=true) (b:ev kv x=some u) (hy:ev kv y=some v) (hr:(Builtin.copy_ #[T,U] ty #[u,v]).run P w=.ok r w') (h:K ((d,r)::kv) w'):OX P ⟨some d,.call {callee:=.builtin .copy,args:=#[x,y],argTypes:=#[T,U]},ty,pos,af,g⟩ n kv w K:=
 OX.val rfl e (by simp [known,opers,b,hy]) (by simp [execOp,aF b,aF hy,resolve,invoke,builtin,hr]) h
theorem OX.Ul{r u v:Value}(e:Nat.blt d n=true) (b:ev kv x=some u) (hy:ev kv y=some v) (hr:(Builtin.unsafeString_ #[T,U] ty #[u,v]).run P w=.ok r w') (h:K ((d,r)::kv) w'):OX P ⟨some d,.call {callee:=.builtin .unsafeString,args:=#[x,y],argTypes:=#[T,U]},ty,pos,af,g⟩ n kv w K:=
 OX.val rfl e (by simp [known,opers,b,hy]) (by simp [execOp,aF b,aF hy,resolve,invoke,builtin,hr]) h
end
theorem uO{P:Program}{T S e pt it Um Un:TypeId}{i:TypeInfo}(hT:P.underlying T=some (.slice e)) (hi:P.info? e=some i) (f:i.zero=some (.int .u8 0)) (h1:i.size=1) (hb:i.bytes=1) (q:P.underlying pt=some (.pointer e)) {s:ByteArray}(h0:s.size≠0) (J:s.size≤1000) (w:World) :
  ∃w1 w2 w3:World,(Instr.makeSlice T (.int .i64 (s.size:Int)) (.int .i64 (s.size:Int))).run P w=.ok (.slice (some ⟨w.heap.size,0,none⟩) s.size s.size) w1∧
   (Builtin.copy_ #[T,S] Um #[.slice (some ⟨w.heap.size,0,none⟩) s.size s.size,.string s]).run P w1=.ok (goInt s.size) w2∧
   (Builtin.unsafeString_ #[pt,it] Un #[.pointer (some ⟨w.heap.size,0,none⟩),.int .i64 (s.size:Int)]).run P w2=.ok (.string s) w3∧aJ [] w w3:=by
 have r:(P.info? e).map (·.size)=some 1:=by rw [hi];simp [h1]
 have t:P.cellsOf e=1:=by simp [Program.cellsOf,hi,h1]
 have L:(Lib.byteCells s.data.toList).length=s.size:=by rw [Lib.byteCells_length,← Lib.size_eq]
 have b:=run_make (P:=P) w T e i (.int .u8 0) hT hi f .i64 .i64 (s.size:Int) (s.size:Int) (by omega) (by omega) (by rw [hb];omega) (by omega)
 have u:(madeCells (Value.int .u8 0).cells (((s.size:Nat):Int).toNat*i.size)).size=s.size:=by rw [size_madeCells,h1];simp
 generalize madeCells (Value.int .u8 0).cells (((s.size:Nat):Int).toNat*i.size)=M at b u
 rw [Int.toNat_natCast] at b;have m:=Lib.run_copy_row_string (P:=P) (w.alloc (.cells M e)) T S Um e w.heap.size 0 s.size s.size s M e hT r (heap_alloc_new w _) (Nat.le_refl _) (by omega)
 have F:(M.toList.take 0++Lib.byteCells s.data.toList++M.toList.drop (0+s.size)).toArray=(Lib.byteCells s.data.toList).toArray:=by grind
 rw [F] at m;have G:((w.alloc (.cells M e)).setRow w.heap.size (Lib.byteCells s.data.toList).toArray).heap[w.heap.size]?=some (.cells (Lib.byteCells s.data.toList).toArray e (0,0)):=setRow_heap _ _ M _ e (0,0) (heap_alloc_new w _);have H:s.data.toList≠[]:=fun h=>h0 (by rw [Lib.size_eq,h];rfl);have o:=Lib.run_unsafeString_row (P:=P) ((w.alloc (.cells M e)).setRow w.heap.size (Lib.byteCells s.data.toList).toArray) pt it Un e q t w.heap.size s.size (by grind [World.shape?]) s.data.toList H (by rw [← Lib.size_eq];omega) (by rw [← Lib.size_eq];omega)
  (fun j z f=>Lib.cells_of_row G s.size j _ (by grind [Lib.byteCells]))
 rw [← Lib.size_eq] at o;have I:RowKit.Below w.heap.size (w.alloc (.cells M e)) ((w.alloc (.cells M e)).setRow w.heap.size (Lib.byteCells s.data.toList).toArray):=⟨rfl,rfl,rfl,by simp [World.setRow],fun k hk=>setRow_other _ _ _ _ (by omega)⟩;refine⟨_,_,_,b,m,o,aJ.wP (Lib.below_freeze (((RowKit.Below.refl _ w).alloc (Nat.le_refl _) _).trans I) (p:=⟨w.heap.size,0,none⟩) (Nat.le_refl _) _) ?_⟩;rw [nb];exact Nat.le_refl _
end Go.Rc

namespace Go.Rc
open Go
instance:Inhabited ca:=⟨⟨aW,⟨#[]⟩,0⟩⟩
def cI.row(x:cI) (a1:Option Addr) (n1 c1:Nat) (a2:Option Addr) (n2 c2:Nat):List Value:=[.int .i64 x.ad,.slice a1 n1 c1,.slice a2 n2 c2]
def fG(rev:Int) (l:List ca) (i:Nat):Bool:=
 !dW l[i]!.key || (!aw l[i]!.key || ((decide (0<(i:Int)) && decide (0≤bm l[i - 1]!.key l[i]!.key)) || (decide (1073741824<(l[i]!.value.size:Int)) || (decide (l[i]!.changed<0) || decide (rev<l[i]!.changed)))))
def uP(rev:Int) (l:List ca):Prop:=∀i y,l[i]?=some y→fG rev l i=false
open Classical in
noncomputable def nc(l:List Rec):Bool:=decide (kH l)
theorem yZ{l:List Rec}{b:Bool}(h:b=true↔kH l):b=nc l:=by
 unfold nc
 grind
def gQ(x:cI):Prop:=uP x.ad x.ab∧(∀(i:Nat) (r:Rec),x.ah[i]?=some r→r.aq≤x.ad)∧0≤x.ad∧x.ad≤1073741824∧x.ab.length≤64∧kH x.ah
noncomputable def jV(x:cI):Bool:=decide (0≤x.ad) && (decide (x.ad≤1073741824) && (decide ((x.ab.length:Int)≤64) && nc x.ah))
theorem oO(x:cI):jV x=true↔0≤x.ad∧x.ad≤1073741824∧x.ab.length≤64∧kH x.ah:=by
 simp only [jV,nc,Bool.and_eq_true,decide_eq_true_eq]
 grind
theorem PV.qq{P:Program}{kv:KV}{w:World}{T ty:TypeId}{f off:Nat}{fs:List Field}{fd:Field}(hu:P.underlying T=some (.struct fs.toArray)) (b:fs[f]?=some fd) (e:fd.offset=off) (h1:∀w,(isAgg fd.type).run P w=.ok false w)
  {x:Operand}{us:List Value}{v:Value}(h:ev kv x=some (.agg us.toArray)) (i:nth us off=some v):PV P (.field T x f) ty kv w v:=
 PV.Gp hu (by simpa using b) e h1 h (by rw [← pY];exact i)
end Go.Rc
namespace Go.Rc
open Go
def eC(k:Key):Prop:=k.kind<1∨22<k.kind
def bC(aa:List az) (k:Key) (ai:List ByteArray):wK:=if k.kind=31∨k.kind=32 then cm aa k ai else ⟨true,⟨#[]⟩,aW⟩
def pT(n:Int):ByteArray:=if n=14 then ⟨#[48]⟩ else ⟨#[]⟩
def mq(k:Key):ByteArray:=if k.kind=32 then ⟨#[48]⟩ else if aA k then pT k.kind else ⟨#[]⟩
def eh(aa:List az) (k:Key):Bool:=dW k && ((decide (k.kind≠31) && decide (k.kind≠32)) || decide (aH aa (number k)=k))
def aD(l:List Rec) (k:Key):Rec:=(ay l k).getD lN
def bD(l:List Rec) (rev:Int) (k:Key):Bool:=(ay l k).isSome && (aA k && (decide ((aD l k).aq<rev) && !(aD l k).bq))
def eO(x:cI) (k:Key):Bool:=aw k || ((ay x.ah k).isSome && decide ((aD x.ah k).aq=x.ad))
def dO(x:cI) (k:Key):ByteArray:=if aw k then (bw x.ab k).value else if eO x k then (aD x.ah k).value else ⟨#[]⟩
def cZ(x:cI) (k:Key) (v:ByteArray) (reads:List Key):Rec:=
 ⟨k,v,reads,if (ay x.ah k).isSome && decide ((aD x.ah k).value=v) then (aD x.ah k).changed else x.ad,x.ad,1+(reads.length:Int),false⟩
end Go.Rc
namespace Go.Rc
open Go
open Classical in
noncomputable def e7(aa:List az) (x:cI) (goals:List Key):Int:=
 if ¬ao aa then 41 else if ¬gQ x then 42 else if 32<goals.length then 3 else if goals.all (eh aa) then 0 else 40
end Go.Rc
namespace Go.Rc
open Go
structure nf where
 eP:Key
 read:Key
 deriving DecidableEq
def nf.cells(x:nf):List Value:=[.int .i64 x.eP.kind,.string x.eP.text,.int .i64 x.read.kind,.string x.read.text]
def cp(group:List Key) (m:Key) (l:List Key):List nf:=(l.filter fun x=>!decide (x∈group)).map fun x=>⟨m,x⟩
def bU(l:List Rec) (group:List Key):List nf:=group.flatMap fun m=>cp group m (aD l m).reads
theorem gK{group:List Key}{m:Key}{l:List Key}{j:Nat}(h:j<l.length):cp group m (l.take (j+1))=if l[j]∈group then cp group m (l.take j) else cp group m (l.take j)++[⟨m,l[j]⟩]:=by
 rw [List.take_succ_eq_append_getElem h];simp only [cp,List.filter_append,List.map_append]
 grind
theorem hW(group:List Key) (m:Key) (l:List Key):(cp group m l).length≤l.length:=by grind [cp]
end Go.Rc
namespace Go.Rc
end Go.Rc

namespace Go.Rc
open Go
variable {E EK ER EI ES EF base:Nat}{w w':World}{a:Option Addr}{n c:Nat}{S:List Nat}
/-! the plain meaning -/
end Go.Rc
namespace Go.Rc
open Go
variable {EA ERu:Nat}{w w':World}{a:Option Addr}{n c base:Nat}{S:List Nat}
end Go.Rc

namespace Go.Rc
open Go
def RR.key:RR Key:=RR.flat Key.cells
def RR.str:RR ByteArray:=RR.flat fun s=>[.string s]
def RR.ask:RR Ask:=RR.flat Ask.cells
def RR.aC:RR ca:=RR.flat ca.cells
def RR.Ik:RR nf:=RR.flat nf.cells
def RR.int:RR Int:=RR.flat fun n=>[.int .i64 n]
def RR.fl:RR az where
 r Z w x row:=wC Z w x row
 mono hZ h:=by obtain⟨a,n,c,h1,h2⟩:=h;exact⟨a,n,c,h1,h2.mono (fun b hb _=>hZ b hb) fun _ _ h=>h⟩
 st hs hc h:=by obtain⟨a,n,c,h1,h2⟩:=h;exact⟨a,n,c,h1,SR.st hs hc (fun _ _ h=>h) h2⟩
 cut h:=by obtain⟨a,n,c,h1,h2⟩:=h;exact⟨a,n,c,h1,h2.mono (fun b hb vY=>⟨hb,vY⟩) fun _ _ h=>h⟩
def RR.e8:RR Rec where
 r Z w x row:=∃a n c,row=x.row a n c∧Rd RR.key 2 Z w a n c x.reads∧x.reads.length≤4000
 mono hZ h:=by obtain⟨a,n,c,h1,h2,h3⟩:=h;exact⟨a,n,c,h1,h2.mono hZ,h3⟩
 st hs hc h:=by obtain⟨a,n,c,h1,h2,h3⟩:=h;exact⟨a,n,c,h1,h2.st hs hc,h3⟩
 cut h:=by grind [Rd.cut]
end Go.Rc

namespace Go.Rc
open Go
/-! ### numbers and their texts -/
theorem qt:∀(u:Nat) (n:Nat) (rest:List UInt8),decFrom (Lib.decDigits u++rest) (n:Int)=decFrom rest ((n*10 ^ Lib.nDigits u+u:Nat):Int):=by
 intro u
 induction u using Nat.strongRecOn with
 | _ u b=>
  intro n rest
  by_cases h:u<10
  ·
   rw [Lib.decDigits_one h,Lib.nDigits_small h]
   have e:(UInt8.ofNat (48+u)).toNat=48+u:=by rw [UInt8.toNat_ofNat'];omega
   simp only [List.cons_append,List.nil_append,decFrom,e]
   grind
  rw [Lib.decDigits,dif_neg h,Lib.nDigits_big h,List.append_assoc,b (u / 10) (by omega)]
  have e:(UInt8.ofNat (48+u % 10)).toNat=48+u % 10:=by rw [UInt8.toNat_ofNat'];omega
  simp only [List.cons_append,List.nil_append,decFrom,e]
  grind
theorem qu:∀u:Nat,∃d r,Lib.decDigits u=d::r∧(0<u→d≠48):=by
 intro u
 induction u using Nat.strongRecOn with
 | _ u b=>
  by_cases h:u<10
  ·
   refine⟨_,[],Lib.decDigits_one h,fun hu e=>?_⟩
   have:=congrArg UInt8.toNat e
   rw [UInt8.toNat_ofNat'] at this
   grind
  obtain⟨d,r,h1,f⟩:=b (u / 10) (by omega);exact⟨d,r++[UInt8.ofNat (48+u % 10)],by rw [Lib.decDigits,dif_neg h,h1];rfl,fun _=>f (by omega)⟩
theorem qv:∀(k u:Nat),u<10 ^ (k+1)→Lib.nDigits u≤k+1
 | 0,u,h=>by grind [Lib.nDigits_small]
 | k+1,u,h=>by
  by_cases h1:u<10
  ·
   rw [Lib.nDigits_small h1];omega
  rw [Lib.nDigits_big h1]
  have:=qv k (u / 10) (by rw [Nat.pow_succ] at h;omega)
  omega
theorem hY{n:Nat}(h:n<1000000000):cP (itoa (n:Int))=n:=by
 have e:Lib.itoa (n:Int)=Lib.decDigits n:=by unfold Lib.itoa;rw [if_neg (by omega)];rfl
 have hl:(Lib.decDigits n).length≤9:=by rw [Lib.decDigits_length];exact qv 8 n h
 have o:1≤(Lib.decDigits n).length:=by grind [Lib.decDigits_length,Lib.nDigits_pos]
 have f:(itoa (n:Int)).size=(Lib.decDigits n).length:=by grind [itoa,ByteArray.size]
 have b:(itoa (n:Int)).data.toList=Lib.decDigits n:=by unfold itoa;rw [e]
 unfold cP
 rw [if_neg]
 ·
  rw [b,← List.append_nil (Lib.decDigits n)]
  have:=qt n 0 []
  simp only [Nat.zero_mul,Nat.zero_add] at this;exact this
 rw [f,b];rintro(h1 | h1 | ⟨h1,p⟩)
 ·
  omega
 ·
  omega
 obtain⟨d,r,i,m⟩:=qu n;rw [i] at h1
 simp at h1
 by_cases h0:0<n
 ·
  exact m h0 h1
 grind [Lib.decDigits_one]
theorem dP{n:Nat}(h:n≤65535):bZ (itoa (n:Int))=n:=by
 unfold bZ
 rw [hY (by omega),if_neg (by omega)]
 rfl
theorem wQ{m n:Nat}(hm:m<1000000000) (hn:n<1000000000) (h:itoa (m:Int)=itoa (n:Int)):m=n:=by grind [hY]
/-! ### keys -/
theorem bE{aa:List az}{i:Nat}(hi:i<aa.length) (gR:i≤99):number (aH aa (i:Int))=i:=by
 have hk:aH aa (i:Int)=⟨if ax aa i then 32 else 31,itoa i⟩:=by unfold aH;rw [if_neg (by omega)];rfl
 rw [hk]
 unfold number
 simp only
 rw [hY (by omega),if_pos]
 split <;> omega
theorem dn{aa:List az}{i:Nat}(hi:i<aa.length) (gR:i≤99):(aH aa (i:Int)).kind=if ax aa i then 32 else 31:=by
 unfold aH;rw [if_neg (by omega)];rfl
theorem bT{aa:List az}{i:Nat}(hi:i<aa.length) (gR:i≤99):aw (aH aa (i:Int))=false:=by grind [aw,dn]
theorem aZ{n:Nat}(h:n≤99):aw (bB (n:Int))=true:=by
 unfold aw bB;rw [if_neg (by omega)];simp
theorem bf{aa:List az}{i:Nat}(hi:i<aa.length) (gR:i≤99):aA (aH aa (i:Int))=ax aa i:=by grind [aA,dn]
theorem iq{n:Nat}(h:n≤99):aA (bB (n:Int))=false:=by
 unfold aA bB;rw [if_neg (by omega)];simp
inductive eU (aa:List az):Key→Prop where
 | cell {n:Nat}(h:n≤99):eU aa (bB (n:Int))
 | fl {i:Nat}(h:i<aa.length) (gR:i≤99):eU aa (aH aa (i:Int))
/-! ### values -/
def cellOf(aC:List ca) (k:Key):ByteArray:=(bw aC k).value
def dT(turn:List ByteArray→wK) (gu:Key→ByteArray):Nat→List Key × List ByteArray
 | 0=>([],[])
 | n+1=>((dT turn gu n).1++[(turn (dT turn gu n).2).ask],(dT turn gu n).2++[gu (turn (dT turn gu n).2).ask])
def DL(aC:List ca) (prev:List ByteArray) (k:Key):ByteArray:=if aw k then cellOf aC k else prev.getD (number k).toNat ⟨#[]⟩
def cH(aa:List az) (i:Nat):Nat:=(aa[i]?.map (·.asks.length)).getD 0
def bs(aa:List az) (x:Ask):Key:=if x.cell then bB x.n else aH aa x.n
def ed(aa:List az) (i j:Nat):Prop:=∃r x,aa[i]?=some r∧r.ring=true∧x∈r.asks∧x.cell=false∧x.n=(j:Int)∧ax aa j=true
inductive cq (aa:List az) (i:Nat):Nat→Prop where
 | refl:cq aa i i
 | step {j k:Nat}:cq aa i j→ed aa j k→cq aa i k
def outside(aa:List az) (x:Ask):Bool:=x.cell || !ax aa x.n.toNat
def iN(aa:List az) (gu:Key→ByteArray) (j:Nat):Nat:=
 match aa[j]? with
 | some r=>dN r.c.toNat ((r.asks.filter (outside aa)).map fun x=>bZ (gu (bs aa x)))
 | none=>0
open Classical in
noncomputable def ofBits(P:Nat→Prop):Nat→Nat
 | 0=>0
 | n+1=>ofBits P n ||| (if P n then 2 ^ n else 0)
theorem B1(P:Nat→Prop):∀n,ofBits P n<2 ^ n:=by
 intro n
 induction n with
 | zero=>simp [ofBits]
 | succ n b=>
  unfold ofBits
  refine Nat.or_lt_two_pow (Nat.lt_of_lt_of_le b (Nat.pow_le_pow_right (by omega) (by omega))) ?_
  grind
theorem y5(P:Nat→Prop):∀n b,(ofBits P n).testBit b=true↔b<n∧P b:=by
 intro n
 induction n with
 | zero=>intro b;simp [ofBits]
 | succ n e=>
  intro b
  unfold ofBits
  grind
noncomputable def qw(aa:List az) (gu:Key→ByteArray) (i:Nat):Nat:=ofBits (fun b=>∃j,cq aa i j∧(iN aa gu j).testBit b=true) 16
noncomputable def nh(aa:List az) (aC:List ca) (prev:List ByteArray) (i:Nat):ByteArray:=
 if ax aa i then itoa (qw aa (DL aC prev) i:Int)
 else (cm aa (aH aa (i:Int)) (dT (cm aa (aH aa (i:Int))) (DL aC prev) (cH aa i)).2).value
noncomputable def aX(aa:List az) (aC:List ca):Nat→List ByteArray
 | 0=>[]
 | n+1=>aX aa aC n++[nh aa aC (aX aa aC n) n]
noncomputable def pz(aa:List az) (aC:List ca) (i:Nat):ByteArray:=nh aa aC (aX aa aC i) i
noncomputable def valOf(aa:List az) (aC:List ca) (k:Key):ByteArray:=if aw k then cellOf aC k else pz aa aC (number k).toNat
section
variable {aa:List az}{aC:List ca}
theorem DM:∀n,(aX aa aC n).length=n:=by
 intro n;induction n with
 | zero=>rfl
 | succ n b=>simp [aX,b]
theorem DN:∀n m,m<n→(aX aa aC n).getD m ⟨#[]⟩=pz aa aC m:=by
 intro n
 induction n with
 | zero=>intro m h;omega
 | succ n b=>grind [aX,DM,pz]
theorem tv{n:Nat}{k:Key}(h:aw k=true∨(number k).toNat<n):DL aC (aX aa aC n) k=valOf aa aC k:=by
 unfold DL valOf
 by_cases hi:aw k=true
 ·
  rw [if_pos hi,if_pos hi]
 rw [if_neg hi,if_neg hi,DN]
 grind
theorem eJ(turn:List ByteArray→wK) (gu:Key→ByteArray):∀n,(dT turn gu n).1.length=n∧(dT turn gu n).2.length=n:=by
 intro n;induction n with
 | zero=>simp [dT]
 | succ n b=>simp [dT,b.1,b.2]
theorem qx{turn:List ByteArray→wK}{gu b:Key→ByteArray}:∀n,(∀m,m<n→gu (turn (dT turn gu m).2).ask=b (turn (dT turn gu m).2).ask)→dT turn gu n=dT turn b n:=by
 intro n
 induction n with
 | zero=>intro _;rfl
 | succ n e=>grind [dT]
end
/-! ### what valid rules ask for -/
section
variable {aa:List az}{aC:List ca}
theorem eD(l:List az):∀k,bd l k≤k:=by
 intro k;induction k with
 | zero=>simp [bd]
 | succ k b=>unfold bd;split <;> omega
theorem tw(l:List az) {m:Nat}(h:m≤l.length):cN l m≤l.length:=by grind [cN,List.takeWhile_sublist]
theorem ni{i:Nat}(hi:i<aa.length):block aa (i:Int)=if ax aa i then ((bd aa i:Int),(cN aa (i+1):Int)) else ((i:Int),(i:Int)+1):=by
 unfold block;rw [if_neg (by omega)];rfl
theorem mr{i j:Nat}(hi:ax aa i=true) (h1:bd aa i≤j) (e:j<cN aa (i+1)):ax aa j=true:=by
 have f:∀k,bd aa k≤j→j<k→ax aa j=true:=by
  intro k
  induction k with
  | zero=>intro _ h;omega
  | succ k t=>
   intro o u
   unfold bd at o
   grind
 rcases Nat.lt_trichotomy j i with h | h | h
 ·
  exact f i h1 h
 ·
  rw [h];exact hi
 have key:∀(l:List az) (m j:Nat),m≤j→j<m+((l.drop m).takeWhile (·.ring)).length→ax l j=true:=by
  intro l m j hm z
  have b:j - m<((l.drop m).takeWhile (·.ring)).length:=by omega
  have q:=List.getElem_mem b;have hr:=List.all_eq_true.1 (List.all_takeWhile (p:=fun x:az=>x.ring) (l:=l.drop m)) _ q;have r:((l.drop m).takeWhile (·.ring)) <+: l.drop m:=List.takeWhile_prefix _;have F:=r.getElem b
  grind [bA]
 exact key aa (i+1) j (by omega) e
theorem jz{i:Nat}(hi:i<aa.length) (hlen:aa.length≤24) {c:Bool}{n:Int}(h:ef aa i c n=true) :
  ∃m:Nat,n=m∧if c then m≤15 else m<aa.length∧(ax aa m=true∧ax aa i=true∨m<i)∧(ax aa i=false→m<i)∧(ax aa m=false→m<i):=by
 unfold ef at h
 cases c
 ·
  simp only [Bool.false_eq_true,if_false,Bool.and_eq_true,decide_eq_true_eq] at h ⊢;obtain⟨m,rfl⟩:∃m:Nat,n=m:=⟨n.toNat,by omega⟩;refine⟨m,rfl,?_⟩;have b:=h.2
  unfold du at b
  rw [ni hi] at b
  by_cases hr:ax aa i=true
  ·
   rw [if_pos hr] at b;simp only [hr,if_true] at b
   have f:m<cN aa (i+1):=by omega
   have o:=tw aa (show i+1≤aa.length by omega);refine⟨by omega,?_,(fun h=>by rw [hr] at h;cases h),?_⟩
   ·
    by_cases e:m<i
    ·
     exact .inr e
    grind [mr,eD]
   grind [mr,eD]
  grind
 simp only [if_true,Bool.and_eq_true,decide_eq_true_eq] at h ⊢;exact⟨n.toNat,by omega,by omega⟩
end
end Go.Rc

namespace Go.Rc
open Go
section
variable {aa:List az}{aC:List ca}
theorem ao.len(h:ao aa):aa.length≤24:=h.1
theorem ao.at(h:ao aa) {i:Nat}(hi:i<aa.length):jR aa i aa[i]:=h.2 i _ (ae hi)
theorem dp{i:Nat}(hi:i<aa.length):cH aa i=aa[i].asks.length:=by grind [cH]
theorem y7{m lo:Nat}(h1:lo≤m) (h:∀j,lo≤j→j<m→ax aa j=true):bd aa m≤lo:=by
 induction m with
 | zero=>simp [bd]
 | succ m b=>
  by_cases e:lo=m+1
  ·
   rw [e];exact eD _ _
  unfold bd
  grind
theorem nj(_hR:ao aa) {i:Nat}(hi:i<aa.length) (hr:ax aa i=true) {m:Nat}(h:ef aa i false (m:Int)=true) :
  m<aa.length∧(ax aa m=true→bd aa m≤bd aa i)∧(ax aa m=false→m<bd aa i):=by
 unfold ef at h
 simp only [Bool.false_eq_true,if_false,Bool.and_eq_true,decide_eq_true_eq] at h;have b:=h.2
 unfold du at b
 rw [ni hi,if_pos hr] at b;simp only [hr,if_true] at b
 grind [tw,y7,mr]
def dI(aa:List az) (i:Nat) (k:Key):Prop:=
 (∃n:Nat,n≤15∧k=bB (n:Int))∨
 (∃m:Nat,m<aa.length∧k=aH aa (m:Int)∧(ax aa m=true∧ax aa i=true∨m<i)∧(ax aa i=false→m<i)∧(ax aa m=false→m<i)∧(ax aa m=false→ax aa i=true→m<bd aa i))
theorem AV(e:ao aa) {i:Nat}(hi:i<aa.length) {c:Bool}{n:Int}(h:ef aa i c n=true):dI aa i (if c then bB n else aH aa n):=by
 obtain⟨m,rfl,b⟩:=jz hi e.len h
 cases c
 ·
  exact .inr ⟨m,b.1,rfl,b.2.1,b.2.2.1,b.2.2.2,fun f o=>(nj e hi o h).2.2 f⟩
 exact .inl ⟨m,b,rfl⟩
theorem dI.Il(b:ao aa) {i:Nat}{k:Key}(h:dI aa i k):eU aa k:=by
 have:=b.len
 rcases h with⟨n,h1,rfl⟩ | ⟨m,h1,rfl,_⟩
 ·
  exact .cell (by omega)
 exact .fl h1 (by omega)
theorem JN(e:ao aa) {i n:Nat}(hi:i<aa.length) (hn:n<aa[i].asks.length) (ai:List ByteArray) (hl:ai.length=n) :
  dI aa i (if aa[i].asks[n].cell then bB (mi aa[i].asks[n] ai) else aH aa (mi aa[i].asks[n] ai)):=by
 obtain⟨_,h,_⟩:=e.at hi;have b:=h n _ (ae hn)
 unfold dF at b
 rw [Bool.and_eq_true] at b
 unfold mi
 by_cases f:dR aa[i].asks[n] ai=true
 ·
  rw [if_pos f]
  have m:aa[i].asks[n].pick=true:=by grind [dR]
  rw [m] at b;simp only [if_true,Bool.and_eq_true] at b;exact AV e hi b.2.2
 rw [if_neg f];exact AV e hi b.1
theorem dq(b:ao aa) {i:Nat}(hi:i<aa.length) {ai:List ByteArray}(hn:ai.length<cH aa i) :
  ∃a,cm aa (aH aa (i:Int)) ai=⟨false,⟨#[]⟩,a⟩∧dI aa i a∧(ax aa i=true→∃x,aa[i].asks[ai.length]?=some x∧a=bs aa x):=by
 have h:=b.len;rw [dp hi] at hn;have hk:=bE hi (by omega:i≤99);refine⟨_,ju hk hi (by rw [hk]) hn,JN b hi hn ai rfl,fun hr=>⟨_,ae hn,?_⟩⟩;obtain⟨_,f,_⟩:=b.at hi;have e:=f _ _ (ae hn)
 unfold dF at e
 rw [Bool.and_eq_true] at e
 grind [bA,bs,mi,dR]
theorem fb(b:ao aa) {i:Nat}(hi:i<aa.length) {ai:List ByteArray}(hn:ai.length=cH aa i) :
  cm aa (aH aa (i:Int)) ai=⟨true,itoa (cO aa[i].final aa[i].c.toNat (ai.map bZ)),aW⟩:=by grind [ao.len,dp,bE,jt]
theorem kK(b:ao aa) {i:Nat}(hi:i<aa.length):cH aa i≤6:=by rw [dp hi];exact(b.at hi).1
theorem uQ(b:ao aa) {i:Nat}{k:Key}(h:dI aa i k) (hr:ax aa i=false∨aA k=false):aw k=true∨(number k).toNat<i:=by
 have e:=b.len
 rcases h with⟨n,h1,rfl⟩ | ⟨m,h1,rfl,f,o,p,_⟩
 ·
  grind [aZ]
 grind [bE,bf]
theorem B2(b:ao aa) {i:Nat}(hi:i<aa.length) (hr:ax aa i=false) :
  cm aa (aH aa (i:Int)) (dT (cm aa (aH aa (i:Int))) (valOf aa aC) (cH aa i)).2=⟨true,pz aa aC i,aW⟩:=by
 have h:pz aa aC i=(cm aa (aH aa (i:Int)) (dT (cm aa (aH aa (i:Int))) (valOf aa aC) (cH aa i)).2).value:=by
  unfold pz nh
  rw [if_neg (by simp [hr])]
  grind [qx,dq,eJ,tv,uQ]
 grind [fb,eJ]
/-! rings -/
theorem ij(b:ao aa) {i:Nat}(hi:i<aa.length) (_hr:ax aa i=true) {x:Ask}(e:x∈aa[i].asks):ef aa i x.cell x.n=true:=by
 obtain⟨k,hk,rfl⟩:=List.mem_iff_getElem.1 e
 have:=(b.at hi).2.1 k _ (ae hk)
 unfold dF at this
 grind
theorem ed.lt{i j:Nat}(h:ed aa i j):i<aa.length∧j<aa.length∧ax aa i=true∧ax aa j=true:=by
 obtain⟨r,x,h1,b,_,_,_,e⟩:=h
 grind [jO,bA]
theorem gA{i j:Nat}(hi:i<aa.length) (hr:ax aa i=true) (h:cq aa i j):j<aa.length∧ax aa j=true:=by
 induction h with
 | refl=>exact⟨hi,hr⟩
 | step _ b _=>exact⟨b.lt.2.1,b.lt.2.2.2⟩
theorem ir(e:ao aa) {i j:Nat}(h:cq aa i j):bd aa j≤bd aa i:=by
 induction h with
 | refl=>exact Nat.le_refl _
 | step h1 b f=>
  have hl:=b.lt;obtain⟨r,x,m,o,p,q,t,u⟩:=b
  grind [ij,nj]
theorem cq.head{i j k:Nat}(h:ed aa i j) (b:cq aa j k):cq aa i k:=by
 induction b with
 | refl=>exact .step .refl h
 | step _ e f=>exact .step f e
theorem cq.cases{i k:Nat}(h:cq aa i k):k=i∨∃j,ed aa i j∧cq aa j k:=by
 induction h with
 | refl=>exact .inl rfl
 | step h1 b e=>
  right
  rcases e with rfl | ⟨j,f,m⟩
  ·
   exact⟨_,b,.refl⟩
  exact⟨j,f,.step m b⟩
theorem jA:∀(l:List Nat) (c b:Nat),(dN c l).testBit b=true↔c.testBit b=true∨∃x∈l,x.testBit b=true:=by
 intro l
 induction l with
 | nil=>intro c b;simp [dN]
 | cons x r e=>
  intro c b
  have:=e (c ||| x) b
  simp only [dN,List.foldl_cons] at this ⊢
  grind
theorem qy(b:ao aa) {i:Nat}(hi:i<aa.length) (hr:ax aa i=true):aa[i].final=5∧aa[i].c.toNat≤65535:=by
 have h:=(b.at hi).2.2
 grind [fq,bA]
theorem tx{n b:Nat}(h:n≤65535) (hb:n.testBit b=true):b<16:=by
 rcases Nat.lt_or_ge b 16 with h1 | h1
 ·
  exact h1
 have:=Nat.ge_two_pow_of_testBit hb
 have e:2 ^ 16≤2 ^ b:=Nat.pow_le_pow_right (by omega) h1
 omega
theorem dQ{gu:Key→ByteArray}{i:Nat}(hi:i<aa.length) (b:Nat) :
  (iN aa gu i).testBit b=true↔aa[i].c.toNat.testBit b=true∨∃x∈aa[i].asks,outside aa x=true∧(bZ (gu (bs aa x))).testBit b=true:=by
 unfold iN
 rw [ae hi];simp only [jA,List.mem_map,List.mem_filter]
 grind
theorem DO(e:ao aa) {gu:Key→ByteArray}{i:Nat}(hi:i<aa.length) (hr:ax aa i=true) {b:Nat}(h:(iN aa gu i).testBit b=true):b<16:=by
 rcases(dQ hi b).1 h with h1 | ⟨x,_,_,h1⟩
 ·
  exact tx (qy e hi hr).2 h1
 exact tx (iM _) h1
theorem dj(m:ao aa) {gu:Key→ByteArray}{i:Nat}(hi:i<aa.length) (hr:ax aa i=true) (b:Nat) :
  (qw aa gu i).testBit b=true↔∃j,cq aa i j∧(iN aa gu j).testBit b=true:=by
 unfold qw
 rw [y5]
 constructor
 ·
  exact fun h=>h.2
 rintro⟨j,h1,e⟩;have f:=gA hi hr h1;exact⟨DO m f.1 f.2 e,j,h1,e⟩
theorem wR{gu:Key→ByteArray}(i:Nat):qw aa gu i≤65535:=by
 have:=B1 (fun b=>∃j,cq aa i j∧(iN aa gu j).testBit b=true) 16
 unfold qw;omega
noncomputable def rv(aa:List az) (aC:List ca) (i:Nat):Nat:=qw aa (valOf aa aC) i
theorem uR(e:ao aa) {i:Nat}(hi:i<aa.length) (hr:ax aa i=true) {x:Ask}(h:x∈aa[i].asks) (f:outside aa x=true):aw (bs aa x)=true∨(number (bs aa x)).toNat<bd aa i:=by
 have o:=e.len;have hm:=ij e hi hr h;obtain⟨m,h1,b⟩:=jz hi e.len hm
 unfold bs
 unfold outside at f
 cases hc:x.cell
 ·
  rw [hc] at hm f b
  right
  simp only [Bool.false_eq_true,if_false] at b ⊢
  grind [bE,nj]
 left
 rw [hc] at b;simp only [if_true] at b ⊢
 grind [aZ]
theorem fQ(e:ao aa) {i:Nat}(hi:i<aa.length) (hr:ax aa i=true):pz aa aC i=itoa (rv aa aC i:Int):=by
 unfold pz nh rv
 rw [if_pos hr]
 congr 2
 refine Nat.eq_of_testBit_eq fun b=>?_;rw [Bool.eq_iff_iff,dj e hi hr,dj e hi hr]
 have key:∀j,cq aa i j→((iN aa (DL aC (aX aa aC i)) j).testBit b=true↔(iN aa (valOf aa aC) j).testBit b=true):=by
  intro j h;have f:=gA hi hr h;have m:=ir e h;have hle:=eD aa i;rw [dQ f.1,dQ f.1];refine or_congr_right (exists_congr fun x=>and_congr_right fun o=>and_congr_right fun p=>?_);rw [tv]
  grind [uR]
 grind
theorem fm(b:ao aa) {i:Nat}(hi:i<aa.length):valOf aa aC (aH aa (i:Int))=pz aa aC i:=by
 have e:=b.len
 unfold valOf
 rw [if_neg (by grind [bT]),bE hi (by omega)]
 rfl
theorem iO{n:Nat}(h:n≤99):valOf aa aC (bB (n:Int))=cellOf aC (bB (n:Int)):=by
 unfold valOf;rw [if_pos (aZ h)]
def lp(aa:List az) (gu:Key→ByteArray) (i:Nat):List Nat:=((aa[i]?.map (·.asks)).getD []).map fun x=>bZ (gu (bs aa x))
theorem B3(b:ao aa) {i:Nat}(hi:i<aa.length) (hr:ax aa i=true) (gu:Key→ByteArray):∀n,n≤aa[i].asks.length→
  dT (cm aa (aH aa (i:Int))) gu n=((aa[i].asks.take n).map (bs aa),(aa[i].asks.take n).map fun x=>gu (bs aa x)):=by
 intro n
 induction n with
 | zero=>intro _;simp [dT]
 | succ n f=>
  intro hn;have e:=f (by omega);simp only [dT]
  have hlen:((aa[i].asks.take n).map fun x=>gu (bs aa x)).length=n:=by simp;omega
  obtain⟨a,h1,_,h⟩:=dq b hi (ai:=(aa[i].asks.take n).map fun x=>gu (bs aa x)) (by rw [hlen,dp hi];omega)
  grind [List.take_succ_eq_append_getElem]
theorem B4(b:ao aa) {i:Nat}(hi:i<aa.length) (hr:ax aa i=true) (gu:Key→ByteArray) :
  cm aa (aH aa (i:Int)) (dT (cm aa (aH aa (i:Int))) gu (cH aa i)).2=⟨true,itoa (dN aa[i].c.toNat (lp aa gu i):Int),aW⟩:=by
 rw [fb b hi ((eJ _ _ _).2),B3 b hi hr gu _ (by rw [dp hi];exact Nat.le_refl _),(qy b hi hr).1,dp hi]
 unfold lp
 rw [ae hi];simp only [List.take_length,List.map_map,Option.map_some,Option.getD_some]
 rfl
theorem oP{gu:Key→ByteArray}{i:Nat}(hi:i<aa.length) (b:Nat) :
  (dN aa[i].c.toNat (lp aa gu i)).testBit b=true↔(iN aa gu i).testBit b=true∨∃x∈aa[i].asks,outside aa x=false∧(bZ (gu (bs aa x))).testBit b=true:=by
 rw [jA,dQ hi]
 unfold lp
 grind
theorem fH(f:ao aa) {i:Nat}(hi:i<aa.length) (hr:ax aa i=true) {x:Ask}(h:x∈aa[i].asks) (b:outside aa x=false):∃j:Nat,ed aa i j∧bs aa x=aH aa (j:Int)∧j<aa.length:=by
 have hm:=ij f hi hr h
 unfold outside at b
 rw [Bool.or_eq_false_iff] at b;obtain⟨m,h1,e⟩:=jz hi f.len hm;rw [b.1] at e;simp only [Bool.false_eq_true,if_false] at e
 have o:ax aa m=true:=by grind
 refine⟨m,⟨_,x,ae hi,by rw [← bA hi];exact hr,h,b.1,h1,o⟩,?_,e.1⟩
 grind [bs]
theorem mu{i j:Nat}(hi:i<aa.length) (h:ed aa i j):∃x∈aa[i].asks,outside aa x=false∧bs aa x=aH aa (j:Int):=by
 obtain⟨r,x,h1,_,b,e,f,m⟩:=h
 grind [outside,bs]
theorem JO(f:ao aa) {i:Nat}(hi:i<aa.length) (hr:ax aa i=true):dN aa[i].c.toNat (lp aa (valOf aa aC) i)=rv aa aC i:=by
 refine Nat.eq_of_testBit_eq fun b=>?_;rw [Bool.eq_iff_iff,oP hi]
 unfold rv
 rw [dj f hi hr]
 have t:∀j,j<aa.length→ax aa j=true→bZ (valOf aa aC (aH aa (j:Int)))=qw aa (valOf aa aC) j:=fun j u z=>by
  rw [fm f u,fQ f u z];exact dP (wR j)
 constructor
 ·
  rintro(h | ⟨x,h1,o,e⟩)
  ·
   exact⟨i,.refl,h⟩
  obtain⟨j,m,q,p⟩:=fH f hi hr h1 o;rw [q,t j p m.lt.2.2.2,dj f p m.lt.2.2.2] at e;obtain⟨k,r,F⟩:=e;exact⟨k,.head m r,F⟩
 rintro⟨k,h1,o⟩
 rcases h1.cases with rfl | ⟨j,e,m⟩
 ·
  exact .inl o
 right
 obtain⟨x,q,p,r⟩:=mu hi e;refine⟨x,q,p,?_⟩;rw [r,t j e.lt.2.1 e.lt.2.2.2,dj f e.lt.2.1 e.lt.2.2.2];exact⟨k,m,o⟩
theorem DR(m:ao aa) {i:Nat}(hi:i<aa.length) (hr:ax aa i=true) (v:Nat→Nat)
  (h1:∀j b,cq aa i j→(iN aa (valOf aa aC) j).testBit b=true→(v j).testBit b=true)
  (o:∀j k b,cq aa i j→ed aa j k→(v k).testBit b=true→(v j).testBit b=true) (b:Nat) (hb:(rv aa aC i).testBit b=true):(v i).testBit b=true:=by
 unfold rv at hb
 rw [dj m hi hr] at hb;obtain⟨j,e,f⟩:=hb;have h:=h1 j b e f
 clear f
 induction e with
 | refl=>exact h
 | step p q r=>exact r (o _ _ b p q h)
theorem fI(b:ao aa) {i:Nat}(hi:i<aa.length) :
  cm aa (aH aa (i:Int)) (dT (cm aa (aH aa (i:Int))) (valOf aa aC) (cH aa i)).2=⟨true,valOf aa aC (aH aa (i:Int)),aW⟩:=by grind [fm,B2,B4,JO,fQ]
end
end Go.Rc

namespace Go.Rc
open Go
structure FZ where
 p:(Nat→Prop)→World→Prop
 mono:∀{Z Z':Nat→Prop}{w},(∀x,Z x→Z' x)→p Z w→p Z' w
 st:∀{Z:Nat→Prop}{w w':World},w.heap.size≤w'.heap.size→(∀x,Z x→x<w.heap.size→w'.heap[x]?=w.heap[x]?)→p Z w→p Z w'
def FZ.rd{α:Type}(R:RR α) (k:Nat) (a:Option Addr) (n c:Nat) (xs:List α):FZ:=⟨fun Z w=>Rd R k Z w a n c xs,fun h=>Rd.mono h,fun h1 h2=>Rd.st h1 h2⟩
def FZ.and(F G:FZ):FZ:=⟨fun Z w=>F.p Z w∧G.p Z w,fun h ⟨a,b⟩=>⟨F.mono h a,G.mono h b⟩,fun h1 h2 ⟨a,b⟩=>⟨F.st h1 h2 a,G.st h1 h2 b⟩⟩
def FZ.F0(P:Program):FZ where
 p Z w:=jM P Z w
 mono h:=fun h1=>h1.of h (Nat.le_refl _) fun _ _ _=>rfl
 st h1 h2:=fun h=>h.of (fun _ h=>h) h1 h2
def As.fz(F:FZ):As where
 fp _:=False
 ok Z w:=F.p Z w
 lt _ _ hx:=hx.elim
 mono h:=F.mono h
 st h1 h2:=F.st h1 fun x hx=>h2 x (.inr hx)
theorem As.gf{F:FZ}{Z:Nat→Prop}{w:World}(h:(As.fz F).ok Z w):F.p Z w:=h
structure SD where
 (ar a1 a2:Option Addr) (r cr n1 c1 n2 c2 m q s:Nat)
def SD.F(D:SD) (P:Program) (aa:List az) (x:cI):FZ:=
 .and (.rd RR.fl 4 D.ar D.r D.cr aa) (.and (.rd RR.aC 4 D.a1 D.n1 D.c1 x.ab) (.and (.rd RR.e8 8 D.a2 D.n2 D.c2 x.ah) (.F0 P)))
def SD.cells(D:SD) (x:cI):List Value:=
 [.slice D.ar D.r D.cr,.int .i64 x.ad,.slice D.a1 D.n1 D.c1,.slice D.a2 D.n2 D.c2,.map (some D.m),.map (some D.q)]
section
variable {D:SD}{P:Program}{aa:List az}{x:cI}{Z:Nat→Prop}{w:World}
theorem SD.hu(h:(D.F P aa x).p Z w):Rd RR.fl 4 Z w D.ar D.r D.cr aa:=h.1
theorem SD.hi(h:(D.F P aa x).p Z w):Rd RR.aC 4 Z w D.a1 D.n1 D.c1 x.ab:=h.2.1
theorem SD.hr(h:(D.F P aa x).p Z w):Rd RR.e8 8 Z w D.a2 D.n2 D.c2 x.ah:=h.2.2.1
theorem SD.ht(h:(D.F P aa x).p Z w):jM P Z w:=h.2.2.2
end
def aM(aa:List az) (aC:List ca) (ml:List (Key × Value)):Prop:=∀k v,ba ml k=some v→v=.string (valOf aa aC k)
section
variable {aa:List az}{aC:List ca}
theorem aM.nil:aM aa aC []:=fun k v h=>by simp [ba] at h
theorem aM.put{ml:List (Key × Value)}(h:aM aa aC ml) (k:Key):aM aa aC (bY ml k (.string (valOf aa aC k))):=fun k' v b=>by
 rw [cY] at b
 split at b
 ·
  grind
 exact h k' v b
def dJ(m n:Nat):Prop:=∀b,m.testBit b=true→n.testBit b=true
theorem dJ.le{m n:Nat}(h:dJ m n):m≤n:=by
 have e:m ||| n=n:=Nat.eq_of_testBit_eq fun b=>by
  rw [Nat.testBit_or]
  cases hm:m.testBit b
  ·
   simp
  simp [h b hm]
 rw [← e];exact Nat.left_le_or
noncomputable def Gx(aa:List az) (aC:List ca) (v:Nat→Nat) (k:Key):ByteArray:=if aA k then itoa (v (number k).toNat:Int) else valOf aa aC k
noncomputable def FF(aa:List az) (aC:List ca) (v:Nat→Nat) (j:Nat):Nat:=dN ((aa[j]?.map (·.c.toNat)).getD 0) (lp aa (Gx aa aC v) j)
theorem gB(e:ao aa) {i:Nat}(hi:i<aa.length) (hr:ax aa i=true) {x:Ask}(h:x∈aa[i].asks) (f:outside aa x=true):aA (bs aa x)=false:=by
 have o:=e.len;have hm:=ij e hi hr h;obtain⟨m,h1,b⟩:=jz hi e.len hm
 unfold outside at f
 unfold bs
 cases hc:x.cell
 ·
  rw [hc] at b f;simp only [Bool.false_eq_true,if_false] at b ⊢
  grind [bf]
 rw [hc] at b;simp only [if_true] at b ⊢
 grind [iq]
theorem qz(o:ao aa) {v:Nat→Nat}(p:∀j,v j≤65535) {i:Nat}(hi:i<aa.length) (hr:ax aa i=true) (b:Nat) :
  (FF aa aC v i).testBit b=true↔(iN aa (valOf aa aC) i).testBit b=true∨∃j,ed aa i j∧(v j).testBit b=true:=by
 have r:=o.len
 unfold FF
 rw [ae hi];simp only [Option.map_some,Option.getD_some];rw [oP hi];refine or_congr ?_ ?_
 ·
  rw [dQ hi,dQ hi];refine or_congr_right (exists_congr fun x=>and_congr_right fun t=>and_congr_right fun u=>?_)
  unfold Gx
  rw [if_neg (by grind [gB])]
 constructor
 ·
  rintro⟨x,h1,h,f⟩;obtain⟨j,e,m,q⟩:=fH o hi hr h1 h;refine⟨j,e,?_⟩
  unfold Gx at f
  rw [m,if_pos (by rw [bf q (by omega)];exact e.lt.2.2.2),bE q (by omega),Int.toNat_natCast,dP (p j)] at f;exact f
 rintro⟨j,e,m⟩;obtain⟨x,h1,h,f⟩:=mu hi e;refine⟨x,h1,h,?_⟩
 unfold Gx
 rw [f,if_pos (by rw [bf e.lt.2.1 (by have:=e.lt.2.1;omega)];exact e.lt.2.2.2),bE e.lt.2.1 (by have:=e.lt.2.1;omega),Int.toNat_natCast,dP (p j)];exact m
theorem oQ(i:Nat):rv aa aC i≤65535:=wR i
theorem y8(f:ao aa) {i:Nat}(hi:i<aa.length) (hr:ax aa i=true) (b:Nat) :
  (rv aa aC i).testBit b=true↔(iN aa (valOf aa aC) i).testBit b=true∨∃j,ed aa i j∧(rv aa aC j).testBit b=true:=by
 unfold rv
 rw [dj f hi hr]
 constructor
 ·
  rintro⟨k,h1,o⟩
  rcases h1.cases with rfl | ⟨j,e,m⟩
  ·
   exact .inl o
  exact .inr ⟨j,e,(dj f e.lt.2.1 e.lt.2.2.2 b).2 ⟨k,m,o⟩⟩
 rintro(h | ⟨j,e,m⟩)
 ·
  exact⟨i,.refl,h⟩
 obtain⟨k,p,q⟩:=(dj f e.lt.2.1 e.lt.2.2.2 b).1 m;exact⟨k,.head e p,q⟩
theorem AW(e:ao aa) {v v':Nat→Nat}(f:∀j,v j≤65535) (m:∀j,v' j≤65535) (h:∀j,dJ (v j) (v' j)) {i:Nat}(hi:i<aa.length) (hr:ax aa i=true):dJ (FF aa aC v i) (FF aa aC v' i):=fun b hb=>by
 rw [qz e f hi hr] at hb;rw [qz e m hi hr]
 rcases hb with hb | ⟨j,h1,o⟩
 ·
  exact .inl hb
 exact .inr ⟨j,h1,h j b o⟩
structure cG (aa:List az) (aC:List ca) (i0:Nat) (L:List Nat) (u:Nat→Nat):Prop where
 nodup:L.Nodup
 first:i0∈L
 ring:∀j∈L,j<aa.length∧ax aa j=true
 out:∀j,j∉L→u j=0
 le:∀j,u j≤65535
 low:∀j,dJ (u j) (rv aa aC j)
 reach:∀j∈L,cq aa i0 j
noncomputable def uy(aa:List az) (aC:List ca) (u:Nat→Nat) (ml:List (Key × Value)) (k:Nat):Nat:=if (ba ml (aH aa (k:Int))).isSome then rv aa aC k else u k
def fj(ml lQ:List (Key × Value)):Prop:=∀k v,ba ml k=some v→ba lQ k=some v
def jb(aa:List az) (aC:List ca) (L:List Nat) (u:Nat→Nat) (ml:List (Key × Value)):Prop:=∀j∈L,dJ (u j) (FF aa aC (uy aa aC u ml) j)
def lq(aa:List az) (aC:List ca) (L:List Nat) (u:Nat→Nat) (j:Nat):Prop:=
 dJ (iN aa (valOf aa aC) j) (u j)∧∀k,ed aa j k→(k∈L→dJ (u k) (u j))∧(k∉L→dJ (rv aa aC k) (u j))
def y9(n:Nat) (v:Nat→Nat):Nat:=((List.range n).map fun j=>65535 - v j).sum
def lR(aa:List az) (L:List Nat) (v:Nat→Nat):Nat:=y9 aa.length v+(aa.length - L.length)
theorem fj.refl(ml:List (Key × Value)):fj ml ml:=fun _ _ h=>h
theorem fj.trans{a b c:List (Key × Value)}(h:fj a b) (k:fj b c):fj a c:=fun x v e=>k x v (h x v e)
theorem fj.put{ml:List (Key × Value)}(hm:aM aa aC ml) (k:Key):fj ml (bY ml k (.string (valOf aa aC k))):=fun x v h=>by
 rw [cY]
 split
 ·
  rename_i e;subst e;rw [hm _ _ h]
 exact h
theorem n5{u:Nat→Nat}{ml:List (Key × Value)}(h:∀j,u j≤65535) (k:Nat):uy aa aC u ml k≤65535:=by grind [uy,oQ]
theorem Gy{u:Nat→Nat}{ml:List (Key × Value)}(h:∀j,dJ (u j) (rv aa aC j)) (k:Nat):dJ (uy aa aC u ml k) (rv aa aC k):=by unfold uy;split;exact fun _ h=>h;exact h k
theorem wS{u b:Nat→Nat}{ml e:List (Key × Value)}(h:∀j,dJ (u j) (rv aa aC j)) (hu:∀j,dJ (u j) (b j)) (hm:fj ml e) (k:Nat):dJ (uy aa aC u ml k) (uy aa aC b e k):=by
 unfold uy
 cases h1:ba ml (aH aa (k:Int)) with
 | some v=>rw [hm _ _ h1];simp;exact fun _ h=>h
 | none=>grind
theorem jb.mono(i:ao aa) {i0:Nat}{L:List Nat}{u:Nat→Nat}{ml f:List (Key × Value)}(hr:cG aa aC i0 L u) (h:jb aa aC L u ml) (hm:fj ml f):jb aa aC L u f:=fun j e b hb=>
 AW i (n5 hr.le) (n5 hr.le) (wS hr.low (fun _ _ h=>h) hm) (hr.ring j e).1 (hr.ring j e).2 b (h j e b hb)
theorem cG.start{i0:Nat}(hi:i0<aa.length) (hr:ax aa i0=true):cG aa aC i0 [i0] fun _=>0 where
 nodup:=by simp
 first:=by simp
 ring j e:=by grind
 out _ _:=rfl
 le _:=by omega
 low _ b h:=by simp at h
 reach j e:=by simp at e;subst e;exact .refl
theorem jb.start{i0:Nat}{ml:List (Key × Value)}:jb aa aC [i0] (fun _=>0) ml:=fun _ _ b h=>by simp at h
theorem DS:∀{n:Nat}{L:List Nat},L.Nodup→(∀j∈L,j<n)→L.length≤n:=by
 intro n
 induction n with
 | zero=>intro L _ hl;cases L with
  | nil=>simp
  | cons a r=>exact absurd (hl a (by simp)) (by omega)
 | succ n b=>
  intro L h hl
  have h1:=b (h.erase n) fun j e=>by grind
  grind
theorem cG.len{i0:Nat}{L:List Nat}{v:Nat→Nat}(h:cG aa aC i0 L v):L.length≤aa.length:=DS h.nodup fun j b=>(h.ring j b).1
theorem cG.meet{i0:Nat}{L:List Nat}{v:Nat→Nat}(h:cG aa aC i0 L v) {j:Nat}(b:j<aa.length) (hr:ax aa j=true) (hn:j∉L) (e:cq aa i0 j):cG aa aC i0 (L++[j]) v where
 nodup:=by grind [nodup]
 first:=by simp [h.first]
 ring k hk:=by
  rcases List.mem_append.1 hk with hk | hk
  ·
   exact h.ring k hk
  grind
 out k hk:=h.out k fun hm=>hk (by simp [hm])
 le:=h.le
 low:=h.low
 reach k hk:=by
  rcases List.mem_append.1 hk with hk | hk
  ·
   exact h.reach k hk
  grind
theorem jb.meet{L:List Nat}{u:Nat→Nat}{ml:List (Key × Value)}(h:jb aa aC L u ml) {j:Nat}(hu:u j=0):jb aa aC (L++[j]) u ml:=fun k hk=>by
 rcases List.mem_append.1 hk with hk | hk
 ·
  exact h k hk
 simp at hk;subst hk;rw [hu];intro b hb;simp at hb
theorem cG.AX{i0:Nat}{L:List Nat}{v:Nat→Nat}(h:cG aa aC i0 L v) {j:Nat}(b:j<aa.length) (hr:ax aa j=true) (hn:j∉L) (e:cq aa i0 j):L.length<aa.length:=by
 have:=(h.meet b hr hn e).len
 grind
theorem wT{L:List Nat}{v:Nat→Nat}{j:Nat}(hl:L.length<aa.length):lR aa (L++[j]) v<lR aa L v:=by grind [lR]
def jW(v:Nat→Nat) (j u:Nat):Nat→Nat:=fun k=>if k=j then u else v k
theorem DT:∀n (v:Nat→Nat) (j u:Nat),v j≤u→y9 n (jW v j u)≤y9 n v∧(j<n→v j<u→u≤65535→y9 n (jW v j u)<y9 n v):=by
 intro n
 induction n with
 | zero=>intro v j u _;simp [y9]
 | succ n f=>
  intro v j u h;obtain⟨h1,b⟩:=f v j u h
  unfold y9 at h1 b ⊢
  simp only [List.range_succ,List.map_append,List.map_cons,List.map_nil,List.sum_append,List.sum_cons,List.sum_nil]
  have o:65535 - jW v j u n≤65535 - v n:=by
   unfold jW;grind
  refine⟨by omega,fun p i m=>?_⟩
  by_cases e:j=n
  ·
   have:65535 - jW v j u n<65535 - v n:=by unfold jW;grind
   omega
  have:=b (by omega) i m
  omega
theorem B5{u:Nat→Nat}{j x:Nat}(h:dJ (u j) x):∀k,dJ (u k) (jW u j x k):=fun k b hb=>by
 unfold jW;split
 ·
  rename_i e;subst e;exact h b hb
 exact hb
theorem cG.set{i0:Nat}{L:List Nat}{u:Nat→Nat}(h:cG aa aC i0 L u) {j x:Nat}(f:j∈L) (i:x≤65535) (m:dJ x (rv aa aC j)):cG aa aC i0 L (jW u j x) where
 nodup:=h.nodup
 first:=h.first
 ring:=h.ring
 out k hk:=by unfold jW;rw [if_neg (fun e=>hk (by rw [e];exact f))];exact h.out k hk
 le k:=by unfold jW;split;exact i;exact h.le k
 low k b hb:=by
  unfold jW at hb;split at hb
  ·
   rename_i e;subst e;exact m b hb
  exact h.low k b hb
 reach:=h.reach
theorem jb.set(f:ao aa) {i0:Nat}{L:List Nat}{u:Nat→Nat}{ml:List (Key × Value)}(hr:cG aa aC i0 L u) (h:jb aa aC L u ml) {j x:Nat}(i:j∈L) (m:x≤65535) (o:dJ x (rv aa aC j)) (p:dJ (u j) x) (q:dJ x (FF aa aC (uy aa aC u ml) j)) :
  jb aa aC L (jW u j x) ml:=fun k hk=>by
 have r:=hr.set i m o;have hm:=AW (aC:=aC) f (n5 (aC:=aC) (aa:=aa) (ml:=ml) hr.le) (n5 r.le) (wS hr.low (B5 p) (fj.refl ml)) (hr.ring k hk).1 (hr.ring k hk).2;intro b hb;refine hm b ?_
 unfold jW at hb;split at hb
 ·
  rename_i e;subst e;exact q b hb
 exact h k hk b hb
theorem AY{i0:Nat}{L:List Nat}{u:Nat→Nat}(h:cG aa aC i0 L u) {j x:Nat}(b:j∈L) (e:x≤65535) (f:dJ (u j) x) (i:u j≠x):lR aa L (jW u j x)<lR aa L u:=by
 have h1:=f.le
 have:=(DT aa.length u j x h1).2 (h.ring j b).1 (by omega) e
 unfold lR;omega
theorem cG.done(r:ao aa) {i0:Nat}{L:List Nat}{u:Nat→Nat}(h:cG aa aC i0 L u) (f:∀j∈L,lq aa aC L u j):∀j∈L,u j=rv aa aC j:=by
 intro j t;obtain⟨i,o⟩:=h.ring j t;refine Nat.le_antisymm (h.low j).le (dJ.le fun b hb=>?_);have key:=DR r i o (fun k=>if k∈L then u k else rv aa aC k) (fun k b hk hb=>?_) (fun k m b hk p hb=>?_) b hb
 ·
  simpa [t] using key
 ·
  have q:=gA i o hk
  by_cases hm:k∈L
  ·
   simp only [if_pos hm];exact(f k hm).1 b hb
  simp only [if_neg hm];grind [y8]
 have q:=gA i o hk
 by_cases e:k∈L
 ·
  simp only [if_pos e]
  by_cases hm:m∈L
  ·
   simp only [if_pos hm] at hb;exact((f k e).2 m p).1 hm b hb
  simp only [if_neg hm] at hb;exact((f k e).2 m p).2 hm b hb
 simp only [if_neg e];refine(y8 r q.1 q.2 b).2 (.inr ⟨m,p,?_⟩)
 by_cases hm:m∈L
 ·
  simp only [if_pos hm] at hb;exact h.low m b hb
 grind
structure Ev (aa:List az) (aC:List ca) (u:Nat→Nat) (L:List Nat) (DU ml:List (Key × Value)) (qs:List Ask) (n:Nat) (acc:List ByteArray):Prop where
 len:acc.length=n
 out:∀m (h:m<qs.length),m<n→outside aa qs[m]=true→acc[m]?=some (valOf aa aC (bs aa qs[m]))
 ins:∀m (h:m<qs.length),m<n→outside aa qs[m]=false→∀k:Nat,qs[m].n=k→
  (acc[m]?=some (itoa (rv aa aC k:Int))∧(ba ml (aH aa (k:Int))).isSome=true)∨(acc[m]?=some (itoa (u k:Int))∧k∈L∧ba DU (aH aa (k:Int))=none)
theorem Ev.start{u:Nat→Nat}{L:List Nat}{ml:List (Key × Value)}{qs:List Ask}:Ev aa aC u L ml ml qs 0 []:=⟨rfl,fun _ _ h=>by omega,fun _ _ h=>by omega⟩
theorem Ev.mono{u:Nat→Nat}{L L':List Nat}{DU ml b:List (Key × Value)}{qs:List Ask}{n:Nat}{acc:List ByteArray}(h:Ev aa aC u L DU ml qs n acc) (r:∀k∈L,k∈L') (hm:fj ml b):Ev aa aC u L' DU b qs n acc:=
 ⟨h.len,h.out,fun m h1 i o k p=>by
  rcases h.ins m h1 i o k p with⟨e,f⟩ | ⟨e,f,t⟩
  ·
   obtain⟨v,q⟩:=Option.isSome_iff_exists.1 f;exact .inl ⟨e,by rw [hm _ _ q];rfl⟩
  grind⟩
theorem Ev.snoc{u:Nat→Nat}{L:List Nat}{DU ml:List (Key × Value)}{qs:List Ask}{n:Nat}{acc:List ByteArray}(h:Ev aa aC u L DU ml qs n acc) (s:ByteArray)
  (i:∀(h:n<qs.length),outside aa qs[n]=true→s=valOf aa aC (bs aa qs[n]))
  (hi:∀(h:n<qs.length),outside aa qs[n]=false→∀k:Nat,qs[n].n=k→(s=itoa (rv aa aC k:Int)∧(ba ml (aH aa (k:Int))).isSome=true)∨(s=itoa (u k:Int)∧k∈L∧ba DU (aH aa (k:Int))=none)) :
  Ev aa aC u L DU ml qs (n+1) (acc++[s]) where
 len:=by simp [h.len]
 out m h1 f e:=by
  rcases Nat.lt_or_ge m n with b | b
  ·
   rw [List.getElem?_append_left (by rw [h.len];exact b)];exact h.out m h1 b e
  grind [len]
 ins m h1 f e k hk:=by
  rcases Nat.lt_or_ge m n with b | b
  ·
   rw [List.getElem?_append_left (by rw [h.len];exact b)];exact h.ins m h1 b e k hk
  have:m=n:=by omega
  subst this;rw [List.getElem?_append_right (by rw [h.len];omega),h.len]
  simpa using hi h1 e k hk
theorem Ev.val(t:ao aa) {i0:Nat}{L:List Nat}{u:Nat→Nat}{DU ml:List (Key × Value)}{j:Nat}{acc:List ByteArray}(hr:cG aa aC i0 L u) (p:j<aa.length) (F:ax aa j=true) (h:Ev aa aC u L DU ml aa[j].asks aa[j].asks.length acc) :
  dN aa[j].c.toNat (acc.map bZ)≤65535∧dJ (dN aa[j].c.toNat (acc.map bZ)) (rv aa aC j)∧dJ (FF aa aC (uy aa aC u DU) j) (dN aa[j].c.toNat (acc.map bZ))∧
  dJ (dN aa[j].c.toNat (acc.map bZ)) (FF aa aC (uy aa aC u ml) j)∧(dN aa[j].c.toNat (acc.map bZ)=u j→lq aa aC L u j):=by
 obtain⟨hlen,ho,eS⟩:=h;have C3:=t.len
 -- an answer, by its place
 have Oh:∀m (hm:m<aa[j].asks.length),∃s,acc[m]?=some s∧s∈acc:=fun m hm=>⟨acc[m],ae (by omega),List.getElem_mem _⟩
 have J:dJ (iN aa (valOf aa aC) j) (dN aa[j].c.toNat (acc.map bZ)):=fun b hb=>by
  rw [jA]
  rcases(dQ p b).1 hb with h1 | ⟨x,h1,z,o⟩
  ·
   exact .inl h1
  obtain⟨m,hm,rfl⟩:=List.mem_iff_getElem.1 h1
  grind
 have N:∀k,ed aa j k→∃m,∃hm:m<aa[j].asks.length,outside aa aa[j].asks[m]=false∧aa[j].asks[m].n=(k:Int):=fun k hk=>by
  obtain⟨r,x,h1,_,o,f,I,e⟩:=hk;rw [ae p] at h1
  simp at h1
  subst h1;obtain⟨m,hm,rfl⟩:=List.mem_iff_getElem.1 o;exact⟨m,hm,by unfold outside;rw [f,I];simp [e],I⟩
 have G:∀(m:Nat) (s:ByteArray) (b:Nat),acc[m]?=some s→(bZ s).testBit b=true→(dN aa[j].c.toNat (acc.map bZ)).testBit b=true:=fun m s b h1 z=>by
  rw [jA];grind
 have O:∀(v:Nat→Nat),(∀k,v k≤65535)→(∀k:Nat,(ba ml (aH aa (k:Int))).isSome=true→dJ (rv aa aC k) (v k))→(∀k:Nat,dJ (u k) (v k))→dJ (dN aa[j].c.toNat (acc.map bZ)) (FF aa aC v j):=fun v R h1 z b hb=>by
  rw [qz t R p F];rw [jA] at hb
  rcases hb with hb | ⟨_,V,hb⟩
  ·
   grind [dQ]
  obtain⟨s,W,rfl⟩:=List.mem_map.1 V;obtain⟨m,hm,rfl⟩:=List.mem_iff_getElem.1 W
  have H:m<aa[j].asks.length:=by omega
  cases Q:outside aa aa[j].asks[m]
  ·
   obtain⟨k,o,f,I⟩:=fH t p F (List.getElem_mem H) Q
   have X:aa[j].asks[m].n=(k:Int):=by
    obtain⟨q,e,i⟩:=jz p t.len (ij t p F (List.getElem_mem H))
    have hc:aa[j].asks[m].cell=false:=by grind [outside]
    rw [hc] at i;simp only [Bool.false_eq_true,if_false] at i
    unfold bs at f
    rw [hc,e] at f;simp only [Bool.false_eq_true,if_false] at f
    grind [bE]
   refine .inr ⟨k,o,?_⟩
   rcases eS m H H Q k X with⟨e,i⟩ | ⟨e,i,_⟩
   ·
    rw [ae hm] at e
    simp at e
    rw [e,dP (oQ k)] at hb;exact h1 k i b hb
   rw [ae hm] at e
   simp at e
   rw [e,dP (hr.le k)] at hb;exact z k b hb
  grind [dQ]
 refine⟨?_,?_,?_,?_,fun he=>⟨?_,fun k hk=>⟨fun Y=>?_,fun Y=>?_⟩⟩⟩
 ·
  grind [js,qy,iM]
 ·
  intro b hb;have h1:=O (rv aa aC) oQ (fun _ _ _ h=>h) hr.low b hb
  grind [qz,oQ,y8]
 ·
  intro b hb;rw [qz t (n5 hr.le) p F] at hb
  rcases hb with hb | ⟨k,h1,z⟩
  ·
   exact J b hb
  obtain⟨m,hm,o,f⟩:=N k h1
  rcases eS m hm hm o k f with⟨e,i⟩ | ⟨e,i,h8⟩
  ·
   exact G m _ b e (by rw [dP (oQ k)];exact Gy hr.low k b z)
  refine G m _ b e (by rw [dP (hr.le k)];grind [uy])
 ·
  refine O _ (n5 hr.le) (fun k hk b hb=>?_) fun k b hb=>?_
  ·
   unfold uy;rw [if_pos hk];exact hb
  unfold uy;split
  ·
   exact hr.low k b hb
  exact hb
 ·
  rw [← he];exact J
 ·
  intro b hb;rw [← he];obtain⟨m,hm,o,f⟩:=N k hk
  rcases eS m hm hm o k f with⟨e,i⟩ | ⟨e,i,h8⟩
  ·
   exact G m _ b e (by rw [dP (oQ k)];exact hr.low k b hb)
  exact G m _ b e (by rw [dP (hr.le k)];exact hb)
 intro b hb
 grind [dP,oQ]
def ko(aa:List az) (L:List Nat) (v:Nat→Nat) (am:List (Key × Value)):Prop:=
 (∀j∈L,ba am (aH aa (j:Int))=some (.string (itoa (v j:Int))))∧∀k,(∀j∈L,k≠aH aa (j:Int))→ba am k=none
theorem dy(b:ao aa) {i j:Nat}(hi:i<aa.length) (e:j<aa.length) (h:aH aa (i:Int)=aH aa (j:Int)):i=j:=by grind [ao.len,bE]
theorem ko.meet(b:ao aa) {L:List Nat}{v:Nat→Nat}{am:List (Key × Value)}(h:ko aa L v am) (f:∀j∈L,j<aa.length) {j:Nat}(i:j<aa.length) (hn:j∉L) (o:v j=0):ko aa (L++[j]) v (bY am (aH aa (j:Int)) (.string ⟨#[48]⟩)):=by
 have e0:itoa ((0:Nat):Int)=⟨#[48]⟩:=by decide +kernel
 refine⟨fun k hk=>?_,fun k hk=>?_⟩
 ·
  rw [cY]
  rcases List.mem_append.1 hk with hk | hk
  ·
   rw [if_neg (fun e=>hn (by grind [dy]))];exact h.1 k hk
  grind
 rw [cY,if_neg (fun e=>hk j (by simp) e.symm)]
 exact h.2 k fun m hm=>hk m (by simp [hm])
theorem ko.set(i:ao aa) {L:List Nat}{v:Nat→Nat}{am:List (Key × Value)}(h:ko aa L v am) (b:∀j∈L,j<aa.length) {j:Nat}(f:j∈L) (u:Nat):ko aa L (jW v j u) (bY am (aH aa (j:Int)) (.string (itoa (u:Int)))):=by
 refine⟨fun k hk=>?_,fun k hk=>?_⟩
 ·
  rw [cY]
  unfold jW
  by_cases e:k=j
  ·
   grind
  rw [if_neg (fun e2=>e (dy i (b k hk) (b j f) e2.symm)),if_neg e];exact h.1 k hk
 rw [cY,if_neg (fun e=>hk j f e.symm)];exact h.2 k hk
end
theorem gC{aa:List az}(e:ao aa) {i:Nat}(hi:i<aa.length) (hr:ax aa i=true) {x:Ask}(f:x∈aa[i].asks) (b:outside aa x=false) {k:Nat}(hk:x.n=(k:Int)):k<aa.length∧ax aa k=true∧bs aa x=aH aa (k:Int):=by
 have hm:=ij e hi hr f
 unfold outside at b
 rw [Bool.or_eq_false_iff] at b;rw [b.1,hk] at hm;refine⟨(nj e hi hr hm).1,?_,?_⟩
 ·
  grind
 grind [bs]
theorem ao.hb{aa:List az}(h:ao aa):∀x∈aa,0≤x.c∧x.c≤65535∧x.asks.length≤1000:=fun x b=>by
 obtain⟨i,hi,rfl⟩:=List.mem_iff_getElem.1 b;obtain⟨h1,_,e⟩:=h.at hi
 grind [fq]
theorem eE{aa:List az}{i:Nat}(hi:i<aa.length) (gR:i≤99) (l:List ByteArray):bC aa (aH aa (i:Int)) l=cm aa (aH aa (i:Int)) l:=by
 unfold bC;rw [if_pos (by grind [dn])]
theorem oR{aa:List az}{i:Nat}(hi:i<aa.length) (gR:i≤99) (hr:ax aa i=true):mq (aH aa (i:Int))=⟨#[48]⟩:=by grind [mq,dn]
theorem tz:∀{l:List (Key × Value)}{k:Key}{v:Value},ba l k=some v→bY l k v=l:=by
 intro l
 induction l with
 | nil=>intro k v h;simp [ba] at h
 | cons p r b=>
  obtain⟨k0,v0⟩:=p;intro k v h;simp only [ba] at h;simp only [bY]
  grind
theorem ey{aa:List az}{i:Nat}(hi:i<aa.length) (gR:i≤99):eC (aH aa (i:Int)):=by grind [eC,dn]
end Go.Rc

namespace Go.Rc
open Go
theorem lS:∀(l:List UInt8) (u:Nat),0<u→0≤decFrom l (u:Int)→∃v:Nat,decFrom l (u:Int)=v∧Lib.decDigits v=Lib.decDigits u++l
 | [],u,_,_=>⟨u,rfl,by simp⟩
 | c::r,u,hu,h=>by
  unfold decFrom at h ⊢
  by_cases hc:c.toNat<48∨57<c.toNat
  ·
   rw [if_pos hc] at h;omega
  rw [if_neg hc] at h ⊢;obtain⟨d,f⟩:∃d:Nat,c.toNat=48+d:=⟨c.toNat - 48,by omega⟩
  have i:d<10:=by omega
  have e:10*(u:Int)+((c.toNat:Int) - 48)=((10*u+d:Nat):Int):=by omega
  rw [e] at h ⊢;obtain⟨v,h1,b⟩:=lS r (10*u+d) (by omega) h;refine⟨v,h1,?_⟩;rw [b,Lib.decDigits,dif_neg (by omega),show(10*u+d) / 10=u by omega,show(10*u+d) % 10=d by omega,List.append_assoc]
  grind [UInt8.ofNat_toNat]
theorem si{s:ByteArray}(h:0≤cP s):∃v:Nat,cP s=v∧s=itoa (v:Int):=by
 unfold cP at h ⊢
 by_cases hc:s.size=0∨9<s.size∨(s.data.toList.head?=some 48∧s.size≠1)
 ·
  rw [if_pos hc] at h;omega
 rw [if_neg hc] at h ⊢;obtain⟨d⟩:=s
 have key:∃v:Nat,decFrom d.toList 0=v∧Lib.decDigits v=d.toList:=by
  have hsz:(⟨d⟩:ByteArray).size=d.toList.length:=by simp [ByteArray.size]
  rw [hsz] at hc;simp only at hc h ⊢
  cases hl:d.toList with
  | nil=>rw [hl] at hc;simp at hc
  | cons c r=>
   rw [hl] at hc h
   unfold decFrom at h ⊢
   by_cases hn:c.toNat<48∨57<c.toNat
   ·
    rw [if_pos hn] at h;omega
   rw [if_neg hn] at h ⊢;obtain⟨e,he⟩:∃e:Nat,c.toNat=48+e:=⟨c.toNat - 48,by omega⟩
   have h1:10*(0:Int)+((c.toNat:Int) - 48)=(e:Nat):=by omega
   rw [h1] at h ⊢
   have b:UInt8.ofNat (48+e)=c:=by grind [UInt8.ofNat_toNat]
   by_cases h0:e=0
   ·
    subst h0
    have m:c=48:=by rw [← b];rfl
    have hr:r=[]:=by grind
    subst hr;exact⟨0,rfl,by rw [Lib.decDigits,dif_pos (by omega),b]⟩
   obtain⟨v,f,i⟩:=lS r e (by omega) h;refine⟨v,f,?_⟩;rw [i,Lib.decDigits,dif_pos (by omega),b]
   rfl
 obtain⟨v,h1,f⟩:=key;refine⟨v,h1,?_⟩
 have e:Lib.itoa (v:Int)=Lib.decDigits v:=by unfold Lib.itoa;rw [if_neg (by omega)];rfl
 unfold itoa
 rw [e,f]
theorem B6{s:ByteArray}(h:∀n:Nat,n≤65535→s≠itoa (n:Int)):bZ s=0:=by
 unfold bZ
 split
 ·
  rfl
 grind [si]
theorem B7(l:List az) (m:Nat):m≤cN l m:=by unfold cN;omega
theorem za{aa:List az}{i:Nat}(hi:i<aa.length):(block aa (i:Int)).1≤(block aa (i:Int)).2:=by
 have hb:block aa (i:Int)=if ax aa i then ((bd aa i:Int),(cN aa (i+1):Int)) else ((i:Int),(i:Int)+1):=by
  unfold block;rw [if_neg (by omega)];rfl
 grind [eD,B7]
theorem wU(kind:Int) (c:Nat) (l:List Nat):cO kind 0 (c::l)=cO kind c l:=by
 unfold cO pq oK dN
 simp
end Go.Rc

namespace Go.Rc
open Go
theorem wV{κ:Type} [DecidableEq κ]:∀{l:List (κ × Value)}{k:κ}{v:Value},ba l k=none→fF (bY l k v) k=l
 | [],k,v,_=>by simp [bY,fF]
 | (k0,v0)::r,k,v,h=>by
  by_cases e:k0=k
  ·
   subst e;simp [ba] at h
  simp only [ba,if_neg e] at h;simp only [bY,if_neg e,fF,wV h]
def FZ.row(b:Nat) (r:List Value):FZ:=
 ⟨fun Z w=>Z b∧b<w.heap.size∧w.rangeAt b 0 r,fun hZ h=>⟨hZ _ h.1,h.2⟩,fun hs hc h=>⟨h.1,Nat.lt_of_lt_of_le h.2.1 hs,fun j v hv=>by rw [← h.2.2 j v hv];grind [World.cell?_of_block]⟩⟩
def SD.FV(D:SD) (P:Program) (aa:List az) (x:cI):FZ:=(D.F P aa x).and (FZ.row D.s (D.cells x))
theorem SD.FV.rg{D:SD}{P:Program}{aa:List az}{x:cI}{Z:Nat→Prop}{w:World}(h:(D.FV P aa x).p Z w):(As.rg D.s 0 (D.cells x)).ok Z w:=As.NY h.2.1 h.2.2.1 h.2.2.2
theorem tA{κ:Type} [DecidableEq κ]:∀(l:List (κ × Value)) (k:κ) (v u:Value),bY (bY l k v) k u=bY l k u
 | [],k,v,u=>by simp [bY]
 | (k0,v0)::r,k,v,u=>by
  by_cases e:k0=k
  ·
   simp [bY,e]
  simp [bY,e,tA r k v u]
section
variable {aa:List az}{aC:List ca}
def jX(aa:List az) (i:Nat) (al:List (Key × Value)):Prop:=∀j:Nat,j≤i→j<aa.length→ba al (aH aa (j:Int))=none
theorem jX.mono{i m:Nat}{al:List (Key × Value)}(h:jX aa i al) (hm:m≤i):jX aa m al:=fun j b hl=>h j (by omega) hl
theorem jX.put(b:ao aa) {i m:Nat}{al:List (Key × Value)}(h:jX aa i al) (hi:i<aa.length) (hm:m<i) (v:Value):jX aa m (bY al (aH aa (i:Int)) v):=fun j f hl=>by
 rw [cY,if_neg (fun e=>by have:=dy b hi hl e;omega)];exact h j (by omega) hl
theorem jX.nil(i:Nat):jX aa i []:=fun _ _ _=>rfl
noncomputable def da(aa:List az) (aC:List ca) (i:Nat):List Key:=(dT (cm aa (aH aa (i:Int))) (valOf aa aC) (cH aa i)).1
noncomputable def n9(aa:List az) (aC:List ca) (k:Key):List Key:=if aw k then [] else da aa aC (number k).toNat
theorem gD(b:ao aa) {i:Nat}(hi:i<aa.length):n9 aa aC (aH aa (i:Int))=da aa aC i:=by
 have e:=b.len
 unfold n9
 rw [if_neg (by grind [bT]),bE hi (by omega),Int.toNat_natCast]
theorem dI.cyc(b:ao aa) {i:Nat}{a:Key}(h:dI aa i a):aA a=decide (a.kind=32):=by
 have e:=b.len
 rcases h with⟨n,h1,rfl⟩ | ⟨m,h1,rfl,_⟩
 ·
  rw [iq (by omega)]
  unfold bB
  rw [if_neg (by omega)]
  rfl
 grind [bf,dn]
theorem dI.al(b:ao aa) {i0 j:Nat}{a:Key}{al:List (Key × Value)}(h:dI aa j a) (hr:ax aa j=true) (hc:aA a=false) (eS:aw a=false) (hb:bd aa j≤i0) (e:jX aa i0 al):jX aa (number a).toNat al:=by
 have i:=b.len
 rcases h with⟨n,h1,rfl⟩ | ⟨m,h1,rfl,_,_,_,f⟩
 ·
  grind [aZ]
 rw [bf h1 (by omega)] at hc;rw [bE h1 (by omega),Int.toNat_natCast];exact e.mono (by have:=f hc hr;omega)
structure RI (aa:List az) (aC:List ca) (i0:Nat) (qs:List Ask) (u1:Nat→Nat) (L1:List Nat) (iP:Bool) (dt:List (Key × Value)) (n:Nat) (L2:List Nat) (iu:List (Key × Value)) (jY:Bool) (gl:List (Key × Value)) (acc:List ByteArray):Prop where
 hn:n≤qs.length
 rd:cG aa aC i0 L2 u1
 up:jb aa aC L2 u1 gl
 at_:ko aa L2 u1 iu
 m:aM aa aC gl
 le:fj dt gl
 p:lR aa L2 u1≤lR aa L1 u1∧(jY=true→iP=true∨lR aa L2 u1<lR aa L1 u1)
 c:jY=false→L2=L1∧iP=false
 pre:L1 <+: L2
 ev:Ev aa aC u1 L2 dt gl qs n acc
variable {i0 j n:Nat}{u1:Nat→Nat}{L1 L2:List Nat}{iP jY:Bool}{dt gl Gz iu:List (Key × Value)}{acc:List ByteArray}
theorem RI.start{b:List (Key × Value)}{qs:List Ask}(h1:cG aa aC i0 L1 u1) (e:jb aa aC L1 u1 dt) (f:ko aa L1 u1 b) (i:aM aa aC dt):RI aa aC i0 qs u1 L1 iP dt 0 L1 b iP dt []:=
 ⟨Nat.zero_le _,h1,e,f,i,fj.refl _,⟨Nat.le_refl _,fun h=>.inl h⟩,fun h=>⟨rfl,h⟩,List.prefix_refl _,Ev.start⟩
theorem RI.done(b:ao aa) (e:j<aa.length) (hr:ax aa j=true) (h:RI aa aC i0 aa[j].asks u1 L1 iP dt n L2 iu jY gl acc) (hn:n<aa[j].asks.length) {f:Value}(m:ba gl (bs aa aa[j].asks[n])=some f) :
  RI aa aC i0 aa[j].asks u1 L1 iP dt (n+1) L2 iu jY gl (acc++[valOf aa aC (bs aa aa[j].asks[n])]):=
 {h with
  hn:=hn
  ev:=h.ev.snoc _ (fun _ _=>rfl) fun _ i k hk=>.inl (by
   obtain⟨o,p,q⟩:=gC b e hr (List.getElem_mem hn) i hk
   grind [fm,fQ])}
theorem RI.low(b:ao aa) (f:j<aa.length) (hr:ax aa j=true) (h:RI aa aC i0 aa[j].asks u1 L1 iP dt n L2 iu jY gl acc) (hn:n<aa[j].asks.length) (hc:aA (bs aa aa[j].asks[n])=false) (e:aM aa aC Gz) (hle:fj gl Gz) :
  RI aa aC i0 aa[j].asks u1 L1 iP dt (n+1) L2 iu jY Gz (acc++[valOf aa aC (bs aa aa[j].asks[n])]):=
 {h with
  hn:=hn
  up:=h.up.mono b h.rd hle
  m:=e
  le:=h.le.trans hle
  ev:=(h.ev.mono (fun _ h=>h) hle).snoc _ (fun _ _=>rfl) fun _ i k hk=>by grind [ao.len,gC,bf]}
theorem RI.inside(h:ao aa) (i:j<aa.length) (hr:ax aa j=true) (hn:n<aa[j].asks.length) (hc:aA (bs aa aa[j].asks[n])=true) :
  ∃b:Nat,bs aa aa[j].asks[n]=aH aa (b:Int)∧b<aa.length∧ax aa b=true∧ed aa j b∧outside aa aa[j].asks[n]=false:=by
 have m:=List.getElem_mem hn
 have e:outside aa aa[j].asks[n]=false:=by grind [gB]
 obtain⟨b,f,o,p⟩:=fH h i hr m e;exact⟨b,o,p,f.lt.2.2.2,f,e⟩
theorem RI.Im(i:ao aa) (p:j<aa.length) (hr:ax aa j=true) {e:List Nat}(h:Ev aa aC u1 e dt gl aa[j].asks n acc) (hle:fj dt gl) (hn:n<aa[j].asks.length) {b:Nat}(q:bs aa aa[j].asks[n]=aH aa (b:Int)) (r:b<aa.length) (m:outside aa aa[j].asks[n]=false)
  (u:ba gl (bs aa aa[j].asks[n])=none) (z:b∈e):Ev aa aC u1 e dt gl aa[j].asks (n+1) (acc++[itoa (u1 b:Int)]):=by
 have F:ba dt (aH aa (b:Int))=none:=by
  cases h:ba dt (aH aa (b:Int)) with
  | none=>rfl
  | some v=>have:=hle _ _ h;grind
 refine h.snoc _ (fun _ f=>by rw [m] at f;cases f) fun _ f k hk=>?_;obtain⟨t,G,o⟩:=gC i p hr (List.getElem_mem hn) m hk;rw [q] at o
 have:=dy i r t o
 grind
theorem RI.meet(i:ao aa) (t:j<aa.length) (hr:ax aa j=true) (h:RI aa aC i0 aa[j].asks u1 L1 iP dt n L2 iu jY gl acc) (G:j∈L1) (hn:n<aa[j].asks.length) (hc:aA (bs aa aa[j].asks[n])=true)
  (H:ba gl (bs aa aa[j].asks[n])=none) (O:ba iu (bs aa aa[j].asks[n])=none) :
  ∃b:Nat,bs aa aa[j].asks[n]=aH aa (b:Int)∧b<aa.length∧ax aa b=true∧RI aa aC i0 aa[j].asks u1 L1 iP dt (n+1) (L2++[b]) (bY iu (bs aa aa[j].asks[n]) (.string ⟨#[48]⟩)) true gl (acc++[⟨#[48]⟩]):=by
 obtain⟨b,o,e,q,I,J⟩:=RI.inside i t hr hn hc
 have f:b∉L2:=fun hm=>by have:=h.at_.1 b hm;grind
 have r:=h.rd.out b f;have u:cq aa i0 b:=.step (h.rd.reach j (h.pre.subset G)) I;have L:=h.rd.meet e q f u;have N:=h.rd.AX e q f u;have z:=wT (v:=u1) (j:=b) N;have F:=RI.Im i t hr (h.ev.mono (L':=L2++[b]) (fun _ h=>by simp [h]) (fj.refl _)) h.le hn o e J H (by simp)
 have e0:itoa ((0:Nat):Int)=⟨#[48]⟩:=by decide +kernel
 rw [r,e0] at F;refine⟨b,o,e,q,⟨hn,L,h.up.meet r,?_,h.m,h.le,⟨Nat.le_of_lt (Nat.lt_of_lt_of_le z h.p.1),fun _=>.inr (Nat.lt_of_lt_of_le z h.p.1)⟩,fun h=>(by cases h),h.pre.trans (List.prefix_append _ _),F⟩⟩;rw [o];exact h.at_.meet i (fun k hk=>(h.rd.ring k hk).1) e f r
theorem RI.Oi(f:ao aa) (m:j<aa.length) (hr:ax aa j=true) (h:RI aa aC i0 aa[j].asks u1 L1 iP dt n L2 iu jY gl acc) (hn:n<aa[j].asks.length) (hc:aA (bs aa aa[j].asks[n])=true)
  (r:ba gl (bs aa aa[j].asks[n])=none) {v:Value}(t:ba iu (bs aa aa[j].asks[n])=some v) :
  ∃s:ByteArray,v=.string s∧s.size≤1000∧RI aa aC i0 aa[j].asks u1 L1 iP dt (n+1) L2 iu jY gl (acc++[s]):=by
 obtain⟨b,o,p,z,F,u⟩:=RI.inside f m hr hn hc
 have q:b∈L2:=by
  by_cases hm:b∈L2
  ·
   exact hm
  have:=h.at_.2 (aH aa (b:Int)) (fun k hk e=>hm (by have:=dy f p (h.rd.ring k hk).1 e;rw [this];exact hk))
  grind
 have i:=h.at_.1 b q;rw [← o,t] at i;simp only [Option.some.injEq] at i;refine⟨_,i,?_,{h with hn:=hn,ev:=RI.Im f m hr h.ev h.le hn o p u r q}⟩;have hle:=h.rd.le b
 have e:Lib.itoa (u1 b:Int)=Lib.decDigits (u1 b):=by unfold Lib.itoa;rw [if_neg (by omega)];rfl
 grind [itoa,Lib.decDigits,ByteArray.size]
end
end Go.Rc

namespace Go.Rc
open Go
/-! ### keys in order -/
def kq(k:Key):List Key→List Key
 | []=>[k]
 | x::r=>if bm x k<0 then x::kq k r else if x=k then x::r else k::x::r
def iv(l:List Key):List Key:=l.foldl (fun out k=>kq k out) []
theorem GA:∀(l:List Key) (k:Key) (p:Nat),p≤l.length→(∀q x,q<p→l[q]?=some x→bm x k<0)→(∀x,l[p]?=some x→0≤bm x k)→kq k l=if l[p]?=some k then l else l.take p++[k]++l.drop p:=by
 intro l
 induction l with
 | nil=>intro k p b _ _;simp at b;subst b;rfl
 | cons x r f=>
  intro k p b h1 e
  cases p with
  | zero=>
   have:=e x rfl
   simp only [kq]
   grind
  | succ p=>
   have:=h1 0 x (by omega) rfl
   simp only [kq];rw [if_pos this,f k p (by simpa using b) (fun q y h hy=>h1 (q+1) y (by omega) (by simpa using hy)) (fun y hy=>e y (by simpa using hy))]
   grind
theorem DV(k:Key):∀l,(kq k l).length≤l.length+1:=by
 intro l
 induction l with
 | nil=>simp [kq]
 | cons x r b=>grind [kq]
theorem qA(l:List Key) (k:Key):iv (l++[k])=kq k (iv l):=by simp [iv]
theorem tB(l:List Key):(iv l).length≤l.length:=by
 have key:∀(l acc:List Key),(l.foldl (fun out k=>kq k out) acc).length≤acc.length+l.length:=by
  intro l
  induction l with
  | nil=>intro acc;simp
  | cons x r b=>grind [DV]
 simpa [iv] using key l []
theorem wW(k:Key):∀(l:List Key) (x:Key),x∈kq k l↔x=k∨x∈l:=by
 intro l
 induction l with
 | nil=>intro x;simp [kq]
 | cons y r b=>grind [kq]
theorem oa(l:List Key) (x:Key):x∈iv l↔x∈l:=by
 have key:∀(l acc:List Key),x∈l.foldl (fun out k=>kq k out) acc↔x∈acc∨x∈l:=by
  intro l
  induction l with
  | nil=>intro acc;simp
  | cons y r b=>grind [wW]
 simpa [iv] using key l []
def wX(out:List Key) (p:Nat) (x:Key):Bool:=match out[p]? with | some y=>decide (bm y x<0) | none=>false
/-! ### groups -/
def Ld(l:List Rec) (rev:Int) (a x:Key):Prop:=x∈(aD l a).reads∧bD l rev x=true
inductive bu (l:List Rec) (rev:Int) (k:Key):Key→Prop where
 | one {x:Key}:Ld l rev k x→bu l rev k x
 | step {x y:Key}:bu l rev k x→Ld l rev x y→bu l rev k y
def fJ(m:List (Key × Value)) (P:Key→Prop):Prop:=∀k,(ba m k=some (.bool true)↔P k)∧(ba m k=none∨ba m k=some (.bool true))
open Classical in
noncomputable def uS(l:List Rec) (rev:Int) (k x:Key):Bool:=decide (bu l rev k x)
theorem iw{l:List Rec}{rev:Int}{k x:Key}:uS l rev k x=true↔bu l rev k x:=by unfold uS;simp
noncomputable def wY(l:List Rec) (rev:Int) (k:Key) (r:Rec):Bool:=decide (r.key≠k) && (uS l rev k r.key && uS l rev r.key k)
noncomputable def gE(l:List Rec) (rev:Int) (k:Key) (rs:List Rec):List Key:=(rs.filter (wY l rev k)).map (·.key)
theorem oS{l:List Rec}{rev:Int}{k:Key}{i:Nat}(h:i<l.length):gE l rev k (l.take (i+1))=if wY l rev k l[i]=true then gE l rev k (l.take i)++[l[i].key] else gE l rev k (l.take i):=by
 rw [List.take_succ_eq_append_getElem h];simp only [gE,List.filter_append,List.map_append]
 grind
theorem mw(l:List Rec) (rev:Int) (k:Key) (rs:List Rec):(gE l rev k rs).length≤rs.length:=by grind [gE]
theorem fJ.get{m:List (Key × Value)}{P:Key→Prop}(h:fJ m P) (k:Key) {b:Bool}(hb:b=true↔P k):(ba m k).getD (.bool false)=.bool b:=by
 obtain⟨h1,e⟩:=h k
 grind
theorem fJ.put{m:List (Key × Value)}{b:List Key}(h:fJ m (·∈b)) (x:Key):fJ (bY m x (.bool true)) (·∈b++[x]):=fun k=>by
 rw [cY]
 by_cases e:x=k
 ·
  rw [if_pos e];simp [e]
 rw [if_neg e];obtain⟨h1,f⟩:=h k
 grind
theorem fJ.congr{m:List (Key × Value)}{P Q:Key→Prop}(h:fJ m P) (b:∀k,P k↔Q k):fJ m Q:=fun k=>⟨(h k).1.trans (b k),(h k).2⟩
theorem fJ.nil:fJ [] (·∈([]:List Key)):=fun k=>by simp [ba]
theorem eM{L S:List Key}(h:L.Nodup) (b:∀x∈L,x∈S):L.length≤S.length:=by
 induction L generalizing S with
 | nil=>simp
 | cons a r e=>
  have f:=b a (by simp);rw [List.nodup_cons] at h
  have:=e (S:=S.erase a) h.2 fun x i=>by grind
  grind
theorem kL{l:List Rec}{rev:Int}{x:Key}(h:bD l rev x=true):x∈l.map (·.key):=by
 unfold bD at h
 rw [Bool.and_eq_true] at h
 grind [ay]
theorem bu.eQ{l:List Rec}{rev:Int}{k x:Key}(h:bu l rev k x):bD l rev x=true:=by
 cases h with
 | one h=>exact h.2
 | step _ h=>exact h.2
theorem uT{l:List Rec}{rev:Int}{k:Key}{b:List Key}(e:∀x∈b,bu l rev k x) (hc:∀y∈k::b,∀x,Ld l rev y x→x∈b) (x:Key):x∈b↔bu l rev k x:=by
 refine⟨e x,fun h=>?_⟩
 induction h with
 | one h=>exact hc k (by simp) _ h
 | step _ f i=>exact hc _ (by simp [i]) _ f
noncomputable def aB(l:List Rec) (rev:Int) (k:Key):List Key:=if bD l rev k then iv (k::gE l rev k l) else [k]
def bH(rev:Int) (group:List Key) (bq:Bool) (r:Rec):Rec:=if r.key∈group then (if bq then {r with bq:=true} else {r with aq:=rev}) else r
def cU(x:cI) (group:List Key) (bq:Bool):cI:={x with ah:=x.ah.map (bH x.ad group bq)}
def aI(x:cI) (k:Key):Bool:=(ay x.ah k).isSome && decide ((aD x.ah k).aq=x.ad)
def aQ(val:Key→ByteArray) (x:cI) (k:Key):Int:=
 if aw k then (bw x.ab k).changed
 else if (ay x.ah k).isSome && (decide ((aD x.ah k).aq=x.ad) || decide (val k=(aD x.ah k).value)) then (aD x.ah k).changed else x.ad
def dm(val:Key→ByteArray) (x:cI) (k:Key):ByteArray:=if aA k then val k else dO x k
/-! ### a request -/
structure ES where
 b:cI
 busy:List (Key × Value)
 cw:List Key
 e:Int
def ES.on(s:ES) (k:Key):Bool:=(ba s.busy k).isSome
def db(s:ES) (k:Key):Bool:=aw k || ((s.on k && aA k) || aI s.b k)
mutual
noncomputable def hM(aa:List az) (val:Key→ByteArray):Nat→ES→Key→Option ES
 | 0,_,_=>none
 | f+1,s,k=>
  if s.e≠0∨aw k=true then some s
  else if aI s.b k then some s
  else if s.on k then (if aA k then some s else some {s with e:=43})
  else (cc aa val f {s with busy:=bY s.busy k (.bool true)} k 0).bind fun p=>
   (if p.2 then ei aa val f p.1 k [] [] else some p.1).bind fun s3=>some {s3 with busy:=fF s3.busy k}
noncomputable def cc(aa:List az) (val:Key→ByteArray):Nat→ES→Key→Nat→Option (ES × Bool)
 | 0,_,_,_=>none
 | f+1,s,k,at_=>
  if s.e≠0 then some (s,false)
  else if !(ay s.b.ah k).isSome || (aD s.b.ah k).bq then some (s,true)
  else if (aD s.b.ah k).aq=s.b.ad then some (s,false)
  else
   match (bU s.b.ah (aB s.b.ah s.b.ad k))[at_]? with
   | none=>some ({s with b:=cU s.b (aB s.b.ah s.b.ad k) false},false)
   | some c=>
    if db s c.read=false then (hM aa val f s c.read).bind fun s'=>cc aa val f s' k at_
    else if (aD s.b.ah c.eP).aq<aQ val s.b c.read then
     some ((if aA k then {s with b:=cU s.b (aB s.b.ah s.b.ad k) true} else s),true)
    else cc aa val f s k (at_+1)
noncomputable def ei(aa:List az) (val:Key→ByteArray):Nat→ES→Key→List Key→List ByteArray→Option ES
 | 0,_,_,_,_=>none
 | f+1,s,k,reads,ai=>
  if s.e≠0 then some s
  else if (bC aa k ai).done then
   (if !(ay s.b.ah k).isSome && decide (4000≤s.b.ah.length) then some {s with e:=45}
   else some {s with b:={s.b with ah:=eA s.b.ah (cZ s.b k (bC aa k ai).value reads)},cw:=s.cw++[k]})
  else (hM aa val f s (bC aa k ai).ask).bind fun s'=>
   if s'.e=0 then ei aa val f s' k (reads++[(bC aa k ai).ask]) (ai++[dm val s'.b (bC aa k ai).ask]) else ei aa val f s' k reads ai
end
/-! ### a solver, as one thing -/
def As.kM(P:Program) (ST:Nat) (aa:List az) (x:cI) (D:SD):As where
 fp y:=y=D.s∨y=D.m
 ok Z w:=D.s≠D.m∧bN w D.s ST (D.cells x)∧(∃ml,aM aa x.ab ml∧KM Key.val w D.m ml)∧(D.F P aa x).p Z w
 lt:=fun⟨_,h1,⟨_,_,h2⟩,_⟩ y hy=>by rcases hy with rfl | rfl;exact h1.lt;exact h2.lt
 mono hZ:=fun⟨h0,h1,h2,h3⟩=>⟨h0,h1,h2,(D.F P aa x).mono hZ h3⟩
 st:=fun hs hc ⟨h0,h1,⟨ml,h2,h3⟩,h4⟩=>⟨h0,(As.blk D.s ST (D.cells x)).st (Z:=fun _=>False) hs (fun y hy hl=>hc y (.inl (.inl (by rcases hy with hy | hy;exact hy;exact hy.elim))) hl) h1,
  ⟨ml,h2,(As.map Key.val D.m ml).st (Z:=fun _=>False) hs (fun y hy hl=>hc y (.inl (.inr (by rcases hy with hy | hy;exact hy;exact hy.elim))) hl) h3⟩,(D.F P aa x).st hs (fun y hy hl=>hc y (.inr hy) hl) h4⟩
section
variable {w0 w w':World}{M Z:Nat→Prop}{l:List As}{A B C:As}
theorem St.split(h:St w0 M Z w (C::l)) (o:A.ok Z w) (p:B.ok Z w) (i:∀x,A.fp x→C.fp x) (m:∀x,B.fp x→C.fp x) (q:∀x,A.fp x→¬B.fp x):St w0 M Z w (A::B::l):=by
 obtain⟨r,t⟩:=List.pairwise_cons.1 h.oL;refine⟨h.bR,h.hV,?_,?_,?_,?_⟩
 ·
  intro D b x e f;simp only [List.mem_cons] at b
  rcases b with rfl | rfl | b
  ·
   exact h.jS C (by simp) x (i x e) f
  ·
   exact h.jS C (by simp) x (m x e) f
  exact h.jS D (by simp [b]) x e f
 ·
  intro D b x e;simp only [List.mem_cons] at b
  rcases b with rfl | rfl | b
  ·
   exact h.kI C (by simp) x (i x e)
  ·
   exact h.kI C (by simp) x (m x e)
  exact h.kI D (by simp [b]) x e
 ·
  simp_all
 intro D b;simp only [List.mem_cons] at b
 rcases b with rfl | rfl | b
 ·
  exact o
 ·
  exact p
 exact h.ok D (by simp [b])
theorem St.join(h:St w0 M Z w (A::B::l)) (m:C.ok Z w) (i:∀x,C.fp x→A.fp x∨B.fp x):St w0 M Z w (C::l):=by
 obtain⟨p,o⟩:=List.pairwise_cons.1 h.oL;obtain⟨q,r⟩:=List.pairwise_cons.1 o;refine⟨h.bR,h.hV,?_,?_,?_,?_⟩
 ·
  intro D b x e f;simp only [List.mem_cons] at b
  rcases b with rfl | b
  ·
   rcases i x e with h1 | h1
   ·
    exact h.jS A (by simp) x h1 f
   exact h.jS B (by simp) x h1 f
  exact h.jS D (by simp [b]) x e f
 ·
  intro D b x e;simp only [List.mem_cons] at b
  rcases b with rfl | b
  ·
   rcases i x e with h1 | h1
   ·
    exact h.kI A (by simp) x h1
   exact h.kI B (by simp) x h1
  exact h.kI D (by simp [b]) x e
 ·
  grind [List.pairwise_cons]
 intro D b;simp only [List.mem_cons] at b
 rcases b with rfl | b
 ·
  exact m
 exact h.ok D (by simp [b])
theorem St.one(h:St w0 M Z w l) (e:A∈l):St w (lO [A]) Z w [A] where
 bR:=eY.refl _ _
 hV:=h.hV
 jS D b:=by simp at b;subst b;exact h.jS _ e
 kI D b x f:=.inl ⟨D,b,f⟩
 oL:=by simp
 ok D b:=by simp at b;subst b;exact h.ok _ e
theorem St.wZ(h:St w0 M Z w l) (f:A∈l) (b:St w (lO [A]) Z w' [A]):St w0 M Z w' l:=
 h.same f (b.bR.mono fun x _ ⟨D,e,i⟩=>by simp at e;subst e;exact i) (b.ok A (by simp))
theorem AZ(f:A∈l) {x:Nat}(b:lO [A] x):lO l x:=by obtain⟨D,e,b⟩:=b;simp at e;subst e;exact⟨D,f,b⟩
end
theorem As.gv{P:Program}{ST:Nat}{aa:List az}{x:cI}{D:SD}{Z:Nat→Prop}{w:World}(h:(As.kM P ST aa x D).ok Z w):(D.F P aa x).p Z w:=h.2.2.2
theorem As.gvb{P:Program}{ST:Nat}{aa:List az}{x:cI}{D:SD}{Z:Nat→Prop}{w:World}(h:(As.kM P ST aa x D).ok Z w):bN w D.s ST (D.cells x):=h.2.1
structure EA where
 (a1 a2 a3:Option Addr) (n1 c1 n2 c2 n3 c3:Nat)
def EA.cells(E:EA) (sb bb:Nat) (s:ES):List Value:=
 [.pointer (some ⟨sb,0,none⟩),.int .i64 s.b.ad,.slice E.a1 E.n1 E.c1,.slice E.a2 E.n2 E.c2,.map (some bb),.slice E.a3 E.n3 E.c3,.int .i64 s.e]
theorem zb{x:cI}{group:List Key}{bq:Bool}{i:Nat}(h:i<x.ah.length) (hi:i≤x.ah.length):(((x.ah.take i).map (bH x.ad group bq))++x.ah.drop i).set i (bH x.ad group bq x.ah[i])=((x.ah.take (i+1)).map (bH x.ad group bq))++x.ah.drop (i+1):=by
 rw [List.set_append_right _ _ (by simp;omega)];simp only [List.length_map,List.length_take,Nat.min_eq_left hi,Nat.sub_self]
 grind [List.drop_eq_getElem_cons]
end Go.Rc

namespace Go.Rc
open Go
structure Good (aa:List az) (aC:List ca) (s:ES):Prop where
 aC:s.b.ab=aC
 len:s.b.ah.length≤4000
 key:∀r∈s.b.ah,eU aa r.key
 GB:∀r∈s.b.ah,r.reads.length≤4000∧∀a∈r.reads,eU aa a
 i6:(s.busy.map (·.1)).Nodup
 busy:∀k,ba s.busy k=none∨ba s.busy k=some (.bool true)
structure Ba (s s':ES):Prop where
 cw:s.cw.length≤s'.cw.length
 rev:s'.b.ad=s.b.ad
theorem Ba.refl(s:ES):Ba s s:=⟨Nat.le_refl _,rfl⟩
theorem Ba.trans{s t u:ES}(h:Ba s t) (b:Ba t u):Ba s u:=⟨Nat.le_trans h.cw b.cw,b.rev.trans h.rev⟩
section
variable {aa:List az}{aC:List ca}{s:ES}{k:Key}
theorem Good.on(h:Good aa aC s) (k:Key):Good aa aC {s with busy:=bY s.busy k (.bool true)}:=
 {h with i6:=ez h.i6 _ _,busy:=fun k'=>by show ba (bY s.busy k (.bool true)) k'=none∨_;rw [cY];split;exact .inr rfl;exact h.busy k'}
theorem Good.off(h:Good aa aC s) (k:Key):Good aa aC {s with busy:=fF s.busy k}:=
 {h with i6:=by grind [Dv,i6],busy:=fun k'=>by show ba (fF s.busy k) k'=none∨_;rw [wG h.i6];split;exact .inl rfl;exact h.busy k'}
theorem Good.err(h:Good aa aC s) (e:Int):Good aa aC {s with e:=e}:={h with}
theorem ck(rev:Int) (g:List Key) (d:Bool) (r:Rec):(bH rev g d r).key=r.key∧(bH rev g d r).reads=r.reads:=by unfold bH;grind
theorem Good.mark(h:Good aa aC s) (g:List Key) (d:Bool):Good aa aC {s with b:=cU s.b g d}:=
 {h with
  len:=by show((s.b.ah.map _).length≤4000);rw [List.length_map];exact h.len
  key:=fun r hr=>by obtain⟨q,e,rfl⟩:=List.mem_map.1 hr;rw [(ck _ _ _ q).1];exact h.key q e
  GB:=fun r hr=>by obtain⟨q,e,rfl⟩:=List.mem_map.1 hr;rw [(ck _ _ _ q).2];exact h.GB q e}
theorem Ba.mark(g:List Key) (d:Bool):Ba s {s with b:=cU s.b g d}:=⟨Nat.le_refl _,rfl⟩
theorem eN(r:Rec):∀(l:List Rec) (b:Bool) (x:Rec),x∈dG r l b→x=r∨x∈l:=by
 intro l
 induction l with
 | nil=>grind [dG]
 | cons y e f=>grind [dG]
theorem xa(r:Rec):∀(l:List Rec) (b:Bool),(dG r l b).length+(l.filter fun x=>decide (bm x.key r.key=0)).length=l.length+(if b then 0 else 1):=by
 intro l
 induction l with
 | nil=>intro b;cases b <;> simp [dG]
 | cons y f e=>
  intro b;have h1:=e (b || decide (0≤bm y.key r.key));simp only [dG,List.length_append,List.length_cons]
  grind
theorem DX{l:List Rec}{r:Rec}(h:(ay l r.key).isSome=true) (hc:bm r.key r.key=0):(eA l r).length≤l.length:=by
 have h1:=xa r l false;obtain⟨x,b⟩:=Option.isSome_iff_exists.1 h;have f:=List.mem_of_find?_eq_some b;have e:=List.find?_some b
 simp at e
 have i:0<(l.filter fun x=>decide (bm x.key r.key=0)).length:=List.length_pos_of_mem (List.mem_filter.2 ⟨f,by rw [e];simp [hc]⟩)
 unfold eA
 simp at h1
 omega
theorem tC:∀l:List UInt8,Lib.compareBytes l l=0
 | []=>by simp [Lib.compareBytes]
 | a::r=>by simp [Lib.compareBytes,tC r]
theorem gF(k:Key):bm k k=0:=by unfold bm;simp [tC]
theorem Good.put(h:Good aa aC s) {r:Rec}{cw:List Key}(hk:eU aa r.key) (hr:r.reads.length≤4000∧∀a∈r.reads,eU aa a) (f:(!(ay s.b.ah r.key).isSome && decide (4000≤s.b.ah.length))=false) :
  Good aa aC {s with b:={s.b with ah:=eA s.b.ah r},cw:=cw}:=
 {h with
  len:=by grind [eA,len,DX,gF,nX]
  key:=fun x e=>by rcases eN r _ _ x e with rfl | e;exact hk;exact h.key x e
  GB:=fun x e=>by rcases eN r _ _ x e with rfl | e;exact hr;exact h.GB x e}
def ga(aa:List az) (k:Key) (n:Nat):Prop:=∃i,i<aa.length∧k=aH aa (i:Int)∧n≤cH aa i
theorem eU.gu(h:eU aa k) (hi:aw k=false):ga aa k 0:=by
 cases h with
 | cell h=>grind [aZ]
 | fl h gR=>exact⟨_,h,rfl,Nat.zero_le _⟩
theorem ga.next(b:ao aa) {ai:List ByteArray}(h:ga aa k ai.length) (f:(bC aa k ai).done=false):ga aa k (ai.length+1)∧eU aa (bC aa k ai).ask:=by
 obtain⟨i,hi,rfl,hn⟩:=h
 have gR:i≤99:=by have:=b.len;omega
 rw [eE hi gR] at f ⊢
 rcases Nat.lt_or_ge ai.length (cH aa i) with e | o
 ·
  obtain⟨a,h1,m,_⟩:=dq b hi e;rw [h1];exact⟨⟨i,hi,rfl,e⟩,m.Il b⟩
 grind [fb]
theorem ga.le(b:ao aa) {n:Nat}(h:ga aa k n):n≤6:=by obtain⟨i,hi,_,hn⟩:=h;have:=kK b hi;omega
theorem ga.not(b:ao aa) {n:Nat}(h:ga aa k n):eC k∧aw k=false:=by
 obtain⟨i,hi,rfl,hn⟩:=h;grind [ao.len,ey,bT]
theorem ga.Il(b:ao aa) {n:Nat}(h:ga aa k n):eU aa k:=by obtain⟨i,hi,rfl,_⟩:=h;have:=b.len;exact .fl hi (by omega)
end
section
variable {aa:List az}{val:Key→ByteArray}{aC:List ca}
def UpG(aa:List az) (val:Key→ByteArray) (aC:List ca) (f:Nat):Prop:=∀s k s',hM aa val f s k=some s'→Good aa aC s→eU aa k→Good aa aC s'∧Ba s s'
def ChG(aa:List az) (val:Key→ByteArray) (aC:List ca) (f:Nat):Prop:=∀s k n s' b,cc aa val f s k n=some (s',b)→Good aa aC s→Good aa aC s'∧Ba s s'
def RuG(aa:List az) (val:Key→ByteArray) (aC:List ca) (f:Nat):Prop:=∀s k reads ai s',ei aa val f s k reads ai=some s'→Good aa aC s→ga aa k ai.length→reads.length=ai.length→(∀a∈reads,eU aa a)→Good aa aC s'∧Ba s s'
theorem fc{aa:List az}{aC:List ca}{s:ES}(h:Good aa aC s) {group:List Key}{n:Nat}{c:nf}(hc:(bU s.b.ah group)[n]?=some c):eU aa c.read:=by
 have h1:=List.mem_of_getElem? hc;obtain⟨m,hm,i⟩:=List.mem_flatMap.1 h1;obtain⟨a,o,rfl⟩:=List.mem_map.1 i;have e:=(List.mem_filter.1 o).1
 show eU aa a
 unfold aD at e
 cases f:ay s.b.ah m with
 | none=>rw [f] at e;simp [lN] at e
 | some r=>rw [f] at e;exact(h.GB r (List.mem_of_find?_eq_some f)).2 a e
theorem mx(l:List Rec) (rev:Int) (k:Key):(aB l rev k).length≤l.length+1:=by grind [aB,tB,mw]
theorem Bb{aa:List az}{aC:List ca}{s:ES}(h:Good aa aC s) {group:List Key}(f:group.length≤4001):∀i,((group.take i).flatMap fun m=>cp group m (aD s.b.ah m).reads).length≤100000000:=by
 intro i
 have h1:∀l:List Key,(l.flatMap fun m=>cp group m (aD s.b.ah m).reads).length≤l.length*4000:=by
  intro l
  induction l with
  | nil=>simp
  | cons m r o=>
   simp only [List.flatMap_cons,List.length_append,List.length_cons];have p:=hW group m (aD s.b.ah m).reads
   have q:(aD s.b.ah m).reads.length≤4000:=by
    unfold aD
    cases e:ay s.b.ah m with
    | none=>simp [lN]
    | some r=>exact(h.GB r (List.mem_of_find?_eq_some e)).1
   rw [Nat.add_mul]
   omega
 grind
theorem Bc{aa:List az}{aC:List ca}{s:ES}(h:Good aa aC s) {group:List Key}(e:group.length≤4001):(bU s.b.ah group).length≤100000000:=by
 have h1:=Bb h e group.length;rw [List.take_of_length_le (Nat.le_refl _)] at h1;exact h1
theorem bM(u:ao aa):∀f,UpG aa val aC f∧ChG aa val aC f∧RuG aa val aC f:=by
 intro f
 induction f with
 | zero=>exact⟨fun s k s' h=>by simp [hM] at h,fun s k n s' b h=>by simp [cc] at h,fun s k r a s' h=>by simp [ei] at h⟩
 | succ f I=>
  obtain⟨G,z,F⟩:=I;refine⟨?_,?_,?_⟩
  ·
   intro s k s' h e hk
   unfold hM at h
   split at h
   ·
    cases h;exact⟨e,.refl _⟩
   rename_i he
   split at h
   ·
    cases h;exact⟨e,.refl _⟩
   split at h
   ·
    split at h <;> cases h
    ·
     exact⟨e,.refl _⟩
    exact⟨e.err _,⟨Nat.le_refl _,rfl⟩⟩
   obtain⟨p,J,h⟩:=Option.bind_eq_some_iff.1 h;obtain⟨t,ht,h⟩:=Option.bind_eq_some_iff.1 h
   cases h
   obtain⟨h1,o⟩:=z _ _ _ p.1 p.2 (by rw [J]) (e.on k);have H:Ba s p.1:=⟨o.cw,o.rev⟩
   have i:Good aa aC t∧Ba s t:=by
    split at ht
    ·
     obtain⟨m,L⟩:=F _ _ _ _ _ ht h1 (hk.gu (by simp at he;exact he.2)) rfl (fun a q=>by cases q);exact⟨m,H.trans L⟩
    cases ht;exact⟨h1,H⟩
   exact⟨i.1.off k,⟨i.2.cw,i.2.rev⟩⟩
  ·
   intro s k n s' b h e
   unfold cc at h
   split at h
   ·
    cases h;exact⟨e,.refl _⟩
   split at h
   ·
    cases h;exact⟨e,.refl _⟩
   split at h
   ·
    cases h;exact⟨e,.refl _⟩
   split at h
   ·
    cases h;exact⟨e.mark _ _,.mark _ _⟩
   rename_i c hc
   split at h
   ·
    obtain⟨t,ht,h⟩:=Option.bind_eq_some_iff.1 h;obtain⟨h1,o⟩:=G _ _ _ ht e (fc e hc);obtain⟨i,m⟩:=z _ _ _ _ _ h h1;exact⟨i,o.trans m⟩
   split at h
   ·
    split at h <;> cases h
    ·
     exact⟨e.mark _ _,.mark _ _⟩
    exact⟨e,.refl _⟩
   exact z _ _ _ _ _ h e
  intro s k reads ai s' h e q hl hr
  unfold ei at h
  split at h
  ·
   cases h;exact⟨e,.refl _⟩
  split at h
  ·
   split at h
   ·
    cases h;exact⟨e.err _,⟨Nat.le_refl _,rfl⟩⟩
   rename_i m
   cases h
   have O:=q.le u;exact⟨e.put (r:=cZ s.b k (bC aa k ai).value reads) (q.Il u) ⟨by show reads.length≤4000;omega,hr⟩ (by show(!(ay s.b.ah k).isSome && _)=false;simpa using m),⟨by simp,rfl⟩⟩
  rename_i N
  obtain⟨t,ht,h⟩:=Option.bind_eq_some_iff.1 h;have hn:=q.next u (by simpa using N);obtain⟨h1,o⟩:=G _ _ _ ht e hn.2
  split at h
  ·
   obtain⟨i,m⟩:=F _ _ _ _ _ h h1 (by simpa using hn.1) (by simp [hl]) (fun a q=>by grind);exact⟨i,o.trans m⟩
  obtain⟨i,m⟩:=F _ _ _ _ _ h h1 q hl hr;exact⟨i,o.trans m⟩
end
end Go.Rc

