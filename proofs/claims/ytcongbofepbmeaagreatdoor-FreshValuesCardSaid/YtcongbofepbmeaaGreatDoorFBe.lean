/- Base of the proof: frames, memory, ownership, and the plain meaning of rule systems. Conditions: as each lemma says. -/
import Derived.Test.YtcongbofepbmeaaGreatDoorFBd
import Derived.Lib.IfaceEq
import Derived.Lib.BufferWrite
import Derived.Lib.UnsafeStr
import Derived.Laws.MakeOwn
import Derived.Test.YtcongbofepbmeaaGreatDoorFBc
set_option linter.all false
namespace Go.Rc
open Go
theorem aQ.zQ{w w':World}(h:RowKit.Below w.heap.size w w') (b:w.drawn≤w'.drawn):aQ [] w w':=⟨h.os,h.tape,h.output,h.size,b,fun k hk _=>h.block k hk⟩
theorem o6(w:World) (p:Addr) (n:Nat):(w.freeze p n).drawn=w.drawn:=by grind [World.freeze]
section
variable {P:Program}{n:Nat}{kv:KV}{w w':World}{K:KV→World→Prop}{d:Tmp}{ty:TypeId}{pos:String}{af:Array Edge}{g:Option (Nat × Bool)}{T U:TypeId}{op:Op}{v:Value}{x y:Operand}
theorem OX.val(b:a7 op=false) (e:Nat.blt d n=true) (hk:known kv op=true) (hr:(execOp (jk kv) ⟨some d,op,ty,pos,af,g⟩).run P w=.ok (.value v) w') (h:K ((d,v)::kv) w'):OX P ⟨some d,op,ty,pos,af,g⟩ n kv w K:=⟨b,e,hk,by rw [hr];exact h⟩
theorem PV.Hv{b:TypeDesc}(hT:P.underlying T=some b) (f:∀ms,b≠.interface ms) (e:ev kv x=some v):PV P (.makeInterface T x) ty kv w (.iface T v):=
 ⟨rfl,by simp [known,opers,e],fun _ _ _ _=>by
  simp only [execOp,aI e,Instr.makeInterface,Sem.run_bind,run_underlying hT,Result.andThen_ok]
  simp_all⟩
theorem PV.NT{ms:Array (String × TypeId)}{e:TypeId}{q:IntKind}{a b:Int}(hT:P.underlying T=some (.interface ms)) (hc:(P.info? e).map (·.comparable)=some true) (i:P.underlying e=some (.int q)) (f:ev kv x=some (.iface e (.int .i64 a))) (hy:ev kv y=some (.iface e (.int .i64 b))):PV P (.binOp .eql T x y U) ty kv w (.bool (a == b)):=
 ⟨rfl,by simp [known,opers,f,hy],fun _ _ _ _=>by
  have h:=Lib.run_eql_iface_int w (k:=.i64) a b hT hc i;simp only [execOp,aI f,aI hy]
  simp [eqGuard,h]⟩
theorem OX.Sg{r:Value}(e:Nat.blt d n=true) {u v:Value}(b:ev kv x=some u) (hy:ev kv y=some v) (hr:(Instr.makeSlice T u v).run P w=.ok r w') (h:K ((d,r)::kv) w'):OX P ⟨some d,.makeSlice T x y,ty,pos,af,g⟩ n kv w K:=
 OX.val rfl e (by simp [known,opers,b,hy]) (by simp only [execOp,aI b,aI hy,Sem.run_bind,hr,Result.andThen_ok];rfl) h
theorem OX.Sh{r u v:Value}(e:Nat.blt d n=true) (b:ev kv x=some u) (hy:ev kv y=some v) (hr:(Builtin.copy_ #[T,U] ty #[u,v]).run P w=.ok r w') (h:K ((d,r)::kv) w'):OX P ⟨some d,.call {callee:=.builtin .copy,args:=#[x,y],argTypes:=#[T,U]},ty,pos,af,g⟩ n kv w K:=
 OX.val rfl e (by simp [known,opers,b,hy]) (by simp [execOp,aI b,aI hy,resolve,invoke,builtin,hr]) h
theorem OX.Ya{r u v:Value}(e:Nat.blt d n=true) (b:ev kv x=some u) (hy:ev kv y=some v) (hr:(Builtin.unsafeString_ #[T,U] ty #[u,v]).run P w=.ok r w') (h:K ((d,r)::kv) w'):OX P ⟨some d,.call {callee:=.builtin .unsafeString,args:=#[x,y],argTypes:=#[T,U]},ty,pos,af,g⟩ n kv w K:=
 OX.val rfl e (by simp [known,opers,b,hy]) (by simp [execOp,aI b,aI hy,resolve,invoke,builtin,hr]) h
end
theorem xS{P:Program}{T S e pt it Yb Yc:TypeId}{i:TypeInfo}(hT:P.underlying T=some (.slice e)) (hi:P.info? e=some i) (f:i.zero=some (.int .u8 0)) (h1:i.size=1) (hb:i.bytes=1) (q:P.underlying pt=some (.pointer e)) {s:ByteArray}(h0:s.size≠0) (J:s.size≤140737488355328) (w:World) :
  ∃w1 w2 w3:World,(Instr.makeSlice T (.int .i64 (s.size:Int)) (.int .i64 (s.size:Int))).run P w=.ok (.slice (some ⟨w.heap.size,0,none⟩) s.size s.size) w1∧
   (Builtin.copy_ #[T,S] Yb #[.slice (some ⟨w.heap.size,0,none⟩) s.size s.size,.string s]).run P w1=.ok (goInt s.size) w2∧
   (Builtin.unsafeString_ #[pt,it] Yc #[.pointer (some ⟨w.heap.size,0,none⟩),.int .i64 (s.size:Int)]).run P w2=.ok (.string s) w3∧aQ [] w w3:=by
 have r:(P.info? e).map (·.size)=some 1:=by rw [hi];simp [h1]
 have t:P.cellsOf e=1:=by simp [Program.cellsOf,hi,h1]
 have L:(Lib.byteCells s.data.toList).length=s.size:=by rw [Lib.byteCells_length,← Lib.size_eq]
 have b:=run_make (P:=P) w T e i (.int .u8 0) hT hi f .i64 .i64 (s.size:Int) (s.size:Int) (by omega) (by omega) (by rw [hb];omega) (by omega)
 have u:(madeCells (Value.int .u8 0).cells (((s.size:Nat):Int).toNat*i.size)).size=s.size:=by rw [size_madeCells,h1];simp
 generalize madeCells (Value.int .u8 0).cells (((s.size:Nat):Int).toNat*i.size)=M at b u
 rw [Int.toNat_natCast] at b;have m:=Lib.run_copy_row_string (P:=P) (w.alloc (.cells M e)) T S Yb e w.heap.size 0 s.size s.size s M e hT r (heap_alloc_new w _) (Nat.le_refl _) (by omega)
 have F:(M.toList.take 0++Lib.byteCells s.data.toList++M.toList.drop (0+s.size)).toArray=(Lib.byteCells s.data.toList).toArray:=by grind
 rw [F] at m;have G:((w.alloc (.cells M e)).setRow w.heap.size (Lib.byteCells s.data.toList).toArray).heap[w.heap.size]?=some (.cells (Lib.byteCells s.data.toList).toArray e (0,0)):=setRow_heap _ _ M _ e (0,0) (heap_alloc_new w _);have H:s.data.toList≠[]:=fun h=>h0 (by rw [Lib.size_eq,h];rfl);have o:=Lib.run_unsafeString_row (P:=P) ((w.alloc (.cells M e)).setRow w.heap.size (Lib.byteCells s.data.toList).toArray) pt it Yc e q t w.heap.size s.size (by grind [World.shape?]) s.data.toList H (by rw [← Lib.size_eq];omega) (by rw [← Lib.size_eq];omega)
  (fun j z f=>Lib.cells_of_row G s.size j _ (by grind [Lib.byteCells]))
 rw [← Lib.size_eq] at o;have I:RowKit.Below w.heap.size (w.alloc (.cells M e)) ((w.alloc (.cells M e)).setRow w.heap.size (Lib.byteCells s.data.toList).toArray):=⟨rfl,rfl,rfl,by simp [World.setRow],fun k hk=>setRow_other _ _ _ _ (by omega)⟩;refine⟨_,_,_,b,m,o,aQ.zQ (Lib.below_freeze (((RowKit.Below.refl _ w).alloc (Nat.le_refl _) _).trans I) (p:=⟨w.heap.size,0,none⟩) (Nat.le_refl _) _) ?_⟩;rw [o6];exact Nat.le_refl _
end Go.Rc

namespace Go.Rc
open Go
instance:Inhabited bU:=⟨⟨eS,⟨#[]⟩,0⟩⟩
def cA.row(x:cA) (a1:Option Addr) (n1 c1:Nat) (a2:Option Addr) (n2 c2:Nat):List Value:=[.int .i64 x.ab,.slice a1 n1 c1,.slice a2 n2 c2]
def fi(rev:Int) (l:List bU) (i:Nat):Bool:=
 !cH l[i]!.key || (!aB l[i]!.key || ((decide (0<(i:Int)) && decide (0≤bp l[i - 1]!.key l[i]!.key)) || (decide (1073741824<(l[i]!.value.size:Int)) || (decide (l[i]!.changed<0) || decide (rev<l[i]!.changed)))))
def pX(rev:Int) (l:List bU):Prop:=∀i y,l[i]?=some y→fi rev l i=false
open Classical in
noncomputable def iD(l:List Rec):Bool:=decide (kx l)
theorem Cu{l:List Rec}{b:Bool}(h:b=true↔kx l):b=iD l:=by
 unfold iD
 grind
def eU(x:cA):Prop:=pX x.ab x.ad∧(∀(i:Nat) (r:Rec),x.ah[i]?=some r→r.av≤x.ab)∧0≤x.ab∧x.ab≤1073741824∧x.ad.length≤64∧kx x.ah
noncomputable def gC(x:cA):Bool:=decide (0≤x.ab) && (decide (x.ab≤1073741824) && (decide ((x.ad.length:Int)≤64) && iD x.ah))
theorem ki(x:cA):gC x=true↔0≤x.ab∧x.ab≤1073741824∧x.ad.length≤64∧kx x.ah:=by
 simp only [gC,iD,Bool.and_eq_true,decide_eq_true_eq]
 grind
theorem PV.Cv{P:Program}{kv:KV}{w:World}{T ty:TypeId}{f off:Nat}{fs:List Field}{fd:Field}(hu:P.underlying T=some (.struct fs.toArray)) (b:fs[f]?=some fd) (e:fd.offset=off) (h1:∀w,(isAgg fd.type).run P w=.ok false w)
  {x:Operand}{us:List Value}{v:Value}(h:ev kv x=some (.agg us.toArray)) (i:nth us off=some v):PV P (.field T x f) ty kv w v:=
 PV.JP hu (by simpa using b) e h1 h (by rw [← sJ];exact i)
end Go.Rc
namespace Go.Rc
open Go
def cZ(k:Key):Prop:=k.kind<1∨22<k.kind
def aL(aa:List aA) (k:Key) (ae:List ByteArray):rW:=if k.kind=31∨k.kind=32 then bQ aa k ae else ⟨true,⟨#[]⟩,eS⟩
def sy(n:Int):ByteArray:=if n=14 then ⟨#[48]⟩ else ⟨#[]⟩
def jJ(k:Key):ByteArray:=if k.kind=32 then ⟨#[48]⟩ else if ax k then sy k.kind else ⟨#[]⟩
def dh(aa:List aA) (k:Key):Bool:=cH k && ((decide (k.kind≠31) && decide (k.kind≠32)) || decide (aD aa (number k)=k))
def aF(l:List Rec) (k:Key):Rec:=(aH l k).getD zG
def cW(l:List Rec) (rev:Int) (k:Key):Bool:=(aH l k).isSome && (ax k && (decide ((aF l k).av<rev) && !(aF l k).bJ))
def mB(x:cA) (k:Key):Bool:=aB k || ((aH x.ah k).isSome && decide ((aF x.ah k).av=x.ab))
def te(x:cA) (k:Key):ByteArray:=if aB k then (bE x.ad k).value else if mB x k then (aF x.ah k).value else ⟨#[]⟩
def cP(x:cA) (k:Key) (v:ByteArray) (reads:List Key):Rec:=
 ⟨k,v,reads,if (aH x.ah k).isSome && decide ((aF x.ah k).value=v) then (aF x.ah k).changed else x.ab,x.ab,1+(reads.length:Int),false⟩
end Go.Rc
namespace Go.Rc
open Go
open Classical in
noncomputable def fF(aa:List aA) (x:cA) (goals:List Key):Int:=
 if ¬aq aa then 41 else if ¬eU x then 42 else if 32<goals.length then 3 else if goals.all (dh aa) then 0 else 40
end Go.Rc
namespace Go.Rc
open Go
structure vx where
 eO:Key
 read:Key
 deriving DecidableEq
def vx.cells(x:vx):List Value:=[.int .i64 x.eO.kind,.string x.eO.text,.int .i64 x.read.kind,.string x.read.text]
def dZ(group:List Key) (m:Key) (l:List Key):List vx:=(l.filter fun x=>!decide (x∈group)).map fun x=>⟨m,x⟩
def ct(l:List Rec) (group:List Key):List vx:=group.flatMap fun m=>dZ group m (aF l m).reads
theorem nT{group:List Key}{m:Key}{l:List Key}{j:Nat}(h:j<l.length):dZ group m (l.take (j+1))=if l[j]∈group then dZ group m (l.take j) else dZ group m (l.take j)++[⟨m,l[j]⟩]:=by
 rw [List.take_succ_eq_append_getElem h];simp only [dZ,List.filter_append,List.map_append]
 grind
theorem o7(group:List Key) (m:Key) (l:List Key):(dZ group m l).length≤l.length:=by grind [dZ]
end Go.Rc
namespace Go.Rc
end Go.Rc

namespace Go.Rc
open Go
variable {E EK ER EI ES EF base:Nat}{w w':World}{a:Option Addr}{n c:Nat}{S:List Nat}
structure cY where
 key:Key
 running:Bool
 at_:Int
 reads:List Key
 ae:List ByteArray
 deriving DecidableEq
def cY.row(x:cY) (a1:Option Addr) (n1 c1:Nat) (a2:Option Addr) (n2 c2:Nat):List Value:=[.int .i64 x.key.kind,.string x.key.text,.bool x.running,.int .i64 x.at_,.slice a1 n1 c1,.slice a2 n2 c2]
/-! the plain meaning -/
def hK(l:List cY) (k:Key):Bool:=l.any fun f=>decide (f.key=k)
def eF(x:cA) (l:List cY) (k:Key):Bool:=!(aB k || hK l k) && (!(aH x.ah k).isSome || decide ((aF x.ah k).av≠x.ab))
def cV(x:cA) (l others:List cY) (k:Key):Int:=
 if !ax k && hK l k then 3 else if !eF x l k then 0 else if !hK others k then 1 else if ax k then 0 else 2
end Go.Rc
namespace Go.Rc
open Go
variable {EA ERu:Nat}{w w':World}{a:Option Addr}{n c base:Nat}{S:List Nat}
def aA.row(x:aA) (a:Option Addr) (n c:Nat):List Value:=[.bool x.ring,.slice a n c,.int .i64 x.final,.int .i64 x.c]
theorem aA.one(x:aA) (a:Option Addr) (n c:Nat):∀u∈x.row a n c,u.oneCell'=true:=by simp [aA.row,Value.oneCell']
end Go.Rc

namespace Go.Rc
open Go
def RR.key:RR Key:=RR.flat Key.cells
def RR.str:RR ByteArray:=RR.flat fun s=>[.string s]
def RR.ask:RR Ask:=RR.flat Ask.cells
def RR.az:RR bU:=RR.flat bU.cells
def RR.JY:RR vx:=RR.flat vx.cells
def RR.int:RR Int:=RR.flat fun n=>[.int .i64 n]
def RR.dp:RR aA where
 r Z w x row:=zx Z w x row
 mono hZ h:=by obtain⟨a,n,c,h1,h2⟩:=h;exact⟨a,n,c,h1,h2.mono (fun b hb _=>hZ b hb) fun _ _ h=>h⟩
 st hs hc h:=by obtain⟨a,n,c,h1,h2⟩:=h;exact⟨a,n,c,h1,SR.st hs hc (fun _ _ h=>h) h2⟩
 cut h:=by obtain⟨a,n,c,h1,h2⟩:=h;exact⟨a,n,c,h1,h2.mono (fun b hb zI=>⟨hb,zI⟩) fun _ _ h=>h⟩
def RR.ed:RR Rec where
 r Z w x row:=∃a n c,row=x.row a n c∧Rd RR.key 2 Z w a n c x.reads∧x.reads.length≤4000
 mono hZ h:=by obtain⟨a,n,c,h1,h2,h3⟩:=h;exact⟨a,n,c,h1,h2.mono hZ,h3⟩
 st hs hc h:=by obtain⟨a,n,c,h1,h2,h3⟩:=h;exact⟨a,n,c,h1,h2.st hs hc,h3⟩
 cut h:=by grind [Rd.cut]
def RR.me:RR cY where
 r Z w x row:=∃a1 n1 c1 a2 n2 c2,row=x.row a1 n1 c1 a2 n2 c2∧Rd RR.key 2 Z w a1 n1 c1 x.reads∧Rd RR.str 1 Z w a2 n2 c2 x.ae∧x.reads.length≤4000∧x.ae.length≤4000
 mono hZ h:=by obtain⟨a,n,c,a2,n2,c2,h1,h2,h3,h4⟩:=h;exact⟨a,n,c,a2,n2,c2,h1,h2.mono hZ,h3.mono hZ,h4⟩
 st hs hc h:=by obtain⟨a,n,c,a2,n2,c2,h1,h2,h3,h4⟩:=h;exact⟨a,n,c,a2,n2,c2,h1,h2.st hs hc,h3.st hs hc,h4⟩
 cut h:=by grind [Rd.cut]
end Go.Rc

namespace Go.Rc
open Go
/-! ### numbers and their texts -/
theorem tf:∀(u:Nat) (n:Nat) (rest:List UInt8),decFrom (Lib.decDigits u++rest) (n:Int)=decFrom rest ((n*10 ^ Lib.nDigits u+u:Nat):Int):=by
 intro u
 induction u using Nat.strongRecOn with
 | _ u b=>
  intro n rest
  by_cases h:u<10
  ·
   rw [Lib.decDigits_one h,Lib.nDigits_small h]
   have e:(UInt8.ofNat (48+u)).toNat=48+u:=by rw [UInt8.toNat_ofNat'];omega
   simp only [List.cons_append,List.nil_append,decFrom,e]
   grind
  rw [Lib.decDigits,dif_neg h,Lib.nDigits_big h,List.append_assoc,b (u / 10) (by omega)]
  have e:(UInt8.ofNat (48+u % 10)).toNat=48+u % 10:=by rw [UInt8.toNat_ofNat'];omega
  simp only [List.cons_append,List.nil_append,decFrom,e]
  grind
theorem tg:∀u:Nat,∃d r,Lib.decDigits u=d::r∧(0<u→d≠48):=by
 intro u
 induction u using Nat.strongRecOn with
 | _ u b=>
  by_cases h:u<10
  ·
   refine⟨_,[],Lib.decDigits_one h,fun hu e=>?_⟩
   have:=congrArg UInt8.toNat e
   rw [UInt8.toNat_ofNat'] at this
   grind
  obtain⟨d,r,h1,f⟩:=b (u / 10) (by omega);exact⟨d,r++[UInt8.ofNat (48+u % 10)],by rw [Lib.decDigits,dif_neg h,h1];rfl,fun _=>f (by omega)⟩
theorem th:∀(k u:Nat),u<10 ^ (k+1)→Lib.nDigits u≤k+1
 | 0,u,h=>by grind [Lib.nDigits_small]
 | k+1,u,h=>by
  by_cases h1:u<10
  ·
   rw [Lib.nDigits_small h1];omega
  rw [Lib.nDigits_big h1]
  have:=th k (u / 10) (by rw [Nat.pow_succ] at h;omega)
  omega
theorem gX{n:Nat}(h:n<1000000000):cU (itoa (n:Int))=n:=by
 have e:Lib.itoa (n:Int)=Lib.decDigits n:=by unfold Lib.itoa;rw [if_neg (by omega)];rfl
 have hl:(Lib.decDigits n).length≤9:=by rw [Lib.decDigits_length];exact th 8 n h
 have m:1≤(Lib.decDigits n).length:=by grind [Lib.decDigits_length,Lib.nDigits_pos]
 have f:(itoa (n:Int)).size=(Lib.decDigits n).length:=by grind [itoa,ByteArray.size]
 have b:(itoa (n:Int)).data.toList=Lib.decDigits n:=by unfold itoa;rw [e]
 unfold cU
 rw [if_neg]
 ·
  rw [b,← List.append_nil (Lib.decDigits n)]
  have:=tf n 0 []
  simp only [Nat.zero_mul,Nat.zero_add] at this;exact this
 rw [f,b];rintro(h1 | h1 | ⟨h1,o⟩)
 ·
  omega
 ·
  omega
 obtain⟨d,r,i,j⟩:=tg n;rw [i] at h1
 simp at h1
 by_cases h0:0<n
 ·
  exact j h0 h1
 grind [Lib.decDigits_one]
theorem eQ{n:Nat}(h:n≤65535):cy (itoa (n:Int))=n:=by
 unfold cy
 rw [gX (by omega),if_neg (by omega)]
 rfl
theorem zR{m n:Nat}(hm:m<1000000000) (hn:n<1000000000) (h:itoa (m:Int)=itoa (n:Int)):m=n:=by grind [gX]
/-! ### keys -/
theorem cv{aa:List aA}{i:Nat}(hi:i<aa.length) (gD:i≤99):number (aD aa (i:Int))=i:=by
 have hk:aD aa (i:Int)=⟨if ay aa i then 32 else 31,itoa i⟩:=by unfold aD;rw [if_neg (by omega)];rfl
 rw [hk]
 unfold number
 simp only
 rw [gX (by omega),if_pos]
 split <;> omega
theorem dP{aa:List aA}{i:Nat}(hi:i<aa.length) (gD:i≤99):(aD aa (i:Int)).kind=if ay aa i then 32 else 31:=by
 unfold aD;rw [if_neg (by omega)];rfl
theorem cM{aa:List aA}{i:Nat}(hi:i<aa.length) (gD:i≤99):aB (aD aa (i:Int))=false:=by grind [aB,dP]
theorem bf{n:Nat}(h:n≤99):aB (bH (n:Int))=true:=by
 unfold aB bH;rw [if_neg (by omega)];simp
theorem bj{aa:List aA}{i:Nat}(hi:i<aa.length) (gD:i≤99):ax (aD aa (i:Int))=ay aa i:=by grind [ax,dP]
theorem jK{n:Nat}(h:n≤99):ax (bH (n:Int))=false:=by
 unfold ax bH;rw [if_neg (by omega)];simp
inductive eu (aa:List aA):Key→Prop where
 | cell {n:Nat}(h:n≤99):eu aa (bH (n:Int))
 | dp {i:Nat}(h:i<aa.length) (gD:i≤99):eu aa (aD aa (i:Int))
/-! ### values -/
def cellOf(az:List bU) (k:Key):ByteArray:=(bE az k).value
def dR(turn:List ByteArray→rW) (gy:Key→ByteArray):Nat→List Key × List ByteArray
 | 0=>([],[])
 | n+1=>((dR turn gy n).1++[(turn (dR turn gy n).2).ask],(dR turn gy n).2++[gy (turn (dR turn gy n).2).ask])
def Hw(az:List bU) (prev:List ByteArray) (k:Key):ByteArray:=if aB k then cellOf az k else prev.getD (number k).toNat ⟨#[]⟩
def bZ(aa:List aA) (i:Nat):Nat:=(aa[i]?.map (·.asks.length)).getD 0
def bw(aa:List aA) (x:Ask):Key:=if x.cell then bH x.n else aD aa x.n
def eG(aa:List aA) (i j:Nat):Prop:=∃r x,aa[i]?=some r∧r.ring=true∧x∈r.asks∧x.cell=false∧x.n=(j:Int)∧ay aa j=true
inductive cB (aa:List aA) (i:Nat):Nat→Prop where
 | refl:cB aa i i
 | step {j k:Nat}:cB aa i j→eG aa j k→cB aa i k
def outside(aa:List aA) (x:Ask):Bool:=x.cell || !ay aa x.n.toNat
def jg(aa:List aA) (gy:Key→ByteArray) (j:Nat):Nat:=
 match aa[j]? with
 | some r=>eK r.c.toNat ((r.asks.filter (outside aa)).map fun x=>cy (gy (bw aa x)))
 | none=>0
open Classical in
noncomputable def ofBits(P:Nat→Prop):Nat→Nat
 | 0=>0
 | n+1=>ofBits P n ||| (if P n then 2 ^ n else 0)
theorem Ft(P:Nat→Prop):∀n,ofBits P n<2 ^ n:=by
 intro n
 induction n with
 | zero=>simp [ofBits]
 | succ n b=>
  unfold ofBits
  refine Nat.or_lt_two_pow (Nat.lt_of_lt_of_le b (Nat.pow_le_pow_right (by omega) (by omega))) ?_
  grind
theorem Cw(P:Nat→Prop):∀n b,(ofBits P n).testBit b=true↔b<n∧P b:=by
 intro n
 induction n with
 | zero=>intro b;simp [ofBits]
 | succ n e=>
  intro b
  unfold ofBits
  grind
noncomputable def qY(aa:List aA) (gy:Key→ByteArray) (i:Nat):Nat:=ofBits (fun b=>∃j,cB aa i j∧(jg aa gy j).testBit b=true) 16
noncomputable def o8(aa:List aA) (az:List bU) (prev:List ByteArray) (i:Nat):ByteArray:=
 if ay aa i then itoa (qY aa (Hw az prev) i:Int)
 else (bQ aa (aD aa (i:Int)) (dR (bQ aa (aD aa (i:Int))) (Hw az prev) (bZ aa i)).2).value
noncomputable def aX(aa:List aA) (az:List bU):Nat→List ByteArray
 | 0=>[]
 | n+1=>aX aa az n++[o8 aa az (aX aa az n) n]
noncomputable def r4(aa:List aA) (az:List bU) (i:Nat):ByteArray:=o8 aa az (aX aa az i) i
noncomputable def valOf(aa:List aA) (az:List bU) (k:Key):ByteArray:=if aB k then cellOf az k else r4 aa az (number k).toNat
section
variable {aa:List aA}{az:List bU}
theorem Hx:∀n,(aX aa az n).length=n:=by
 intro n;induction n with
 | zero=>rfl
 | succ n b=>simp [aX,b]
theorem Hy:∀n m,m<n→(aX aa az n).getD m ⟨#[]⟩=r4 aa az m:=by
 intro n
 induction n with
 | zero=>intro m h;omega
 | succ n b=>grind [aX,Hx,r4]
theorem wR{n:Nat}{k:Key}(h:aB k=true∨(number k).toNat<n):Hw az (aX aa az n) k=valOf aa az k:=by
 unfold Hw valOf
 by_cases hi:aB k=true
 ·
  rw [if_pos hi,if_pos hi]
 rw [if_neg hi,if_neg hi,Hy]
 grind
theorem eV(turn:List ByteArray→rW) (gy:Key→ByteArray):∀n,(dR turn gy n).1.length=n∧(dR turn gy n).2.length=n:=by
 intro n;induction n with
 | zero=>simp [dR]
 | succ n b=>simp [dR,b.1,b.2]
theorem tj{turn:List ByteArray→rW}{gy b:Key→ByteArray}:∀n,(∀m,m<n→gy (turn (dR turn gy m).2).ask=b (turn (dR turn gy m).2).ask)→dR turn gy n=dR turn b n:=by
 intro n
 induction n with
 | zero=>intro _;rfl
 | succ n e=>grind [dR]
end
/-! ### what valid rules ask for -/
section
variable {aa:List aA}{az:List bU}
theorem fo(l:List aA):∀k,bg l k≤k:=by
 intro k;induction k with
 | zero=>simp [bg]
 | succ k b=>unfold bg;split <;> omega
theorem wS(l:List aA) {m:Nat}(h:m≤l.length):dB l m≤l.length:=by grind [dB,List.takeWhile_sublist]
theorem zS{i:Nat}(hi:i<aa.length):block aa (i:Int)=if ay aa i then ((bg aa i:Int),(dB aa (i+1):Int)) else ((i:Int),(i:Int)+1):=by
 unfold block;rw [if_neg (by omega)];rfl
theorem oo{i j:Nat}(hi:ay aa i=true) (h1:bg aa i≤j) (e:j<dB aa (i+1)):ay aa j=true:=by
 have f:∀k,bg aa k≤j→j<k→ay aa j=true:=by
  intro k
  induction k with
  | zero=>intro _ h;omega
  | succ k t=>
   intro o u
   unfold bg at o
   grind
 rcases Nat.lt_trichotomy j i with h | h | h
 ·
  exact f i h1 h
 ·
  rw [h];exact hi
 have key:∀(l:List aA) (m j:Nat),m≤j→j<m+((l.drop m).takeWhile (·.ring)).length→ay l j=true:=by
  intro l m j hm z
  have b:j - m<((l.drop m).takeWhile (·.ring)).length:=by omega
  have q:=List.getElem_mem b;have hr:=List.all_eq_true.1 (List.all_takeWhile (p:=fun x:aA=>x.ring) (l:=l.drop m)) _ q;have r:((l.drop m).takeWhile (·.ring)) <+: l.drop m:=List.takeWhile_prefix _;have F:=r.getElem b
  grind [bD]
 exact key aa (i+1) j (by omega) e
theorem k7{i:Nat}(hi:i<aa.length) (hlen:aa.length≤24) {c:Bool}{n:Int}(h:fw aa i c n=true) :
  ∃m:Nat,n=m∧if c then m≤15 else m<aa.length∧(ay aa m=true∧ay aa i=true∨m<i)∧(ay aa i=false→m<i)∧(ay aa m=false→m<i):=by
 unfold fw at h
 cases c
 ·
  simp only [Bool.false_eq_true,if_false,Bool.and_eq_true,decide_eq_true_eq] at h ⊢;obtain⟨m,rfl⟩:∃m:Nat,n=m:=⟨n.toNat,by omega⟩;refine⟨m,rfl,?_⟩;have b:=h.2
  unfold e8 at b
  rw [zS hi] at b
  by_cases hr:ay aa i=true
  ·
   rw [if_pos hr] at b;simp only [hr,if_true] at b
   have f:m<dB aa (i+1):=by omega
   have j:=wS aa (show i+1≤aa.length by omega);refine⟨by omega,?_,(fun h=>by rw [hr] at h;cases h),?_⟩
   ·
    by_cases e:m<i
    ·
     exact .inr e
    grind [oo,fo]
   grind [oo,fo]
  grind
 simp only [if_true,Bool.and_eq_true,decide_eq_true_eq] at h ⊢;exact⟨n.toNat,by omega,by omega⟩
end
end Go.Rc

namespace Go.Rc
open Go
section
variable {aa:List aA}{az:List bU}
theorem aq.len(h:aq aa):aa.length≤24:=h.1
theorem aq.at(h:aq aa) {i:Nat}(hi:i<aa.length):jI aa i aa[i]:=h.2 i _ (ai hi)
theorem ea{i:Nat}(hi:i<aa.length):bZ aa i=aa[i].asks.length:=by grind [bZ]
theorem Cx{m lo:Nat}(h1:lo≤m) (h:∀j,lo≤j→j<m→ay aa j=true):bg aa m≤lo:=by
 induction m with
 | zero=>simp [bg]
 | succ m b=>
  by_cases e:lo=m+1
  ·
   rw [e];exact fo _ _
  unfold bg
  grind
theorem o9(_hR:aq aa) {i:Nat}(hi:i<aa.length) (hr:ay aa i=true) {m:Nat}(h:fw aa i false (m:Int)=true) :
  m<aa.length∧(ay aa m=true→bg aa m≤bg aa i)∧(ay aa m=false→m<bg aa i):=by
 unfold fw at h
 simp only [Bool.false_eq_true,if_false,Bool.and_eq_true,decide_eq_true_eq] at h;have b:=h.2
 unfold e8 at b
 rw [zS hi,if_pos hr] at b;simp only [hr,if_true] at b
 grind [wS,Cx,oo]
def ez(aa:List aA) (i:Nat) (k:Key):Prop:=
 (∃n:Nat,n≤15∧k=bH (n:Int))∨
 (∃m:Nat,m<aa.length∧k=aD aa (m:Int)∧(ay aa m=true∧ay aa i=true∨m<i)∧(ay aa i=false→m<i)∧(ay aa m=false→m<i)∧(ay aa m=false→ay aa i=true→m<bg aa i))
theorem Eb(e:aq aa) {i:Nat}(hi:i<aa.length) {c:Bool}{n:Int}(h:fw aa i c n=true):ez aa i (if c then bH n else aD aa n):=by
 obtain⟨m,rfl,b⟩:=k7 hi e.len h
 cases c
 ·
  exact .inr ⟨m,b.1,rfl,b.2.1,b.2.2.1,b.2.2.2,fun f j=>(o9 e hi j h).2.2 f⟩
 exact .inl ⟨m,b,rfl⟩
theorem ez.tm(b:aq aa) {i:Nat}{k:Key}(h:ez aa i k):eu aa k:=by
 have:=b.len
 rcases h with⟨n,h1,rfl⟩ | ⟨m,h1,rfl,_⟩
 ·
  exact .cell (by omega)
 exact .dp h1 (by omega)
theorem NU(e:aq aa) {i n:Nat}(hi:i<aa.length) (hn:n<aa[i].asks.length) (ae:List ByteArray) (hl:ae.length=n) :
  ez aa i (if aa[i].asks[n].cell then bH (oj aa[i].asks[n] ae) else aD aa (oj aa[i].asks[n] ae)):=by
 obtain⟨_,h,_⟩:=e.at hi;have b:=h n _ (ai hn)
 unfold ek at b
 rw [Bool.and_eq_true] at b
 unfold oj
 by_cases f:eT aa[i].asks[n] ae=true
 ·
  rw [if_pos f]
  have j:aa[i].asks[n].pick=true:=by grind [eT]
  rw [j] at b;simp only [if_true,Bool.and_eq_true] at b;exact Eb e hi b.2.2
 rw [if_neg f];exact Eb e hi b.1
theorem dd(b:aq aa) {i:Nat}(hi:i<aa.length) {ae:List ByteArray}(hn:ae.length<bZ aa i) :
  ∃a,bQ aa (aD aa (i:Int)) ae=⟨false,⟨#[]⟩,a⟩∧ez aa i a∧(ay aa i=true→∃x,aa[i].asks[ae.length]?=some x∧a=bw aa x):=by
 have h:=b.len;rw [ea hi] at hn;have hk:=cv hi (by omega:i≤99);refine⟨_,ny hk hi (by rw [hk]) hn,NU b hi hn ae rfl,fun hr=>⟨_,ai hn,?_⟩⟩;obtain⟨_,f,_⟩:=b.at hi;have e:=f _ _ (ai hn)
 unfold ek at e
 rw [Bool.and_eq_true] at e
 grind [bD,bw,oj,eT]
theorem fx(b:aq aa) {i:Nat}(hi:i<aa.length) {ae:List ByteArray}(hn:ae.length=bZ aa i) :
  bQ aa (aD aa (i:Int)) ae=⟨true,itoa (dG aa[i].final aa[i].c.toNat (ae.map cy)),eS⟩:=by grind [aq.len,ea,cv,nv]
theorem jL(b:aq aa) {i:Nat}(hi:i<aa.length):bZ aa i≤6:=by rw [ea hi];exact(b.at hi).1
theorem xT(b:aq aa) {i:Nat}{k:Key}(h:ez aa i k) (hr:ay aa i=false∨ax k=false):aB k=true∨(number k).toNat<i:=by
 have e:=b.len
 rcases h with⟨n,h1,rfl⟩ | ⟨m,h1,rfl,f,j,o,_⟩
 ·
  grind [bf]
 grind [cv,bj]
theorem Fu(b:aq aa) {i:Nat}(hi:i<aa.length) (hr:ay aa i=false) :
  bQ aa (aD aa (i:Int)) (dR (bQ aa (aD aa (i:Int))) (valOf aa az) (bZ aa i)).2=⟨true,r4 aa az i,eS⟩:=by
 have h:r4 aa az i=(bQ aa (aD aa (i:Int)) (dR (bQ aa (aD aa (i:Int))) (valOf aa az) (bZ aa i)).2).value:=by
  unfold r4 o8
  rw [if_neg (by simp [hr])]
  grind [tj,dd,eV,wR,xT]
 grind [fx,eV]
/-! rings -/
theorem jx(b:aq aa) {i:Nat}(hi:i<aa.length) (_hr:ay aa i=true) {x:Ask}(e:x∈aa[i].asks):fw aa i x.cell x.n=true:=by
 obtain⟨k,hk,rfl⟩:=List.mem_iff_getElem.1 e
 have:=(b.at hi).2.1 k _ (ai hk)
 unfold ek at this
 grind
theorem eG.lt{i j:Nat}(h:eG aa i j):i<aa.length∧j<aa.length∧ay aa i=true∧ay aa j=true:=by
 obtain⟨r,x,h1,b,_,_,_,e⟩:=h
 grind [lA,bD]
theorem im{i j:Nat}(hi:i<aa.length) (hr:ay aa i=true) (h:cB aa i j):j<aa.length∧ay aa j=true:=by
 induction h with
 | refl=>exact⟨hi,hr⟩
 | step _ b _=>exact⟨b.lt.2.1,b.lt.2.2.2⟩
theorem jM(e:aq aa) {i j:Nat}(h:cB aa i j):bg aa j≤bg aa i:=by
 induction h with
 | refl=>exact Nat.le_refl _
 | step h1 b f=>
  have hl:=b.lt;obtain⟨r,x,m,o,p,q,t,u⟩:=b
  grind [jx,o9]
theorem cB.head{i j k:Nat}(h:eG aa i j) (b:cB aa j k):cB aa i k:=by
 induction b with
 | refl=>exact .step .refl h
 | step _ e f=>exact .step f e
theorem cB.cases{i k:Nat}(h:cB aa i k):k=i∨∃j,eG aa i j∧cB aa j k:=by
 induction h with
 | refl=>exact .inl rfl
 | step h1 b e=>
  right
  rcases e with rfl | ⟨j,f,m⟩
  ·
   exact⟨_,b,.refl⟩
  exact⟨j,f,.step m b⟩
theorem k8:∀(l:List Nat) (c b:Nat),(eK c l).testBit b=true↔c.testBit b=true∨∃x∈l,x.testBit b=true:=by
 intro l
 induction l with
 | nil=>intro c b;simp [eK]
 | cons x r e=>
  intro c b
  have:=e (c ||| x) b
  simp only [eK,List.foldl_cons] at this ⊢
  grind
theorem tn(b:aq aa) {i:Nat}(hi:i<aa.length) (hr:ay aa i=true):aa[i].final=5∧aa[i].c.toNat≤65535:=by
 have h:=(b.at hi).2.2
 grind [fl,bD]
theorem wT{n b:Nat}(h:n≤65535) (hb:n.testBit b=true):b<16:=by
 rcases Nat.lt_or_ge b 16 with h1 | h1
 ·
  exact h1
 have:=Nat.ge_two_pow_of_testBit hb
 have e:2 ^ 16≤2 ^ b:=Nat.pow_le_pow_right (by omega) h1
 omega
theorem eR{gy:Key→ByteArray}{i:Nat}(hi:i<aa.length) (b:Nat) :
  (jg aa gy i).testBit b=true↔aa[i].c.toNat.testBit b=true∨∃x∈aa[i].asks,outside aa x=true∧(cy (gy (bw aa x))).testBit b=true:=by
 unfold jg
 rw [ai hi];simp only [k8,List.mem_map,List.mem_filter]
 grind
theorem Hz(e:aq aa) {gy:Key→ByteArray}{i:Nat}(hi:i<aa.length) (hr:ay aa i=true) {b:Nat}(h:(jg aa gy i).testBit b=true):b<16:=by
 rcases(eR hi b).1 h with h1 | ⟨x,_,_,h1⟩
 ·
  exact wT (tn e hi hr).2 h1
 exact wT (ke _) h1
theorem dI(m:aq aa) {gy:Key→ByteArray}{i:Nat}(hi:i<aa.length) (hr:ay aa i=true) (b:Nat) :
  (qY aa gy i).testBit b=true↔∃j,cB aa i j∧(jg aa gy j).testBit b=true:=by
 unfold qY
 rw [Cw]
 constructor
 ·
  exact fun h=>h.2
 rintro⟨j,h1,e⟩;have f:=im hi hr h1;exact⟨Hz m f.1 f.2 e,j,h1,e⟩
theorem zT{gy:Key→ByteArray}(i:Nat):qY aa gy i≤65535:=by
 have:=Ft (fun b=>∃j,cB aa i j∧(jg aa gy j).testBit b=true) 16
 unfold qY;omega
noncomputable def rv(aa:List aA) (az:List bU) (i:Nat):Nat:=qY aa (valOf aa az) i
theorem xU(e:aq aa) {i:Nat}(hi:i<aa.length) (hr:ay aa i=true) {x:Ask}(h:x∈aa[i].asks) (f:outside aa x=true):aB (bw aa x)=true∨(number (bw aa x)).toNat<bg aa i:=by
 have j:=e.len;have hm:=jx e hi hr h;obtain⟨m,h1,b⟩:=k7 hi e.len hm
 unfold bw
 unfold outside at f
 cases hc:x.cell
 ·
  rw [hc] at hm f b
  right
  simp only [Bool.false_eq_true,if_false] at b ⊢
  grind [cv,o9]
 left
 rw [hc] at b;simp only [if_true] at b ⊢
 grind [bf]
theorem fX(e:aq aa) {i:Nat}(hi:i<aa.length) (hr:ay aa i=true):r4 aa az i=itoa (rv aa az i:Int):=by
 unfold r4 o8 rv
 rw [if_pos hr]
 congr 2
 refine Nat.eq_of_testBit_eq fun b=>?_;rw [Bool.eq_iff_iff,dI e hi hr,dI e hi hr]
 have key:∀j,cB aa i j→((jg aa (Hw az (aX aa az i)) j).testBit b=true↔(jg aa (valOf aa az) j).testBit b=true):=by
  intro j h;have f:=im hi hr h;have m:=jM e h;have hle:=fo aa i;rw [eR f.1,eR f.1];refine or_congr_right (exists_congr fun x=>and_congr_right fun o=>and_congr_right fun p=>?_);rw [wR]
  grind [xU]
 grind
theorem fB(b:aq aa) {i:Nat}(hi:i<aa.length):valOf aa az (aD aa (i:Int))=r4 aa az i:=by
 have e:=b.len
 unfold valOf
 rw [if_neg (by grind [cM]),cv hi (by omega)]
 rfl
theorem zU{n:Nat}(h:n≤99):valOf aa az (bH (n:Int))=cellOf az (bH (n:Int)):=by
 unfold valOf;rw [if_pos (bf h)]
def nz(aa:List aA) (gy:Key→ByteArray) (i:Nat):List Nat:=((aa[i]?.map (·.asks)).getD []).map fun x=>cy (gy (bw aa x))
theorem Fv(b:aq aa) {i:Nat}(hi:i<aa.length) (hr:ay aa i=true) (gy:Key→ByteArray):∀n,n≤aa[i].asks.length→
  dR (bQ aa (aD aa (i:Int))) gy n=((aa[i].asks.take n).map (bw aa),(aa[i].asks.take n).map fun x=>gy (bw aa x)):=by
 intro n
 induction n with
 | zero=>intro _;simp [dR]
 | succ n f=>
  intro hn;have e:=f (by omega);simp only [dR]
  have hlen:((aa[i].asks.take n).map fun x=>gy (bw aa x)).length=n:=by simp;omega
  obtain⟨a,h1,_,h⟩:=dd b hi (ae:=(aa[i].asks.take n).map fun x=>gy (bw aa x)) (by rw [hlen,ea hi];omega)
  grind [List.take_succ_eq_append_getElem]
theorem Fw(b:aq aa) {i:Nat}(hi:i<aa.length) (hr:ay aa i=true) (gy:Key→ByteArray) :
  bQ aa (aD aa (i:Int)) (dR (bQ aa (aD aa (i:Int))) gy (bZ aa i)).2=⟨true,itoa (eK aa[i].c.toNat (nz aa gy i):Int),eS⟩:=by
 rw [fx b hi ((eV _ _ _).2),Fv b hi hr gy _ (by rw [ea hi];exact Nat.le_refl _),(tn b hi hr).1,ea hi]
 unfold nz
 rw [ai hi];simp only [List.take_length,List.map_map,Option.map_some,Option.getD_some]
 rfl
theorem qZ{gy:Key→ByteArray}{i:Nat}(hi:i<aa.length) (b:Nat) :
  (eK aa[i].c.toNat (nz aa gy i)).testBit b=true↔(jg aa gy i).testBit b=true∨∃x∈aa[i].asks,outside aa x=false∧(cy (gy (bw aa x))).testBit b=true:=by
 rw [k8,eR hi]
 unfold nz
 grind
theorem gF(f:aq aa) {i:Nat}(hi:i<aa.length) (hr:ay aa i=true) {x:Ask}(h:x∈aa[i].asks) (b:outside aa x=false):∃j:Nat,eG aa i j∧bw aa x=aD aa (j:Int)∧j<aa.length:=by
 have hm:=jx f hi hr h
 unfold outside at b
 rw [Bool.or_eq_false_iff] at b;obtain⟨m,h1,e⟩:=k7 hi f.len hm;rw [b.1] at e;simp only [Bool.false_eq_true,if_false] at e
 have o:ay aa m=true:=by grind
 refine⟨m,⟨_,x,ai hi,by rw [← bD hi];exact hr,h,b.1,h1,o⟩,?_,e.1⟩
 grind [bw]
theorem oq{i j:Nat}(hi:i<aa.length) (h:eG aa i j):∃x∈aa[i].asks,outside aa x=false∧bw aa x=aD aa (j:Int):=by
 obtain⟨r,x,h1,_,b,e,f,m⟩:=h
 grind [outside,bw]
theorem NV(f:aq aa) {i:Nat}(hi:i<aa.length) (hr:ay aa i=true):eK aa[i].c.toNat (nz aa (valOf aa az) i)=rv aa az i:=by
 refine Nat.eq_of_testBit_eq fun b=>?_;rw [Bool.eq_iff_iff,qZ hi]
 unfold rv
 rw [dI f hi hr]
 have t:∀j,j<aa.length→ay aa j=true→cy (valOf aa az (aD aa (j:Int)))=qY aa (valOf aa az) j:=fun j u z=>by
  rw [fB f u,fX f u z];exact eQ (zT j)
 constructor
 ·
  rintro(h | ⟨x,h1,o,e⟩)
  ·
   exact⟨i,.refl,h⟩
  obtain⟨j,m,q,p⟩:=gF f hi hr h1 o;rw [q,t j p m.lt.2.2.2,dI f p m.lt.2.2.2] at e;obtain⟨k,r,F⟩:=e;exact⟨k,.head m r,F⟩
 rintro⟨k,h1,o⟩
 rcases h1.cases with rfl | ⟨j,e,m⟩
 ·
  exact .inl o
 right
 obtain⟨x,q,p,r⟩:=oq hi e;refine⟨x,q,p,?_⟩;rw [r,t j e.lt.2.1 e.lt.2.2.2,dI f e.lt.2.1 e.lt.2.2.2];exact⟨k,m,o⟩
theorem HA(m:aq aa) {i:Nat}(hi:i<aa.length) (hr:ay aa i=true) (v:Nat→Nat)
  (h1:∀j b,cB aa i j→(jg aa (valOf aa az) j).testBit b=true→(v j).testBit b=true)
  (o:∀j k b,cB aa i j→eG aa j k→(v k).testBit b=true→(v j).testBit b=true) (b:Nat) (hb:(rv aa az i).testBit b=true):(v i).testBit b=true:=by
 unfold rv at hb
 rw [dI m hi hr] at hb;obtain⟨j,e,f⟩:=hb;have h:=h1 j b e f
 clear f
 induction e with
 | refl=>exact h
 | step p q r=>exact r (o _ _ b p q h)
theorem fP(b:aq aa) {i:Nat}(hi:i<aa.length) :
  bQ aa (aD aa (i:Int)) (dR (bQ aa (aD aa (i:Int))) (valOf aa az) (bZ aa i)).2=⟨true,valOf aa az (aD aa (i:Int)),eS⟩:=by grind [fB,Fu,Fw,NV,fX]
end
end Go.Rc

namespace Go.Rc
open Go
structure FZ where
 p:(Nat→Prop)→World→Prop
 mono:∀{Z Z':Nat→Prop}{w},(∀x,Z x→Z' x)→p Z w→p Z' w
 st:∀{Z:Nat→Prop}{w w':World},w.heap.size≤w'.heap.size→(∀x,Z x→x<w.heap.size→w'.heap[x]?=w.heap[x]?)→p Z w→p Z w'
def FZ.rd{α:Type}(R:RR α) (k:Nat) (a:Option Addr) (n c:Nat) (xs:List α):FZ:=⟨fun Z w=>Rd R k Z w a n c xs,fun h=>Rd.mono h,fun h1 h2=>Rd.st h1 h2⟩
def FZ.and(F G:FZ):FZ:=⟨fun Z w=>F.p Z w∧G.p Z w,fun h ⟨a,b⟩=>⟨F.mono h a,G.mono h b⟩,fun h1 h2 ⟨a,b⟩=>⟨F.st h1 h2 a,G.st h1 h2 b⟩⟩
def FZ.zV(P:Program):FZ where
 p Z w:=gV P Z w
 mono h:=fun h1=>h1.of h (Nat.le_refl _) fun _ _ _=>rfl
 st h1 h2:=fun h=>h.of (fun _ h=>h) h1 h2
def As.fz(F:FZ):As where
 fp _:=False
 ok Z w:=F.p Z w
 lt _ _ hx:=hx.elim
 mono h:=F.mono h
 st h1 h2:=F.st h1 fun x hx=>h2 x (.inr hx)
theorem As.gf{F:FZ}{Z:Nat→Prop}{w:World}(h:(As.fz F).ok Z w):F.p Z w:=h
structure SD where
 (ar a1 a2:Option Addr) (r cr n1 c1 n2 c2 m q s:Nat)
def SD.F(D:SD) (P:Program) (aa:List aA) (x:cA):FZ:=
 .and (.rd RR.dp 4 D.ar D.r D.cr aa) (.and (.rd RR.az 4 D.a1 D.n1 D.c1 x.ad) (.and (.rd RR.ed 8 D.a2 D.n2 D.c2 x.ah) (.zV P)))
def SD.cells(D:SD) (x:cA):List Value:=
 [.slice D.ar D.r D.cr,.int .i64 x.ab,.slice D.a1 D.n1 D.c1,.slice D.a2 D.n2 D.c2,.map (some D.m),.map (some D.q)]
section
variable {D:SD}{P:Program}{aa:List aA}{x:cA}{Z:Nat→Prop}{w:World}
theorem SD.hu(h:(D.F P aa x).p Z w):Rd RR.dp 4 Z w D.ar D.r D.cr aa:=h.1
theorem SD.hi(h:(D.F P aa x).p Z w):Rd RR.az 4 Z w D.a1 D.n1 D.c1 x.ad:=h.2.1
theorem SD.hr(h:(D.F P aa x).p Z w):Rd RR.ed 8 Z w D.a2 D.n2 D.c2 x.ah:=h.2.2.1
theorem SD.ht(h:(D.F P aa x).p Z w):gV P Z w:=h.2.2.2
end
def aY(aa:List aA) (az:List bU) (ml:List (Key × Value)):Prop:=∀k v,bq ml k=some v→v=.string (valOf aa az k)
section
variable {aa:List aA}{az:List bU}
theorem aY.nil:aY aa az []:=fun k v h=>by simp [bq] at h
theorem aY.put{ml:List (Key × Value)}(h:aY aa az ml) (k:Key):aY aa az (cO ml k (.string (valOf aa az k))):=fun k' v b=>by
 rw [ey] at b
 split at b
 ·
  grind
 exact h k' v b
def eA(m n:Nat):Prop:=∀b,m.testBit b=true→n.testBit b=true
theorem eA.le{m n:Nat}(h:eA m n):m≤n:=by
 have e:m ||| n=n:=Nat.eq_of_testBit_eq fun b=>by
  rw [Nat.testBit_or]
  cases hm:m.testBit b
  ·
   simp
  simp [h b hm]
 rw [← e];exact Nat.left_le_or
noncomputable def JZ(aa:List aA) (az:List bU) (v:Nat→Nat) (k:Key):ByteArray:=if ax k then itoa (v (number k).toNat:Int) else valOf aa az k
noncomputable def FF(aa:List aA) (az:List bU) (v:Nat→Nat) (j:Nat):Nat:=eK ((aa[j]?.map (·.c.toNat)).getD 0) (nz aa (JZ aa az v) j)
theorem iq(e:aq aa) {i:Nat}(hi:i<aa.length) (hr:ay aa i=true) {x:Ask}(h:x∈aa[i].asks) (f:outside aa x=true):ax (bw aa x)=false:=by
 have j:=e.len;have hm:=jx e hi hr h;obtain⟨m,h1,b⟩:=k7 hi e.len hm
 unfold outside at f
 unfold bw
 cases hc:x.cell
 ·
  rw [hc] at b f;simp only [Bool.false_eq_true,if_false] at b ⊢
  grind [bj]
 rw [hc] at b;simp only [if_true] at b ⊢
 grind [jK]
theorem tp(o:aq aa) {v:Nat→Nat}(p:∀j,v j≤65535) {i:Nat}(hi:i<aa.length) (hr:ay aa i=true) (b:Nat) :
  (FF aa az v i).testBit b=true↔(jg aa (valOf aa az) i).testBit b=true∨∃j,eG aa i j∧(v j).testBit b=true:=by
 have r:=o.len
 unfold FF
 rw [ai hi];simp only [Option.map_some,Option.getD_some];rw [qZ hi];refine or_congr ?_ ?_
 ·
  rw [eR hi,eR hi];refine or_congr_right (exists_congr fun x=>and_congr_right fun t=>and_congr_right fun u=>?_)
  unfold JZ
  rw [if_neg (by grind [iq])]
 constructor
 ·
  rintro⟨x,h1,h,f⟩;obtain⟨j,e,m,q⟩:=gF o hi hr h1 h;refine⟨j,e,?_⟩
  unfold JZ at f
  rw [m,if_pos (by rw [bj q (by omega)];exact e.lt.2.2.2),cv q (by omega),Int.toNat_natCast,eQ (p j)] at f;exact f
 rintro⟨j,e,m⟩;obtain⟨x,h1,h,f⟩:=oq hi e;refine⟨x,h1,h,?_⟩
 unfold JZ
 rw [f,if_pos (by rw [bj e.lt.2.1 (by have:=e.lt.2.1;omega)];exact e.lt.2.2.2),cv e.lt.2.1 (by have:=e.lt.2.1;omega),Int.toNat_natCast,eQ (p j)];exact m
theorem re(i:Nat):rv aa az i≤65535:=zT i
theorem Cy(f:aq aa) {i:Nat}(hi:i<aa.length) (hr:ay aa i=true) (b:Nat) :
  (rv aa az i).testBit b=true↔(jg aa (valOf aa az) i).testBit b=true∨∃j,eG aa i j∧(rv aa az j).testBit b=true:=by
 unfold rv
 rw [dI f hi hr]
 constructor
 ·
  rintro⟨k,h1,o⟩
  rcases h1.cases with rfl | ⟨j,e,m⟩
  ·
   exact .inl o
  exact .inr ⟨j,e,(dI f e.lt.2.1 e.lt.2.2.2 b).2 ⟨k,m,o⟩⟩
 rintro(h | ⟨j,e,m⟩)
 ·
  exact⟨i,.refl,h⟩
 obtain⟨k,p,q⟩:=(dI f e.lt.2.1 e.lt.2.2.2 b).1 m;exact⟨k,.head e p,q⟩
theorem Ec(e:aq aa) {v v':Nat→Nat}(f:∀j,v j≤65535) (m:∀j,v' j≤65535) (h:∀j,eA (v j) (v' j)) {i:Nat}(hi:i<aa.length) (hr:ay aa i=true):eA (FF aa az v i) (FF aa az v' i):=fun b hb=>by
 rw [tp e f hi hr] at hb;rw [tp e m hi hr]
 rcases hb with hb | ⟨j,h1,o⟩
 ·
  exact .inl hb
 exact .inr ⟨j,h1,h j b o⟩
structure di (aa:List aA) (az:List bU) (i0:Nat) (L:List Nat) (u:Nat→Nat):Prop where
 nodup:L.Nodup
 first:i0∈L
 ring:∀j∈L,j<aa.length∧ay aa j=true
 out:∀j,j∉L→u j=0
 le:∀j,u j≤65535
 low:∀j,eA (u j) (rv aa az j)
 reach:∀j∈L,cB aa i0 j
noncomputable def Ed(aa:List aA) (az:List bU) (u:Nat→Nat) (ml:List (Key × Value)) (k:Nat):Nat:=if (bq ml (aD aa (k:Int))).isSome then rv aa az k else u k
def iE(ml mC:List (Key × Value)):Prop:=∀k v,bq ml k=some v→bq mC k=some v
def kz(aa:List aA) (az:List bU) (L:List Nat) (u:Nat→Nat) (ml:List (Key × Value)):Prop:=∀j∈L,eA (u j) (FF aa az (Ed aa az u ml) j)
def nA(aa:List aA) (az:List bU) (L:List Nat) (u:Nat→Nat) (j:Nat):Prop:=
 eA (jg aa (valOf aa az) j) (u j)∧∀k,eG aa j k→(k∈L→eA (u k) (u j))∧(k∉L→eA (rv aa az k) (u j))
def Cz(n:Nat) (v:Nat→Nat):Nat:=((List.range n).map fun j=>65535 - v j).sum
def nU(aa:List aA) (L:List Nat) (v:Nat→Nat):Nat:=Cz aa.length v+(aa.length - L.length)
theorem iE.refl(ml:List (Key × Value)):iE ml ml:=fun _ _ h=>h
theorem iE.trans{a b c:List (Key × Value)}(h:iE a b) (k:iE b c):iE a c:=fun x v e=>k x v (h x v e)
theorem iE.put{ml:List (Key × Value)}(hm:aY aa az ml) (k:Key):iE ml (cO ml k (.string (valOf aa az k))):=fun x v h=>by
 rw [ey]
 split
 ·
  rename_i e;subst e;rw [hm _ _ h]
 exact h
theorem pY{u:Nat→Nat}{ml:List (Key × Value)}(h:∀j,u j≤65535) (k:Nat):Ed aa az u ml k≤65535:=by grind [Ed,re]
theorem J0{u:Nat→Nat}{ml:List (Key × Value)}(h:∀j,eA (u j) (rv aa az j)) (k:Nat):eA (Ed aa az u ml k) (rv aa az k):=by unfold Ed;split;exact fun _ h=>h;exact h k
theorem zW{u b:Nat→Nat}{ml e:List (Key × Value)}(h:∀j,eA (u j) (rv aa az j)) (hu:∀j,eA (u j) (b j)) (hm:iE ml e) (k:Nat):eA (Ed aa az u ml k) (Ed aa az b e k):=by
 unfold Ed
 cases h1:bq ml (aD aa (k:Int)) with
 | some v=>rw [hm _ _ h1];simp;exact fun _ h=>h
 | none=>grind
theorem kz.mono(i:aq aa) {i0:Nat}{L:List Nat}{u:Nat→Nat}{ml f:List (Key × Value)}(hr:di aa az i0 L u) (h:kz aa az L u ml) (hm:iE ml f):kz aa az L u f:=fun j e b hb=>
 Ec i (pY hr.le) (pY hr.le) (zW hr.low (fun _ _ h=>h) hm) (hr.ring j e).1 (hr.ring j e).2 b (h j e b hb)
theorem di.start{i0:Nat}(hi:i0<aa.length) (hr:ay aa i0=true):di aa az i0 [i0] fun _=>0 where
 nodup:=by simp
 first:=by simp
 ring j e:=by grind
 out _ _:=rfl
 le _:=by omega
 low _ b h:=by simp at h
 reach j e:=by simp at e;subst e;exact .refl
theorem kz.start{i0:Nat}{ml:List (Key × Value)}:kz aa az [i0] (fun _=>0) ml:=fun _ _ b h=>by simp at h
theorem HB:∀{n:Nat}{L:List Nat},L.Nodup→(∀j∈L,j<n)→L.length≤n:=by
 intro n
 induction n with
 | zero=>intro L _ hl;cases L with
  | nil=>simp
  | cons a r=>exact absurd (hl a (by simp)) (by omega)
 | succ n b=>
  intro L h hl
  have h1:=b (h.erase n) fun j e=>by grind
  grind
theorem di.len{i0:Nat}{L:List Nat}{v:Nat→Nat}(h:di aa az i0 L v):L.length≤aa.length:=HB h.nodup fun j b=>(h.ring j b).1
theorem di.meet{i0:Nat}{L:List Nat}{v:Nat→Nat}(h:di aa az i0 L v) {j:Nat}(b:j<aa.length) (hr:ay aa j=true) (hn:j∉L) (e:cB aa i0 j):di aa az i0 (L++[j]) v where
 nodup:=by grind [nodup]
 first:=by simp [h.first]
 ring k hk:=by
  rcases List.mem_append.1 hk with hk | hk
  ·
   exact h.ring k hk
  grind
 out k hk:=h.out k fun hm=>hk (by simp [hm])
 le:=h.le
 low:=h.low
 reach k hk:=by
  rcases List.mem_append.1 hk with hk | hk
  ·
   exact h.reach k hk
  grind
theorem kz.meet{L:List Nat}{u:Nat→Nat}{ml:List (Key × Value)}(h:kz aa az L u ml) {j:Nat}(hu:u j=0):kz aa az (L++[j]) u ml:=fun k hk=>by
 rcases List.mem_append.1 hk with hk | hk
 ·
  exact h k hk
 simp at hk;subst hk;rw [hu];intro b hb;simp at hb
theorem di.Ee{i0:Nat}{L:List Nat}{v:Nat→Nat}(h:di aa az i0 L v) {j:Nat}(b:j<aa.length) (hr:ay aa j=true) (hn:j∉L) (e:cB aa i0 j):L.length<aa.length:=by
 have:=(h.meet b hr hn e).len
 grind
theorem zX{L:List Nat}{v:Nat→Nat}{j:Nat}(hl:L.length<aa.length):nU aa (L++[j]) v<nU aa L v:=by grind [nU]
def lF(v:Nat→Nat) (j u:Nat):Nat→Nat:=fun k=>if k=j then u else v k
theorem HC:∀n (v:Nat→Nat) (j u:Nat),v j≤u→Cz n (lF v j u)≤Cz n v∧(j<n→v j<u→u≤65535→Cz n (lF v j u)<Cz n v):=by
 intro n
 induction n with
 | zero=>intro v j u _;simp [Cz]
 | succ n f=>
  intro v j u h;obtain⟨h1,b⟩:=f v j u h
  unfold Cz at h1 b ⊢
  simp only [List.range_succ,List.map_append,List.map_cons,List.map_nil,List.sum_append,List.sum_cons,List.sum_nil]
  have o:65535 - lF v j u n≤65535 - v n:=by
   unfold lF;grind
  refine⟨by omega,fun p i m=>?_⟩
  by_cases e:j=n
  ·
   have:65535 - lF v j u n<65535 - v n:=by unfold lF;grind
   omega
  have:=b (by omega) i m
  omega
theorem Fx{u:Nat→Nat}{j x:Nat}(h:eA (u j) x):∀k,eA (u k) (lF u j x k):=fun k b hb=>by
 unfold lF;split
 ·
  rename_i e;subst e;exact h b hb
 exact hb
theorem di.set{i0:Nat}{L:List Nat}{u:Nat→Nat}(h:di aa az i0 L u) {j x:Nat}(f:j∈L) (i:x≤65535) (m:eA x (rv aa az j)):di aa az i0 L (lF u j x) where
 nodup:=h.nodup
 first:=h.first
 ring:=h.ring
 out k hk:=by unfold lF;rw [if_neg (fun e=>hk (by rw [e];exact f))];exact h.out k hk
 le k:=by unfold lF;split;exact i;exact h.le k
 low k b hb:=by
  unfold lF at hb;split at hb
  ·
   rename_i e;subst e;exact m b hb
  exact h.low k b hb
 reach:=h.reach
theorem kz.set(f:aq aa) {i0:Nat}{L:List Nat}{u:Nat→Nat}{ml:List (Key × Value)}(hr:di aa az i0 L u) (h:kz aa az L u ml) {j x:Nat}(i:j∈L) (m:x≤65535) (o:eA x (rv aa az j)) (p:eA (u j) x) (q:eA x (FF aa az (Ed aa az u ml) j)) :
  kz aa az L (lF u j x) ml:=fun k hk=>by
 have r:=hr.set i m o;have hm:=Ec (az:=az) f (pY (az:=az) (aa:=aa) (ml:=ml) hr.le) (pY r.le) (zW hr.low (Fx p) (iE.refl ml)) (hr.ring k hk).1 (hr.ring k hk).2;intro b hb;refine hm b ?_
 unfold lF at hb;split at hb
 ·
  rename_i e;subst e;exact q b hb
 exact h k hk b hb
theorem Ef{i0:Nat}{L:List Nat}{u:Nat→Nat}(h:di aa az i0 L u) {j x:Nat}(b:j∈L) (e:x≤65535) (f:eA (u j) x) (i:u j≠x):nU aa L (lF u j x)<nU aa L u:=by
 have h1:=f.le
 have:=(HC aa.length u j x h1).2 (h.ring j b).1 (by omega) e
 unfold nU;omega
theorem di.done(r:aq aa) {i0:Nat}{L:List Nat}{u:Nat→Nat}(h:di aa az i0 L u) (f:∀j∈L,nA aa az L u j):∀j∈L,u j=rv aa az j:=by
 intro j t;obtain⟨i,o⟩:=h.ring j t;refine Nat.le_antisymm (h.low j).le (eA.le fun b hb=>?_);have key:=HA r i o (fun k=>if k∈L then u k else rv aa az k) (fun k b hk hb=>?_) (fun k m b hk p hb=>?_) b hb
 ·
  simpa [t] using key
 ·
  have q:=im i o hk
  by_cases hm:k∈L
  ·
   simp only [if_pos hm];exact(f k hm).1 b hb
  simp only [if_neg hm];grind [Cy]
 have q:=im i o hk
 by_cases e:k∈L
 ·
  simp only [if_pos e]
  by_cases hm:m∈L
  ·
   simp only [if_pos hm] at hb;exact((f k e).2 m p).1 hm b hb
  simp only [if_neg hm] at hb;exact((f k e).2 m p).2 hm b hb
 simp only [if_neg e];refine(Cy r q.1 q.2 b).2 (.inr ⟨m,p,?_⟩)
 by_cases hm:m∈L
 ·
  simp only [if_pos hm] at hb;exact h.low m b hb
 grind
structure Ev (aa:List aA) (az:List bU) (u:Nat→Nat) (L:List Nat) (HD ml:List (Key × Value)) (qs:List Ask) (n:Nat) (acc:List ByteArray):Prop where
 len:acc.length=n
 out:∀m (h:m<qs.length),m<n→outside aa qs[m]=true→acc[m]?=some (valOf aa az (bw aa qs[m]))
 ins:∀m (h:m<qs.length),m<n→outside aa qs[m]=false→∀k:Nat,qs[m].n=k→
  (acc[m]?=some (itoa (rv aa az k:Int))∧(bq ml (aD aa (k:Int))).isSome=true)∨(acc[m]?=some (itoa (u k:Int))∧k∈L∧bq HD (aD aa (k:Int))=none)
theorem Ev.start{u:Nat→Nat}{L:List Nat}{ml:List (Key × Value)}{qs:List Ask}:Ev aa az u L ml ml qs 0 []:=⟨rfl,fun _ _ h=>by omega,fun _ _ h=>by omega⟩
theorem Ev.mono{u:Nat→Nat}{L L':List Nat}{HD ml b:List (Key × Value)}{qs:List Ask}{n:Nat}{acc:List ByteArray}(h:Ev aa az u L HD ml qs n acc) (q:∀k∈L,k∈L') (hm:iE ml b):Ev aa az u L' HD b qs n acc:=
 ⟨h.len,h.out,fun m h1 i j k o=>by
  rcases h.ins m h1 i j k o with⟨e,f⟩ | ⟨e,f,r⟩
  ·
   obtain⟨v,p⟩:=Option.isSome_iff_exists.1 f;exact .inl ⟨e,by rw [hm _ _ p];rfl⟩
  grind⟩
theorem Ev.snoc{u:Nat→Nat}{L:List Nat}{HD ml:List (Key × Value)}{qs:List Ask}{n:Nat}{acc:List ByteArray}(h:Ev aa az u L HD ml qs n acc) (s:ByteArray)
  (i:∀(h:n<qs.length),outside aa qs[n]=true→s=valOf aa az (bw aa qs[n]))
  (hi:∀(h:n<qs.length),outside aa qs[n]=false→∀k:Nat,qs[n].n=k→(s=itoa (rv aa az k:Int)∧(bq ml (aD aa (k:Int))).isSome=true)∨(s=itoa (u k:Int)∧k∈L∧bq HD (aD aa (k:Int))=none)) :
  Ev aa az u L HD ml qs (n+1) (acc++[s]) where
 len:=by simp [h.len]
 out m h1 f e:=by
  rcases Nat.lt_or_ge m n with b | b
  ·
   rw [List.getElem?_append_left (by rw [h.len];exact b)];exact h.out m h1 b e
  grind [len]
 ins m h1 f e k hk:=by
  rcases Nat.lt_or_ge m n with b | b
  ·
   rw [List.getElem?_append_left (by rw [h.len];exact b)];exact h.ins m h1 b e k hk
  have:m=n:=by omega
  subst this;rw [List.getElem?_append_right (by rw [h.len];omega),h.len]
  simpa using hi h1 e k hk
theorem Ev.val(t:aq aa) {i0:Nat}{L:List Nat}{u:Nat→Nat}{HD ml:List (Key × Value)}{j:Nat}{acc:List ByteArray}(hr:di aa az i0 L u) (p:j<aa.length) (F:ay aa j=true) (h:Ev aa az u L HD ml aa[j].asks aa[j].asks.length acc) :
  eK aa[j].c.toNat (acc.map cy)≤65535∧eA (eK aa[j].c.toNat (acc.map cy)) (rv aa az j)∧eA (FF aa az (Ed aa az u HD) j) (eK aa[j].c.toNat (acc.map cy))∧
  eA (eK aa[j].c.toNat (acc.map cy)) (FF aa az (Ed aa az u ml) j)∧(eK aa[j].c.toNat (acc.map cy)=u j→nA aa az L u j):=by
 obtain⟨hlen,ho,hP⟩:=h;have GN:=t.len
 -- an answer, by its place
 have Si:∀m (hm:m<aa[j].asks.length),∃s,acc[m]?=some s∧s∈acc:=fun m hm=>⟨acc[m],ai (by omega),List.getElem_mem _⟩
 have J:eA (jg aa (valOf aa az) j) (eK aa[j].c.toNat (acc.map cy)):=fun b hb=>by
  rw [k8]
  rcases(eR p b).1 hb with h1 | ⟨x,h1,z,o⟩
  ·
   exact .inl h1
  obtain⟨m,hm,rfl⟩:=List.mem_iff_getElem.1 h1
  grind
 have N:∀k,eG aa j k→∃m,∃hm:m<aa[j].asks.length,outside aa aa[j].asks[m]=false∧aa[j].asks[m].n=(k:Int):=fun k hk=>by
  obtain⟨r,x,h1,_,o,f,I,e⟩:=hk;rw [ai p] at h1
  simp at h1
  subst h1;obtain⟨m,hm,rfl⟩:=List.mem_iff_getElem.1 o;exact⟨m,hm,by unfold outside;rw [f,I];simp [e],I⟩
 have G:∀(m:Nat) (s:ByteArray) (b:Nat),acc[m]?=some s→(cy s).testBit b=true→(eK aa[j].c.toNat (acc.map cy)).testBit b=true:=fun m s b h1 z=>by
  rw [k8];grind
 have O:∀(v:Nat→Nat),(∀k,v k≤65535)→(∀k:Nat,(bq ml (aD aa (k:Int))).isSome=true→eA (rv aa az k) (v k))→(∀k:Nat,eA (u k) (v k))→eA (eK aa[j].c.toNat (acc.map cy)) (FF aa az v j):=fun v R h1 z b hb=>by
  rw [tp t R p F];rw [k8] at hb
  rcases hb with hb | ⟨_,V,hb⟩
  ·
   grind [eR]
  obtain⟨s,W,rfl⟩:=List.mem_map.1 V;obtain⟨m,hm,rfl⟩:=List.mem_iff_getElem.1 W
  have H:m<aa[j].asks.length:=by omega
  cases Q:outside aa aa[j].asks[m]
  ·
   obtain⟨k,o,f,I⟩:=gF t p F (List.getElem_mem H) Q
   have X:aa[j].asks[m].n=(k:Int):=by
    obtain⟨q,e,i⟩:=k7 p t.len (jx t p F (List.getElem_mem H))
    have hc:aa[j].asks[m].cell=false:=by grind [outside]
    rw [hc] at i;simp only [Bool.false_eq_true,if_false] at i
    unfold bw at f
    rw [hc,e] at f;simp only [Bool.false_eq_true,if_false] at f
    grind [cv]
   refine .inr ⟨k,o,?_⟩
   rcases hP m H H Q k X with⟨e,i⟩ | ⟨e,i,_⟩
   ·
    rw [ai hm] at e
    simp at e
    rw [e,eQ (re k)] at hb;exact h1 k i b hb
   rw [ai hm] at e
   simp at e
   rw [e,eQ (hr.le k)] at hb;exact z k b hb
  grind [eR]
 refine⟨?_,?_,?_,?_,fun he=>⟨?_,fun k hk=>⟨fun Y=>?_,fun Y=>?_⟩⟩⟩
 ·
  grind [kX,tn,ke]
 ·
  intro b hb;have h1:=O (rv aa az) re (fun _ _ _ h=>h) hr.low b hb
  grind [tp,re,Cy]
 ·
  intro b hb;rw [tp t (pY hr.le) p F] at hb
  rcases hb with hb | ⟨k,h1,z⟩
  ·
   exact J b hb
  obtain⟨m,hm,o,f⟩:=N k h1
  rcases hP m hm hm o k f with⟨e,i⟩ | ⟨e,i,h8⟩
  ·
   exact G m _ b e (by rw [eQ (re k)];exact J0 hr.low k b z)
  refine G m _ b e (by rw [eQ (hr.le k)];grind [Ed])
 ·
  refine O _ (pY hr.le) (fun k hk b hb=>?_) fun k b hb=>?_
  ·
   unfold Ed;rw [if_pos hk];exact hb
  unfold Ed;split
  ·
   exact hr.low k b hb
  exact hb
 ·
  rw [← he];exact J
 ·
  intro b hb;rw [← he];obtain⟨m,hm,o,f⟩:=N k hk
  rcases hP m hm hm o k f with⟨e,i⟩ | ⟨e,i,h8⟩
  ·
   exact G m _ b e (by rw [eQ (re k)];exact hr.low k b hb)
  exact G m _ b e (by rw [eQ (hr.le k)];exact hb)
 intro b hb
 grind [eQ,re]
def mf(aa:List aA) (L:List Nat) (v:Nat→Nat) (am:List (Key × Value)):Prop:=
 (∀j∈L,bq am (aD aa (j:Int))=some (.string (itoa (v j:Int))))∧∀k,(∀j∈L,k≠aD aa (j:Int))→bq am k=none
theorem dD(b:aq aa) {i j:Nat}(hi:i<aa.length) (e:j<aa.length) (h:aD aa (i:Int)=aD aa (j:Int)):i=j:=by grind [aq.len,cv]
theorem mf.meet(b:aq aa) {L:List Nat}{v:Nat→Nat}{am:List (Key × Value)}(h:mf aa L v am) (f:∀j∈L,j<aa.length) {j:Nat}(i:j<aa.length) (hn:j∉L) (o:v j=0):mf aa (L++[j]) v (cO am (aD aa (j:Int)) (.string ⟨#[48]⟩)):=by
 have e0:itoa ((0:Nat):Int)=⟨#[48]⟩:=by decide +kernel
 refine⟨fun k hk=>?_,fun k hk=>?_⟩
 ·
  rw [ey]
  rcases List.mem_append.1 hk with hk | hk
  ·
   rw [if_neg (fun e=>hn (by grind [dD]))];exact h.1 k hk
  grind
 rw [ey,if_neg (fun e=>hk j (by simp) e.symm)]
 exact h.2 k fun m hm=>hk m (by simp [hm])
theorem mf.set(i:aq aa) {L:List Nat}{v:Nat→Nat}{am:List (Key × Value)}(h:mf aa L v am) (b:∀j∈L,j<aa.length) {j:Nat}(f:j∈L) (u:Nat):mf aa L (lF v j u) (cO am (aD aa (j:Int)) (.string (itoa (u:Int)))):=by
 refine⟨fun k hk=>?_,fun k hk=>?_⟩
 ·
  rw [ey]
  unfold lF
  by_cases e:k=j
  ·
   grind
  rw [if_neg (fun e2=>e (dD i (b k hk) (b j f) e2.symm)),if_neg e];exact h.1 k hk
 rw [ey,if_neg (fun e=>hk j f e.symm)];exact h.2 k hk
end
theorem ir{aa:List aA}(e:aq aa) {i:Nat}(hi:i<aa.length) (hr:ay aa i=true) {x:Ask}(f:x∈aa[i].asks) (b:outside aa x=false) {k:Nat}(hk:x.n=(k:Int)):k<aa.length∧ay aa k=true∧bw aa x=aD aa (k:Int):=by
 have hm:=jx e hi hr f
 unfold outside at b
 rw [Bool.or_eq_false_iff] at b;rw [b.1,hk] at hm;refine⟨(o9 e hi hr hm).1,?_,?_⟩
 ·
  grind
 grind [bw]
theorem aq.hb{aa:List aA}(h:aq aa):∀x∈aa,0≤x.c∧x.c≤65535∧x.asks.length≤1000:=fun x b=>by
 obtain⟨i,hi,rfl⟩:=List.mem_iff_getElem.1 b;obtain⟨h1,_,e⟩:=h.at hi
 grind [fl]
theorem eB{aa:List aA}{i:Nat}(hi:i<aa.length) (gD:i≤99) (l:List ByteArray):aL aa (aD aa (i:Int)) l=bQ aa (aD aa (i:Int)) l:=by
 unfold aL;rw [if_pos (by grind [dP])]
theorem rf{aa:List aA}{i:Nat}(hi:i<aa.length) (gD:i≤99) (hr:ay aa i=true):jJ (aD aa (i:Int))=⟨#[48]⟩:=by grind [jJ,dP]
theorem wU:∀{l:List (Key × Value)}{k:Key}{v:Value},bq l k=some v→cO l k v=l:=by
 intro l
 induction l with
 | nil=>intro k v h;simp [bq] at h
 | cons p r b=>
  obtain⟨k0,v0⟩:=p;intro k v h;simp only [bq] at h;simp only [cO]
  grind
theorem eW{aa:List aA}{i:Nat}(hi:i<aa.length) (gD:i≤99):cZ (aD aa (i:Int)):=by grind [cZ,dP]
end Go.Rc

namespace Go.Rc
open Go
/-! ### keys in order -/
def mg(k:Key):List Key→List Key
 | []=>[k]
 | x::r=>if bp x k<0 then x::mg k r else if x=k then x::r else k::x::r
def jh(l:List Key):List Key:=l.foldl (fun out k=>mg k out) []
theorem J1:∀(l:List Key) (k:Key) (p:Nat),p≤l.length→(∀q x,q<p→l[q]?=some x→bp x k<0)→(∀x,l[p]?=some x→0≤bp x k)→mg k l=if l[p]?=some k then l else l.take p++[k]++l.drop p:=by
 intro l
 induction l with
 | nil=>intro k p b _ _;simp at b;subst b;rfl
 | cons x r f=>
  intro k p b h1 e
  cases p with
  | zero=>
   have:=e x rfl
   simp only [mg]
   grind
  | succ p=>
   have:=h1 0 x (by omega) rfl
   simp only [mg];rw [if_pos this,f k p (by simpa using b) (fun q y h hy=>h1 (q+1) y (by omega) (by simpa using hy)) (fun y hy=>e y (by simpa using hy))]
   grind
theorem HE(k:Key):∀l,(mg k l).length≤l.length+1:=by
 intro l
 induction l with
 | nil=>simp [mg]
 | cons x r b=>grind [mg]
theorem tq(l:List Key) (k:Key):jh (l++[k])=mg k (jh l):=by simp [jh]
theorem wV(l:List Key):(jh l).length≤l.length:=by
 have key:∀(l acc:List Key),(l.foldl (fun out k=>mg k out) acc).length≤acc.length+l.length:=by
  intro l
  induction l with
  | nil=>intro acc;simp
  | cons x r b=>grind [HE]
 simpa [jh] using key l []
theorem zY(k:Key):∀(l:List Key) (x:Key),x∈mg k l↔x=k∨x∈l:=by
 intro l
 induction l with
 | nil=>intro x;simp [mg]
 | cons y r b=>grind [mg]
theorem nB(l:List Key) (x:Key):x∈jh l↔x∈l:=by
 have key:∀(l acc:List Key),x∈l.foldl (fun out k=>mg k out) acc↔x∈acc∨x∈l:=by
  intro l
  induction l with
  | nil=>intro acc;simp
  | cons y r b=>grind [zY]
 simpa [jh] using key l []
def zZ(out:List Key) (p:Nat) (x:Key):Bool:=match out[p]? with | some y=>decide (bp y x<0) | none=>false
/-! ### groups -/
def Ld(l:List Rec) (rev:Int) (a x:Key):Prop:=x∈(aF l a).reads∧cW l rev x=true
inductive cx (l:List Rec) (rev:Int) (k:Key):Key→Prop where
 | one {x:Key}:Ld l rev k x→cx l rev k x
 | step {x y:Key}:cx l rev k x→Ld l rev x y→cx l rev k y
def gG(m:List (Key × Value)) (P:Key→Prop):Prop:=∀k,(bq m k=some (.bool true)↔P k)∧(bq m k=none∨bq m k=some (.bool true))
open Classical in
noncomputable def xV(l:List Rec) (rev:Int) (k x:Key):Bool:=decide (cx l rev k x)
theorem jO{l:List Rec}{rev:Int}{k x:Key}:xV l rev k x=true↔cx l rev k x:=by unfold xV;simp
noncomputable def Aa(l:List Rec) (rev:Int) (k:Key) (r:Rec):Bool:=decide (r.key≠k) && (xV l rev k r.key && xV l rev r.key k)
noncomputable def iu(l:List Rec) (rev:Int) (k:Key) (rs:List Rec):List Key:=(rs.filter (Aa l rev k)).map (·.key)
theorem rh{l:List Rec}{rev:Int}{k:Key}{i:Nat}(h:i<l.length):iu l rev k (l.take (i+1))=if Aa l rev k l[i]=true then iu l rev k (l.take i)++[l[i].key] else iu l rev k (l.take i):=by
 rw [List.take_succ_eq_append_getElem h];simp only [iu,List.filter_append,List.map_append]
 grind
theorem ot(l:List Rec) (rev:Int) (k:Key) (rs:List Rec):(iu l rev k rs).length≤rs.length:=by grind [iu]
theorem gG.get{m:List (Key × Value)}{P:Key→Prop}(h:gG m P) (k:Key) {b:Bool}(hb:b=true↔P k):(bq m k).getD (.bool false)=.bool b:=by
 obtain⟨h1,e⟩:=h k
 grind
theorem gG.put{m:List (Key × Value)}{b:List Key}(h:gG m (·∈b)) (x:Key):gG (cO m x (.bool true)) (·∈b++[x]):=fun k=>by
 rw [ey]
 by_cases e:x=k
 ·
  rw [if_pos e];simp [e]
 rw [if_neg e];obtain⟨h1,f⟩:=h k
 grind
theorem gG.congr{m:List (Key × Value)}{P Q:Key→Prop}(h:gG m P) (b:∀k,P k↔Q k):gG m Q:=fun k=>⟨(h k).1.trans (b k),(h k).2⟩
theorem gG.nil:gG [] (·∈([]:List Key)):=fun k=>by simp [bq]
theorem kA{L S:List Key}(h:L.Nodup) (b:∀x∈L,x∈S):L.length≤S.length:=by
 induction L generalizing S with
 | nil=>simp
 | cons a r e=>
  have f:=b a (by simp);rw [List.nodup_cons] at h
  have:=e (S:=S.erase a) h.2 fun x i=>by grind
  grind
theorem tr{l:List Rec}{rev:Int}{x:Key}(h:cW l rev x=true):x∈l.map (·.key):=by
 unfold cW at h
 rw [Bool.and_eq_true] at h
 grind [aH]
theorem cx.fK{l:List Rec}{rev:Int}{k x:Key}(h:cx l rev k x):cW l rev x=true:=by
 cases h with
 | one h=>exact h.2
 | step _ h=>exact h.2
theorem xW{l:List Rec}{rev:Int}{k:Key}{b:List Key}(e:∀x∈b,cx l rev k x) (hc:∀y∈k::b,∀x,Ld l rev y x→x∈b) (x:Key):x∈b↔cx l rev k x:=by
 refine⟨e x,fun h=>?_⟩
 induction h with
 | one h=>exact hc k (by simp) _ h
 | step _ f i=>exact hc _ (by simp [i]) _ f
noncomputable def aC(l:List Rec) (rev:Int) (k:Key):List Key:=if cW l rev k then jh (k::iu l rev k l) else [k]
def bC(rev:Int) (group:List Key) (bJ:Bool) (r:Rec):Rec:=if r.key∈group then (if bJ then {r with bJ:=true} else {r with av:=rev}) else r
def cE(x:cA) (group:List Key) (bJ:Bool):cA:={x with ah:=x.ah.map (bC x.ab group bJ)}
def aM(x:cA) (k:Key):Bool:=(aH x.ah k).isSome && decide ((aF x.ah k).av=x.ab)
def bR(val:Key→ByteArray) (x:cA) (k:Key):Int:=
 if aB k then (bE x.ad k).changed
 else if (aH x.ah k).isSome && (decide ((aF x.ah k).av=x.ab) || decide (val k=(aF x.ah k).value)) then (aF x.ah k).changed else x.ab
def da(val:Key→ByteArray) (x:cA) (k:Key):ByteArray:=if ax k then val k else te x k
/-! ### a request -/
structure ES where
 b:cA
 busy:List (Key × Value)
 bM:List Key
 e:Int
def ES.on(s:ES) (k:Key):Bool:=(bq s.busy k).isSome
def dQ(s:ES) (k:Key):Bool:=aB k || ((s.on k && ax k) || aM s.b k)
mutual
noncomputable def kB(aa:List aA) (val:Key→ByteArray):Nat→ES→Key→Option ES
 | 0,_,_=>none
 | f+1,s,k=>
  if s.e≠0∨aB k=true then some s
  else if aM s.b k then some s
  else if s.on k then (if ax k then some s else some {s with e:=43})
  else (cw aa val f {s with busy:=cO s.busy k (.bool true)} k 0).bind fun p=>
   (if p.2 then fQ aa val f p.1 k [] [] else some p.1).bind fun s3=>some {s3 with busy:=hU s3.busy k}
noncomputable def cw(aa:List aA) (val:Key→ByteArray):Nat→ES→Key→Nat→Option (ES × Bool)
 | 0,_,_,_=>none
 | f+1,s,k,at_=>
  if s.e≠0 then some (s,false)
  else if !(aH s.b.ah k).isSome || (aF s.b.ah k).bJ then some (s,true)
  else if (aF s.b.ah k).av=s.b.ab then some (s,false)
  else
   match (ct s.b.ah (aC s.b.ah s.b.ab k))[at_]? with
   | none=>some ({s with b:=cE s.b (aC s.b.ah s.b.ab k) false},false)
   | some c=>
    if dQ s c.read=false then (kB aa val f s c.read).bind fun s'=>cw aa val f s' k at_
    else if (aF s.b.ah c.eO).av<bR val s.b c.read then
     some ((if ax k then {s with b:=cE s.b (aC s.b.ah s.b.ab k) true} else s),true)
    else cw aa val f s k (at_+1)
noncomputable def fQ(aa:List aA) (val:Key→ByteArray):Nat→ES→Key→List Key→List ByteArray→Option ES
 | 0,_,_,_,_=>none
 | f+1,s,k,reads,ae=>
  if s.e≠0 then some s
  else if (aL aa k ae).done then
   (if !(aH s.b.ah k).isSome && decide (4000≤s.b.ah.length) then some {s with e:=45}
   else some {s with b:={s.b with ah:=fb s.b.ah (cP s.b k (aL aa k ae).value reads)},bM:=s.bM++[k]})
  else (kB aa val f s (aL aa k ae).ask).bind fun s'=>
   if s'.e=0 then fQ aa val f s' k (reads++[(aL aa k ae).ask]) (ae++[da val s'.b (aL aa k ae).ask]) else fQ aa val f s' k reads ae
end
/-! ### a solver, as one thing -/
def As.ja(P:Program) (ST:Nat) (aa:List aA) (x:cA) (D:SD):As where
 fp y:=y=D.s∨y=D.m
 ok Z w:=D.s≠D.m∧cC w D.s ST (D.cells x)∧(∃ml,aY aa x.ad ml∧KM Key.val w D.m ml)∧(D.F P aa x).p Z w
 lt:=fun⟨_,h1,⟨_,_,h2⟩,_⟩ y hy=>by rcases hy with rfl | rfl;exact h1.lt;exact h2.lt
 mono hZ:=fun⟨h0,h1,h2,h3⟩=>⟨h0,h1,h2,(D.F P aa x).mono hZ h3⟩
 st:=fun hs hc ⟨h0,h1,⟨ml,h2,h3⟩,h4⟩=>⟨h0,(As.blk D.s ST (D.cells x)).st (Z:=fun _=>False) hs (fun y hy hl=>hc y (.inl (.inl (by rcases hy with hy | hy;exact hy;exact hy.elim))) hl) h1,
  ⟨ml,h2,(As.map Key.val D.m ml).st (Z:=fun _=>False) hs (fun y hy hl=>hc y (.inl (.inr (by rcases hy with hy | hy;exact hy;exact hy.elim))) hl) h3⟩,(D.F P aa x).st hs (fun y hy hl=>hc y (.inr hy) hl) h4⟩
section
variable {w0 w w':World}{M Z:Nat→Prop}{l:List As}{A B C:As}
theorem St.split(h:St w0 M Z w (C::l)) (m:A.ok Z w) (o:B.ok Z w) (i:∀x,A.fp x→C.fp x) (j:∀x,B.fp x→C.fp x) (p:∀x,A.fp x→¬B.fp x):St w0 M Z w (A::B::l):=by
 obtain⟨q,r⟩:=List.pairwise_cons.1 h.vA;refine⟨h.bT,h.j4,?_,?_,?_,?_⟩
 ·
  intro D b x e f;simp only [List.mem_cons] at b
  rcases b with rfl | rfl | b
  ·
   exact h.oX C (by simp) x (i x e) f
  ·
   exact h.oX C (by simp) x (j x e) f
  exact h.oX D (by simp [b]) x e f
 ·
  intro D b x e;simp only [List.mem_cons] at b
  rcases b with rfl | rfl | b
  ·
   exact h.qU C (by simp) x (i x e)
  ·
   exact h.qU C (by simp) x (j x e)
  exact h.qU D (by simp [b]) x e
 ·
  simp_all
 intro D b;simp only [List.mem_cons] at b
 rcases b with rfl | rfl | b
 ·
  exact m
 ·
  exact o
 exact h.ok D (by simp [b])
theorem St.join(h:St w0 M Z w (A::B::l)) (j:C.ok Z w) (i:∀x,C.fp x→A.fp x∨B.fp x):St w0 M Z w (C::l):=by
 obtain⟨o,m⟩:=List.pairwise_cons.1 h.vA;obtain⟨p,q⟩:=List.pairwise_cons.1 m;refine⟨h.bT,h.j4,?_,?_,?_,?_⟩
 ·
  intro D b x e f;simp only [List.mem_cons] at b
  rcases b with rfl | b
  ·
   rcases i x e with h1 | h1
   ·
    exact h.oX A (by simp) x h1 f
   exact h.oX B (by simp) x h1 f
  exact h.oX D (by simp [b]) x e f
 ·
  intro D b x e;simp only [List.mem_cons] at b
  rcases b with rfl | b
  ·
   rcases i x e with h1 | h1
   ·
    exact h.qU A (by simp) x h1
   exact h.qU B (by simp) x h1
  exact h.qU D (by simp [b]) x e
 ·
  grind [List.pairwise_cons]
 intro D b;simp only [List.mem_cons] at b
 rcases b with rfl | b
 ·
  exact j
 exact h.ok D (by simp [b])
theorem St.one(h:St w0 M Z w l) (e:A∈l):St w (nJ [A]) Z w [A] where
 bT:=fN.refl _ _
 j4:=h.j4
 oX D b:=by simp at b;subst b;exact h.oX _ e
 qU D b x f:=.inl ⟨D,b,f⟩
 vA:=by simp
 ok D b:=by simp at b;subst b;exact h.ok _ e
theorem St.wW(h:St w0 M Z w l) (f:A∈l) (b:St w (nJ [A]) Z w' [A]):St w0 M Z w' l:=
 h.same f (b.bT.mono fun x _ ⟨D,e,i⟩=>by simp at e;subst e;exact i) (b.ok A (by simp))
theorem Eg(f:A∈l) {x:Nat}(b:nJ [A] x):nJ l x:=by obtain⟨D,e,b⟩:=b;simp at e;subst e;exact⟨D,f,b⟩
end
theorem As.gv{P:Program}{ST:Nat}{aa:List aA}{x:cA}{D:SD}{Z:Nat→Prop}{w:World}(h:(As.ja P ST aa x D).ok Z w):(D.F P aa x).p Z w:=h.2.2.2
theorem As.gvb{P:Program}{ST:Nat}{aa:List aA}{x:cA}{D:SD}{Z:Nat→Prop}{w:World}(h:(As.ja P ST aa x D).ok Z w):cC w D.s ST (D.cells x):=h.2.1
structure EA where
 (a1 a2 a3:Option Addr) (n1 c1 n2 c2 n3 c3:Nat)
def EA.cells(E:EA) (sb bb:Nat) (s:ES):List Value:=
 [.pointer (some ⟨sb,0,none⟩),.int .i64 s.b.ab,.slice E.a1 E.n1 E.c1,.slice E.a2 E.n2 E.c2,.map (some bb),.slice E.a3 E.n3 E.c3,.int .i64 s.e]
theorem CB{x:cA}{group:List Key}{bJ:Bool}{i:Nat}(h:i<x.ah.length) (hi:i≤x.ah.length):(((x.ah.take i).map (bC x.ab group bJ))++x.ah.drop i).set i (bC x.ab group bJ x.ah[i])=((x.ah.take (i+1)).map (bC x.ab group bJ))++x.ah.drop (i+1):=by
 rw [List.set_append_right _ _ (by simp;omega)];simp only [List.length_map,List.length_take,Nat.min_eq_left hi,Nat.sub_self]
 grind [List.drop_eq_getElem_cons]
end Go.Rc

namespace Go.Rc
open Go
structure Good (aa:List aA) (az:List bU) (s:ES):Prop where
 az:s.b.ad=az
 len:s.b.ah.length≤4000
 key:∀r∈s.b.ah,eu aa r.key
 B6:∀r∈s.b.ah,r.reads.length≤4000∧∀a∈r.reads,eu aa a
 j6:(s.busy.map (·.1)).Nodup
 busy:∀k,bq s.busy k=none∨bq s.busy k=some (.bool true)
structure Eh (s s':ES):Prop where
 bM:s.bM.length≤s'.bM.length
 rev:s'.b.ab=s.b.ab
theorem Eh.refl(s:ES):Eh s s:=⟨Nat.le_refl _,rfl⟩
theorem Eh.trans{s t u:ES}(h:Eh s t) (b:Eh t u):Eh s u:=⟨Nat.le_trans h.bM b.bM,b.rev.trans h.rev⟩
section
variable {aa:List aA}{az:List bU}{s:ES}{k:Key}
theorem Good.on(h:Good aa az s) (k:Key):Good aa az {s with busy:=cO s.busy k (.bool true)}:=
 {h with j6:=ik h.j6 _ _,busy:=fun k'=>by show bq (cO s.busy k (.bool true)) k'=none∨_;rw [ey];split;exact .inr rfl;exact h.busy k'}
theorem Good.off(h:Good aa az s) (k:Key):Good aa az {s with busy:=hU s.busy k}:=
 {h with j6:=by grind [Hh,j6],busy:=fun k'=>by show bq (hU s.busy k) k'=none∨_;rw [zA h.j6];split;exact .inl rfl;exact h.busy k'}
theorem Good.err(h:Good aa az s) (e:Int):Good aa az {s with e:=e}:={h with}
theorem cz(rev:Int) (g:List Key) (d:Bool) (r:Rec):(bC rev g d r).key=r.key∧(bC rev g d r).reads=r.reads:=by unfold bC;grind
theorem Good.mark(h:Good aa az s) (g:List Key) (d:Bool):Good aa az {s with b:=cE s.b g d}:=
 {h with
  len:=by show((s.b.ah.map _).length≤4000);rw [List.length_map];exact h.len
  key:=fun r hr=>by obtain⟨q,e,rfl⟩:=List.mem_map.1 hr;rw [(cz _ _ _ q).1];exact h.key q e
  B6:=fun r hr=>by obtain⟨q,e,rfl⟩:=List.mem_map.1 hr;rw [(cz _ _ _ q).2];exact h.B6 q e}
theorem Eh.mark(g:List Key) (d:Bool):Eh s {s with b:=cE s.b g d}:=⟨Nat.le_refl _,rfl⟩
theorem fD(r:Rec):∀(l:List Rec) (b:Bool) (x:Rec),x∈eL r l b→x=r∨x∈l:=by
 intro l
 induction l with
 | nil=>grind [eL]
 | cons y e f=>grind [eL]
theorem Ab(r:Rec):∀(l:List Rec) (b:Bool),(eL r l b).length+(l.filter fun x=>decide (bp x.key r.key=0)).length=l.length+(if b then 0 else 1):=by
 intro l
 induction l with
 | nil=>intro b;cases b <;> simp [eL]
 | cons y f e=>
  intro b;have h1:=e (b || decide (0≤bp y.key r.key));simp only [eL,List.length_append,List.length_cons]
  grind
theorem HF{l:List Rec}{r:Rec}(h:(aH l r.key).isSome=true) (hc:bp r.key r.key=0):(fb l r).length≤l.length:=by
 have h1:=Ab r l false;obtain⟨x,b⟩:=Option.isSome_iff_exists.1 h;have f:=List.mem_of_find?_eq_some b;have e:=List.find?_some b
 simp at e
 have i:0<(l.filter fun x=>decide (bp x.key r.key=0)).length:=List.length_pos_of_mem (List.mem_filter.2 ⟨f,by rw [e];simp [hc]⟩)
 unfold fb
 simp at h1
 omega
theorem wX:∀l:List UInt8,Lib.compareBytes l l=0
 | []=>by simp [Lib.compareBytes]
 | a::r=>by simp [Lib.compareBytes,wX r]
theorem gL(k:Key):bp k k=0:=by unfold bp;simp [wX]
theorem Good.put(h:Good aa az s) {r:Rec}{bM:List Key}(hk:eu aa r.key) (hr:r.reads.length≤4000∧∀a∈r.reads,eu aa a) (f:(!(aH s.b.ah r.key).isSome && decide (4000≤s.b.ah.length))=false) :
  Good aa az {s with b:={s.b with ah:=fb s.b.ah r},bM:=bM}:=
 {h with
  len:=by grind [fb,len,HF,gL,pU]
  key:=fun x e=>by rcases fD r _ _ x e with rfl | e;exact hk;exact h.key x e
  B6:=fun x e=>by rcases fD r _ _ x e with rfl | e;exact hr;exact h.B6 x e}
def gj(aa:List aA) (k:Key) (n:Nat):Prop:=∃i,i<aa.length∧k=aD aa (i:Int)∧n≤bZ aa i
theorem eu.gy(h:eu aa k) (hi:aB k=false):gj aa k 0:=by
 cases h with
 | cell h=>grind [bf]
 | dp h gD=>exact⟨_,h,rfl,Nat.zero_le _⟩
theorem gj.next(b:aq aa) {ae:List ByteArray}(h:gj aa k ae.length) (f:(aL aa k ae).done=false):gj aa k (ae.length+1)∧eu aa (aL aa k ae).ask:=by
 obtain⟨i,hi,rfl,hn⟩:=h
 have gD:i≤99:=by have:=b.len;omega
 rw [eB hi gD] at f ⊢
 rcases Nat.lt_or_ge ae.length (bZ aa i) with e | m
 ·
  obtain⟨a,h1,j,_⟩:=dd b hi e;rw [h1];exact⟨⟨i,hi,rfl,e⟩,j.tm b⟩
 grind [fx]
theorem gj.le(b:aq aa) {n:Nat}(h:gj aa k n):n≤6:=by obtain⟨i,hi,_,hn⟩:=h;have:=jL b hi;omega
theorem gj.not(b:aq aa) {n:Nat}(h:gj aa k n):cZ k∧aB k=false:=by
 obtain⟨i,hi,rfl,hn⟩:=h;grind [aq.len,eW,cM]
theorem gj.tm(b:aq aa) {n:Nat}(h:gj aa k n):eu aa k:=by obtain⟨i,hi,rfl,_⟩:=h;have:=b.len;exact .dp hi (by omega)
end
section
variable {aa:List aA}{val:Key→ByteArray}{az:List bU}
def UpG(aa:List aA) (val:Key→ByteArray) (az:List bU) (f:Nat):Prop:=∀s k s',kB aa val f s k=some s'→Good aa az s→eu aa k→Good aa az s'∧Eh s s'
def ChG(aa:List aA) (val:Key→ByteArray) (az:List bU) (f:Nat):Prop:=∀s k n s' b,cw aa val f s k n=some (s',b)→Good aa az s→Good aa az s'∧Eh s s'
def RuG(aa:List aA) (val:Key→ByteArray) (az:List bU) (f:Nat):Prop:=∀s k reads ae s',fQ aa val f s k reads ae=some s'→Good aa az s→gj aa k ae.length→reads.length=ae.length→(∀a∈reads,eu aa a)→Good aa az s'∧Eh s s'
theorem fy{aa:List aA}{az:List bU}{s:ES}(h:Good aa az s) {group:List Key}{n:Nat}{c:vx}(hc:(ct s.b.ah group)[n]?=some c):eu aa c.read:=by
 have h1:=List.mem_of_getElem? hc;obtain⟨m,hm,i⟩:=List.mem_flatMap.1 h1;obtain⟨a,j,rfl⟩:=List.mem_map.1 i;have e:=(List.mem_filter.1 j).1
 show eu aa a
 unfold aF at e
 cases f:aH s.b.ah m with
 | none=>rw [f] at e;simp [zG] at e
 | some r=>rw [f] at e;exact(h.B6 r (List.mem_of_find?_eq_some f)).2 a e
theorem ou(l:List Rec) (rev:Int) (k:Key):(aC l rev k).length≤l.length+1:=by grind [aC,wV,ot]
theorem xX{aa:List aA}{az:List bU}{s:ES}(h:Good aa az s) {group:List Key}(f:group.length≤4001):∀i,((group.take i).flatMap fun m=>dZ group m (aF s.b.ah m).reads).length≤100000000:=by
 intro i
 have h1:∀l:List Key,(l.flatMap fun m=>dZ group m (aF s.b.ah m).reads).length≤l.length*4000:=by
  intro l
  induction l with
  | nil=>simp
  | cons m r j=>
   simp only [List.flatMap_cons,List.length_append,List.length_cons];have o:=o7 group m (aF s.b.ah m).reads
   have p:(aF s.b.ah m).reads.length≤4000:=by
    unfold aF
    cases e:aH s.b.ah m with
    | none=>simp [zG]
    | some r=>exact(h.B6 r (List.mem_of_find?_eq_some e)).1
   rw [Nat.add_mul]
   omega
 grind
theorem xY{aa:List aA}{az:List bU}{s:ES}(h:Good aa az s) {group:List Key}(e:group.length≤4001):(ct s.b.ah group).length≤100000000:=by
 have h1:=xX h e group.length;rw [List.take_of_length_le (Nat.le_refl _)] at h1;exact h1
theorem bS(q:aq aa):∀f,UpG aa val az f∧ChG aa val az f∧RuG aa val az f:=by
 intro f
 induction f with
 | zero=>exact⟨fun s k s' h=>by simp [kB] at h,fun s k n s' b h=>by simp [cw] at h,fun s k r a s' h=>by simp [fQ] at h⟩
 | succ f H=>
  obtain⟨F,u,z⟩:=H;refine⟨?_,?_,?_⟩
  ·
   intro s k s' h e hk
   unfold kB at h
   split at h
   ·
    cases h;exact⟨e,.refl _⟩
   rename_i he
   split at h
   ·
    cases h;exact⟨e,.refl _⟩
   split at h
   ·
    split at h <;> cases h
    ·
     exact⟨e,.refl _⟩
    exact⟨e.err _,⟨Nat.le_refl _,rfl⟩⟩
   obtain⟨p,I,h⟩:=Option.bind_eq_some_iff.1 h;obtain⟨t,ht,h⟩:=Option.bind_eq_some_iff.1 h
   cases h
   obtain⟨h1,m⟩:=u _ _ _ p.1 p.2 (by rw [I]) (e.on k);have G:Eh s p.1:=⟨m.bM,m.rev⟩
   have i:Good aa az t∧Eh s t:=by
    split at ht
    ·
     obtain⟨j,J⟩:=z _ _ _ _ _ ht h1 (hk.gy (by simp at he;exact he.2)) rfl (fun a o=>by cases o);exact⟨j,G.trans J⟩
    cases ht;exact⟨h1,G⟩
   exact⟨i.1.off k,⟨i.2.bM,i.2.rev⟩⟩
  ·
   intro s k n s' b h e
   unfold cw at h
   split at h
   ·
    cases h;exact⟨e,.refl _⟩
   split at h
   ·
    cases h;exact⟨e,.refl _⟩
   split at h
   ·
    cases h;exact⟨e,.refl _⟩
   split at h
   ·
    cases h;exact⟨e.mark _ _,.mark _ _⟩
   rename_i c hc
   split at h
   ·
    obtain⟨t,ht,h⟩:=Option.bind_eq_some_iff.1 h;obtain⟨h1,m⟩:=F _ _ _ ht e (fy e hc);obtain⟨i,j⟩:=u _ _ _ _ _ h h1;exact⟨i,m.trans j⟩
   split at h
   ·
    split at h <;> cases h
    ·
     exact⟨e.mark _ _,.mark _ _⟩
    exact⟨e,.refl _⟩
   exact u _ _ _ _ _ h e
  intro s k reads ae s' h e o hl hr
  unfold fQ at h
  split at h
  ·
   cases h;exact⟨e,.refl _⟩
  split at h
  ·
   split at h
   ·
    cases h;exact⟨e.err _,⟨Nat.le_refl _,rfl⟩⟩
   rename_i j
   cases h
   have N:=o.le q;exact⟨e.put (r:=cP s.b k (aL aa k ae).value reads) (o.tm q) ⟨by show reads.length≤4000;omega,hr⟩ (by show(!(aH s.b.ah k).isSome && _)=false;simpa using j),⟨by simp,rfl⟩⟩
  rename_i L
  obtain⟨t,ht,h⟩:=Option.bind_eq_some_iff.1 h;have hn:=o.next q (by simpa using L);obtain⟨h1,m⟩:=F _ _ _ ht e hn.2
  split at h
  ·
   obtain⟨i,j⟩:=z _ _ _ _ _ h h1 (by simpa using hn.1) (by simp [hl]) (fun a o=>by grind);exact⟨i,m.trans j⟩
  obtain⟨i,j⟩:=z _ _ _ _ _ h h1 o hl hr;exact⟨i,m.trans j⟩
end
end Go.Rc

