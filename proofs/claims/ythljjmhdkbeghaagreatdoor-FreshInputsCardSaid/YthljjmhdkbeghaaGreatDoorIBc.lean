/- Base of the proof: frames, memory, ownership, and the plain meaning of rule systems. Conditions: as each lemma says. -/
import Derived.Test.YthljjmhdkbeghaaGreatDoorIBb
import Derived.Shelf.Small.Strs
set_option linter.unusedVariables false
set_option linter.unusedSimpArgs false
set_option linter.unusedSectionVars false
namespace Go.Rc
open Go
def isInput (k:Key):Bool:=decide (k.kind=1) || (decide (k.kind=2) || decide (k.kind=30))
def isCyc22 (n:Int):Bool:=decide (n=7) || (decide (n=14) || (decide (n=17) || decide (n=18)))
def isCyclic (k:Key):Bool:=decide (k.kind=32) || (decide (1≤k.kind) && decide (k.kind≤22) && isCyc22 k.kind)
def decFrom (s:List UInt8) (n:Int):Int:=match s with
 | []=>n
 | c::r=>if c.toNat<48∨57<c.toNat then -1 else decFrom r (10*n+((c.toNat:Int) - 48))
def decimal (s:ByteArray):Int:=
 if s.size=0∨9<s.size∨(s.data.toList.head?=some 48∧s.size≠1) then -1 else decFrom s.data.toList 0
def number (k:Key):Int:=if 30≤k.kind∧k.kind≤32∧decimal k.text≤99 then decimal k.text else -1
def validK (k:Key):Bool:=
 if 30≤k.kind∧k.kind≤32 then decide (0≤number k)
 else decide (1≤k.kind∧k.kind≤22∧k.text.size≤1073741824∧(k.text=⟨#[]⟩∨(k.kind≠1∧k.kind≠21)))
def noKey:Key:=⟨0,⟨#[]⟩⟩
def cellK (n:Int):Key:=if n<0∨99<n then noKey else ⟨30,itoa n⟩
def ofK (rules:List Rule) (n:Int):Key:=if n<0∨(rules.length:Int)≤n∨99<n then noKey else ⟨if ringAt rules n.toNat then 32 else 31,itoa n⟩
def cmpK (a b:Key):Int:=if a.kind<b.kind then -1 else if b.kind<a.kind then 1 else Lib.compareBytes a.text.data.toList b.text.data.toList
end Go.Rc
namespace Go.Rc
open Go
theorem bytes_nil (s:ByteArray):s=⟨#[]⟩↔s.size=0:=by
 constructor
 ·
  rintro rfl;rfl
 intro h;obtain ⟨d⟩:=s;simp [ByteArray.size] at h;simp [h]
def decBad (s:ByteArray):Bool:=decide (s=⟨#[]⟩) || (decide (9<(s.size:Int)) || (decide (((s.data.toList.head?.map (·.toNat)).getD 0:Int)=48) && decide (s≠⟨#[48]⟩)))
theorem bytes_first (s:ByteArray) (h:0<s.size):∃b,s[0]?=some b∧((s.data.toList.head?.map (·.toNat)).getD 0:Int)=(b.toNat:Int):=by
 obtain ⟨⟨l⟩⟩:=s
 cases l with
 | nil=>simp [ByteArray.size] at h
 | cons b r=>exact ⟨b,rfl,by simp⟩
theorem bytes_zero (s:ByteArray):s=⟨#[48]⟩↔s.data.toList.head?=some 48∧s.size=1:=by
 obtain ⟨⟨l⟩⟩:=s
 cases l with
 | nil=>simp
 | cons b r=>
  cases r with
  | nil=>simp [ByteArray.size]
  | cons c r=>simp [ByteArray.size]
theorem decimal_bad (s:ByteArray):decimal s=if decBad s=true then -1 else decFrom s.data.toList 0:=by
 unfold decimal
 congr 1
 simp only [decBad,Bool.or_eq_true,Bool.and_eq_true,decide_eq_true_eq,bytes_nil];refine propext (or_congr_right (or_congr (by omega) ?_));rw [show (s≠⟨#[48]⟩) = ¬(s.data.toList.head?=some 48∧s.size=1) from by rw [ne_eq,bytes_zero]]
 cases h:s.data.toList.head? with
 | none=>simp
 | some b=>
  simp
  have:(b.toNat=48↔b=48):=by rw [← UInt8.toNat_inj];rfl
  constructor
  ·
   rintro ⟨rfl,h2⟩;exact ⟨by decide,fun _=>h2⟩
  rintro ⟨h1,h2⟩
  have hb:b=48:=by rw [← UInt8.toNat_inj];show b.toNat=48;omega
  exact ⟨hb,h2 hb⟩
theorem decBad_le {s:ByteArray} (h:decBad s=false):s.size≤9:=by
 simp [decBad] at h
 omega
theorem decFrom_step (s:ByteArray) {i:Nat} {n:Int} (h:i<s.size):∃b,s[i]?=some b∧decFrom (s.data.toList.drop i) n=if (b.toNat:Int)<48∨57<(b.toNat:Int) then -1 else decFrom (s.data.toList.drop (i+1)) (10*n+((b.toNat:Int) - 48)):=by
 have h':i<s.data.toList.length:=by rw [Array.length_toList];exact h
 refine ⟨s.data.toList[i],?_,?_⟩
 ·
  obtain ⟨⟨l⟩⟩:=s
  have e:(ByteArray.mk ⟨l⟩)[i]?=if h:i<(ByteArray.mk ⟨l⟩).size then some (ByteArray.mk ⟨l⟩)[i] else none:=rfl
  rw [e,dif_pos h]
  rfl
 rw [List.drop_eq_getElem_cons h'];simp only [decFrom]
 congr 1
 exact propext ⟨fun h=>by omega,fun h=>by omega⟩
theorem validK_lang (k:Key) (h:k.kind<30∨32<k.kind):validK k=(decide (1≤k.kind) && (decide (k.kind≤22) && (decide ((k.text.size:Int)≤1073741824) && (decide (k.text=⟨#[]⟩) || (decide (k.kind≠1) && decide (k.kind≠21)))))):=by
 unfold validK
 rw [if_neg (by omega),Bool.eq_iff_iff];simp only [decide_eq_true_eq,Bool.and_eq_true,Bool.or_eq_true]
 have:(k.text.size≤1073741824↔(k.text.size:Int)≤1073741824):=by omega
 rw [this]
end Go.Rc

namespace Go.Rc
open Go
instance:Inhabited Rule:=⟨⟨false,[],0,0⟩⟩
instance:Inhabited Ask:=⟨⟨false,false,0,0⟩⟩
def Ask.val (x:Ask):Value:=.agg #[.bool x.cell,.bool x.pick,.int .i64 x.n,.int .i64 x.els]
structure Turn where
 done:Bool
 value:ByteArray
 ask:Key
 deriving DecidableEq
def Turn.val (t:Turn):Value:=.agg #[.bool t.done,.string t.value,.int .i64 t.ask.kind,.string t.ask.text]
def mayTop (rules:List Rule) (i:Nat):Int:=if ringAt rules i then (block rules i).2 else (block rules i).1
def mayOk (rules:List Rule) (i:Nat) (cell:Bool) (n:Int):Bool:=
 if cell then decide (0≤n) && decide (n≤15) else decide (0≤n) && decide (n<mayTop rules i)
def valS (s:ByteArray):Nat:=if decimal s<0∨65535<decimal s then 0 else (decimal s).toNat
theorem valS_le (s:ByteArray):valS s≤65535:=by unfold valS;split <;> omega
def sumV (c:Nat) (l:List Nat):Nat:=l.foldl (· + ·) c
def mostV (c:Nat) (l:List Nat):Nat:=l.foldl max c
def bitsV (c:Nat) (l:List Nat):Nat:=l.foldl (· ||| ·) c
def finalV (kind:Int) (c:Nat) (l:List Nat):Nat:=
 if kind=1 then sumV c l % 1000 else if kind=2 then sumV c l / 2 % 1000 else if kind=3 then mostV c l else if kind=4 then sumV c l % 2 else bitsV c l
theorem foldl_take {f:Nat→Nat→Nat} {c:Nat} {l:List Nat} {i:Nat} (h:i<l.length):(l.take (i+1)).foldl f c=f ((l.take i).foldl f c) l[i]:=by
 rw [List.take_succ_eq_append_getElem h,List.foldl_append];rfl
theorem sumV_take {c:Nat} {l:List Nat} {i:Nat} (h:i<l.length):sumV c (l.take (i+1))=sumV c (l.take i)+l[i]:=foldl_take h
theorem mostV_take {c:Nat} {l:List Nat} {i:Nat} (h:i<l.length):mostV c (l.take (i+1))=max (mostV c (l.take i)) l[i]:=foldl_take h
theorem bitsV_take {c:Nat} {l:List Nat} {i:Nat} (h:i<l.length):bitsV c (l.take (i+1))=bitsV c (l.take i) ||| l[i]:=foldl_take h
theorem sumV_le {c:Nat}:∀{l:List Nat},(∀x∈l,x≤65535)→sumV c l≤c+65535*l.length:=by
 intro l
 induction l generalizing c with
 | nil=>simp [sumV]
 | cons x r ih=>
  intro h
  have h1:=ih (c:=c+x) fun y hy=>h y (by simp [hy])
  have h2:=h x (by simp);simp only [sumV,List.foldl_cons,List.length_cons] at h1 ⊢
  omega
theorem mostV_le {c:Nat}:∀{l:List Nat},c≤65535→(∀x∈l,x≤65535)→mostV c l≤65535:=by
 intro l
 induction l generalizing c with
 | nil=>intro h _;simpa [mostV] using h
 | cons x r ih=>
  intro h0 h;have h2:=h x (by simp)
  exact ih (c:=max c x) (by omega) fun y hy=>h y (by simp [hy])
theorem bitsV_le {c:Nat}:∀{l:List Nat},c≤65535→(∀x∈l,x≤65535)→bitsV c l≤65535:=by
 intro l
 induction l generalizing c with
 | nil=>intro h _;simpa [bitsV] using h
 | cons x r ih=>
  intro h0 h;have h2:=h x (by simp)
  refine ih (c:=c ||| x) ?_ fun y hy=>h y (by simp [hy])
  have:c ||| x<2 ^ 16:=Nat.or_lt_two_pow (by omega) (by omega)
  omega
theorem finalV_le {kind:Int} {c:Nat} {l:List Nat} (hc:c≤65535) (h:∀x∈l,x≤65535):finalV kind c l≤65535:=by
 unfold finalV
 have:=mostV_le hc h
 have:=bitsV_le hc h
 split
 ·
  omega
 split
 ·
  omega
 split
 ·
  omega
 split <;> omega
def turnV (rules:List Rule) (k:Key) (answers:List ByteArray):Turn:=
 if number k<0∨(rules.length:Int)≤number k∨ofK rules (number k)≠k then ⟨true,⟨#[]⟩,noKey⟩
 else
  let r:=rules[(number k).toNat]!
  if r.asks.length≤answers.length then ⟨true,itoa (finalV r.final r.c.toNat ((answers.take r.asks.length).map valS)),noKey⟩
  else
   let x:=r.asks[answers.length]!
   let to:=if x.pick=true∧(answers.length=0∨valS answers[answers.length - 1]! % 2=0) then x.els else x.n
   ⟨false,⟨#[]⟩,if x.cell then cellK to else ofK rules to⟩
def pickNow (x:Ask) (answers:List ByteArray):Bool:=x.pick && (decide (answers.length=0) || decide (valS answers[answers.length - 1]! % 2=0))
def toOf (x:Ask) (answers:List ByteArray):Int:=if pickNow x answers then x.els else x.n
theorem turnV_no {rules:List Rule} {k:Key} {answers:List ByteArray} (h:number k<0∨(rules.length:Int)≤number k∨ofK rules (number k)≠k):turnV rules k answers=⟨true,⟨#[]⟩,noKey⟩:=by
 unfold turnV;rw [if_pos h]
theorem turnV_end {rules:List Rule} {k:Key} {answers:List ByteArray} {i:Nat} (hk:number k=i) (hi:i<rules.length) (ho:ofK rules (number k)=k) (hn:rules[i].asks.length≤answers.length) :
  turnV rules k answers=⟨true,itoa (finalV rules[i].final rules[i].c.toNat ((answers.take rules[i].asks.length).map valS)),noKey⟩:=by
 unfold turnV
 rw [if_neg (by rw [ho];simp;omega)];simp only [hk,Int.toNat_natCast,getElem!_pos rules i hi];rw [if_pos hn]
theorem turnV_ask {rules:List Rule} {k:Key} {answers:List ByteArray} {i:Nat} (hk:number k=i) (hi:i<rules.length) (ho:ofK rules (number k)=k) (hn:answers.length<rules[i].asks.length) :
  turnV rules k answers=⟨false,⟨#[]⟩,if rules[i].asks[answers.length].cell then cellK (toOf rules[i].asks[answers.length] answers) else ofK rules (toOf rules[i].asks[answers.length] answers)⟩:=by
 unfold turnV
 rw [if_neg (by rw [ho];simp;omega)];simp only [hk,Int.toNat_natCast,getElem!_pos rules i hi,getElem!_pos rules[i].asks answers.length hn];rw [if_neg (by omega)];simp only [toOf,pickNow,Bool.and_eq_true,Bool.or_eq_true,decide_eq_true_eq]
def askOk (rules:List Rule) (i:Nat) (ring:Bool) (k:Nat) (x:Ask):Bool:=
 mayOk rules i x.cell x.n && (if x.pick then !ring && decide (k≠0) && mayOk rules i x.cell x.els else decide (x.els=0))
def endOk (r:Rule):Bool:=
 if r.ring then decide (r.final=5) && decide (0≤r.c) && decide (r.c≤65535) else decide (1≤r.final) && decide (r.final≤4) && decide (0≤r.c) && decide (r.c≤999)
def ruleOk (rules:List Rule) (i:Nat) (r:Rule):Prop:=r.asks.length≤6∧(∀k x,r.asks[k]?=some x→askOk rules i r.ring k x=true)∧endOk r=true
def rulesOk (rules:List Rule):Prop:=rules.length≤24∧∀i r,rules[i]?=some r→ruleOk rules i r
theorem PV.orN {P:Program} {kv:KV} {w:World} {T U ty:TypeId} {x y:Operand} {p q:Nat} (hx:ev kv x=some (.int .i64 (p:Int))) (hy:ev kv y=some (.int .i64 (q:Int))) (hp:p<2 ^ 62) (hq:q<2 ^ 62) :
  PV P (.binOp .or T x y U) ty kv w (.int .i64 ((p ||| q:Nat):Int)):=by
 refine ⟨rfl,by simp [known,opers,hx,hy],fun _ _ _ _=>run_binInt .or (by simp) _ ?_ hx hy⟩;have h:p ||| q<2 ^ 62:=Nat.or_lt_two_pow hp hq
 have e:((BitVec.ofInt (IntKind.bits .i64) (p:Int)) ||| (BitVec.ofInt (IntKind.bits .i64) (q:Int))).toNat=p ||| q:=by
  have hb:IntKind.bits .i64=64:=rfl;rw [BitVec.toNat_or,BitVec.ofInt_natCast,BitVec.ofInt_natCast,BitVec.toNat_ofNat,BitVec.toNat_ofNat,hb,Nat.mod_eq_of_lt (by omega),Nat.mod_eq_of_lt (by omega)]
 simp only [Op.intBits,e];rw [wrap_id (by omega) (by omega)]
 rfl
end Go.Rc

namespace Go.Rc
open Go
def IntsR (z:Int) (r:List Value):Prop:=r=[.int .i64 z]
def Ints (A:Nat→Prop) (w:World) (a:Option Addr) (n c:Nat) (l:List Int):Prop:=SR A w 1 IntsR a n c l
def Dice (A:Nat→Prop) (w:World) (E d:Nat):Prop:=
 ∃(l:List Int) (a:Option Addr) (n c:Nat) (at_:Nat),Blk w d E [.slice a n c,.int .i64 (at_:Int)]∧Ints A w a n c l∧n≤400∧at_≤400
variable {A:Nat→Prop} {w w':World} {E d:Nat}
theorem Dice.lt (h:Dice A w E d):d<w.heap.size:=by obtain ⟨_,_,_,_,_,h,_⟩:=h;exact h.lt
structure Change where
 key:Key
 value:ByteArray
def Change.cells (c:Change):List Value:=[.int .i64 c.key.kind,.string c.key.text,.string c.value]
def Change.small (c:Change):Prop:=(∃n:Int,0≤n∧n≤9∧c.key=cellK n)∧c.value.size≤100
end Go.Rc
namespace Go.Rc
open Go
def goalOk (rules:List Rule) (k:Key):Prop:=(∃n:Int,0≤n∧n≤3∧k=cellK n)∨∃i:Nat,i<rules.length∧k=ofK rules i
end Go.Rc

namespace Go.Rc
open Go
variable {E EK ER EI base:Nat} {w w':World} {a:Option Addr} {n c:Nat} {S:List Nat}
structure Rec where
 key:Key
 value:ByteArray
 reads:List Key
 changed:Int
 verified:Int
 cost:Int
 dirty:Bool
 deriving DecidableEq
instance:Inhabited Rec:=⟨⟨noKey,⟨#[]⟩,[],0,0,0,false⟩⟩
def noRec:Rec:=⟨noKey,⟨#[]⟩,[],0,0,0,false⟩
def Rec.row (x:Rec) (a:Option Addr) (n c:Nat):List Value:=[.int .i64 x.key.kind,.string x.key.text,.string x.value,.slice a n c,.int .i64 x.changed,.int .i64 x.verified,.int .i64 x.cost,.bool x.dirty]
structure Inp where
 key:Key
 value:ByteArray
 changed:Int
 deriving DecidableEq
def Inp.cells (x:Inp):List Value:=[.int .i64 x.key.kind,.string x.key.text,.string x.value,.int .i64 x.changed]
structure Bas where
 revision:Int
 inputs:List Inp
 recs:List Rec
 deriving DecidableEq
/-! the plain meaning -/
def findR (l:List Rec) (k:Key):Option Rec:=l.find? fun r=>r.key == k
def findI (l:List Inp) (k:Key):Inp:=(l.find? fun x=>x.key == k).getD ⟨k,⟨#[]⟩,0⟩
def dropR (l:List Rec) (k:Key):List Rec:=l.filter fun r=>!(r.key == k)
end Go.Rc
namespace Go.Rc
open Go
theorem find_before {α:Type} {p:α→Bool} {l:List α} {i:Nat} (hi:i<l.length) (hno:∀j x,j<i→l[j]?=some x→p x=false) (hp:p l[i]=true):l.find? p=some l[i]:=by
 induction l generalizing i with
 | nil=>simp at hi
 | cons y r ih=>
  cases i with
  | zero=>simp at hp;simp [hp]
  | succ i=>
   have h0:p y=false:=hno 0 y (by omega) rfl;rw [List.find?_cons,h0]
   simp at hp
   simpa using ih (i:=i) (by simpa using hi) (fun j x hj hx=>hno (j+1) x (by omega) (by simpa using hx)) hp
theorem find_all {α:Type} {p:α→Bool} {l:List α} {i:Nat} (hi:l.length≤i) (hno:∀j x,j<i→l[j]?=some x→p x=false):l.find? p=none:=by
 rw [List.find?_eq_none];intro x hx;obtain ⟨j,hj,rfl⟩:=List.mem_iff_getElem.1 hx
 simp [hno j _ (by omega) (List.getElem?_eq_getElem hj)]
theorem Rec.one (x:Rec) (a:Option Addr) (n c:Nat):∀u∈x.row a n c,u.oneCell'=true:=by simp [Rec.row,Value.oneCell']
end Go.Rc
namespace Go.Rc
theorem nns {l:List Go.Value} {j:Nat} {v:Go.Value} (h:nth l j=some v):nth l j≠none:=by rw [h];simp
end Go.Rc
namespace Go.Rc
open Go
def putGo (r:Rec):List Rec→Bool→List Rec
 | [],put=>if put then [] else [r]
 | x::xs,put=>(if decide (0≤cmpK x.key r.key) && !put then [r] else [])++(if cmpK x.key r.key=0 then [] else [x])++putGo r xs (put || decide (0≤cmpK x.key r.key))
def putR (l:List Rec) (r:Rec):List Rec:=putGo r l false
theorem putGo_len (r:Rec):∀(l:List Rec) (b:Bool),(putGo r l b).length≤l.length+1:=by
 intro l
 induction l with
 | nil=>intro b;cases b <;> simp [putGo]
 | cons x xs ih=>
  intro b;have h1:=ih (b || decide (0≤cmpK x.key r.key));simp only [putGo,List.length_append,List.length_cons]
  have h2:∀l:List Rec,(putGo r l true).length≤l.length:=by
   intro l
   induction l with
   | nil=>simp [putGo]
   | cons y ys ih2=>simp only [putGo,Bool.not_true,Bool.and_false,Bool.false_eq_true,if_false,Bool.true_or,List.length_append,List.length_cons,List.nil_append];split <;> simp <;> omega
  by_cases h:(decide (0≤cmpK x.key r.key) && !b)=true
  ·
   have hb:(b || decide (0≤cmpK x.key r.key))=true:=by simp at h;simp [h.1]
   rw [if_pos h,hb];have h3:=h2 xs
   split <;> simp <;> omega
  rw [if_neg h]
  split <;> simp <;> omega
theorem dropR_take {l:List Rec} {k:Key} {i:Nat} (h:i<l.length):dropR (l.take (i+1)) k=if l[i].key=k then dropR (l.take i) k else dropR (l.take i) k++[l[i]]:=by
 rw [List.take_succ_eq_append_getElem h];simp only [dropR,List.filter_append]
 by_cases e:l[i].key=k <;> simp [e]
theorem dropR_len (l:List Rec) (k:Key):(dropR l k).length≤l.length:=List.length_filter_le _ _
end Go.Rc
namespace Go.Rc
open Go
def recTail (x:Rec):Bool:=
 validK x.key && (!isInput x.key && (decide ((x.value.size:Int)≤1073741824) && (decide ((x.reads.length:Int)≤4000) && (decide (0≤x.changed) && (decide (x.changed≤x.verified) && (decide (x.verified≤1073741824) &&
  (decide (1≤x.cost) && (decide (x.cost≤1073741824) && (!x.dirty || isCyclic x.key)))))))))
def validRec (x:Rec):Bool:=x.reads.all validK && recTail x
def ordBad (l:List Rec) (i:Nat):Bool:=!validRec l[i]! || (decide (0<(i:Int)) && decide (0≤cmpK l[i - 1]!.key l[i]!.key))
def recOkAt (l:List Rec) (i:Nat) (x:Rec):Prop:=validRec x=true∧(0<i→cmpK l[i - 1]!.key x.key<0)
def recsOk (l:List Rec):Prop:=l.length≤4000∧∀i x,l[i]?=some x→recOkAt l i x
theorem ordBad_false {l:List Rec} {i:Nat} (hi:i<l.length):ordBad l i=false↔recOkAt l i l[i]:=by
 simp only [ordBad,recOkAt,getElem!_pos l i hi,Bool.or_eq_false_iff,Bool.and_eq_false_iff,decide_eq_false_iff_not,Bool.not_eq_false']
 constructor
 ·
  rintro ⟨h1,h2⟩;exact ⟨h1,fun h=>by rcases h2 with h2 | h2 <;> omega⟩
 rintro ⟨h1,h2⟩;refine ⟨h1,?_⟩
 by_cases h:0<i
 ·
  have:=h2 h;exact .inr (by omega)
 exact .inl (by omega)
end Go.Rc

namespace Go.Rc
open Go
structure ChgP (M:Nat→Prop) (w w':World):Prop where
 os:w'.os=w.os
 tape:w'.tape=w.tape
 output:w'.output=w.output
 size:w.heap.size≤w'.heap.size
 drawn:w.drawn≤w'.drawn
 block:∀k,k<w.heap.size→¬M k→w'.heap[k]?=w.heap[k]?
theorem Chg.p {S:List Nat} {w w':World} (h:Chg S w w'):ChgP (fun x=>x∈S) w w':=⟨h.os,h.tape,h.output,h.size,h.drawn,h.block⟩
theorem ChgP.chg {M:Nat→Prop} {w w':World} (h:ChgP M w w') (hM:∀x,M x→w.heap.size≤x):Chg [] w w':=
 ⟨h.os,h.tape,h.output,h.size,h.drawn,fun k hk _=>h.block k hk fun hm=>by have:=hM k hm;omega⟩
theorem ChgP.refl (M:Nat→Prop) (w:World):ChgP M w w:=⟨rfl,rfl,rfl,Nat.le_refl _,Nat.le_refl _,fun _ _ _=>rfl⟩
theorem ChgP.mono {M M':Nat→Prop} {w w':World} (h:ChgP M w w') (hM:∀x,x<w.heap.size→M x→M' x):ChgP M' w w':=⟨h.os,h.tape,h.output,h.size,h.drawn,fun k hk hn=>h.block k hk fun hm=>hn (hM k hk hm)⟩
structure As where
 fp:Nat→Prop
 ok:(Nat→Prop)→World→Prop
 lt:∀{Z w},ok Z w→∀x,fp x→x<w.heap.size
 mono:∀{Z Z':Nat→Prop} {w},(∀x,Z x→Z' x)→ok Z w→ok Z' w
 st:∀{Z:Nat→Prop} {w w':World},w.heap.size≤w'.heap.size→(∀x,fp x∨Z x→x<w.heap.size→w'.heap[x]?=w.heap[x]?)→ok Z w→ok Z w'
structure St (w0:World) (M Z:Nat→Prop) (w:World) (l:List As):Prop where
 chg:ChgP M w0 w
 zlt:∀x,Z x→x<w.heap.size
 zfp:∀A∈l,∀x,A.fp x→¬Z x
 org:∀A∈l,∀x,A.fp x→M x∨w0.heap.size≤x
 dis:l.Pairwise fun A B=>∀x,A.fp x→¬B.fp x
 ok:∀A∈l,A.ok Z w
structure Zle (n:Nat) (Z Z':Nat→Prop):Prop where
 up:∀x,Z x→Z' x
 new:∀x,Z' x→Z x∨n≤x
theorem Zle.refl (n:Nat) (Z:Nat→Prop):Zle n Z Z:=⟨fun _ h=>h,fun _ h=>.inl h⟩
theorem Zle.trans {n n':Nat} {Z Z' Z'':Nat→Prop} (h:Zle n Z Z') (k:Zle n' Z' Z'') (hn:n≤n'):Zle n Z Z'':=
 ⟨fun x hx=>k.up x (h.up x hx),fun x hx=>by rcases k.new x hx with h1 | h1;exact h.new x h1;exact .inr (Nat.le_trans hn h1)⟩
theorem Zle.le {n n':Nat} {Z Z':Nat→Prop} (h:Zle n Z Z') (hn:n'≤n):Zle n' Z Z':=⟨h.up,fun x hx=>by rcases h.new x hx with h1 | h1;exact .inl h1;exact .inr (Nat.le_trans hn h1)⟩
def fps (l:List As) (x:Nat):Prop:=∃A∈l,A.fp x
section
variable {w0 w w':World} {M Z Z':Nat→Prop} {l l0 l1 rest:List As} {A B:As}
theorem St.size (h:St w0 M Z w l):w0.heap.size≤w.heap.size:=h.chg.size
theorem St.start (hz:∀x,Z x→x<w.heap.size):St w M Z w []:=⟨ChgP.refl _ _,hz,by simp,by simp,.nil,by simp⟩
theorem St.perm {l':List As} (h:St w0 M Z w l) (hp:List.Perm l' l):St w0 M Z w l':=
 ⟨h.chg,h.zlt,fun A hA=>h.zfp A (hp.mem_iff.1 hA),fun A hA=>h.org A (hp.mem_iff.1 hA),
  h.dis.perm hp.symm (fun hab x hb ha=>hab x ha hb),fun A hA=>h.ok A (hp.mem_iff.1 hA)⟩
theorem St.enter (h:St w0 M Z w (l0++rest)):St w (fps l0) Z w l0:=
 ⟨ChgP.refl _ _,h.zlt,fun A hA=>h.zfp A (by simp [hA]),fun A hA x hx=>.inl ⟨A,hA,hx⟩,(List.pairwise_append.1 h.dis).1,fun A hA=>h.ok A (by simp [hA])⟩
theorem St.leave (h:St w0 M Z w (l0++rest)) (h':St w (fps l0) Z' w' l1) (hz:Zle w.heap.size Z Z'):St w0 M Z' w' (l1++rest):=by
 obtain ⟨hd1,hd2,hd3⟩:=List.pairwise_append.1 h.dis;have hM:∀x,fps l0 x→M x∨w0.heap.size≤x:=fun x ⟨A,hA,hx⟩=>h.org A (by simp [hA]) x hx;have hlt:∀A∈rest,∀x,A.fp x→x<w.heap.size:=fun A hA=>A.lt (h.ok A (by simp [hA]));have hfz:∀x,fps l0 x→¬Z x:=fun x ⟨A,hA,hx⟩=>h.zfp A (by simp [hA]) x hx;refine ⟨⟨h'.chg.os.trans h.chg.os,h'.chg.tape.trans h.chg.tape,h'.chg.output.trans h.chg.output,Nat.le_trans h.chg.size h'.chg.size,Nat.le_trans h.chg.drawn h'.chg.drawn,fun k hk hn=>?_⟩,h'.zlt,?_,?_,?_,?_⟩
 ·
  rw [h'.chg.block k (Nat.lt_of_lt_of_le hk h.chg.size) fun hf=>by rcases hM k hf with h1 | h1;exact hn h1;omega];exact h.chg.block k hk hn
 ·
  intro A hA x hx hzx
  rcases List.mem_append.1 hA with hA | hA
  ·
   exact h'.zfp A hA x hx hzx
  rcases hz.new x hzx with h1 | h1
  ·
   exact h.zfp A (by simp [hA]) x hx h1
  have:=hlt A hA x hx;omega
 ·
  intro A hA x hx
  rcases List.mem_append.1 hA with hA | hA
  ·
   rcases h'.org A hA x hx with h1 | h1
   ·
    exact hM x h1
   exact .inr (Nat.le_trans h.chg.size h1)
  exact h.org A (by simp [hA]) x hx
 ·
  refine List.pairwise_append.2 ⟨h'.dis,hd2,fun A hA B hB x hx hb=>?_⟩
  rcases h'.org A hA x hx with ⟨C,hC,h1⟩ | h1
  ·
   exact hd3 C hC B hB x h1 hb
  have:=hlt B hB x hb;omega
 intro A hA
 rcases List.mem_append.1 hA with hA | hA
 ·
  exact h'.ok A hA
 refine A.mono (Z:=Z) hz.up (A.st h'.chg.size (fun x hx hlx=>h'.chg.block x hlx fun ⟨C,hC,hc⟩=>?_) (h.ok A (by simp [hA])))
 rcases hx with hx | hx
 ·
  exact hd3 C hC A hA x hc hx
 exact hfz x ⟨C,hC,hc⟩ hx
theorem St.step (h:St w0 M Z w l) (s:Chg [] w w'):St w0 M Z w' l:=
 St.leave (l0:=[]) (l1:=[]) h ⟨s.p.mono (by simp),fun x hx=>Nat.lt_of_lt_of_le (h.zlt x hx) s.size,by simp,by simp,.nil,by simp⟩ (Zle.refl _ _)
theorem St.new (h:St w0 M Z w l) (s:Chg [] w w') (hok:B.ok Z w') (hfp:∀x,B.fp x→w.heap.size≤x):St w0 M Z w' (B::l):=
 St.leave (l0:=[]) (l1:=[B]) h ⟨s.p.mono (by simp),fun x hx=>Nat.lt_of_lt_of_le (h.zlt x hx) s.size,fun A hA x hx hz=>by simp at hA;subst hA;have:=hfp x hx;have:=h.zlt x hz;omega,
  fun A hA x hx=>by simp at hA;subst hA;exact .inr (hfp x hx),by simp,fun A hA=>by simp at hA;subst hA;exact hok⟩ (Zle.refl _ _)
theorem St.fact (h:St w0 M Z w l) (hok:B.ok Z w) (hfp:∀x,¬B.fp x):St w0 M Z w (B::l):=h.new (Chg.refl _ _) hok fun x hx=>absurd hx (hfp x)
theorem St.upd (h:St w0 M Z w (A::l)) (s:ChgP A.fp w w') (hok:B.ok Z w') (hfp:∀x,B.fp x→A.fp x∨w.heap.size≤x):St w0 M Z w' (B::l):=
 St.leave (l0:=[A]) (l1:=[B]) h ⟨s.mono fun x _ hx=>⟨A,by simp,hx⟩,fun x hx=>Nat.lt_of_lt_of_le (h.zlt x hx) s.size,fun C hC x hx hz=>by
   simp at hC;subst hC
   rcases hfp x hx with h1 | h1
   ·
    exact h.zfp A (by simp) x h1 hz
   have:=h.zlt x hz;omega,
  fun C hC x hx=>by
   simp at hC;subst hC
   rcases hfp x hx with h1 | h1
   ·
    exact .inl ⟨A,by simp,h1⟩
   exact .inr h1,by simp,fun C hC=>by simp at hC;subst hC;exact hok⟩ (Zle.refl _ _)
theorem St.freeze (h:St w0 M Z w (A::l)) (hok:B.ok (fun x=>Z x∨A.fp x) w) (hfp:∀x,¬B.fp x):St w0 M (fun x=>Z x∨A.fp x) w (B::l):=by
 refine ⟨h.chg,fun x hx=>?_,?_,?_,?_,?_⟩
 ·
  rcases hx with hx | hx
  ·
   exact h.zlt x hx
  exact A.lt (h.ok A (by simp)) x hx
 ·
  intro C hC x hx hz;simp only [List.mem_cons] at hC
  rcases hC with rfl | hC
  ·
   exact hfp x hx
  rcases hz with hz | hz
  ·
   exact h.zfp C (by simp [hC]) x hx hz
  exact (List.pairwise_cons.1 h.dis).1 C hC x hz hx
 ·
  intro C hC x hx;simp only [List.mem_cons] at hC
  rcases hC with rfl | hC
  ·
   exact absurd hx (hfp x)
  exact h.org C (by simp [hC]) x hx
 ·
  exact List.pairwise_cons.2 ⟨fun C _ x hx=>absurd hx (hfp x),(List.pairwise_cons.1 h.dis).2⟩
 intro C hC;simp only [List.mem_cons] at hC
 rcases hC with rfl | hC
 ·
  exact hok
 exact C.mono (fun x hx=>.inl hx) (h.ok C (by simp [hC]))
theorem St.drop (h:St w0 M Z w (A::l)):St w0 M Z w l:=
 ⟨h.chg,h.zlt,fun C hC=>h.zfp C (by simp [hC]),fun C hC=>h.org C (by simp [hC]),(List.pairwise_cons.1 h.dis).2,fun C hC=>h.ok C (by simp [hC])⟩
theorem St.conv (h:St w0 M Z w (A::l)) (hok:B.ok Z w) (hfp:∀x,B.fp x→A.fp x):St w0 M Z w (B::l):=h.upd (ChgP.refl _ _) hok fun x hx=>.inl (hfp x hx)
theorem St.weakM {M':Nat→Prop} (h:St w0 M Z w l) (hM:∀x,x<w0.heap.size→M x→M' x):St w0 M' Z w l:=
 ⟨h.chg.mono hM,h.zlt,h.zfp,fun A hA x hx=>by
  rcases h.org A hA x hx with h1 | h1
  ·
   rcases Nat.lt_or_ge x w0.heap.size with h2 | h2
   ·
    exact .inl (hM x h2 h1)
   exact .inr h2
  exact .inr h1,h.dis,h.ok⟩
theorem St.keep {l0:List As} (h:St w0 M Z w (l0++l)):St w0 M Z w l0:=⟨h.chg,h.zlt,fun C hC=>h.zfp C (by simp [hC]),fun C hC=>h.org C (by simp [hC]),(List.pairwise_append.1 h.dis).1,fun C hC=>h.ok C (by simp [hC])⟩
theorem St.k0 (h:St w0 M Z w l):St w0 M Z w []:=St.keep (l0:=[]) h
theorem St.k1 {A0:As} (h:St w0 M Z w (A0::l)):St w0 M Z w [A0]:=St.keep (l0:=[A0]) h
theorem St.k2 {A0 A1:As} (h:St w0 M Z w (A0::A1::l)):St w0 M Z w [A0,A1]:=St.keep (l0:=[A0,A1]) h
theorem St.k3 {A0 A1 A2:As} (h:St w0 M Z w (A0::A1::A2::l)):St w0 M Z w [A0,A1,A2]:=St.keep (l0:=[A0,A1,A2]) h
theorem St.k4 {A0 A1 A2 A3:As} (h:St w0 M Z w (A0::A1::A2::A3::l)):St w0 M Z w [A0,A1,A2,A3]:=St.keep (l0:=[A0,A1,A2,A3]) h
theorem St.e0 (h:St w0 M Z w l):St w (fps []) Z w []:=St.enter (l0:=[]) h
theorem St.e1 {A0:As} (h:St w0 M Z w (A0::l)):St w (fps [A0]) Z w [A0]:=St.enter (l0:=[A0]) h
theorem St.e2 {A0 A1:As} (h:St w0 M Z w (A0::A1::l)):St w (fps [A0,A1]) Z w [A0,A1]:=St.enter (l0:=[A0,A1]) h
theorem St.e4 {A0 A1 A2 A3:As} (h:St w0 M Z w (A0::A1::A2::A3::l)):St w (fps [A0,A1,A2,A3]) Z w [A0,A1,A2,A3]:=St.enter (l0:=[A0,A1,A2,A3]) h
theorem St.g0 {A0:As} (h:St w0 M Z w (A0::l)):A0.ok Z w:=h.ok _ (by simp)
theorem St.g1 {A0 A1:As} (h:St w0 M Z w (A0::A1::l)):A1.ok Z w:=h.ok _ (by simp)
theorem St.g2 {A0 A1 A2:As} (h:St w0 M Z w (A0::A1::A2::l)):A2.ok Z w:=h.ok _ (by simp)
theorem St.g3 {A0 A1 A2 A3:As} (h:St w0 M Z w (A0::A1::A2::A3::l)):A3.ok Z w:=h.ok _ (by simp)
theorem St.g4 {A0 A1 A2 A3 A4:As} (h:St w0 M Z w (A0::A1::A2::A3::A4::l)):A4.ok Z w:=h.ok _ (by simp)
theorem St.g5 {A0 A1 A2 A3 A4 A5:As} (h:St w0 M Z w (A0::A1::A2::A3::A4::A5::l)):A5.ok Z w:=h.ok _ (by simp)
theorem St.g6 {A0 A1 A2 A3 A4 A5 A6:As} (h:St w0 M Z w (A0::A1::A2::A3::A4::A5::A6::l)):A6.ok Z w:=h.ok _ (by simp)
theorem St.g7 {A0 A1 A2 A3 A4 A5 A6 A7:As} (h:St w0 M Z w (A0::A1::A2::A3::A4::A5::A6::A7::l)):A7.ok Z w:=h.ok _ (by simp)
theorem St.g8 {A0 A1 A2 A3 A4 A5 A6 A7 A8:As} (h:St w0 M Z w (A0::A1::A2::A3::A4::A5::A6::A7::A8::l)):A8.ok Z w:=h.ok _ (by simp)
theorem St.g9 {A0 A1 A2 A3 A4 A5 A6 A7 A8 A9:As} (h:St w0 M Z w (A0::A1::A2::A3::A4::A5::A6::A7::A8::A9::l)):A9.ok Z w:=h.ok _ (by simp)
theorem St.g10 {A0 A1 A2 A3 A4 A5 A6 A7 A8 A9 A10:As} (h:St w0 M Z w (A0::A1::A2::A3::A4::A5::A6::A7::A8::A9::A10::l)):A10.ok Z w:=h.ok _ (by simp)
theorem St.g11 {A0 A1 A2 A3 A4 A5 A6 A7 A8 A9 A10 A11:As} (h:St w0 M Z w (A0::A1::A2::A3::A4::A5::A6::A7::A8::A9::A10::A11::l)):A11.ok Z w:=h.ok _ (by simp)
theorem St.g12 {A0 A1 A2 A3 A4 A5 A6 A7 A8 A9 A10 A11 A12:As} (h:St w0 M Z w (A0::A1::A2::A3::A4::A5::A6::A7::A8::A9::A10::A11::A12::l)):A12.ok Z w:=h.ok _ (by simp)
theorem St.g13 {A0 A1 A2 A3 A4 A5 A6 A7 A8 A9 A10 A11 A12 A13:As} (h:St w0 M Z w (A0::A1::A2::A3::A4::A5::A6::A7::A8::A9::A10::A11::A12::A13::l)):A13.ok Z w:=h.ok _ (by simp)
theorem St.g14 {A0 A1 A2 A3 A4 A5 A6 A7 A8 A9 A10 A11 A12 A13 A14:As} (h:St w0 M Z w (A0::A1::A2::A3::A4::A5::A6::A7::A8::A9::A10::A11::A12::A13::A14::l)):A14.ok Z w:=h.ok _ (by simp)
theorem St.g15 {A0 A1 A2 A3 A4 A5 A6 A7 A8 A9 A10 A11 A12 A13 A14 A15:As} (h:St w0 M Z w (A0::A1::A2::A3::A4::A5::A6::A7::A8::A9::A10::A11::A12::A13::A14::A15::l)):A15.ok Z w:=h.ok _ (by simp)
theorem St.p1 {A0 A1:As} (h:St w0 M Z w (A0::A1::l)):St w0 M Z w (A1::A0::l):=h.perm (List.perm_middle (l₁:=[A0])).symm
theorem St.p2 {A0 A1 A2:As} (h:St w0 M Z w (A0::A1::A2::l)):St w0 M Z w (A2::A0::A1::l):=h.perm (List.perm_middle (l₁:=[A0,A1])).symm
theorem St.p3 {A0 A1 A2 A3:As} (h:St w0 M Z w (A0::A1::A2::A3::l)):St w0 M Z w (A3::A0::A1::A2::l):=h.perm (List.perm_middle (l₁:=[A0,A1,A2])).symm
theorem St.p4 {A0 A1 A2 A3 A4:As} (h:St w0 M Z w (A0::A1::A2::A3::A4::l)):St w0 M Z w (A4::A0::A1::A2::A3::l):=h.perm (List.perm_middle (l₁:=[A0,A1,A2,A3])).symm
theorem St.p5 {A0 A1 A2 A3 A4 A5:As} (h:St w0 M Z w (A0::A1::A2::A3::A4::A5::l)):St w0 M Z w (A5::A0::A1::A2::A3::A4::l):=h.perm (List.perm_middle (l₁:=[A0,A1,A2,A3,A4])).symm
theorem St.p6 {A0 A1 A2 A3 A4 A5 A6:As} (h:St w0 M Z w (A0::A1::A2::A3::A4::A5::A6::l)):St w0 M Z w (A6::A0::A1::A2::A3::A4::A5::l):=h.perm (List.perm_middle (l₁:=[A0,A1,A2,A3,A4,A5])).symm
theorem St.p7 {A0 A1 A2 A3 A4 A5 A6 A7:As} (h:St w0 M Z w (A0::A1::A2::A3::A4::A5::A6::A7::l)):St w0 M Z w (A7::A0::A1::A2::A3::A4::A5::A6::l):=h.perm (List.perm_middle (l₁:=[A0,A1,A2,A3,A4,A5,A6])).symm
theorem St.p8 {A0 A1 A2 A3 A4 A5 A6 A7 A8:As} (h:St w0 M Z w (A0::A1::A2::A3::A4::A5::A6::A7::A8::l)):St w0 M Z w (A8::A0::A1::A2::A3::A4::A5::A6::A7::l):=h.perm (List.perm_middle (l₁:=[A0,A1,A2,A3,A4,A5,A6,A7])).symm
theorem St.p9 {A0 A1 A2 A3 A4 A5 A6 A7 A8 A9:As} (h:St w0 M Z w (A0::A1::A2::A3::A4::A5::A6::A7::A8::A9::l)):St w0 M Z w (A9::A0::A1::A2::A3::A4::A5::A6::A7::A8::l):=h.perm (List.perm_middle (l₁:=[A0,A1,A2,A3,A4,A5,A6,A7,A8])).symm
theorem St.p10 {A0 A1 A2 A3 A4 A5 A6 A7 A8 A9 A10:As} (h:St w0 M Z w (A0::A1::A2::A3::A4::A5::A6::A7::A8::A9::A10::l)):St w0 M Z w (A10::A0::A1::A2::A3::A4::A5::A6::A7::A8::A9::l):=h.perm (List.perm_middle (l₁:=[A0,A1,A2,A3,A4,A5,A6,A7,A8,A9])).symm
theorem St.p11 {A0 A1 A2 A3 A4 A5 A6 A7 A8 A9 A10 A11:As} (h:St w0 M Z w (A0::A1::A2::A3::A4::A5::A6::A7::A8::A9::A10::A11::l)):St w0 M Z w (A11::A0::A1::A2::A3::A4::A5::A6::A7::A8::A9::A10::l):=h.perm (List.perm_middle (l₁:=[A0,A1,A2,A3,A4,A5,A6,A7,A8,A9,A10])).symm
theorem St.p12 {A0 A1 A2 A3 A4 A5 A6 A7 A8 A9 A10 A11 A12:As} (h:St w0 M Z w (A0::A1::A2::A3::A4::A5::A6::A7::A8::A9::A10::A11::A12::l)):St w0 M Z w (A12::A0::A1::A2::A3::A4::A5::A6::A7::A8::A9::A10::A11::l):=h.perm (List.perm_middle (l₁:=[A0,A1,A2,A3,A4,A5,A6,A7,A8,A9,A10,A11])).symm
theorem St.p13 {A0 A1 A2 A3 A4 A5 A6 A7 A8 A9 A10 A11 A12 A13:As} (h:St w0 M Z w (A0::A1::A2::A3::A4::A5::A6::A7::A8::A9::A10::A11::A12::A13::l)):St w0 M Z w (A13::A0::A1::A2::A3::A4::A5::A6::A7::A8::A9::A10::A11::A12::l):=h.perm (List.perm_middle (l₁:=[A0,A1,A2,A3,A4,A5,A6,A7,A8,A9,A10,A11,A12])).symm
theorem St.p14 {A0 A1 A2 A3 A4 A5 A6 A7 A8 A9 A10 A11 A12 A13 A14:As} (h:St w0 M Z w (A0::A1::A2::A3::A4::A5::A6::A7::A8::A9::A10::A11::A12::A13::A14::l)):St w0 M Z w (A14::A0::A1::A2::A3::A4::A5::A6::A7::A8::A9::A10::A11::A12::A13::l):=h.perm (List.perm_middle (l₁:=[A0,A1,A2,A3,A4,A5,A6,A7,A8,A9,A10,A11,A12,A13])).symm
theorem St.p15 {A0 A1 A2 A3 A4 A5 A6 A7 A8 A9 A10 A11 A12 A13 A14 A15:As} (h:St w0 M Z w (A0::A1::A2::A3::A4::A5::A6::A7::A8::A9::A10::A11::A12::A13::A14::A15::l)):St w0 M Z w (A15::A0::A1::A2::A3::A4::A5::A6::A7::A8::A9::A10::A11::A12::A13::A14::l):=h.perm (List.perm_middle (l₁:=[A0,A1,A2,A3,A4,A5,A6,A7,A8,A9,A10,A11,A12,A13,A14])).symm
end
/-! what may be said -/
def As.blk (b T:Nat) (cs:List Value):As where
 fp x:=x=b
 ok _ w:=Blk w b T cs
 lt h x hx:=by subst hx;exact h.lt
 mono _ h:=h
 st hs hc h:=by
  have h':_=_:=h
  show _=_
  rw [hc b (.inl rfl) h.lt];exact h'
def As.map {κ:Type} (enc:κ→Value) (b:Nat) (l:List (κ × Value)):As where
 fp x:=x=b
 ok _ w:=KM enc w b l
 lt h x hx:=by subst hx;exact h.lt
 mono _ h:=h
 st hs hc h:=by
  have hl:=h.lt;obtain ⟨es,c,h1,h2⟩:=h;exact ⟨es,c,by rw [hc b (.inl rfl) hl];exact h1,h2⟩
structure RR (α:Type) where
 r:(Nat→Prop)→World→α→List Value→Prop
 mono:∀{Z Z':Nat→Prop} {w x row},(∀x,Z x→Z' x)→r Z w x row→r Z' w x row
 st:∀{Z:Nat→Prop} {w w':World} {x row},w.heap.size≤w'.heap.size→(∀x,Z x→x<w.heap.size→w'.heap[x]?=w.heap[x]?)→r Z w x row→r Z w' x row
 cut:∀{Z:Nat→Prop} {w:World} {x row},r Z w x row→r (fun b=>Z b∧b<w.heap.size) w x row
theorem SL.st {Z:Nat→Prop} {w w':World} {k n c:Nat} {a:Option Addr} {cs:List Value} (hs:w.heap.size≤w'.heap.size) (hc:∀x,Z x→x<w.heap.size→w'.heap[x]?=w.heap[x]?) (h:SL Z w k a n c cs):SL Z w' k a n c cs:=by
 refine ⟨h.len,h.le,h.one,?_⟩
 rcases h.at_ with h1 | ⟨b,o,h1,h2,h3,h4,h5,h6⟩
 ·
  exact .inl h1
 exact .inr ⟨b,o,h1,h2,h3,h4,Nat.lt_of_lt_of_le h5 hs,fun j v hv=>by rw [← h6 j v hv];exact World.cell?_of_block (a:=⟨b,o+j,none⟩) (hc b h4 h5)⟩
theorem SR.st {α:Type} {R R':α→List Value→Prop} {Z:Nat→Prop} {w w':World} {k n c:Nat} {a:Option Addr} {xs:List α} (hs:w.heap.size≤w'.heap.size) (hc:∀x,Z x→x<w.heap.size→w'.heap[x]?=w.heap[x]?) (hR:∀x r,R x r→R' x r)
  (h:SR Z w k R a n c xs):SR Z w' k R' a n c xs:=by
 obtain ⟨hn,rows,hl,hk,h1,hx⟩:=h;exact ⟨hn,rows,hl,hk,SL.st hs hc h1,fun i x r h1 h2=>hR x r (hx i x r h1 h2)⟩
def RR.flat {α:Type} (f:α→List Value):RR α:=⟨fun _ _ x row=>row=f x,fun _ h=>h,fun _ _ h=>h,fun h=>h⟩
def Rd {α:Type} (R:RR α) (k:Nat) (Z:Nat→Prop) (w:World) (a:Option Addr) (n c:Nat) (xs:List α):Prop:=SR Z w k (R.r Z w) a n c xs
theorem Rd.mono {α:Type} {R:RR α} {k:Nat} {Z Z':Nat→Prop} {w:World} {a:Option Addr} {n c:Nat} {xs:List α} (hZ:∀x,Z x→Z' x) (h:Rd R k Z w a n c xs):Rd R k Z' w a n c xs:=
 SR.mono h (fun b hb _=>hZ b hb) fun _ _=>R.mono hZ
theorem Rd.st {α:Type} {R:RR α} {k:Nat} {Z:Nat→Prop} {w w':World} {a:Option Addr} {n c:Nat} {xs:List α} (hs:w.heap.size≤w'.heap.size) (hc:∀x,Z x→x<w.heap.size→w'.heap[x]?=w.heap[x]?) (h:Rd R k Z w a n c xs):Rd R k Z w' a n c xs:=
 SR.st hs hc (fun _ _=>R.st hs hc) h
theorem Rd.len {α:Type} {R:RR α} {k:Nat} {Z:Nat→Prop} {w:World} {a:Option Addr} {n c:Nat} {xs:List α} (h:Rd R k Z w a n c xs):n=xs.length:=SR.len h
theorem Rd.le {α:Type} {R:RR α} {k:Nat} {Z:Nat→Prop} {w:World} {a:Option Addr} {n c:Nat} {xs:List α} (h:Rd R k Z w a n c xs):n≤140737488355328:=SR.le h
theorem Rd.at {α:Type} {R:RR α} {k:Nat} {Z:Nat→Prop} {w:World} {a:Option Addr} {n c:Nat} {xs:List α} (h:Rd R k Z w a n c xs) {i:Nat} (hi:i<xs.length) :
  ∃b o r,a=some ⟨b,o,none⟩∧r.length=k∧R.r Z w xs[i] r∧w.rangeAt b (o+i*k) r∧Z b:=SR.at h (List.getElem?_eq_getElem hi)
theorem Rd.ext {α:Type} {R:RR α} {k:Nat} {Z:Nat→Prop} {w w':World} {a:Option Addr} {n c:Nat} {xs:List α} (h:Rd R k Z w a n c xs) (s:Chg [] w w'):Rd R k Z w' a n c xs:=
 h.st s.size fun x _ hx=>s.block x hx (by simp)
theorem Rd.cut {α:Type} {R:RR α} {k:Nat} {Z:Nat→Prop} {w:World} {a:Option Addr} {n c:Nat} {xs:List α} (h:Rd R k Z w a n c xs):Rd R k (fun b=>Z b∧b<w.heap.size) w a n c xs:=
 SR.mono h (fun _ hb hlt=>⟨hb,hlt⟩) fun _ _ h=>R.cut h
theorem Rd.nil {α:Type} (R:RR α) (k:Nat) (Z:Nat→Prop) (w:World):Rd R k Z w none 0 0 []:=SR.nil _ _ _ _
def As.ro {α:Type} (R:RR α) (k:Nat) (a:Option Addr) (n c:Nat) (xs:List α):As where
 fp _:=False
 ok Z w:=Rd R k Z w a n c xs
 lt _ _ hx:=hx.elim
 mono hZ h:=Rd.mono hZ h
 st hs hc h:=Rd.st hs (fun x hx=>hc x (.inr hx)) h
def Ow {α:Type} (R:RR α) (E k:Nat) (Z:Nat→Prop) (w:World) (a:Option Addr) (n c:Nat) (xs:List α):Prop:=OR 0 w E k (R.r Z w) a n c xs
theorem OL.st {base:Nat} {w w':World} {E k n c:Nat} {a:Option Addr} {cs:List Value} (hc:∀x,x∈oblk a→x<w.heap.size→w'.heap[x]?=w.heap[x]?) (h:OL base w E k a n c cs):OL base w' E k a n c cs:=by
 refine ⟨h.1,h.2.1,?_⟩;have hlt:=h.lt
 rcases h.2.2 with hn | ⟨g,cap,cur,h1,h2,h3,rest⟩
 ·
  exact .inl hn
 simp at h1
 obtain ⟨rfl,rfl⟩:=h1;exact .inr ⟨g,c,cur,rfl,h2,by rw [hc g (by simp [oblk]) (hlt g (by simp [oblk]))];exact h3,rest⟩
def As.os {α:Type} (R:RR α) (E k:Nat) (a:Option Addr) (n c:Nat) (xs:List α):As where
 fp x:=x∈oblk a
 ok Z w:=Ow R E k Z w a n c xs
 lt h:=OR.lt h
 mono hZ h:=by
  obtain ⟨hn,rows,hl,hk,h1,hx⟩:=h;exact ⟨hn,rows,hl,hk,h1,fun i x r h1 h2=>R.mono hZ (hx i x r h1 h2)⟩
 st hs hc h:=by
  obtain ⟨hn,rows,hl,hk,h1,hx⟩:=h;exact ⟨hn,rows,hl,hk,OL.st (fun x hx=>hc x (.inl hx)) h1,fun i x r h1 h2=>R.st hs (fun x hx=>hc x (.inr hx)) (hx i x r h1 h2)⟩
theorem As.os_nil {α:Type} (R:RR α) (E k:Nat) (Z:Nat→Prop) (w:World):(As.os R E k none 0 0 []).ok Z w:=OR.nil _ _ _ _ _
theorem As.os_nofp {α:Type} (R:RR α) (E k n c:Nat) (xs:List α):∀x,¬(As.os R E k none n c xs).fp x:=fun x hx=>by simp [As.os,oblk] at hx
section
variable {w0 w w':World} {M Z Z':Nat→Prop} {l:List As} {α:Type} {R:RR α}
theorem St.newB (h:St w0 M Z w l) {b T:Nat} {cs:List Value} (nw:New w w' b) (hb:Blk w' b T cs):St w0 M Z w' (As.blk b T cs::l):=
 h.new nw.ext hb fun x hx=>by have h1:x=b:=hx;subst h1;exact nw.ge' (Chg.refl [] _)
theorem St.newM {κ:Type} {enc:κ→Value} (h:St w0 M Z w l) {b:Nat} {cs:List (κ × Value)} (nw:New w w' b) (hb:KM enc w' b cs):St w0 M Z w' (As.map enc b cs::l):=
 h.new nw.ext hb fun x hx=>by have h1:x=b:=hx;subst h1;exact nw.ge' (Chg.refl [] _)
theorem St.updB {b T T':Nat} {cs cs':List Value} (h:St w0 M Z w (As.blk b T cs::l)) (s:Chg [b] w w') (hb:Blk w' b T' cs'):St w0 M Z w' (As.blk b T' cs'::l):=
 h.upd (s.p.mono fun x _ hx=>by simpa [As.blk] using hx) hb fun x hx=>.inl hx
theorem St.updM {κ:Type} {enc:κ→Value} {b:Nat} {cs cs':List (κ × Value)} (h:St w0 M Z w (As.map enc b cs::l)) (s:Chg [b] w w') (hb:KM enc w' b cs'):St w0 M Z w' (As.map enc b cs'::l):=
 h.upd (s.p.mono fun x _ hx=>by simpa [As.map] using hx) hb fun x hx=>.inl hx
theorem St.newN (h:St w0 M Z w l) (R:RR α) (E k:Nat):St w0 M Z w (As.os R E k none 0 0 []::l):=h.fact (As.os_nil _ _ _ _ _) (As.os_nofp _ _ _ _ _ _)
theorem St.updS {E k n c n' c':Nat} {a a':Option Addr} {xs ys:List α} (h:St w0 M Z w (As.os R E k a n c xs::l)) (s:Chg (oblk a) w w') (ho:OR 0 w' E k (R.r Z w) a' n' c' ys) (hf:∀x∈oblk a',x∈oblk a∨w.heap.size≤x) :
  St w0 M Z w' (As.os R E k a' n' c' ys::l):=by
 refine h.upd (s.p.mono fun x _ hx=>hx) ?_ hf;obtain ⟨hn,rows,hl,hk,h1,hx⟩:=ho;refine ⟨hn,rows,hl,hk,h1,fun i x r h1 h2=>R.st s.size (fun x hz hlx=>?_) (hx i x r h1 h2)⟩
 exact s.block x hlx fun hm=>h.zfp (As.os R E k a n c xs) (by simp) x hm hz
theorem St.newS (h:St w0 M Z w l) {E k n c:Nat} {a:Option Addr} {xs:List α} (s:Chg [] w w') (ho:Ow R E k Z w' a n c xs) (hf:∀x∈oblk a,w.heap.size≤x):St w0 M Z w' (As.os R E k a n c xs::l):=h.new s ho hf
theorem Ow.rd {E k n c:Nat} {a:Option Addr} {xs:List α} (h:Ow R E k Z w a n c xs) (hle:xs.length≤140737488355328):Rd R k (fun x=>Z x∨x∈oblk a) w a n c xs:=by
 obtain ⟨hn,rows,hl,hk,h1,hx⟩:=h;refine ⟨hn,rows,hl,hk,?_,fun i x r h1 h2=>R.mono (fun _ h=>.inl h) (hx i x r h1 h2)⟩;have h3:=h1.sl (A:=fun _=>True) (fun _ _=>trivial) (by omega);refine ⟨h3.len,h3.le,h3.one,?_⟩
 rcases h3.at_ with h4 | ⟨b,o,h4,h5,h6,_,h8,h9⟩
 ·
  exact .inl h4
 exact .inr ⟨b,o,h4,h5,h6,.inr (by rw [h4];simp [oblk]),h8,h9⟩
theorem St.frzS {E k n c:Nat} {a:Option Addr} {xs:List α} (h:St w0 M Z w (As.os R E k a n c xs::l)) (hle:xs.length≤140737488355328):St w0 M (fun x=>Z x∨x∈oblk a) w (As.ro R k a n c xs::l):=
 h.freeze (A:=As.os R E k a n c xs) (B:=As.ro R k a n c xs) (Ow.rd (h.g0) hle) fun _ hx=>hx
theorem Zle.frz {n:Nat} {Z F:Nat→Prop} (h:∀x,F x→n≤x):Zle n Z (fun x=>Z x∨F x):=⟨fun _ h=>.inl h,fun x hx=>by rcases hx with h1 | h1;exact .inl h1;exact .inr (h x h1)⟩
theorem Ow.len {E k n c:Nat} {a:Option Addr} {xs:List α} (h:Ow R E k Z w a n c xs):n=xs.length:=OR.len h
theorem As.gb {b T:Nat} {cs:List Value} (h:(As.blk b T cs).ok Z w):Blk w b T cs:=h
theorem As.gm {κ:Type} {enc:κ→Value} {b:Nat} {cs:List (κ × Value)} (h:(As.map enc b cs).ok Z w):KM enc w b cs:=h
theorem As.gs {E k n c:Nat} {a:Option Addr} {xs:List α} (h:(As.os R E k a n c xs).ok Z w):Ow R E k Z w a n c xs:=h
theorem As.gr {k n c:Nat} {a:Option Addr} {xs:List α} (h:(As.ro R k a n c xs).ok Z w):Rd R k Z w a n c xs:=h
end
theorem Chg.p0 {M:Nat→Prop} {w w':World} (h:Chg [] w w'):ChgP M w w':=h.p.mono (by simp)
theorem St.cg {w0 w:World} {Z:Nat→Prop} {l:List As} (h:St w0 (fun _=>False) Z w l):Chg [] w0 w:=h.chg.chg (fun _ h=>h.elim)
theorem St.fplt {w0 w:World} {M Z:Nat→Prop} {l:List As} (h:St w0 M Z w l):∀x,fps l x→x<w.heap.size:=fun x ⟨A,hA,hx⟩=>A.lt (h.ok A hA) x hx
def As.rg (b o:Nat) (r:List Value):As where
 fp _:=False
 ok Z w:=Z b∧b<w.heap.size∧w.rangeAt b o r
 lt _ _ hx:=hx.elim
 mono hZ h:=⟨hZ _ h.1,h.2⟩
 st hs hc h:=⟨h.1,Nat.lt_of_lt_of_le h.2.1 hs,fun j v hv=>by rw [← h.2.2 j v hv];exact World.cell?_of_block (a:=⟨b,o+j,none⟩) (hc b (.inr h.1) h.2.1)⟩
theorem As.mkro {α:Type} {R:RR α} {k n c:Nat} {a:Option Addr} {xs:List α} {Z:Nat→Prop} {w:World} (h:Rd R k Z w a n c xs):(As.ro R k a n c xs).ok Z w:=h
theorem St.fresh0 {w w':World} {Z:Nat→Prop} {l:List As} {A:As} (h:St w (fps []) Z w' (A::l)):∀x,A.fp x→w.heap.size≤x:=fun x hx=>by
 rcases h.org A (by simp) x hx with ⟨B,hB,_⟩ | h1
 ·
  cases hB
 exact h1
theorem As.grg {w:World} {Z:Nat→Prop} {b o:Nat} {r:List Value} (h:(As.rg b o r).ok Z w):w.rangeAt b o r:=h.2.2
theorem As.mkrg {w:World} {Z:Nat→Prop} {b o:Nat} {r:List Value} (h:Z b) (hlt:b<w.heap.size) (hr:w.rangeAt b o r):(As.rg b o r).ok Z w:=⟨h,hlt,hr⟩
theorem RR.flat_eq {α:Type} {f:α→List Value} {Z:Nat→Prop} {w:World} {x:α} {r:List Value} (h:(RR.flat f).r Z w x r):r=f x:=h
section
variable {P:Program} {n:Nat} {kv:KV} {w:World} {Q:Exit→Act→World→Prop} {w0:World} {M Z:Nat→Prop}
theorem WC.loopS1 {σ:Type} {c:Code} {rest:List As} {kvs:σ→KV} {F:σ→List As} {I:σ→Prop} {μ:σ→Nat} (s₀:σ) (hst:St w0 M Z w (F s₀++rest)) (hs:Sub kv (kvs s₀)) (h₀:I s₀)
  (round:∀s w',St w0 M Z w' (F s++rest)→I s→WC P c (Exit.then (fun a' w''=>∃s',Fr n a' (kvs s')∧(St w0 M Z w'' (F s'++rest)∧I s')∧μ s'<μ s) Q) n (kvs s) w'):WC P (.loop c) Q n kv w:=
 WC.loop (σ:=σ) (kvs:=kvs) (I:=fun s w'=>St w0 M Z w' (F s++rest)∧I s) (μ:=μ) s₀ hs ⟨hst,h₀⟩ fun s w' ⟨h1,h2⟩=>round s w' h1 h2
theorem WC.loopS {σ:Type} {c:Code} {rest:List As} {kvs:σ→KV} {F:σ→List As} {I:σ→Prop} {μ:σ→Nat} {Zf:σ→Nat→Prop} (s₀:σ) (hst:St w0 M (Zf s₀) w (F s₀++rest)) (hs:Sub kv (kvs s₀)) (h₀:I s₀)
  (round:∀s w',St w0 M (Zf s) w' (F s++rest)→I s→WC P c (Exit.then (fun a' w''=>∃s',Fr n a' (kvs s')∧(St w0 M (Zf s') w'' (F s'++rest)∧I s')∧μ s'<μ s) Q) n (kvs s) w'):WC P (.loop c) Q n kv w:=
 WC.loop (σ:=σ) (kvs:=kvs) (I:=fun s w'=>St w0 M (Zf s) w' (F s++rest)∧I s) (μ:=μ) s₀ hs ⟨hst,h₀⟩ fun s w' ⟨h1,h2⟩=>round s w' h1 h2
theorem WC.cut1S {c:Code} {t:Nat} {v:Value} {l:List As} (_hst:St w0 M Z w l) (h:WC P c (Post1 n t v kv fun wx=>St w0 M Z wx l) n kv w) (hJ:∀w',St w0 M Z w' l→EX Q .normal n ((t,v)::kv) w'):WC P c Q n kv w:=
 WC.cut1 (fun wx=>St w0 M Z wx l) h hJ
theorem WC.cut1Se {c:Code} {t:Nat} {v:Value} {l:List As} (_hst:St w0 M Z w l) (h:WC P c (Post1 n t v (eraseK t kv) fun wx=>St w0 M Z wx l) n kv w) (hJ:∀w',St w0 M Z w' l→EX Q .normal n ((t,v)::eraseK t kv) w'):WC P c Q n kv w:=
 WC.cut1e (fun wx=>St w0 M Z wx l) h hJ
theorem WC.drawnT {id m:Nat} {l:List Oper} {ls:List As} (T:Nat→World→World→Prop) {E:Nat→Option (Value→World→Prop)} (hst:St w0 M Z w ls)
  (hS:∀i S,E i=some S→∀j S',E j=some S'→j≠i→j∉depsAt l.toArray i→∀v w1 w2,(w.heap.size≤w1.heap.size∧St w0 M Z w1 ls)→(w.heap.size≤w2.heap.size∧St w0 M Z w2 ls)→T j w1 w2→S v w1→S v w2) (hm:P.follows .mixedOrders=true) (hok:regOk l m=true)
  (hdw:DW P l.toArray n (fun wx=>w.heap.size≤wx.heap.size∧St w0 M Z wx ls) T E (fun kv w=>WL P l.toArray Q (l.drop m) n kv w) 0 (l.take m) kv []):WC P (.region id l.toArray true) Q n kv w:=
 WC.drawn (C:=fun wx=>w.heap.size≤wx.heap.size∧St w0 M Z wx ls) (T:=T) hS hm hok ⟨Nat.le_refl _,hst.step (Chg.drew [] w)⟩ hdw
theorem WC.drawnS {id m:Nat} {l:List Oper} {ls:List As} {E:Nat→Option (Value→World→Prop)} (hst:St w0 M Z w ls)
  (hS:∀i S,E i=some S→∀j S',E j=some S'→j≠i→j∉depsAt l.toArray i→∀v w1 w2,(w.heap.size≤w1.heap.size∧St w0 M Z w1 ls)→(w.heap.size≤w2.heap.size∧St w0 M Z w2 ls)→ChgP (fps ls) w1 w2→S v w1→S v w2) (hm:P.follows .mixedOrders=true) (hok:regOk l m=true)
  (hdw:DW P l.toArray n (fun wx=>w.heap.size≤wx.heap.size∧St w0 M Z wx ls) (fun _=>ChgP (fps ls)) E (fun kv w=>WL P l.toArray Q (l.drop m) n kv w) 0 (l.take m) kv []):WC P (.region id l.toArray true) Q n kv w:=
 WC.drawn (C:=fun wx=>w.heap.size≤wx.heap.size∧St w0 M Z wx ls) (T:=fun _=>ChgP (fps ls)) hS hm hok ⟨Nat.le_refl _,hst.step (Chg.drew [] w)⟩ hdw
end
def PB (N T:Nat) (cs:List Value) (v:Value) (w:World):Prop:=∃b,v=.pointer (some ⟨b,0,none⟩)∧N≤b∧Blk w b T cs
theorem PB.st {N T:Nat} {cs:List Value} {F:Nat→Prop} (hN:∀x,F x→x<N) {v:Value} {w w':World} (c:ChgP F w w') (h:PB N T cs v w):PB N T cs v w':=by
 obtain ⟨b,h1,h2,h3⟩:=h;exact ⟨b,h1,h2,by have h4:_=_:=h3;show _=_;rw [c.block b h3.lt fun hf=>by have:=hN b hf;omega];exact h4⟩
theorem PB.get {N T b:Nat} {cs:List Value} {w:World} (h:PB N T cs (.pointer (some ⟨b,0,none⟩)) w):N≤b∧Blk w b T cs:=by
 obtain ⟨b',h1,h2,h3⟩:=h
 simp at h1;subst h1;exact ⟨h2,h3⟩
theorem St.add {w0 w:World} {M Z:Nat→Prop} {l:List As} {B:As} {N:Nat} (h:St w0 M Z w l) (hok:B.ok Z w) (hfp:∀x,B.fp x→N≤x) (hl:∀x,fps l x→x<N) (hz:∀x,Z x→x<N) (h0:w0.heap.size≤N):St w0 M Z w (B::l) where
 chg:=h.chg
 zlt:=h.zlt
 zfp A hA x hx hzx:=by
  simp only [List.mem_cons] at hA
  rcases hA with rfl | hA
  ·
   have:=hfp x hx;have:=hz x hzx;omega
  exact h.zfp A hA x hx hzx
 org A hA x hx:=by
  simp only [List.mem_cons] at hA
  rcases hA with rfl | hA
  ·
   exact .inr (Nat.le_trans h0 (hfp x hx))
  exact h.org A hA x hx
 dis:=List.pairwise_cons.2 ⟨fun A hA x hx hb=>by have:=hfp x hx;have:=hl x ⟨A,hA,hb⟩;omega,h.dis⟩
 ok A hA:=by
  simp only [List.mem_cons] at hA
  rcases hA with rfl | hA
  ·
   exact hok
  exact h.ok A hA
theorem St.addB {w0 w:World} {M Z:Nat→Prop} {l:List As} {N b T:Nat} {cs:List Value} (h:St w0 M Z w l) (hp:PB N T cs (.pointer (some ⟨b,0,none⟩)) w) (hl:∀x,fps l x→x<N) (hz:∀x,Z x→x<N) (h0:w0.heap.size≤N):St w0 M Z w (As.blk b T cs::l):=
 h.add (B:=As.blk b T cs) hp.get.2 (fun x hx=>by have h1:x=b:=hx;subst h1;exact hp.get.1) hl hz h0
def PM {κ:Type} (enc:κ→Value) (N:Nat) (v:Value) (w:World):Prop:=∃b,v=.map (some b)∧N≤b∧KM enc w b []
theorem PM.st {κ:Type} {enc:κ→Value} {N:Nat} {F:Nat→Prop} (hN:∀x,F x→x<N) {v:Value} {w w':World} (c:ChgP F w w') (h:PM enc N v w):PM enc N v w':=by
 obtain ⟨b,h1,h2,h3⟩:=h;exact ⟨b,h1,h2,(As.map enc b []).st (Z:=fun _=>False) c.size (fun x hx hl=>c.block x hl fun hf=>by rcases hx with hx | hx;have hx:x=b:=hx;subst hx;have:=hN x hf;omega;exact hx.elim) h3⟩
theorem PM.get {κ:Type} {enc:κ→Value} {N b:Nat} {w:World} (h:PM enc N (.map (some b)) w):N≤b∧KM enc w b []:=by
 obtain ⟨b',h1,h2,h3⟩:=h
 simp at h1;subst h1;exact ⟨h2,h3⟩
theorem St.addM {κ:Type} {enc:κ→Value} {w0 w:World} {M Z:Nat→Prop} {l:List As} {N b:Nat} (h:St w0 M Z w l) (hp:PM enc N (.map (some b)) w) (hl:∀x,fps l x→x<N) (hz:∀x,Z x→x<N) (h0:w0.heap.size≤N):St w0 M Z w (As.map enc b []::l):=
 h.add (B:=As.map enc b []) hp.get.2 (fun x hx=>by have h1:x=b:=hx;subst h1;exact hp.get.1) hl hz h0
theorem St.same {w0 w w':World} {M Z:Nat→Prop} {l:List As} {A:As} (h:St w0 M Z w l) (hA:A∈l) (s:ChgP A.fp w w') (hok:A.ok Z w'):St w0 M Z w' l:=by
 obtain ⟨p,q,rfl⟩:=List.append_of_mem hA;exact ((h.perm List.perm_middle.symm).upd s hok fun x hx=>.inl hx).perm List.perm_middle
theorem fps_mem {l:List As} {A:As} (hA:A∈l) {x:Nat} (hx:A.fp x):fps l x:=⟨A,hA,hx⟩
theorem St.eqS {α:Type} {R:RR α} {w0 w:World} {M Z:Nat→Prop} {l:List As} {E k n c:Nat} {a:Option Addr} {xs ys:List α} (h:St w0 M Z w (As.os R E k a n c xs::l)) (e:xs=ys):St w0 M Z w (As.os R E k a n c ys::l):=by subst e;exact h
theorem Ow.addr {α:Type} {R:RR α} {w:World} {Z:Nat→Prop} {E k n c i:Nat} {a:Option Addr} {xs:List α} {y:α} (h:Ow R E k Z w a n c xs) (hx:xs[i]?=some y):∃b,a=some ⟨b,0,none⟩:=by
 obtain ⟨hn,rows,hl,hk,h1,_⟩:=h;have hi:=(List.getElem?_eq_some_iff.1 hx).1
 rcases h1.cases with ⟨_,h2,_⟩ | ⟨g,cur,h2,_⟩
 ·
  omega
 exact ⟨g,h2⟩
theorem Ow.rng {α:Type} {f:α→List Value} {w:World} {Z:Nat→Prop} {E k n c i b o:Nat} {a:Option Addr} {xs:List α} {y:α} (h:Ow (RR.flat f) E k Z w a n c xs) (hle:xs.length≤140737488355328) (ha:a=some ⟨b,o,none⟩) (hx:xs[i]?=some y):w.rangeAt b (o+i*k) (f y):=by
 obtain ⟨b',o',r,h1,_,h3,h4,_⟩:=SR.at (Ow.rd h hle) hx;rw [ha] at h1
 simp at h1
 obtain ⟨rfl,rfl⟩:=h1;have h3:r=f y:=h3;subst h3;exact h4
section
variable {P:Program} {n:Nat} {kv:KV} {w:World} {Q:Exit→Act→World→Prop}
theorem Fr.eqv {a:Act} {t:Nat} {v v':Value} (hF:Fr n a kv) (h:look kv t=some v) (e:v=v'):Fr n a ((t,v')::kv):=⟨hF.size,hF.nod,fun s u hu=>by
 simp only [look] at hu
 cases hb:Nat.beq t s with
 | true=>rw [hb] at hu;simp at hu;have:t=s:=Nat.eq_of_beq_eq_true hb;subst this;rw [← hu,← e];exact hF.val t v h
 | false=>rw [hb] at hu;exact hF.val s u hu⟩
theorem WC.eqv {c:Code} {t:Nat} {v v':Value} (h:look kv t=some v) (e:v=v') (k:WC P c Q n ((t,v')::kv) w):WC P c Q n kv w:=fun a hF=>k a (hF.eqv h e)
theorem EX.eqv {x:Exit} {t:Nat} {v v':Value} (h:look kv t=some v) (e:v=v') (k:EX Q x n ((t,v')::kv) w):EX Q x n kv w:=fun a hF=>k a (hF.eqv h e)
end
section
variable {κ:Type} [DecidableEq κ] {enc:κ→Value} {P:Program} {kt e ty T:TypeId} {w:World} {b:Nat} {l:List (κ × Value)} {kv:KV}
theorem PV.lookV (hK:KK P kt enc) (hT:P.underlying T=some (.map kt e)) {z:Value} (hz:∀w,(zeroValue e).run P w=.ok z w) (hb:KM enc w b l) {x y:Operand} {k:κ} {v:Value} (hv:mget l k=some v) (hx:ev kv x=some (.map (some b))) (hy:ev kv y=some (enc k)):PV P (.lookup T x y false) ty kv w v:=by
 have:=PV.look (ty:=ty) hK hT hz hb hx hy
 rw [hv] at this;exact this
end
end Go.Rc

namespace Go.Rc
open Go
theorem flatten_setcell:∀(rows:List (List Value)) (k i f:Nat) (v:Value) (row:List Value),(∀r∈rows,r.length=k)→rows[i]?=some row→f<k→(rows.set i (row.set f v)).flatten=rows.flatten.set (i*k+f) v:=by
 intro rows
 induction rows with
 | nil=>intro k i f v row _ h;simp at h
 | cons x xs ih=>
  intro k i f v row hk h hf;have hx:x.length=k:=hk x (by simp)
  cases i with
  | zero=>
   simp at h;subst h
   simp only [List.set_cons_zero,List.flatten_cons,Nat.zero_mul,Nat.zero_add];rw [List.set_append_left _ _ (by omega)]
  | succ i=>
   simp only [List.set_cons_succ,List.flatten_cons];rw [ih k i f v row (fun r hr=>hk r (by simp [hr])) (by simpa using h) hf,List.set_append_right _ _ (by rw [hx,Nat.succ_mul];omega)]
   congr 2
   rw [hx,Nat.succ_mul];omega
theorem flatten_setrow:∀(rows:List (List Value)) (k i:Nat) (us:List Value),(∀r∈rows,r.length=k)→i<rows.length→us.length=k→(rows.set i us).flatten=rows.flatten.take (i*k)++us++rows.flatten.drop (i*k+k):=by
 intro rows
 induction rows with
 | nil=>intro k i us _ h;simp at h
 | cons x xs ih=>
  intro k i us hk h hu;have hx:x.length=k:=hk x (by simp)
  cases i with
  | zero=>
   simp only [List.set_cons_zero,List.flatten_cons,Nat.zero_mul,Nat.zero_add,List.take_zero,List.nil_append];rw [List.drop_append_of_le_length (by omega),List.drop_of_length_le (by omega),List.nil_append]
  | succ i=>
   simp only [List.set_cons_succ,List.flatten_cons];rw [ih k i us (fun r hr=>hk r (by simp [hr])) (by simpa using h) hu]
   have e:(i+1)*k=x.length+i*k:=by rw [hx,Nat.succ_mul];omega
   rw [e,List.take_length_add_append,Nat.add_assoc,List.drop_length_add_append]
   simp
section
variable {α:Type} {R:RR α} {P:Program} {E k n c i b:Nat} {a:Option Addr} {xs:List α} {u u':α} {Z:Nat→Prop} {w:World}
theorem Ow.at {R:RR α} (h:Ow R E k Z w a n c xs) (hle:xs.length≤140737488355328) (hx:xs[i]?=some u):∃b r,a=some ⟨b,0,none⟩∧r.length=k∧R.r Z w u r∧w.rangeAt b (0+i*k) r:=by
 obtain ⟨hn,rows,hl,hk,h1,hR⟩:=h;have hi:=(List.getElem?_eq_some_iff.1 hx).1;have hs:=h1.sl (A:=fun _=>True) (fun _ _=>trivial) (by omega)
 rcases h1.cases with ⟨_,h2,_⟩ | ⟨g,cur,h2,_⟩
 ·
  omega
 obtain ⟨r,hr⟩:∃r,rows[i]?=some r:=⟨rows[i],by simp [hl,hi]⟩
 rcases hs.at_ with ⟨h3,_⟩ | ⟨b',o,h3,_,_,_,_,h6⟩
 ·
  rw [h2] at h3;cases h3
 rw [h2] at h3;simp at h3;obtain ⟨rfl,rfl⟩:=h3;exact ⟨g,r,h2,hk r (List.mem_of_getElem? hr),hR i u r hx hr,range_part h6 (i*k) r (flatten_row rows k i r hk hr)⟩
variable {N:Nat} {kv:KV} {K:KV→World→Prop} {ty:TypeId} {pos:String} {af:Array Edge} {g:Option (Nat × Bool)} {T:TypeId}
theorem OX.stOf {x y:Operand} {f:Nat} {v:Value} (hT:(P.info? T).map (·.size)=some 1) (h:Ow R E k Z w a n c xs) (ha:a=some ⟨b,0,none⟩) (hu:xs[i]?=some u) (hf:f<k) (hx:ev kv x=some (.pointer (some ⟨b,0+i*k+f,none⟩))) (hy:ev kv y=some v)
  (h1:v.oneCell'=true) (u':α) (hR:∀r,r.length=k→R.r Z w u r→R.r Z w u' (r.set f v)) (hK:∀w',Chg (oblk a) w w'→OR 0 w' E k (R.r Z w) a n c (xs.set i u')→K kv w'):OX P ⟨none,.store T x y,ty,pos,af,g⟩ N kv w K:=by
 obtain ⟨hn,rows,hl,hk,ho,hRR⟩:=h;have hi:=(List.getElem?_eq_some_iff.1 hu).1;obtain ⟨row,hrow⟩:∃r,rows[i]?=some r:=⟨rows[i],by simp [hl,hi]⟩;have hrl:=hk row (List.mem_of_getElem? hrow)
 rcases ho.cases with ⟨h2,_⟩ | ⟨b',cur,h2,h3,h4,h5,h6,h7,h8⟩
 ·
  rw [ha] at h2;cases h2
 rw [ha] at h2;simp at h2;subst h2;subst ha
 have hb:Blk w b E cur.toList:=by simpa [Blk] using h4
 have hlt:i*k+f<cur.toList.length:=by
  have:(i+1)*k≤c*k:=Nat.mul_le_mul_right _ (by omega)
  rw [Nat.succ_mul] at this
  simp;omega
 have hst:=run_st1 (P:=P) hT hb hlt h1;refine ⟨rfl,rfl,by simp [known,opers,hx,hy],?_⟩
 have hadr:0+i*k+f=i*k+f:=by omega
 rw [hadr] at hx;simp only [execOp,lkO_of hx,lkO_of hy,Sem.run_bind,hst,Result.andThen_ok];refine hK _ (chg_setRow _ _ _) ⟨by simp [hn],rows.set i (row.set f v),by simp [hl],?_,?_,?_⟩
 ·
  intro r hr
  rcases List.mem_or_eq_of_mem_set hr with hr | rfl
  ·
   exact hk r hr
  simp [hrl]
 ·
  rw [flatten_setcell rows k i f v row hk hrow hf];refine ⟨fun z hz=>?_,by simpa using ho.2.1,.inr ⟨b,c,_,rfl,h3,setRow_heap w b _ _ E _ hb,h5,h6,by simp [h7],?_⟩⟩
  ·
   rcases List.mem_or_eq_of_mem_set hz with hz | rfl
   ·
    exact ho.1 z hz
   exact h1
  rw [← h8]
  simp [List.take_set]
 intro j z r hz hr
 by_cases e:i=j
 ·
  subst e;rw [List.getElem?_set,if_pos rfl,if_pos hi] at hz;rw [List.getElem?_set,if_pos rfl,if_pos (by omega)] at hr
  simp at hz hr
  subst hz hr;exact hR row hrl (hRR i u row hu hrow)
 rw [List.getElem?_set,if_neg e] at hz hr;exact hRR j z r hz hr
theorem OX.stOr {x y:Operand} {us:List Value} (hT:(P.info? T).map (·.size)=some k) (h:Ow R E k Z w a n c xs) (ha:a=some ⟨b,0,none⟩) (hi:i<xs.length) (hx:ev kv x=some (.pointer (some ⟨b,0+i*k,none⟩))) (hy:ev kv y=some (.agg us.toArray))
  (hlen:us.length=k) (h1:∀v∈us,v.oneCell'=true) (u':α) (hR:R.r Z w u' us) (hK:∀w',Chg (oblk a) w w'→OR 0 w' E k (R.r Z w) a n c (xs.set i u')→K kv w'):OX P ⟨none,.store T x y,ty,pos,af,g⟩ N kv w K:=by
 obtain ⟨hn,rows,hl,hk,ho,hRR⟩:=h
 rcases ho.cases with ⟨h2,_⟩ | ⟨b',cur,h2,h3,h4,h5,h6,h7,h8⟩
 ·
  rw [ha] at h2;cases h2
 rw [ha] at h2;simp at h2;subst h2;subst ha
 have hb:Blk w b E cur.toList:=by simpa [Blk] using h4
 have hmul:(i+1)*k≤n*k:=Nat.mul_le_mul_right _ (by omega);have hmul2:n*k≤c*k:=Nat.mul_le_mul_right _ h5;rw [Nat.succ_mul] at hmul
 have hadr:0+i*k=i*k:=by omega
 rw [hadr] at hx
 refine OX.stA hT hb hx hy hlen (by simp;omega) h1 rfl fun w' c1 _ hb'=>hK w' c1 ⟨by simp [hn],rows.set i us,by simp [hl],?_,?_,?_⟩
 ·
  intro r hr
  rcases List.mem_or_eq_of_mem_set hr with hr | rfl
  ·
   exact hk r hr
  exact hlen
 ·
  have hfl:rows.flatten.length=n*k:=ho.2.1;rw [flatten_setrow rows k i us hk (by omega) hlen]
  have hcl:cur.toList.length=c*k:=by simp [h7]
  refine ⟨fun z hz=>?_,?_,.inr ⟨b,c,_,rfl,h3,hb',h5,h6,?_,?_⟩⟩
  ·
   simp only [List.mem_append] at hz
   rcases hz with (hz | hz) | hz
   ·
    exact ho.1 z (List.mem_of_mem_take hz)
   ·
    exact h1 z hz
   exact ho.1 z (List.mem_of_mem_drop hz)
  ·
   rw [List.length_append,List.length_append,List.length_take,List.length_drop,hfl,hlen];omega
  ·
   simp only [List.size_toArray,List.length_append,List.length_take,List.length_drop,hcl];omega
  rw [← h8]
  apply List.ext_getElem?
  intro j;simp only [List.getElem?_take,List.getElem?_append,List.getElem?_drop,List.length_append,List.length_take,hcl,hlen]
  have e1:min (i*k) (c*k)=i*k:=by omega
  have e2:min (i*k) (min (n*k) (c*k))=i*k:=by omega
  simp only [e1,e2]
  by_cases hj:j<n*k
  ·
   rw [if_pos hj]
   by_cases h9:j<i*k+k
   ·
    rw [if_pos h9,if_pos h9]
    by_cases h10:j<i*k
    ·
     rw [if_pos h10,if_pos h10,if_pos h10,if_pos h10,if_pos hj]
    rw [if_neg h10,if_neg h10]
   rw [if_neg h9,if_neg h9,if_pos (by omega)]
  rw [if_neg hj,if_neg (by omega),if_neg (by omega)]
 intro j z r hz hr
 by_cases e:i=j
 ·
  subst e;rw [List.getElem?_set,if_pos rfl,if_pos (by omega)] at hz hr
  simp at hz hr
  subst hz hr;exact hR
 rw [List.getElem?_set,if_neg e] at hz hr;exact hRR j z r hz hr
end
end Go.Rc

namespace Go.Rc
open Go
structure Pfx (N E q s:Nat) (w w':World):Prop where
 os:w'.os=w.os
 tape:w'.tape=w.tape
 output:w'.output=w.output
 size:w.heap.size≤w'.heap.size
 drawn:w.drawn≤w'.drawn
 block:∀b,b<w.heap.size→w'.heap[b]?=w.heap[b]?∨(N≤b∧∃cur cur':Array Value,w.heap[b]?=some (.cells cur E (0,0))∧w'.heap[b]?=some (.cells cur' E (0,0))∧cur'.size=cur.size∧s<cur.size∧cur'.toList.take q=cur.toList.take q)
theorem Chg.pfx {N E q s:Nat} {w w':World} (h:Chg [] w w'):Pfx N E q s w w':=⟨h.os,h.tape,h.output,h.size,h.drawn,fun b hb=>.inl (h.block b hb (by simp))⟩
theorem Pfx.old {N E q s:Nat} {w w':World} (h:Pfx N E q s w w') {b:Nat} (hb:b<w.heap.size) (hN:b<N):w'.heap[b]?=w.heap[b]?:=by
 rcases h.block b hb with h1 | ⟨h1,_⟩
 ·
  exact h1
 omega
variable {α:Type} {R:RR α} {E k n c N:Nat} {a:Option Addr} {xs:List α} {Z:Nat→Prop} {w w':World}
theorem Pfx.ow {s:Nat} (h:Pfx N E (n*k) s w w') (hz:∀x,Z x→x<N) (ho:Ow R E k Z w a n c xs):Ow R E k Z w' a n c xs:=by
 obtain ⟨hn,rows,hl,hk,h1,hR⟩:=ho;have hst:∀x,Z x→x<w.heap.size→w'.heap[x]?=w.heap[x]?:=fun x hx hlx=>h.old hlx (hz x hx);refine ⟨hn,rows,hl,hk,⟨h1.1,h1.2.1,?_⟩,fun i x r h2 h3=>R.st h.size hst (hR i x r h2 h3)⟩
 rcases h1.cases with ⟨h2,h3,h4,h5⟩ | ⟨g,cur,h2,h3,h4,h5,h6,h7,h8⟩
 ·
  exact .inl ⟨by rw [h2,h3,h4],h3⟩
 have hg:g<w.heap.size:=(Array.getElem?_eq_some_iff.1 h4).1
 rcases h.block g hg with h9 | ⟨_,cu,cu',h9,h10,h11,_,h13⟩
 ·
  exact .inr ⟨g,c,cur,by rw [h2],h3,by rw [h9];exact h4,h5,h6,h7,h8⟩
 rw [h4] at h9
 simp at h9
 subst h9;exact .inr ⟨g,c,cu',by rw [h2],h3,h10,h5,h6,by rw [h11];exact h7,by rw [h13];exact h8⟩
theorem Pfx.blk {q b:Nat} {l:List Value} (h:Pfx N E q l.length w w') (hb:Blk w b E l):Blk w' b E l:=by
 have hb':w.heap[b]?=some (.cells l.toArray E (0,0)):=hb
 rcases h.block b hb.lt with h1 | ⟨_,cu,cu',h1,_,_,h2,_⟩
 ·
  show _=_;rw [h1];exact hb'
 rw [hb'] at h1;simp at h1;subst h1;simp at h2
theorem run_appP {P:Program} {T bytes:Nat} (hT:AP P T E k bytes) {ty:TypeId} (hown:Ow R E k Z w a n c xs) (hge:∀x∈oblk a,N≤x) {a2:Option Addr} {m c2:Nat} {A:Nat→Prop} {ys:List α} (hx:SR A w k (R.r Z w) a2 m c2 ys)
  (hbytes:(n+m)*bytes≤140737488355328) (hnm:n+m≤140737488355328) (hN:N≤w.heap.size) (hz:∀x,Z x→x<N) {s:Nat} (hs:∀c,a≠none→n+m≤c→s<c*k) :
  ∃a' c' w',(Builtin.append_ #[T,T] ty #[.slice a n c,.slice a2 m c2]).run P w=.ok (.slice a' (n+m) c') w'∧Ow R E k Z w' a' (n+m) c' (xs++ys)∧Pfx N E (n*k) s w w'∧(∀x∈oblk a',N≤x)∧(m=0→a'=a)∧Chg (oblk a) w w':=by
 obtain ⟨hn,rows,hl,hk,h1,hR⟩:=hown;obtain ⟨hn2,rows2,hl2,hk2,h2,hR2⟩:=hx;obtain ⟨a',c',w',hr,ho,hc,hf,_,h0,hin⟩:=run_app hT (ty:=ty) h1 h2 hbytes hnm (Nat.zero_le _)
 have hpfx:Pfx N E (n*k) s w w':=by
  rcases hin with hin | ⟨hroom,g,cur,cur',h3,h4,h5,h6,h7,h8⟩
  ·
   exact hin.pfx
  refine ⟨hc.os,hc.tape,hc.output,hc.size,hc.drawn,fun b hb=>?_⟩
  by_cases hm2:b∈oblk a
  ·
   have hgm:g∈oblk a:=by rw [h3];simp [oblk]
   have e:b=g:=by rw [h3] at hm2;simpa [oblk] using hm2
   subst e;exact .inr ⟨hge b hgm,cur,cur',h4,h5,h6,by rw [h7];exact hs c (by rw [h3];simp) hroom,h8⟩
  exact .inl (hc.block b hb hm2)
 have hst:∀x,Z x→x<w.heap.size→w'.heap[x]?=w.heap[x]?:=fun x hx hlx=>hpfx.old hlx (hz x hx);refine ⟨a',c',w',hr,⟨by rw [List.length_append];omega,rows++rows2,by simp [hl,hl2],?_,by simpa using ho,?_⟩,hpfx,fun x hx=>by rcases hf x hx with h | h;exact hge x h;omega,h0,hc⟩
 ·
  intro r hr
  rcases List.mem_append.1 hr with h | h
  ·
   exact hk r h
  exact hk2 r h
 intro i x r hi hr
 rcases Nat.lt_or_ge i xs.length with hlt | hge2
 ·
  rw [List.getElem?_append_left hlt] at hi;rw [List.getElem?_append_left (by omega)] at hr;exact R.st hc.size hst (hR i x r hi hr)
 rw [List.getElem?_append_right hge2] at hi;rw [List.getElem?_append_right (by omega)] at hr;exact R.st hc.size hst (hR2 (i - xs.length) x r hi (by rw [← hl];exact hr))
section
variable {P:Program} {kv:KV} {K:KV→World→Prop} {d:Tmp} {ty:TypeId} {pos:String} {af:Array Edge} {g:Option (Nat × Bool)} {T bytes mm:Nat}
theorem OX.appP (hT:AP P T E k bytes) {s x:Operand} {a2:Option Addr} {m c2:Nat} {A:Nat→Prop} {ys:List α} (hd:Nat.blt d mm=true) (hs:ev kv s=some (.slice a n c)) (hx:ev kv x=some (.slice a2 m c2))
  (hown:Ow R E k Z w a n c xs) (hge:∀x∈oblk a,N≤x) (hsrc:SR A w k (R.r Z w) a2 m c2 ys) (hbytes:(n+m)*bytes≤140737488355328) (hnm:n+m≤140737488355328) (hN:N≤w.heap.size) (hz:∀x,Z x→x<N) (q:Nat) (hq:∀c,a≠none→n+m≤c→q<c*k)
  (h:∀a' c' w',Ow R E k Z w' a' (n+m) c' (xs++ys)→Pfx N E (n*k) q w w'→(∀x∈oblk a',N≤x)→(m=0→a'=a)→Chg (oblk a) w w'→K ((d,.slice a' (n+m) c')::kv) w') :
  OX P ⟨some d,.call {callee:=.builtin .append,args:=#[s,x],argTypes:=#[T,T]},ty,pos,af,g⟩ mm kv w K:=by
 refine ⟨rfl,hd,by simp [known,opers,hs,hx],?_⟩;obtain ⟨a',c',w',hr,h1,h2,h3,h4,h5⟩:=run_appP hT (ty:=ty) hown hge hsrc hbytes hnm hN hz hq
 have hr':(execOp (lkO kv) ⟨some d,.call {callee:=.builtin .append,args:=#[s,x],argTypes:=#[T,T]},ty,pos,af,g⟩).run P w=.ok (.value (.slice a' (n+m) c')) w':=by
  simp only [execOp,resolve,invoke,builtin,Sem.run_bind,Sem.run_pure,Result.andThen_ok,List.map_toArray,List.map_cons,List.map_nil,lkO_of hs,lkO_of hx,hr]
 rw [hr'];exact h _ _ _ h1 h2 h3 h4 h5
theorem Pfx.st {w0:World} {M:Nat→Prop} {l:List As} {q s:Nat} (h:Pfx N E q s w w') (hst:St w0 M Z w l) (hl:∀x,fps l x→x<N) (hz:∀x,Z x→x<N) (h0:w0.heap.size≤N):St w0 M Z w' l where
 chg:=⟨h.os.trans hst.chg.os,h.tape.trans hst.chg.tape,h.output.trans hst.chg.output,Nat.le_trans hst.chg.size h.size,Nat.le_trans hst.chg.drawn h.drawn,fun k hk hn=>by
  rw [h.old (Nat.lt_of_lt_of_le hk hst.chg.size) (by omega)];exact hst.chg.block k hk hn⟩
 zlt x hx:=Nat.lt_of_lt_of_le (hst.zlt x hx) h.size
 zfp:=hst.zfp
 org:=hst.org
 dis:=hst.dis
 ok A hA:=A.st h.size (fun x hx hlx=>h.old hlx (by rcases hx with hx | hx;exact hl x ⟨A,hA,hx⟩;exact hz x hx)) (hst.ok A hA)
end
theorem Ow.ext {α:Type} {R:RR α} {E k n c:Nat} {a:Option Addr} {xs:List α} {Z:Nat→Prop} {w w':World} (h:Ow R E k Z w a n c xs) (s:Chg [] w w'):Ow R E k Z w' a n c xs:=
 (As.os R E k a n c xs).st s.size (fun x _ hx=>s.block x hx (by simp)) h
section
variable {P:Program} {n:Nat} {kv:KV} {w:World} {K:KV→World→Prop} {d:Tmp} {ty:TypeId} {pos:String} {af:Array Edge} {g:Option (Nat × Bool)} {op:Op} {v:Value}
theorem OX.pv (h:PV P op ty kv w v) (hd:Nat.blt d n=true) (hK:K ((d,v)::kv) w):OX P ⟨some d,op,ty,pos,af,g⟩ n kv w K:=⟨h.1,hd,h.2.1,by rw [h.2.2];exact hK⟩
end
section
variable {κ:Type} [DecidableEq κ] {enc:κ→Value} {P:Program} {kt e ty T:TypeId} {w:World} {b:Nat} {l:List (κ × Value)} {kv:KV}
theorem PV.lookD (hK:KK P kt enc) (hT:P.underlying T=some (.map kt e)) {z:Value} (hz:∀w,(zeroValue e).run P w=.ok z w) (hb:KM enc w b l) {x y:Operand} {k:κ} {v:Value} (hv:(mget l k).getD z=v) (hx:ev kv x=some (.map (some b))) (hy:ev kv y=some (enc k)):PV P (.lookup T x y false) ty kv w v:=by
 have:=PV.look (ty:=ty) hK hT hz hb hx hy
 rw [hv] at this;exact this
end
def PMap (N:Nat) (P:List (Key × Value)→Prop) (v:Value) (w:World):Prop:=∃b m,v=.map (some b)∧N≤b∧KM Key.val w b m∧P m
theorem PMap.st {N:Nat} {P:List (Key × Value)→Prop} {F:Nat→Prop} (hN:∀x,F x→x<N) {v:Value} {w w':World} (c:ChgP F w w') (h:PMap N P v w):PMap N P v w':=by
 obtain ⟨b,m,h1,h2,h3,h4⟩:=h;exact ⟨b,m,h1,h2,(As.map Key.val b m).st (Z:=fun _=>False) c.size (fun x hx hl=>c.block x hl fun hf=>by rcases hx with hx | hx;have hx:x=b:=hx;subst hx;have:=hN x hf;omega;exact hx.elim) h3,h4⟩
theorem St.cg0 {w w':World} {Z:Nat→Prop} {l:List As} (h:St w (fps []) Z w' l):Chg [] w w':=h.chg.chg fun _ ⟨_,hA,_⟩=>by cases hA
theorem St.rb {w:World} {M Z:Nat→Prop} (h:St w M Z w []):St w (fun _=>False) Z w []:=St.start h.zlt
theorem St.wk {w0 w:World} {M Z:Nat→Prop} {l:List As} (h:St w0 (fun _=>False) Z w l):St w0 M Z w l:=h.weakM fun _ _ h=>h.elim
theorem St.fresh {w0 w:World} {Z:Nat→Prop} {l:List As} {A:As} (h:St w0 (fun _=>False) Z w (A::l)):∀x,A.fp x→w0.heap.size≤x:=fun x hx=>by
 rcases h.org A (by simp) x hx with h1 | h1
 ·
  exact h1.elim
 exact h1
end Go.Rc

