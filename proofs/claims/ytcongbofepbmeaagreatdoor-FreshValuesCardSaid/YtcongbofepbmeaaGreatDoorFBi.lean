/- Base of the proof: frames, memory, ownership, and the plain meaning of rule systems. Conditions: as each lemma says. -/
import Derived.JoinedOf
import Derived.LaidOnce
import Derived.TwinInFollowed
import Derived.Test.YtcongbofepbmeaaGreatDoorFBh
import Derived.WideShapes
import Derived.Carry
set_option linter.all false
namespace Go.Rc
open Go
def blocks{α:Type _}:Nat→List α→List (List α)
 | 0,_=>[]
 | n+1,l=>l.take 32::blocks n (l.drop 32)
def pick{α:Type _}(b:List (List α)) (t:Nat):Option α:=(b[t / 32]?).bind (·[t % 32]?)
theorem kj{α:Type _}:∀(n:Nat) (l:List α) (t:Nat),l.length≤n*32→pick (blocks n l) t=l[t]?
 | 0,l,t,h=>by grind [pick,blocks]
 | n+1,l,t,h=>by
  by_cases ht:t<32
  ·
   grind [pick,blocks]
  have h1:t / 32=(t - 32) / 32+1:=by omega
  have a:t % 32=(t - 32) % 32:=by omega
  have b:=kj n (l.drop 32) (t - 32) (by simp;omega)
  grind [pick,blocks]
def rootOf(b:List (List TypeInfo)) (t:TypeId):Option TypeDesc:=
 (pick b t).bind fun i=>match i.desc with
  | .named _ u=>(pick b u).map (·.desc)
  | d=>some d
def wide(b:List (List TypeInfo)) (t:TypeId):Nat:=((pick b t).map (·.size)).getD 0
theorem qj{P:Program}{n:Nat}(hn:P.types.size≤n*32) {t:TypeId}{i:TypeInfo}(h:pick (blocks n P.types.toList) t=some i):P.info? t=some i:=by
 rw [kj n _ t (by simpa using hn),Array.getElem?_toList] at h;have ht:t<P.types.size:=(Array.getElem?_eq_some_iff.1 h).1
 unfold Tables.info?
 rw [if_pos ht,h]
theorem Ku{P:Program}{n:Nat}(hn:P.types.size≤n*32) {t:TypeId}(h:t<P.types.size):∃i,pick (blocks n P.types.toList) t=some i:=by
 rw [kj n _ t (by simpa using hn),Array.getElem?_toList]
 simp_all
theorem qk{P:Program}{n:Nat}(hn:P.types.size≤n*32) {t:TypeId}{d:TypeDesc}(h:rootOf (blocks n P.types.toList) t=some d):P.underlying t=some d:=by
 unfold rootOf at h
 unfold Program.underlying
 cases a:pick (blocks n P.types.toList) t with
 | none=>rw [a] at h;cases h
 | some i=>
  rw [a] at h;rw [qj hn a];obtain⟨e,_⟩:=i
  grind [pick,qj]
theorem ph{P:Program}{n:Nat}(hn:P.types.size≤n*32) {t:TypeId}(h:t<P.types.size):wide (blocks n P.types.toList) t=P.cellsOf t:=by grind [Ku,wide,Program.cellsOf,qj]
def stands(b:List (List TypeInfo)) (N:Nat) (t:TypeId):Bool:=Nat.ble (t+1) N && kindOk (rootOf b t)
theorem nG{b:List (List TypeInfo)}{N:Nat}{t:TypeId}(h:stands b N t=true):t<N:=by
 simp only [stands,Bool.and_eq_true] at h;exact Nat.le_of_ble_eq_true h.1
theorem nH{P:Program}{n:Nat}(hn:P.types.size≤n*32) {t:TypeId}(h:stands (blocks n P.types.toList) P.types.size t=true):isVar P t=true:=by
 have hl:=nG h;simp only [stands,Bool.and_eq_true] at h
 unfold isVar
 cases hr:rootOf (blocks n P.types.toList) t with
 | none=>rw [hr] at h;cases h.2
 | some d=>grind [qk]
def pj(b:List (List TypeInfo)) (N:Nat):Nat→List Field→Bool
 | _,[]=>true
 | o,f::r=>stands b N f.type && Nat.beq f.offset o && pj b N (o+wide b f.type) r
def sumOf(b:List (List TypeInfo)):List Field→Nat
 | []=>0
 | f::r=>wide b f.type+sumOf b r
def Oc(b:List (List TypeInfo)) (N:Nat) (t:TypeId):Bool:=
 match rootOf b t with
 | none=>false
 | some (.struct fs)=>pj b N 0 fs.toList && Nat.beq (wide b t) (sumOf b fs.toList)
 | some (.array k e)=>stands b N e && Nat.beq (wide b t) (k*wide b e)
 | some (.pointer e)=>stands b N e && Nat.beq (wide b t) 1
 | some (.slice e)=>stands b N e && Nat.beq (wide b t) 1
 | some (.tuple _)=>true
 | some .invalid=>true
 | some (.named _ _)=>true
 | _=>Nat.beq (wide b t) 1
def SP(b:List (List TypeInfo)) (N:Nat) (t:TypeId):Bool:=
 match rootOf b t with
 | none=>false
 | some (.map _ e)=>Nat.ble (e+1) N
 | _=>true
theorem pn{P:Program}{n:Nat}(hn:P.types.size≤n*32):∀(fs:List Field) (o:Nat),pj (blocks n P.types.toList) P.types.size o fs=true→
  (∀f∈fs,isVar P f.type=true)∧(∀j f,fs[j]?=some f→f.offset=o+((fs.take j).map fun f=>P.cellsOf f.type).sum)∧sumOf (blocks n P.types.toList) fs=(fs.map fun f=>P.cellsOf f.type).sum
 | [],_,_=>⟨by simp,by simp,rfl⟩
 | g::r,o,h=>by
  simp only [pj,Bool.and_eq_true] at h;obtain⟨⟨h1,b⟩,a⟩:=h;rw [ph hn (nG h1)] at a;obtain⟨c,i2,i3⟩:=pn hn r _ a;refine⟨fun f d=>?_,fun j f e=>?_,?_⟩
  ·
   grind [nH]
  ·
   cases j with
   | zero=>simp_all
   | succ j=>grind
  grind [sumOf,ph,nG]
theorem F5{P:Program}{n:Nat}(hn:P.types.size≤n*32) {t:TypeId}(ht:t<P.types.size) (h:Oc (blocks n P.types.toList) P.types.size t=true):rowFine P t=true:=by
 unfold Oc at h
 rw [ph hn ht] at h
 unfold rowFine
 rw [Bool.or_eq_true]
 cases hr:rootOf (blocks n P.types.toList) t with
 | none=>rw [hr] at h;cases h
 | some d=>
  have hu:=qk hn hr;rw [hr] at h
  cases d with
  | struct fs=>
   right
   simp only [hu];simp only [Bool.and_eq_true] at h;obtain⟨h1,c,b⟩:=pn hn fs.toList 0 h.1;simp only [Bool.and_eq_true,List.all_eq_true,beq_iff_eq];refine⟨⟨h1,(Nat.eq_of_beq_eq_true h.2).trans b⟩,fun j f=>?_⟩
   grind
  | array k e=>
   right
   simp only [hu];simp only [Bool.and_eq_true] at h ⊢;rw [ph hn (nG h.1)] at h;exact⟨nH hn h.1,by simp_all⟩
  | pointer e=>
   right
   simp only [hu];simp only [Bool.and_eq_true] at h ⊢;exact⟨nH hn h.1,by simp_all⟩
  | slice e=>
   right
   simp only [hu];simp only [Bool.and_eq_true] at h ⊢;exact⟨nH hn h.1,by simp_all⟩
  | tuple e=>left;simp [isVar,hu,kindOk]
  | invalid=>left;simp [isVar,hu,kindOk]
  | named a e=>left;simp [isVar,hu,kindOk]
  | _=>
   right
   simp only [hu];rw [beq_iff_eq];exact Nat.eq_of_beq_eq_true h
def AF(f:Nat→Bool):Nat→Bool
 | 0=>true
 | n+1=>f n && AF f n
theorem mM{f g:Nat→Bool}:∀(n:Nat),AF f n=true→(∀t,t<n→f t=true→g t=true)→(List.range n).all g=true
 | 0,_,_=>by simp
 | n+1,h,a=>by
  simp only [AF,Bool.and_eq_true] at h;rw [List.range_succ,List.all_append,mM n h.2 fun t ht=>a t (by omega)]
  simp [a n (by omega) h.1]
theorem F6{P:Program}{N n:Nat}(a:P.types.size=N) (hn:Nat.ble N (n*32)=true) (h:AF (Oc (blocks n P.types.toList) N) N=true):(List.range P.types.size).all (rowFine P)=true:=by
 subst a
 exact mM _ h fun t hl ht=>F5 (Nat.le_of_ble_eq_true hn) hl ht
theorem C8{P:Program}{N n:Nat}(a:P.types.size=N) (hn:Nat.ble N (n*32)=true) (h:AF (SP (blocks n P.types.toList) N) N=true):mapsRowed P=true:=by
 subst a
 unfold mapsRowed
 refine mM _ h fun t hl ht=>?_
 unfold SP at ht
 cases hr:rootOf (blocks n P.types.toList) t with
 | none=>rw [hr] at ht;cases ht
 | some d=>
  have hu:=qk (Nat.le_of_ble_eq_true hn) hr
  grind [Nat.le_of_ble_eq_true]
theorem C9{P:Program}{N:Nat}(a:P.types.size=N) (h:P.globals.toList.all (fun g=>Nat.ble (g.type+1) N)=true):P.globals.all (fun g=>decide (g.type<P.types.size))=true:=by grind [Nat.le_of_ble_eq_true]
theorem F7{P:Program}{N:Nat}(a:P.types.size=N) (h:P.funcs.toList.all (fun f=>f.params.toList.all fun t=>Nat.ble (t+1) N)=true):P.funcs.all (fun f=>f.params.all fun t=>decide (t<P.types.size))=true:=by grind [Nat.le_of_ble_eq_true]
theorem HW{P:Program}(h1:(List.range P.types.size).all (rowFine P)=true) (a:P.globals.all (fun g=>decide (g.type<P.types.size))=true) (b:P.funcs.all (fun f=>f.params.all fun t=>decide (t<P.types.size))=true):laidOutB P=true:=by grind [laidOutB]
theorem both{a b:Bool}(c:a=true) (hb:b=true):(a && b)=true:=by rw [c,hb];rfl
end Go.Rc

namespace Go.Rc
open Go
theorem Da{P:Program}{N n:Nat}(a:P.funcs.size=N) (hn:Nat.ble N (n*32)=true) (g:FuncId):P.funcs[g]?=pick (blocks n P.funcs.toList) g:=by
 subst a;rw [kj n _ g (by simpa using Nat.le_of_ble_eq_true hn),Array.getElem?_toList]
def HX(name:String):Nat→List Func→List Nat
 | _,[]=>[]
 | k,f::r=>match f.name == name with
  | true=>k::HX name (k+1) r
  | false=>HX name (k+1) r
theorem EH(name:String):∀(l:List Func) (k:Nat),HX name k l=((List.range l.length).filter fun i=>(l[i]?).any (·.name == name)).map (· + k)
 | [],_=>rfl
 | f::r,k=>by
  have h:=EH name r (k+1);rw [List.length_cons,List.range_succ_eq_map,List.filter_cons,List.filter_map,List.getElem?_cons_zero]
  have e:((fun i=>((f::r)[i]?).any (·.name == name))∘Nat.succ)=fun i=>(r[i]?).any (·.name == name):=by
   funext i
   simp
  rw [e]
  have m:∀q:List Nat,(q.map Nat.succ).map (· + k)=q.map (· + (k+1)):=by
   intro q;rw [List.map_map]
   congr 1
   funext x
   show x.succ+k=x+(k+1)
   omega
  unfold HX
  cases hb:f.name == name with
  | true=>simp only [Option.any_some,hb,if_true,List.map_cons,Nat.zero_add,m,h]
  | false=>simp only [Option.any_some,hb,Bool.false_eq_true,if_false,m,h]
theorem mN(P:Program) (name:String):P.funcNamed name=match HX name 0 P.funcs.toList with | [i]=>some i | _=>none:=by
 unfold Program.funcNamed
 rw [EH];simp only [Nat.add_zero,List.map_id',Array.length_toList,Array.getElem?_toList]
 generalize (List.range P.funcs.size).filter (fun i=>(P.funcs[i]?).any (·.name == name))=q
 rcases q with _ | ⟨a,_ | ⟨b,r⟩⟩ <;> rfl
theorem mO(P:Program) (word:String):P.worded word=P.funcs.toList.any fun fn=>fn.body.isNone && fn.name == word:=by
 unfold Program.worded
 rw [Array.any_toList]
theorem ua(P:Program):P.laysLater=P.funcs.toList.any fun fn=>fn.body.isNone && (fn.name == "runtime.SetFinalizer" || fn.name == "runtime.AddCleanup" || fn.origin == "runtime.AddCleanup"):=by
 unfold Program.laysLater
 rw [Array.any_toList]
theorem r6(P:Program):P.stopsHeard=P.funcs.toList.all fun fn=>(Stop.rowOf fn).isNone || !fn.norace:=by
 unfold Program.stopsHeard
 rw [Array.all_toList]
def po:List (String × DataW Unit)→List (String × DataW Unit)→Bool
 | [],[]=>true
 | (n,a)::r,(m,b)::s=>n == m && DataW.same a b && po r s
 | _,_=>false
theorem rz:∀(l m:List (String × DataW Unit)),po l m=true→l=m
 | [],[],_=>rfl
 | (n,a)::r,(k,b)::s,h=>by
  simp only [po,Bool.and_eq_true,beq_iff_eq] at h;rw [h.1.1,DataW.same_eq a b h.1.2,rz r s h.2]
 | [],_::_,h=>by cases h
 | _::_,[],h=>by cases h
theorem Kv{P:Program}{n fuel M:Nat}{laid:List (String × DataW Unit)}{os:Os}{tape:Tape}{g:FuncId}(b:varsId P=g) (he:funcsListed laid=[])
  (h:(match runN P n (Machine.entering P (World.unlaid P os) tape g ⟨#[],#[],[]⟩) with
   | .ended (.done _) w=>(DataW.laidRun P w.memory fuel ((laid.filter fun x=>x.2.handleName?.isNone).map (·.1))).any fun x=>nodupBits M x.2 0 && laidRowsB P w.memory x.2 && (laid.filter fun x=>x.2.handleName?.isSome && x.2.funcsIn?.isNone).all (handleAtB P w.memory) && po x.1 (laid.filter fun x=>x.2.handleName?.isNone)
   | _=>false)=true):doorLeaves P n fuel M laid os tape=some (laid.filter fun x=>x.2.handleName?.isNone,(funcsListed laid).map (·.2.funcsOut)):=by
 unfold doorLeaves
 rw [b]
 split at h
 ·
  rename_i v w hr
  rw [hr]
  simp only
  cases a:DataW.laidRun P w.memory fuel ((laid.filter fun x=>x.2.handleName?.isNone).map (·.1)) with
  | none=>rw [a] at h;cases h
  | some x=>
   rw [a] at h;simp only [Option.any_some,Bool.and_eq_true] at h;obtain⟨⟨⟨h1,c⟩,d⟩,f⟩:=h;have e:=rz _ _ f;rw [he];simp only [Option.bind_some,h1,c,d,Bool.and_self,if_true,List.map_nil,funcsRun,Option.map_some,← e]
 cases h
end Go.Rc

namespace Go.Rc
open Go
theorem xr:∀l:List Int,(l.map fun z=>[Value.int .i64 z]).flatten=l.map (Value.int .i64)
 | []=>rfl
 | x::r=>by rw [List.map_cons,List.map_cons,List.flatten_cons,xr r];rfl
theorem W1{H:Type}{enc:TypeId × Value→H}{P:Program}{w:World}{r:Reach}{base:Nat}{t e:TypeId}{fuel n c:Nat}{a:Option Addr}{d:DataW H}{p:List MemPlace}(ht:P.underlying t=some (.slice e)) (k1:P.cellsOf e=1) (b1:1≤P.bytesOf e) (he:P.underlying e=some (.int .i64))
  (y:Value.okWide P w r base t (.slice a n c)) (h:DataW.trod enc P w 0 (fun _=>true) true fuel t [.slice a n c]=some (d,p)) (hl:C5 P t d):∃l:List Int,Rd RR.int 1 (fun b=>b<w.heap.size) w a n c l:=by
 obtain⟨l,f⟩:=Kq (R:=fun(z:Int) r=>r=[Value.int .i64 z]) ht k1 (Nat.le_refl _) b1 (fun m cs d p hm G _=>by
  obtain⟨z,rfl,_,_⟩:=DataW.trod_int he hm;exact⟨z,rfl⟩) h hl
 refine⟨l,f.len,l.map fun z=>[Value.int .i64 z],by simp,fun r hr=>?_,?_,fun i x r B hr=>?_⟩
 ·
  obtain⟨z,_,rfl⟩:=List.mem_map.1 hr
  rfl
 ·
  rw [xr];refine⟨by simp [f.len],f.le,fun u hu=>?_,?_⟩
  ·
   obtain⟨z,_,rfl⟩:=List.mem_map.1 hu
   rfl
  rcases Deep.open_slice ht h with⟨hc,_⟩ | ⟨q,len,cap,m,I,D,J,hc,_,hle,C,_⟩
  ·
   simp only [List.cons.injEq,Value.slice.injEq,and_true] at hc;exact .inl hc.2
  simp only [List.cons.injEq,Value.slice.injEq,and_true] at hc;obtain⟨rfl,rfl,rfl⟩:=hc
  have g:q.spot=none∧q.block<w.heap.size:=by
   simp only [Value.okWide,ht,Cell.okWide,Cell.ok] at y;obtain⟨_,_,_,E,row,cells,k,_⟩:=y;refine⟨E,?_⟩
   unfold World.shape? at k
   split at k
   ·
    rename_i F
    exact(Array.getElem?_eq_some_iff.1 F).1
   cases k
  obtain⟨b,o,s⟩:=q;obtain⟨hs,hb⟩:=g;simp only at hs hb;subst hs;refine .inr ⟨b,o,rfl,hle,C,hb,hb,fun j v A=>?_⟩;rw [List.getElem?_map] at A;obtain⟨z,g,rfl⟩:=Option.map_eq_some_iff.1 A;obtain⟨b',K,L,e1,_,rfl,hr,_⟩:=f.at_ g;simp only [Option.some.injEq,Addr.mk.injEq,and_true] at e1;obtain⟨rfl,rfl⟩:=e1
  have:=hr 0 _ rfl
  simpa using this
 rw [List.getElem?_map,B] at hr;exact(Option.some.inj hr).symm
end Go.Rc

namespace Go.Rc
open Go
section
variable {H:Type}{enc:TypeId × Value→H}{P:Program}{w:World}
def yh(P:Program) (t:TypeId) (l:List (Nat × Nat × Nat)):Bool:=match P.underlying t with
 | some (.struct fs)=>fs.toList.map (fun f=>(f.offset,f.type,P.cellsOf f.type)) == l
 | _=>false
abbrev gz(enc:TypeId × Value→H) (P:Program) (w:World) (t:TypeId) (cs:List Value):Prop:=∃(fu:Nat) (d:DataW H) (p:List MemPlace),DataW.trod enc P w 0 (fun _=>true) true fu t cs=some (d,p)∧C5 P t d
theorem gz.ub{t:TypeId}{l:List (Nat × Nat × Nat)}{cs:List Value}(a:yh P t l=true) (h:gz enc P w t cs) {i o ty k:Nat}(hi:l[i]?=some (o,ty,k)):gz enc P w ty ((cs.drop o).take k):=by
 obtain⟨x,d,p,h,hl⟩:=h
 unfold yh at a
 split at a
 ·
  rename_i fs hu
  obtain⟨xs,n,rfl,c,_,u,v⟩:=DataW.trod_struct hu h;simp only [Prod.mk.injEq] at c;obtain⟨rfl,rfl⟩:=c;have e:=LawfulBEq.eq_of_beq a;subst e;rw [List.getElem?_map] at hi;obtain⟨f,g,b⟩:=Option.map_eq_some_iff.1 hi;simp only [Prod.mk.injEq] at b;obtain⟨rfl,rfl,rfl⟩:=b
  have m:fs[i]?=some f:=by simpa using g
  have r:i<xs.length:=by
   rw [u];exact(Array.getElem?_eq_some_iff.1 m).1
  have s:=v i f m;rw [List.getElem?_eq_getElem r] at s;refine⟨n,xs[i].1,xs[i].2,s,fun q b=>hl q ?_⟩;simp only [DataW.weights,hu];exact DataW.weights_mem_each (j:=i) (t:=f.type) (d:=xs[i].1) (by rw [List.getElem?_map,g];rfl) (by rw [List.getElem?_map,List.getElem?_eq_getElem r];rfl) q b
 cases a
theorem gz.int{t:TypeId}{cs:List Value}(ht:P.underlying t=some (.int .i64)) (h:gz enc P w t cs):∃z:Int,cs=[.int .i64 z]:=by
 obtain⟨a,d,p,h,hl⟩:=h;obtain⟨z,e,_⟩:=DataW.trod_int ht h;exact⟨z,e⟩
theorem gz.bool{t:TypeId}{cs:List Value}(ht:P.underlying t=some .bool) (h:gz enc P w t cs):∃z:Bool,cs=[.bool z]:=by
 obtain⟨a,d,p,h,hl⟩:=h;obtain⟨z,e,_⟩:=DataW.trod_bool ht h;exact⟨z,e⟩
theorem gz.str{t:TypeId}{cs:List Value}(ht:P.underlying t=some .string) (h:gz enc P w t cs):∃s:ByteArray,cs=[.string s]∧s.size≤140737488355328:=by
 obtain⟨b,d,p,h,hl⟩:=h;obtain⟨s,e,a,_⟩:=DataW.trod_string ht h;simp only [Prod.mk.injEq] at a;obtain⟨rfl,_⟩:=a;refine⟨s,e,?_⟩
 have:=hl s.data.toList.length (by simp [DataW.weights])
 unfold reachBytes at this
 rw [Array.length_toList] at this
 show s.data.size≤_
 omega
theorem gz.slice{t e:TypeId}{cs:List Value}(ht:P.underlying t=some (.slice e)) (h:gz enc P w t cs):∃a n c,cs=[.slice a n c]:=by
 obtain⟨b,d,p,h,hl⟩:=h
 rcases DataW.trod_slice ht h with⟨rfl,_⟩ | ⟨a,len,cap,_,_,_,_,rfl,_⟩
 ·
  exact⟨_,_,_,rfl⟩
 exact⟨_,_,_,rfl⟩
theorem HY{rows:List (List Value)}{k m:Nat}{v:Value}(hk:∀r∈rows,r.length=k) (h1:1≤k) (a:rows.flatten[m]?=some v):∃r,rows[m / k]?=some r∧r[m % k]?=some v:=by
 have hlen:rows.flatten.length=rows.length*k:=by
  clear a
  induction rows with
  | nil=>simp
  | cons r l d=>
   rw [List.flatten_cons,List.length_append,d fun x f=>hk x (by simp [f]),hk r (by simp),List.length_cons,Nat.succ_mul]
   omega
 have hm:=(List.getElem?_eq_some_iff.1 a).1;rw [hlen] at hm;have hi:m / k<rows.length:=Nat.div_lt_of_lt_mul (by rw [Nat.mul_comm];exact hm);refine⟨rows[m / k],List.getElem?_eq_getElem hi,?_⟩;have hr:=hk _ (List.getElem_mem hi)
 have b:m % k<rows[m / k].length:=by
  rw [hr];exact Nat.mod_lt _ (by omega)
 have c:=ka rows k (m / k) _ hk (List.getElem?_eq_getElem hi) (m % k) _ (List.getElem?_eq_getElem b)
 have e:m / k*k+m % k=m:=by
  rw [Nat.mul_comm];exact Nat.div_add_mod m k
 rw [e,a] at c;rw [List.getElem?_eq_getElem b];exact c.symm
theorem gz.rows{α:Type} [Inhabited α] {R:α→List Value→Prop}{t e k n c:Nat}{a:Option Addr}(ht:P.underlying t=some (.slice e)) (hk:P.cellsOf e=k) (M:1≤k) (hb:1≤P.bytesOf e)
  (N:∀cs:List Value,gz enc P w e cs→cs.length=k→∃x:α,R x cs) (O:∀x cs,R x cs→∀u∈cs,u.oneCell'=true)
  (h:gz enc P w t [.slice a n c]):∃xs:List α,SR (fun b=>b<w.heap.size) w k R a n c xs:=by
 obtain⟨fu,d,p,h,hl⟩:=h
 rcases Deep.open_slice ht h with⟨hc,_⟩ | ⟨z,len,cap,m,Q,D,Pl,hc,_,hle,S,hm,f,E⟩
 ·
  simp only [List.cons.injEq,Value.slice.injEq,and_true] at hc;obtain⟨rfl,rfl,rfl⟩:=hc;exact⟨[],SR.nil _ _ _ _⟩
 simp only [List.cons.injEq,Value.slice.injEq,and_true] at hc;obtain⟨rfl,rfl,rfl⟩:=hc;simp only [Prod.mk.injEq] at f;obtain⟨rfl,_⟩:=f;simp only [if_true] at hm
 have hn:n≤140737488355328:=by simpa using hl.len ht hb
 by_cases T:c=0
 ·
  obtain rfl:n=0:=by omega
  exact⟨[],rfl,[],rfl,by simp,⟨by simp,by omega,by simp,.inl ⟨rfl,T⟩⟩,by simp⟩
 have each:∀i,i<n→∃q:α × List Value,w.cells? 0 (z.add (i*k)) k=some q.2∧R q.1 q.2:=fun i hi=>by
  obtain⟨F,h1,U⟩:=E i (by omega);rw [hk] at h1;obtain⟨x,f⟩:=N F ⟨Q,_,_,U,hl.elem ht (List.mem_map.2 ⟨i,by simpa using hi,rfl⟩)⟩ (World.cells?_some h1).2.1;exact⟨(x,F),h1,f⟩
 obtain⟨q,y⟩:=Deep.choose_lt each;obtain⟨cs0,G,_⟩:=E 0 (by omega);rw [hk] at G;obtain⟨_,Q8,V⟩:=World.cells?_some G;have h0:=V 0 (by omega);rw [List.getElem?_eq_getElem (by omega)] at h0
 have hs:z.spot=none:=by
  have:=World.cell?_spot h0
  simpa [Addr.add] using this
 obtain⟨b,o,s⟩:=z;simp only at hs;subst hs
 have I:b<w.heap.size:=by
  have J:=h0;rw [Nat.zero_mul,WideShapes.add_plain,WideShapes.add_plain] at J;exact World.block_lt_of_cell? w ⟨b,_,none⟩ J
 have A:∀r∈(List.range n).map fun i=>(q i).2,r.length=k:=fun r hr=>by
  obtain⟨i,hi,rfl⟩:=List.mem_map.1 hr;exact(World.cells?_some (y i (by simpa using hi)).1).2.1
 have W:(((List.range n).map fun i=>(q i).2).flatten).length=n*k:=by
  have:∀rows:List (List Value),(∀r∈rows,r.length=k)→rows.flatten.length=rows.length*k:=fun rows=>by
   induction rows with
   | nil=>intro _;simp
   | cons r l X=>
    intro K;rw [List.flatten_cons,List.length_append,X fun x f=>K x (by simp [f]),K r (by simp),List.length_cons,Nat.succ_mul]
    omega
  rw [this _ A,List.length_map,List.length_range]
 refine⟨(List.range n).map fun i=>(q i).1,by simp,(List.range n).map fun i=>(q i).2,by simp,A,⟨W,hn,fun u hu=>?_,.inr ⟨b,o,rfl,hle,S,I,I,fun m v B=>?_⟩⟩,fun i x r f hr=>?_⟩
 ·
  obtain⟨r,hr,hu⟩:=List.mem_flatten.1 hu;obtain⟨i,hi,rfl⟩:=List.mem_map.1 hr;exact O _ _ (y i (by simpa using hi)).2 u hu
 ·
  obtain⟨r,hr,B⟩:=HY A M B;rw [List.getElem?_map] at hr;obtain⟨i,hi,rfl⟩:=Option.map_eq_some_iff.1 hr;obtain⟨g,j⟩:=List.getElem?_eq_some_iff.1 hi
  simp at g j
  subst j;obtain⟨_,Ha,Y⟩:=World.cells?_some (y _ g).1;have Z:m % k<k:=Nat.mod_lt _ (by omega);have C:=Y (m % k) Z;rw [WideShapes.add_plain,WideShapes.add_plain,B,Nat.add_assoc] at C
  have e:m / k*k+m % k=m:=by
   rw [Nat.mul_comm];exact Nat.div_add_mod m k
  rw [e] at C;exact C
 rw [List.getElem?_map] at f hr;obtain⟨i1,g,rfl⟩:=Option.map_eq_some_iff.1 f;rw [g] at hr;simp only [Option.map_some,Option.some.injEq] at hr;subst hr;obtain⟨j,L⟩:=List.getElem?_eq_some_iff.1 g
 simp at j L
 subst L;exact(y _ j).2
theorem SR.Od{α:Type}{R:α→List Value→Prop}{Q:α→Prop}{A:Nat→Prop}{k n c:Nat}{a:Option Addr}{xs:List α}(h:SR A w k (fun x r=>R x r∧Q x) a n c xs):SR A w k R a n c xs∧∀x∈xs,Q x:=by
 refine⟨h.mono (fun _ h _=>h) fun _ _ h=>h.1,fun x b=>?_⟩;obtain⟨i,hi,rfl⟩:=List.getElem_of_mem b;obtain⟨_,_,_,_,_,d,_⟩:=h.at (List.getElem?_eq_getElem hi);exact d.2
section
variable {ti ts tb tk:Nat}(hi:P.underlying ti=some (.int .i64)) (hs:P.underlying ts=some .string) (hb:P.underlying tb=some .bool)
include hi in
theorem open_ints{t n c:Nat}{a:Option Addr}(ht:P.underlying t=some (.slice ti)) (hk:P.cellsOf ti=1) (hy:1≤P.bytesOf ti) (h:gz enc P w t [.slice a n c]):∃l:List Int,Rd RR.int 1 (fun b=>b<w.heap.size) w a n c l:=
 h.rows ht hk (by decide) hy (fun cs h _=>h.int hi) (fun x cs e u hu=>by subst e;simp at hu;subst hu;rfl)
include hi hs in
theorem yi{cs:List Value}(a:yh P tk [(0,ti,1),(1,ts,1)]=true) (h:gz enc P w tk cs) (hl:cs.length=2):∃k:Key,cs=k.cells∧k.text.size≤140737488355328:=by
 match cs,hl with
 | [v0,v1],_=>
  obtain⟨z,e0⟩:=(h.ub a (i:=0) rfl).int hi;obtain⟨s,e1,h1⟩:=(h.ub a (i:=1) rfl).str hs
  simp at e0 e1
  subst e0 e1;exact⟨⟨z,s⟩,rfl,h1⟩
theorem Kw{k:Key}:∀u∈k.cells,u.oneCell'=true:=fun u hu=>by
 simp [Key.cells] at hu
 rcases hu with rfl | rfl <;> rfl
include hi hs in
theorem F8{t n c:Nat}{a:Option Addr}(ht:P.underlying t=some (.slice tk)) (hk:P.cellsOf tk=2) (hy:1≤P.bytesOf tk) (d:yh P tk [(0,ti,1),(1,ts,1)]=true) (h:gz enc P w t [.slice a n c]):∃l:List Key,Rd RR.key 2 (fun b=>b<w.heap.size) w a n c l∧∀k∈l,k.text.size≤140737488355328:=by
 obtain⟨l,hl⟩:=h.rows (R:=fun(k:Key) r=>r=k.cells∧k.text.size≤140737488355328) ht hk (by decide) hy (fun cs h hc=>yi hi hs d h hc) (fun x cs e u hu=>by rw [e.1] at hu;exact Kw u hu);exact⟨l,SR.Od hl⟩
include hi hs in
theorem Oe{t:Nat}{cs:List Value}(b:yh P tk [(0,ti,1),(1,ts,1)]=true) (a:yh P t [(0,tk,2),(2,ts,1),(3,ti,1)]=true) (h:gz enc P w t cs) (hl:cs.length=4):∃x:bU,cs=x.cells∧x.key.text.size≤140737488355328:=by
 match cs,hl with
 | [v0,v1,v2,v3],_=>
  obtain⟨k,e0,h0⟩:=yi hi hs b (h.ub a (i:=0) rfl) rfl;obtain⟨s,e1,h1⟩:=(h.ub a (i:=1) rfl).str hs;obtain⟨z,e2⟩:=(h.ub a (i:=2) rfl).int hi
  simp [Key.cells] at e0 e1 e2
  obtain⟨rfl,rfl⟩:=e0;subst e1 e2;exact⟨⟨k,s,z⟩,rfl,h0⟩
include hi hb in
theorem Of{t:Nat}{cs:List Value}(a:yh P t [(0,tb,1),(1,tb,1),(2,ti,1),(3,ti,1)]=true) (h:gz enc P w t cs) (hl:cs.length=4):∃x:Ask,cs=x.cells:=by
 match cs,hl with
 | [v0,v1,v2,v3],_=>
  obtain⟨b0,e0⟩:=(h.ub a (i:=0) rfl).bool hb;obtain⟨b1,e1⟩:=(h.ub a (i:=1) rfl).bool hb;obtain⟨z2,e2⟩:=(h.ub a (i:=2) rfl).int hi;obtain⟨z3,e3⟩:=(h.ub a (i:=3) rfl).int hi
  simp at e0 e1 e2 e3
  subst e0 e1 e2 e3;exact⟨⟨b0,b1,z2,z3⟩,rfl⟩
include hi hb in
theorem Db{t d j f n c:Nat}{a:Option Addr}(ht:P.underlying t=some (.slice d)) (hk:P.cellsOf d=4) (hy:1≤P.bytesOf d) (g:yh P d [(0,tb,1),(1,j,1),(2,ti,1),(3,ti,1)]=true) (k:P.underlying j=some (.slice f)) (m:P.cellsOf f=4) (o:1≤P.bytesOf f) (p:yh P f [(0,tb,1),(1,tb,1),(2,ti,1),(3,ti,1)]=true)
  (h:gz enc P w t [.slice a n c]):∃l:List aA,Rd RR.dp 4 (fun b=>b<w.heap.size) w a n c l:=by
 refine h.rows ht hk (by decide) hy (fun cs h hc=>?_) (fun x cs e u hu=>?_)
 ·
  match cs,hc with
  | [v0,v1,v2,v3],_=>
   obtain⟨b0,e0⟩:=(h.ub g (i:=0) rfl).bool hb;have h1:=h.ub g (i:=1) rfl;obtain⟨a1,n1,c1,e1⟩:=h1.slice k;rw [e1] at h1;obtain⟨l,hl⟩:=h1.rows (R:=fun(x:Ask) r=>r=x.cells) k m (by decide) o (fun cs h hc=>Of hi hb p h hc) (fun x cs e u hu=>by subst e;simp [Ask.cells] at hu;rcases hu with rfl | rfl | rfl | rfl <;> rfl);obtain⟨z2,e2⟩:=(h.ub g (i:=2) rfl).int hi;obtain⟨z3,e3⟩:=(h.ub g (i:=3) rfl).int hi
   simp at e0 e1 e2 e3
   subst e0 e1 e2 e3;exact⟨⟨b0,l,z2,z3⟩,a1,n1,c1,rfl,hl⟩
 obtain⟨a1,n1,c1,rfl,_⟩:=e
 simp at hu
 rcases hu with rfl | rfl | rfl | rfl <;> rfl
include hi hs hb in
theorem F9{t g c j d l:Nat}{cs:List Value}(f:yh P tk [(0,ti,1),(1,ts,1)]=true) (hT:yh P t [(0,ti,1),(1,g,1),(2,j,1)]=true) (o:yh P c [(0,tk,2),(2,ts,1),(3,ti,1)]=true) (a:yh P d [(0,tk,2),(2,ts,1),(3,l,1),(4,ti,1),(5,ti,1),(6,ti,1),(7,tb,1)]=true)
  (h1:P.underlying g=some (.slice c)) (k1:P.cellsOf c=4) (p:1≤P.bytesOf c) (m:P.underlying j=some (.slice d)) (k2:P.cellsOf d=8) (q:1≤P.bytesOf d) (n:P.underlying l=some (.slice tk)) (k3:P.cellsOf tk=2) (y3:1≤P.bytesOf tk)
  (h:gz enc P w t cs) (hl:cs.length=3):∃(x:cA) (a1:Option Addr) (n1 c1:Nat) (a2:Option Addr) (n2 c2:Nat),cs=x.row a1 n1 c1 a2 n2 c2∧Rd RR.az 4 (fun b=>b<w.heap.size) w a1 n1 c1 x.ad∧Rd RR.C4 8 (fun b=>b<w.heap.size) w a2 n2 c2 x.ah∧Jq x:=by
 match cs,hl with
 | [v0,v1,v2],_=>
  obtain⟨z,e0⟩:=(h.ub hT (i:=0) rfl).int hi;have g1:=h.ub hT (i:=1) rfl;obtain⟨a1,n1,c1,e1⟩:=g1.slice h1;rw [e1] at g1;have g2:=h.ub hT (i:=2) rfl;obtain⟨a2,n2,c2,e2⟩:=g2.slice m;rw [e2] at g2;obtain⟨li,v⟩:=g1.rows (R:=fun(x:bU) r=>r=x.cells∧x.key.text.size≤140737488355328) h1 k1 (by decide) p (fun cs h hc=>Oe hi hs f o h hc) (fun x cs e u hu=>by rw [e.1] at hu;simp [bU.cells] at hu;rcases hu with rfl | rfl | rfl | rfl <;> rfl)
  obtain⟨lr,y⟩:=g2.rows (R:=fun(x:Rec) r=>(RR.C4.r (fun b=>b<w.heap.size) w x r)∧W0 x) m k2 (by decide) q (fun cs h hc=>by
   match cs,hc with
   | [G,u1,I,J,K,L,M,N],_=>
    obtain⟨k,f0,g0⟩:=yi hi hs f (h.ub a (i:=0) rfl) rfl;obtain⟨s,f1,_⟩:=(h.ub a (i:=1) rfl).str hs;have g3:=h.ub a (i:=2) rfl;obtain⟨a3,n3,c3,f2⟩:=g3.slice n;rw [f2] at g3;obtain⟨A,B,C⟩:=F8 hi hs n k3 y3 f g3;obtain⟨z4,f4⟩:=(h.ub a (i:=3) rfl).int hi;obtain⟨z5,f5⟩:=(h.ub a (i:=4) rfl).int hi;obtain⟨D,f6⟩:=(h.ub a (i:=5) rfl).int hi;obtain⟨E,f7⟩:=(h.ub a (i:=6) rfl).bool hb
    simp [Key.cells] at f0 f1 f2 f4 f5 f6 f7
    obtain⟨rfl,rfl⟩:=f0;subst f1 f2 f4 f5 f6 f7
    exact⟨⟨k,s,A,z4,z5,D,E⟩,⟨a3,n3,c3,rfl,B⟩,g0,C⟩) (fun x cs e u hu=>by
   obtain⟨⟨a3,n3,c3,rfl,_⟩,_⟩:=e
   simp [Rec.row] at hu
   rcases hu with rfl | rfl | rfl | rfl | rfl | rfl | rfl | rfl <;> rfl)
  simp at e0 e1 e2
  subst e0 e1 e2;obtain⟨p1,q1⟩:=SR.Od v;obtain⟨p2,F⟩:=SR.Od y;exact⟨⟨z,li,lr⟩,a1,n1,c1,a2,n2,c2,rfl,p1,p2,q1,F⟩
end
end
open Go.ChangeShapes in
theorem AG{H:Type}{enc:TypeId × Value→H}{P:Program}{w:World}{base:Nat}{spare:Nat→Bool}{held:Bool}{t0 t1 t2 t3 t4 t5:TypeId}{args:Array Value}{ds:List (DataW H)}{ps:List MemPlace}(h:DataW.TrodAll enc P w base spare held [t0,t1,t2,t3,t4,t5] args.toList ds ps) :
  ∃v0 v1 v2 v3 v4 v5 d0 d1 d2 d3 d4 d5 p0 p1 p2 p3 p4 p5,args=#[v0,v1,v2,v3,v4,v5]∧ds=[d0,d1,d2,d3,d4,d5]∧ps=p0++(p1++(p2++(p3++(p4++p5))))∧DataW.Trod enc P w base spare held t0 v0 d0 p0∧DataW.Trod enc P w base spare held t1 v1 d1 p1∧DataW.Trod enc P w base spare held t2 v2 d2 p2∧DataW.Trod enc P w base spare held t3 v3 d3 p3∧DataW.Trod enc P w base spare held t4 v4 d4 p4∧DataW.Trod enc P w base spare held t5 v5 d5 p5:=by
 obtain⟨v0,r0,d0,e0,p0,q0,a,rfl,rfl,h0,h⟩:=trodAll_cons h;obtain⟨v1,r1,d1,e1,p1,q1,rfl,rfl,rfl,h1,h⟩:=trodAll_cons h;obtain⟨v2,r2,d2,e2,p2,f,rfl,rfl,rfl,b,h⟩:=trodAll_cons h;obtain⟨v3,r3,d3,e3,p3,g,rfl,rfl,rfl,c,h⟩:=trodAll_cons h;obtain⟨v4,i,d4,e4,p4,j,rfl,rfl,rfl,d,h⟩:=trodAll_cons h;obtain⟨v5,k,d5,l,p5,m,rfl,rfl,rfl,e,h⟩:=trodAll_cons h;obtain⟨rfl,rfl,rfl⟩:=trodAll_nil h;exact⟨v0,v1,v2,v3,v4,v5,d0,d1,d2,d3,d4,d5,p0,p1,p2,p3,p4,p5,Array.toList_inj.1 (by simpa using a),rfl,by simp,h0,h1,b,c,d,e⟩
theorem AH{H:Type}{enc:TypeId × Value→H}{P:Program}{w:World}{base:Nat}{spare:Nat→Bool}{held:Bool}{t0 t1 t2 t3 t4 t5:TypeId}{v0 v1 v2 v3 v4 v5:Value}{d0 d1 d2 d3 d4 d5:DataW H}{p0 p1 p2 p3 p4 p5:List MemPlace}(h0:DataW.Trod enc P w base spare held t0 v0 d0 p0) (h1:DataW.Trod enc P w base spare held t1 v1 d1 p1) (a:DataW.Trod enc P w base spare held t2 v2 d2 p2) (b:DataW.Trod enc P w base spare held t3 v3 d3 p3) (c:DataW.Trod enc P w base spare held t4 v4 d4 p4) (d:DataW.Trod enc P w base spare held t5 v5 d5 p5) :
  DataW.TrodAll enc P w base spare held [t0,t1,t2,t3,t4,t5] [v0,v1,v2,v3,v4,v5] [d0,d1,d2,d3,d4,d5] (p0++(p1++(p2++(p3++(p4++p5))))):=
 ⟨p0,_,h0,⟨p1,_,h1,⟨p2,_,a,⟨p3,_,b,⟨p4,_,c,⟨p5,[],d,rfl,(List.append_nil _).symm⟩,rfl⟩,rfl⟩,rfl⟩,rfl⟩,rfl⟩
theorem uc{P:Program}{w:World}{r:Reach}{base:Nat}{t:TypeId}{fs:Array Field}{v:Value}(ht:P.underlying t=some (.struct fs)) (h:Value.okWide P w r base t v):∃cs,v=.agg cs∧cs.size=P.cellsOf t:=by
 simp only [Value.okWide,ht] at h;obtain⟨cs,h1,a,_⟩:=h;exact⟨cs,h1,a⟩
end Go.Rc

