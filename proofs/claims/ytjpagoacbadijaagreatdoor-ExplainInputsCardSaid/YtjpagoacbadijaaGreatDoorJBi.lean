/- Base of the proof: frames, memory, ownership, and the plain meaning of rule systems. Conditions: as each lemma says. -/
import Derived.JoinedOf
import Derived.LaidOnce
import Derived.TwinInFollowed
import Derived.Test.YtjpagoacbadijaaGreatDoorJBh
import Derived.WideShapes
set_option linter.all false
namespace Go.Rc
open Go
def blocks{α:Type _}:Nat→List α→List (List α)
 | 0,_=>[]
 | n+1,l=>l.take 32::blocks n (l.drop 32)
def pick{α:Type _}(b:List (List α)) (t:Nat):Option α:=(b[t / 32]?).bind (·[t % 32]?)
theorem iR{α:Type _}:∀(n:Nat) (l:List α) (t:Nat),l.length≤n*32→pick (blocks n l) t=l[t]?
 | 0,l,t,h=>by grind [pick,blocks]
 | n+1,l,t,h=>by
  by_cases ht:t<32
  ·
   grind [pick,blocks]
  have h1:t / 32=(t - 32) / 32+1:=by omega
  have a:t % 32=(t - 32) % 32:=by omega
  have b:=iR n (l.drop 32) (t - 32) (by simp;omega)
  grind [pick,blocks]
def rootOf(b:List (List TypeInfo)) (t:TypeId):Option TypeDesc:=
 (pick b t).bind fun i=>match i.desc with
  | .named _ u=>(pick b u).map (·.desc)
  | d=>some d
def wide(b:List (List TypeInfo)) (t:TypeId):Nat:=((pick b t).map (·.size)).getD 0
theorem oj{P:Program}{n:Nat}(hn:P.types.size≤n*32) {t:TypeId}{i:TypeInfo}(h:pick (blocks n P.types.toList) t=some i):P.info? t=some i:=by
 rw [iR n _ t (by simpa using hn),Array.getElem?_toList] at h;have ht:t<P.types.size:=(Array.getElem?_eq_some_iff.1 h).1
 unfold Tables.info?
 rw [if_pos ht,h]
theorem Hb{P:Program}{n:Nat}(hn:P.types.size≤n*32) {t:TypeId}(h:t<P.types.size):∃i,pick (blocks n P.types.toList) t=some i:=by
 rw [iR n _ t (by simpa using hn),Array.getElem?_toList]
 simp_all
theorem om{P:Program}{n:Nat}(hn:P.types.size≤n*32) {t:TypeId}{d:TypeDesc}(h:rootOf (blocks n P.types.toList) t=some d):P.underlying t=some d:=by
 unfold rootOf at h
 unfold Program.underlying
 cases a:pick (blocks n P.types.toList) t with
 | none=>rw [a] at h;cases h
 | some i=>
  rw [a] at h;rw [oj hn a];obtain⟨e,_⟩:=i
  grind [pick,oj]
theorem ny{P:Program}{n:Nat}(hn:P.types.size≤n*32) {t:TypeId}(h:t<P.types.size):wide (blocks n P.types.toList) t=P.cellsOf t:=by grind [Hb,wide,Program.cellsOf,oj]
def stands(b:List (List TypeInfo)) (N:Nat) (t:TypeId):Bool:=Nat.ble (t+1) N && kindOk (rootOf b t)
theorem ly{b:List (List TypeInfo)}{N:Nat}{t:TypeId}(h:stands b N t=true):t<N:=by
 simp only [stands,Bool.and_eq_true] at h;exact Nat.le_of_ble_eq_true h.1
theorem lz{P:Program}{n:Nat}(hn:P.types.size≤n*32) {t:TypeId}(h:stands (blocks n P.types.toList) P.types.size t=true):isVar P t=true:=by
 have hl:=ly h;simp only [stands,Bool.and_eq_true] at h
 unfold isVar
 cases hr:rootOf (blocks n P.types.toList) t with
 | none=>rw [hr] at h;cases h.2
 | some d=>grind [om]
def nz(b:List (List TypeInfo)) (N:Nat):Nat→List Field→Bool
 | _,[]=>true
 | o,f::r=>stands b N f.type && Nat.beq f.offset o && nz b N (o+wide b f.type) r
def sumOf(b:List (List TypeInfo)):List Field→Nat
 | []=>0
 | f::r=>wide b f.type+sumOf b r
def Kp(b:List (List TypeInfo)) (N:Nat) (t:TypeId):Bool:=
 match rootOf b t with
 | none=>false
 | some (.struct fs)=>nz b N 0 fs.toList && Nat.beq (wide b t) (sumOf b fs.toList)
 | some (.array k e)=>stands b N e && Nat.beq (wide b t) (k*wide b e)
 | some (.pointer e)=>stands b N e && Nat.beq (wide b t) 1
 | some (.slice e)=>stands b N e && Nat.beq (wide b t) 1
 | some (.tuple _)=>true
 | some .invalid=>true
 | some (.named _ _)=>true
 | _=>Nat.beq (wide b t) 1
def zs(b:List (List TypeInfo)) (N:Nat) (t:TypeId):Bool:=
 match rootOf b t with
 | none=>false
 | some (.map _ e)=>Nat.ble (e+1) N
 | _=>true
theorem nA{P:Program}{n:Nat}(hn:P.types.size≤n*32):∀(fs:List Field) (o:Nat),nz (blocks n P.types.toList) P.types.size o fs=true→
  (∀f∈fs,isVar P f.type=true)∧(∀j f,fs[j]?=some f→f.offset=o+((fs.take j).map fun f=>P.cellsOf f.type).sum)∧sumOf (blocks n P.types.toList) fs=(fs.map fun f=>P.cellsOf f.type).sum
 | [],_,_=>⟨by simp,by simp,rfl⟩
 | g::r,o,h=>by
  simp only [nz,Bool.and_eq_true] at h;obtain⟨⟨h1,b⟩,a⟩:=h;rw [ny hn (ly h1)] at a;obtain⟨c,i2,i3⟩:=nA hn r _ a;refine⟨fun f d=>?_,fun j f e=>?_,?_⟩
  ·
   grind [lz]
  ·
   cases j with
   | zero=>simp_all
   | succ j=>grind
  grind [sumOf,ny,ly]
theorem Cq{P:Program}{n:Nat}(hn:P.types.size≤n*32) {t:TypeId}(ht:t<P.types.size) (h:Kp (blocks n P.types.toList) P.types.size t=true):rowFine P t=true:=by
 unfold Kp at h
 rw [ny hn ht] at h
 unfold rowFine
 rw [Bool.or_eq_true]
 cases hr:rootOf (blocks n P.types.toList) t with
 | none=>rw [hr] at h;cases h
 | some d=>
  have hu:=om hn hr;rw [hr] at h
  cases d with
  | struct fs=>
   right
   simp only [hu];simp only [Bool.and_eq_true] at h;obtain⟨h1,c,b⟩:=nA hn fs.toList 0 h.1;simp only [Bool.and_eq_true,List.all_eq_true,beq_iff_eq];refine⟨⟨h1,(Nat.eq_of_beq_eq_true h.2).trans b⟩,fun j f=>?_⟩
   grind
  | array k e=>
   right
   simp only [hu];simp only [Bool.and_eq_true] at h ⊢;rw [ny hn (ly h.1)] at h;exact⟨lz hn h.1,by simp_all⟩
  | pointer e=>
   right
   simp only [hu];simp only [Bool.and_eq_true] at h ⊢;exact⟨lz hn h.1,by simp_all⟩
  | slice e=>
   right
   simp only [hu];simp only [Bool.and_eq_true] at h ⊢;exact⟨lz hn h.1,by simp_all⟩
  | tuple e=>left;simp [isVar,hu,kindOk]
  | invalid=>left;simp [isVar,hu,kindOk]
  | named a e=>left;simp [isVar,hu,kindOk]
  | _=>
   right
   simp only [hu];rw [beq_iff_eq];exact Nat.eq_of_beq_eq_true h
def xy(f:Nat→Bool):Nat→Bool
 | 0=>true
 | n+1=>f n && xy f n
theorem kU{f g:Nat→Bool}:∀(n:Nat),xy f n=true→(∀t,t<n→f t=true→g t=true)→(List.range n).all g=true
 | 0,_,_=>by simp
 | n+1,h,a=>by
  simp only [xy,Bool.and_eq_true] at h;rw [List.range_succ,List.all_append,kU n h.2 fun t ht=>a t (by omega)]
  simp [a n (by omega) h.1]
theorem Cr{P:Program}{N n:Nat}(a:P.types.size=N) (hn:Nat.ble N (n*32)=true) (h:xy (Kp (blocks n P.types.toList) N) N=true):(List.range P.types.size).all (rowFine P)=true:=by
 subst a
 exact kU _ h fun t hl ht=>Cq (Nat.le_of_ble_eq_true hn) hl ht
theorem zC{P:Program}{N n:Nat}(a:P.types.size=N) (hn:Nat.ble N (n*32)=true) (h:xy (zs (blocks n P.types.toList) N) N=true):mapsRowed P=true:=by
 subst a
 unfold mapsRowed
 refine kU _ h fun t hl ht=>?_
 unfold zs at ht
 cases hr:rootOf (blocks n P.types.toList) t with
 | none=>rw [hr] at ht;cases ht
 | some d=>
  have hu:=om (Nat.le_of_ble_eq_true hn) hr
  grind [Nat.le_of_ble_eq_true]
theorem zD{P:Program}{N:Nat}(a:P.types.size=N) (h:P.globals.toList.all (fun g=>Nat.ble (g.type+1) N)=true):P.globals.all (fun g=>decide (g.type<P.types.size))=true:=by grind [Nat.le_of_ble_eq_true]
theorem Cs{P:Program}{N:Nat}(a:P.types.size=N) (h:P.funcs.toList.all (fun f=>f.params.toList.all fun t=>Nat.ble (t+1) N)=true):P.funcs.all (fun f=>f.params.all fun t=>decide (t<P.types.size))=true:=by grind [Nat.le_of_ble_eq_true]
theorem Er{P:Program}(h1:(List.range P.types.size).all (rowFine P)=true) (a:P.globals.all (fun g=>decide (g.type<P.types.size))=true) (b:P.funcs.all (fun f=>f.params.all fun t=>decide (t<P.types.size))=true):laidOutB P=true:=by grind [laidOutB]
theorem both{a b:Bool}(c:a=true) (hb:b=true):(a && b)=true:=by rw [c,hb];rfl
end Go.Rc

namespace Go.Rc
open Go
theorem zF{P:Program}{N n:Nat}(a:P.funcs.size=N) (hn:Nat.ble N (n*32)=true) (g:FuncId):P.funcs[g]?=pick (blocks n P.funcs.toList) g:=by
 subst a;rw [iR n _ g (by simpa using Nat.le_of_ble_eq_true hn),Array.getElem?_toList]
def Es(name:String):Nat→List Func→List Nat
 | _,[]=>[]
 | k,f::r=>match f.name == name with
  | true=>k::Es name (k+1) r
  | false=>Es name (k+1) r
theorem Bt(name:String):∀(l:List Func) (k:Nat),Es name k l=((List.range l.length).filter fun i=>(l[i]?).any (·.name == name)).map (· + k)
 | [],_=>rfl
 | f::r,k=>by
  have h:=Bt name r (k+1);rw [List.length_cons,List.range_succ_eq_map,List.filter_cons,List.filter_map,List.getElem?_cons_zero]
  have e:((fun i=>((f::r)[i]?).any (·.name == name))∘Nat.succ)=fun i=>(r[i]?).any (·.name == name):=by
   funext i
   simp
  rw [e]
  have m:∀q:List Nat,(q.map Nat.succ).map (· + k)=q.map (· + (k+1)):=by
   intro q;rw [List.map_map]
   congr 1
   funext x
   show x.succ+k=x+(k+1)
   omega
  unfold Es
  cases hb:f.name == name with
  | true=>simp only [Option.any_some,hb,if_true,List.map_cons,Nat.zero_add,m,h]
  | false=>simp only [Option.any_some,hb,Bool.false_eq_true,if_false,m,h]
theorem kV(P:Program) (name:String):P.funcNamed name=match Es name 0 P.funcs.toList with | [i]=>some i | _=>none:=by
 unfold Program.funcNamed
 rw [Bt];simp only [Nat.add_zero,List.map_id',Array.length_toList,Array.getElem?_toList]
 generalize (List.range P.funcs.size).filter (fun i=>(P.funcs[i]?).any (·.name == name))=q
 rcases q with _ | ⟨a,_ | ⟨b,r⟩⟩ <;> rfl
theorem kW(P:Program) (word:String):P.worded word=P.funcs.toList.any fun fn=>fn.body.isNone && fn.name == word:=by
 unfold Program.worded
 rw [Array.any_toList]
theorem qX(P:Program):P.laysLater=P.funcs.toList.any fun fn=>fn.body.isNone && (fn.name == "runtime.SetFinalizer" || fn.name == "runtime.AddCleanup" || fn.origin == "runtime.AddCleanup"):=by
 unfold Program.laysLater
 rw [Array.any_toList]
theorem pE(P:Program):P.stopsHeard=P.funcs.toList.all fun fn=>(Stop.rowOf fn).isNone || !fn.norace:=by
 unfold Program.stopsHeard
 rw [Array.all_toList]
def nB:List (String × DataW Unit)→List (String × DataW Unit)→Bool
 | [],[]=>true
 | (n,a)::r,(m,b)::s=>n == m && DataW.same a b && nB r s
 | _,_=>false
theorem oX:∀(l m:List (String × DataW Unit)),nB l m=true→l=m
 | [],[],_=>rfl
 | (n,a)::r,(k,b)::s,h=>by
  simp only [nB,Bool.and_eq_true,beq_iff_eq] at h;rw [h.1.1,DataW.same_eq a b h.1.2,oX r s h.2]
 | [],_::_,h=>by cases h
 | _::_,[],h=>by cases h
theorem Hc{P:Program}{n fuel M:Nat}{laid:List (String × DataW Unit)}{os:Os}{tape:Tape}{g:FuncId}(b:varsId P=g) (he:funcsListed laid=[])
  (h:(match runN P n (Machine.entering P (World.unlaid P os) tape g ⟨#[],#[],[]⟩) with
   | .ended (.done _) w=>(DataW.laidRun P w.memory fuel ((laid.filter fun x=>x.2.handleName?.isNone).map (·.1))).any fun x=>nodupBits M x.2 0 && laidRowsB P w.memory x.2 && (laid.filter fun x=>x.2.handleName?.isSome && x.2.funcsIn?.isNone).all (handleAtB P w.memory) && nB x.1 (laid.filter fun x=>x.2.handleName?.isNone)
   | _=>false)=true):doorLeaves P n fuel M laid os tape=some (laid.filter fun x=>x.2.handleName?.isNone,(funcsListed laid).map (·.2.funcsOut)):=by
 unfold doorLeaves
 rw [b]
 split at h
 ·
  rename_i v w hr
  rw [hr]
  simp only
  cases a:DataW.laidRun P w.memory fuel ((laid.filter fun x=>x.2.handleName?.isNone).map (·.1)) with
  | none=>rw [a] at h;cases h
  | some x=>
   rw [a] at h;simp only [Option.any_some,Bool.and_eq_true] at h;obtain⟨⟨⟨h1,c⟩,d⟩,f⟩:=h;have e:=oX _ _ f;rw [he];simp only [Option.bind_some,h1,c,d,Bool.and_self,if_true,List.map_nil,funcsRun,Option.map_some,← e]
 cases h
end Go.Rc

namespace Go.Rc
open Go
theorem tZ:∀l:List Int,(l.map fun z=>[Value.int .i64 z]).flatten=l.map (Value.int .i64)
 | []=>rfl
 | x::r=>by rw [List.map_cons,List.map_cons,List.flatten_cons,tZ r];rfl
theorem Hd{H:Type}{enc:TypeId × Value→H}{P:Program}{w:World}{r:Reach}{base:Nat}{t e:TypeId}{fuel n c:Nat}{a:Option Addr}{d:DataW H}{p:List MemPlace}(ht:P.underlying t=some (.slice e)) (k1:P.cellsOf e=1) (b1:1≤P.bytesOf e) (he:P.underlying e=some (.int .i64))
  (y:Value.okWide P w r base t (.slice a n c)) (h:DataW.trod enc P w 0 (fun _=>true) true fuel t [.slice a n c]=some (d,p)) (hl:Em P t d):∃l:List Int,Rd RR.int 1 (fun b=>b<w.heap.size) w a n c l:=by
 obtain⟨l,f⟩:=G7 (R:=fun(z:Int) r=>r=[Value.int .i64 z]) ht k1 (Nat.le_refl _) b1 (fun m cs d p hm I _=>by
  obtain⟨z,rfl,_,_⟩:=DataW.trod_int he hm;exact⟨z,rfl⟩) h hl
 refine⟨l,f.len,l.map fun z=>[Value.int .i64 z],by simp,fun r hr=>?_,?_,fun i x r C hr=>?_⟩
 ·
  obtain⟨z,_,rfl⟩:=List.mem_map.1 hr
  rfl
 ·
  rw [tZ];refine⟨by simp [f.len],f.le,fun u hu=>?_,?_⟩
  ·
   obtain⟨z,_,rfl⟩:=List.mem_map.1 hu
   rfl
  rcases Deep.open_slice ht h with⟨hc,_⟩ | ⟨q,len,cap,m,J,D,K,hc,_,hle,E,_⟩
  ·
   simp only [List.cons.injEq,Value.slice.injEq,and_true] at hc;exact .inl hc
  simp only [List.cons.injEq,Value.slice.injEq,and_true] at hc;obtain⟨rfl,rfl,rfl⟩:=hc
  have g:q.spot=none∧q.block<w.heap.size:=by
   simp only [Value.okWide,ht,Cell.okWide,Cell.ok] at y;obtain⟨_,_,_,F,row,cells,k,_⟩:=y;refine⟨F,?_⟩
   unfold World.shape? at k
   split at k
   ·
    rename_i G
    exact(Array.getElem?_eq_some_iff.1 G).1
   cases k
  obtain⟨b,o,s⟩:=q;obtain⟨A,hb⟩:=g;simp only at A hb;subst A;refine .inr ⟨b,o,rfl,hle,E,hb,hb,fun j v B=>?_⟩;rw [List.getElem?_map] at B;obtain⟨z,g,rfl⟩:=Option.map_eq_some_iff.1 B;obtain⟨b',L,M,e1,_,rfl,hr,_⟩:=f.at_ g;simp only [Option.some.injEq,Addr.mk.injEq,and_true] at e1;obtain⟨rfl,rfl⟩:=e1
  have:=hr 0 _ rfl
  simpa using this
 rw [List.getElem?_map,C] at hr;exact(Option.some.inj hr).symm
end Go.Rc

