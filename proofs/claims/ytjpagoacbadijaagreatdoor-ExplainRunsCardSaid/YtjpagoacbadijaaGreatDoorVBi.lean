/- Base of the proof: frames, memory, ownership, and the plain meaning of rule systems. Conditions: as each lemma says. -/
import Derived.Test.YtjpagoacbadijaaGreatDoorVBf
import Derived.Test.YtjpagoacbadijaaGreatDoorVBh
import Derived.Test.YtjpagoacbadijaaGreatDoorVBe
import Derived.Deep.Slices
import Derived.SizedLaws
import Derived.Lib.LaidU8
import Derived.Lib.LaidTab
import Derived.LaidLaws
import GoSem.ClaimFn
import Derived.JoinedOf
import Derived.LaidOnce
import Derived.TwinInFollowed
import Derived.WideShapes
set_option linter.all false
namespace Go.Rc
open Go
section
variable {P:Program}{T:TypeId}
theorem Sc{T0 T1:TypeId}{f0 f1:Field}(hu:P.underlying T=some (.struct #[f0,f1])) (sR:f0.type=T0) (Lz:f1.type=T1) (Vu:f0.offset=0) (Ri:f1.offset=1) (hn0:f0.name≠ "_") (hn1:f1.name≠ "_")
  (h0:P.underlying T0=some (.int .i64)) (h1:P.underlying T1=some .string) (a0:∀w,(isAgg T0).run P w=.ok false w) (a1:∀w,(isAgg T1).run P w=.ok false w)
  (hs:P.stoodInHeld T=false) (n:Nat) (a b:Int) (s t:ByteArray) (w:World):(Op.equalIn (n+2) T (.agg #[.int .i64 a,.string s]) (.agg #[.int .i64 b,.string t])).run P w=.ok (decide (a=b) && decide (s=t)) w:=by
 subst sR Lz
 have yh:P.fieldsOf T=#[f0,f1]:=by simp [Program.fieldsOf,hu]
 rw [run_equalIn_struct (P:=P) w (n+1) T _ _ (by rw [yh];exact hu) hs,yh]
 have e:(s.toList == t.toList)=decide (s=t):=by
  by_cases e:s=t
  ·
   simp [e]
  grind [ByteArray.ext,Array.toList_inj,ByteArray.toList_eq]
 have e2:(a == b)=decide (a=b):=by by_cases h:a=b <;> simp [h]
 have r0:=run_equalIn_int (P:=P) w n f0.type .i64 .i64 a b h0;have r1:=run_equalIn_string (P:=P) w n f1.type s t h1;rw [e2] at r0;rw [e] at r1;simp only [Op.eqFields,Vu,Ri,part,Sem.run_bind,a0,a1,Result.andThen_ok]
 by_cases Vv:a=b
 ·
  subst Vv
  by_cases bJ:s=t
  ·
   simp_all
  simp_all
 simp_all
structure RsT (P:Program) (T:TypeId):Prop where
 eq:∀(a b c d:Int) (s t:ByteArray) (w:World),(Op.equalIn 10000 T (.agg #[.int .i64 a,.int .i64 c,.string s]) (.agg #[.int .i64 b,.int .i64 d,.string t])).run P w=.ok (decide (a=b) && (decide (c=d) && decide (s=t))) w
 guard:P.eqGuardType P.depth T=false
theorem WA{K T0:TypeId}{g0 g1:Field}(hk:∀(a b:Int) (s t:ByteArray) (w:World),(Op.equalIn 9999 K (.agg #[.int .i64 a,.string s]) (.agg #[.int .i64 b,.string t])).run P w=.ok (decide (a=b) && decide (s=t)) w)
  (hu:P.underlying T=some (.struct #[g0,g1])) (sR:g0.type=T0) (Lz:g1.type=K) (Vu:g0.offset=0) (Ri:g1.offset=1) (hn0:g0.name≠ "_") (hn1:g1.name≠ "_")
  (h0:P.underlying T0=some (.int .i64)) (a0:∀w,(isAgg T0).run P w=.ok false w) (a1:∀w,(isAgg K).run P w=.ok true w) (z1:∀w,(sizeOf K).run P w=.ok 2 w)
  (hs:P.stoodInHeld T=false) (hg:P.eqGuardType P.depth T=false):RsT P T:=by
 refine⟨fun a b c d s t w=>?_,hg⟩;subst sR Lz
 have yh:P.fieldsOf T=#[g0,g1]:=by simp [Program.fieldsOf,hu]
 rw [show(10000:Nat)=9999+1 from rfl,run_equalIn_struct (P:=P) w 9999 T _ _ (by rw [yh];exact hu) hs,yh]
 have e2:(a == b)=decide (a=b):=by by_cases h:a=b <;> simp [h]
 have r0:=run_equalIn_int (P:=P) w 9998 g0.type .i64 .i64 a b h0;rw [e2] at r0;rw [show(9998+1:Nat)=9999 from rfl] at r0;have r1:=hk c d s t w;simp only [Op.eqFields,Vu,Ri,part,Sem.run_bind,a0,a1,z1,Result.andThen_ok]
 by_cases Vv:a=b
 ·
  subst Vv
  by_cases bJ:c=d∧s=t
  ·
   simp_all [asAgg]
  simp_all [asAgg]
 simp_all
def rsV(p:Int × Key):Value:=.agg #[.int .i64 p.1,.int .i64 p.2.kind,.string p.2.text]
variable {kv:KV}{w:World}{ty:TypeId}
theorem PV.ah5(hT:RsT P T) {U:TypeId}{x y:Operand}{p q:Int × Key}(hx:ev kv x=some (rsV p)) (hy:ev kv y=some (rsV q)) :
  PV P (.binOp .eql T x y U) ty kv w (.bool (decide (p=q))):=by
 refine⟨rfl,by simp [known,opers,hx,hy],fun _ _ _ _=>?_⟩
 have e:(decide (p.1=q.1) && (decide (p.2.kind=q.2.kind) && decide (p.2.text=q.2.text)))=decide (p=q):=by
  obtain⟨a,c,s⟩:=p;obtain⟨b,d,t⟩:=q;simp [Bool.decide_and]
 simp only [execOp,aK hx,aK hy,rsV]
 simp [run_eqGuard_agg w .eql T _ _ _ _ hT.guard,run_eql_struct,hT.eq,e]
end
end Go.Rc

namespace Go.Rc
open Go
section
variable {ab:List aG}{x:dP}{s:ES}{k:Key}
theorem OV(h:Wy ab x s) (hu:aJ s.b k=true):decide ((gX (valOf ab x.ad) x k).1≠0)=decide (k∈kR s.cP):=by
 rw [decide_eq_decide,rA];exact⟨fun hw=>h.runs (KX.1 hw) hu,fun hm=>KX.2 (h.cP k hm)⟩
theorem Sd{val:Key→ByteArray}(hi:az k=false):decide ((gX val x k).1=1) = !(aB x.ak k).isSome:=by
 cases hf:aB x.ak k with
 | none=>
  have hu:aJ x k=false:=by unfold aJ;rw [hf];rfl
  rw [Ja (by rw [hi,hu];rfl) hf]
  rfl
 | some r=>
  have h:(gX val x k).1≠1:=by
   unfold gX
   rw [hf]
   split
   ·
    decide
   simp only
   split
   ·
    decide
   split
   ·
    decide
   split <;> simp
  simp [h]
theorem Mp{val:Key→ByteArray}(hf:(aB x.ak k).isSome=true):decide ((gX val x k).1≠0)=decide (k∈lj val x):=by
 rw [decide_eq_decide,Mo];obtain⟨r,hr⟩:=Option.isSome_iff_exists.1 hf;exact⟨fun h=>⟨⟨r,(aT hr).1,(aT hr).2⟩,h⟩,fun h=>h.2⟩
theorem Jg(val:Key→ByteArray) (x:dP):(lj val x).length≤x.ak.length:=by
 unfold lj
 rw [List.length_map];exact List.length_filter_le _ _
end
end Go.Rc

namespace Go.Rc
open Go
section
variable {H:Type}{enc:TypeId × Value→H}{P:Program}{w:World}
theorem wZ{e:TypeId}:∀{l:List (DataW H)}{d:DataW H},d∈l→∀n∈d.weights P e,n∈DataW.weightsAll P e l
 | [],_,hd,_,_=>by cases hd
 | x::r,d,hd,n,hn=>by
  simp only [DataW.weightsAll,List.mem_append]
  rcases List.mem_cons.1 hd with rfl | hd
  ·
   exact .inl hn
  exact .inr (wZ hd n hn)
def OW(P:Program) (t:TypeId) (d:DataW H):Prop:=∀n∈d.weights P t,n≤reachBytes
theorem OW.len{t e:TypeId}{xs ys:List (DataW H)}(h:OW P t (.slice xs ys)) (ht:P.underlying t=some (.slice e)) (hb:1≤P.bytesOf e):xs.length≤140737488355328:=by
 have h1:=h ((xs.length+ys.length)*P.bytesOf e) (by simp only [DataW.weights,ht];exact List.mem_cons_self)
 unfold reachBytes at h1
 have h2:xs.length*1≤(xs.length+ys.length)*P.bytesOf e:=Nat.mul_le_mul (by omega) hb
 omega
theorem OW.elem{t e:TypeId}{xs ys:List (DataW H)}(h:OW P t (.slice xs ys)) (ht:P.underlying t=some (.slice e)) {d:DataW H}(hd:d∈xs):OW P e d:=fun n hn=>
 h n (by simp only [DataW.weights,ht,List.mem_cons,List.mem_append];exact .inr (.inl (wZ hd n hn)))
theorem OW.each{ts:List TypeId}{ds:List (DataW H)}(h:(DataW.weightsEach P ts ds).all (·≤reachBytes)=true) {j:Nat}{t:TypeId}{d:DataW H}(ht:ts[j]?=some t) (hd:ds[j]?=some d):OW P t d:=fun n hn=>by
 have:=List.all_eq_true.1 h n (DataW.weights_mem_each ht hd n hn)
 simpa using this
theorem Se{α:Type} [Inhabited α] {R:α→List Value→Prop}{t e:TypeId}{k fuel n c:Nat}{a:Option Addr}{d:DataW H}{p:List MemPlace}(ht:P.underlying t=some (.slice e)) (hk:P.cellsOf e=k) (sk:1≤k) (hb:1≤P.bytesOf e)
  (hR:∀(m:Nat) (cs:List Value) (d:DataW H) (p:List MemPlace),DataW.trod enc P w 0 (fun _=>true) true m e cs=some (d,p)→cs.length=k→OW P e d→∃x:α,R x cs)
  (h:DataW.trod enc P w 0 (fun _=>true) true fuel t [.slice a n c]=some (d,p)) (hl:OW P t d):∃xs:List α,LR (fun b=>b<w.heap.size) w k R a n xs:=by
 rcases Deep.open_slice ht h with⟨hc,_⟩ | ⟨a',len,cap,m,fu,D,Pl,hc,_,hle,_,hm,hx,VN⟩
 ·
  simp only [List.cons.injEq,Value.slice.injEq,and_true] at hc;obtain⟨rfl,rfl,rfl⟩:=hc;exact⟨[],⟨rfl,by omega,fun hx=>by simp at hx⟩⟩
 simp only [List.cons.injEq,Value.slice.injEq,and_true] at hc;obtain⟨rfl,rfl,rfl⟩:=hc;simp only [Prod.mk.injEq] at hx;obtain⟨rfl,_⟩:=hx;simp only [if_true] at hm
 have hn:n≤140737488355328:=by simpa using hl.len ht hb
 have each:∀i,i<n→∃q:α × List Value,w.cells? 0 (a'.add (i*k)) k=some q.2∧R q.1 q.2:=fun i hi=>by
  obtain⟨LJ,h1,h2⟩:=VN i (by omega);rw [hk] at h1;obtain⟨x,hx⟩:=hR _ _ _ _ h2 (World.cells?_some h1).2.1 (hl.elem ht (List.mem_map.2 ⟨i,by simpa using hi,rfl⟩));exact⟨(x,LJ),h1,hx⟩
 obtain⟨q,hq⟩:=Deep.choose_lt each;refine⟨(List.range n).map fun i=>(q i).1,⟨by simp,hn,fun {i x} hx=>?_⟩⟩
 obtain⟨hi,rfl⟩:i<n∧(q i).1=x:=by
  rw [List.getElem?_map] at hx;obtain⟨j,hj,hjx⟩:=Option.map_eq_some_iff.1 hx;rw [List.getElem?_eq_some_iff] at hj;obtain⟨Uc,lV⟩:=hj
  simp at Uc lV
  subst lV;exact⟨Uc,hjx⟩
 have hs:a'.spot=none:=by
  obtain⟨_,Ls,Nq⟩:=World.cells?_some (hq 0 (by omega)).1;have h0:=Nq 0 (by omega);rw [List.getElem?_eq_getElem (by omega)] at h0
  have:=World.cell?_spot h0
  simpa [Addr.add] using this
 obtain⟨b,o,s⟩:=a';simp only at hs;subst hs;obtain⟨_,vo,Cd⟩:=World.cells?_some (hq i hi).1
 have hr:w.rangeAt b (o+i*k) (q i).2:=fun j v hv=>by
  have hj:j<k:=by have:=(List.getElem?_eq_some_iff.1 hv).1;omega
  have:=Cd j hj
  rw [WideShapes.add_plain,WideShapes.add_plain] at this;rw [this,hv]
 refine⟨b,o,(q i).2,rfl,vo,(hq i hi).2,hr,?_,?_⟩ <;>
  exact World.block_lt_of_cell? w ⟨b,_,none⟩ (hr 0 _ (List.getElem?_eq_getElem (by omega)))
end
def zN(P:Program) (w:World) (n:String):Prop:=∃(nm:String) (d:DataW Unit) (g t:Nat) (ms:Array (String × TypeId)),Lib.VarReads P w n (.iface nm d)∧P.globalNamed n=some g∧(P.globals[g]?).map (·.type)=some t∧P.underlying t=some (.interface ms)
theorem WE{P:Program}{w:World}{g t e:Nat}(hv:Lib.VarReads P w "internal/strconv.uint64pow10" (Lib.tabData .u64 Lib.pow10Tab)) (hg:P.globalNamed "internal/strconv.uint64pow10" = some g) (hty:(P.globals[g]?).map (·.type)=some t) (ht:P.underlying t=some (.array 20 e)) (he:P.underlying e=some (.int .u64))
  (Cu:P.cellsOf e=1) (Mq:P.cellsOf t=20) (hE1:zN P w "strconv.ErrSyntax") (hE2:zN P w "strconv.ErrRange"):nO P (fun b=>b<w.heap.size) w:=by
 obtain⟨g',t',cs,fuel,p,hg',ht',OY,hd⟩:=hv;obtain rfl:=Option.some.inj (hg.symm.trans hg');obtain rfl:=Option.some.inj (hty.symm.trans ht');have hc:=Lib.cells_of_tab ht he Cu Mq hd
 have hT:Lib.TabIs P w "internal/strconv.uint64pow10" .u64 Lib.pow10Tab:=by
  unfold Lib.TabIs
  rw [OY,← hc]
 have dZ:g<w.heap.size:=by
  unfold World.var? at OY
  simp only [hg,Option.bind_some] at OY
  split at OY
  ·
   rename_i hh
   exact(Array.getElem?_eq_some_iff.1 hh).1
  cases OY
 refine⟨⟨g,dZ,dZ,fun w' e=>?_⟩,fun n hn g2 FB=>?_⟩
 ·
  unfold Lib.TabIs World.var? at hT ⊢
  simp only [hg,Option.bind_some] at hT ⊢;rw [e];exact hT
 have hE:zN P w n:=by
  rcases hn with rfl | rfl
  ·
   exact hE1
  exact hE2
 obtain⟨nm,d,g3,t3,ms,⟨g4,t4,cs4,anE,p4,e1,e2,Ns,hd4⟩,e3,e4,e5⟩:=hE;obtain rfl:=Option.some.inj (e1.symm.trans FB);obtain rfl:=Option.some.inj (e1.symm.trans e3);obtain rfl:=Option.some.inj (e2.symm.trans e4);obtain⟨_,u,v,ZR,_,_⟩:=iface_of_trod e5 hd4
 unfold World.var? at Ns
 simp only [e1,Option.bind_some] at Ns
 split at Ns
 ·
  rename_i c0 x0 y0 hh
  obtain rfl:=Option.some.inj Ns;have ab1:=(Array.getElem?_eq_some_iff.1 hh).1;refine⟨ab1,ab1,.iface u v,.inr ⟨u,v,rfl⟩,fun w' e=>?_⟩;obtain rfl:c0=#[.iface u v]:=Array.toList_inj.1 ZR
  unfold World.cell?
  simp only [e,hh]
  first | done | rfl
 cases Ns
theorem aV.WG{w w':World}(h:aV [] w w') (B:Nat) (hB:B≤w.heap.size):RowKit.Below B w w':=⟨h.os,h.tape,h.output,h.size,fun k hk=>h.block k (by omega) (by simp)⟩
end Go.Rc

namespace Go.Rc
open Go
def WJ(m f:Nat):Bool:=Nat.beq (Nat.land (Nat.shiftRight m f) 1) 1
def Jh(look:FuncId→Option Func) (P:Program):Nat→List FuncId→Nat→List FuncId→List FuncId
 | 0,_,_,seen=>seen.reverse
 | _,[],_,seen=>seen.reverse
 | n+1,f::todo,mask,seen=>
  match WJ mask f with
  | true=>Jh look P n todo mask seen
  | false=>Jh look P n ((look f).elim [] P.leadsTo++todo) (Nat.lor mask (Nat.shiftLeft 1 f)) (f::seen)
theorem Sf(m f:Nat):WJ m f=m.testBit f:=by
 unfold WJ
 show Nat.beq ((m >>> f) &&& 1) 1=m.testBit f
 rw [Nat.testBit,Nat.and_comm];have h:=Nat.and_one_is_mod (m >>> f);rw [Nat.and_comm]
 have h2:(1 &&& m >>> f)=(m >>> f) % 2:=by rw [Nat.and_comm];exact h
 rw [Nat.and_comm,h2]
 rcases Nat.mod_two_eq_zero_or_one (m >>> f) with e | e <;> rw [e] <;> rfl
theorem DZ{look:FuncId→Option Func}(P:Program) (hl:∀g,P.funcs[g]?=look g):∀(n:Nat) (todo:List FuncId) (mask:Nat) (seen:List FuncId),(∀x:Nat,mask.testBit x=seen.contains x)→Jh look P n todo mask seen=P.closureVia n todo seen
 | 0,_,_,_,_=>by unfold Jh Program.closureVia;rfl
 | n+1,[],_,_,_=>by unfold Jh Program.closureVia;rfl
 | n+1,f::todo,mask,seen,h=>by
  unfold Jh Program.closureVia
  rw [Sf,h f]
  cases hc:seen.contains f with
  | true=>simp only [if_true];exact DZ P hl n todo mask seen h
  | false=>
   simp only [Bool.false_eq_true,if_false];rw [hl f];refine DZ P hl n _ _ _ fun x=>?_
   show(mask ||| (1 <<< f)).testBit x=(f::seen).contains x
   rw [Nat.testBit_or,h x,Nat.shiftLeft_eq,Nat.one_mul,Nat.testBit_two_pow,List.contains_cons,Bool.or_comm]
   grind
theorem D0{look:FuncId→Option Func}(P:Program) (hl:∀g,P.funcs[g]?=look g) (f:FuncId):P.closure f=Jh look P (1+(P.funcs.toList.map fun g=>(P.leadsTo g).length+1).sum) [f] 0 []:=by grind [Program.closure,DZ]
end Go.Rc

namespace Go.Rc
open Go
def D1(P:Program):Nat→List TypeId→List TypeId
 | 0,s=>s
 | d+1,s=>match decide (P.grow s=s) with
  | true=>s
  | false=>D1 P d (P.grow s)
theorem CY{P:Program}{s:List TypeId}(h:P.grow s=s):∀n,P.grown n s=s
 | 0=>rfl
 | n+1=>by
  show P.grown n (P.grow s)=s
  rw [h];exact CY h n
theorem CZ(P:Program):∀(n:Nat) (s:List TypeId),P.grown n s=D1 P n s
 | 0,_=>rfl
 | n+1,s=>by
  show P.grown n (P.grow s)=match decide (P.grow s=s) with | true=>s | false=>D1 P n (P.grow s)
  by_cases h:P.grow s=s
  ·
   grind [CY]
  rw [decide_eq_false h];exact CZ P n _
def ss(P:Program) (t:TypeId):List TypeId:=D1 P P.types.size [t]
theorem ph(P:Program) (t:TypeId):P.book t=ss P t:=CZ P _ _
def OZ(P:Program) (t:TypeId):Bool:=(ss P t).all fun u=>P.fineRow u && (P.partsOf u).all ((ss P t).contains ·)
theorem yo(P:Program) (t:TypeId):P.readableRec t=OZ P t:=by grind [Program.readableRec,OZ,ph]
def O0(P:Program) (t:TypeId):Bool:=(ss P t).any fun u=>(P.partsOf u).any fun v=>(ss P v).contains u
theorem GQ(P:Program) (t:TypeId):P.loopsFrom t=O0 P t:=by grind [Program.loopsFrom,O0,ph]
def Ud(P:Program) (t:TypeId):Bool:=(ss P t).any fun u=>match P.underlying u with | some (.map _ _)=>true | _=>false
theorem Sg(P:Program) (t:TypeId):P.mapsRec t=Ud P t:=by grind [Program.mapsRec,Ud,ph]
def K3(P:Program) (t:TypeId):Bool:=(ss P t).any fun u=>match P.underlying u with | some (.interface _)=>true | _=>false
theorem C1(P:Program) (t:TypeId):P.ifacesRec t=K3 P t:=by grind [Program.ifacesRec,K3,ph]
def yp(P:Program) (t:TypeId):Bool:=(ss P t).any fun u=>match P.underlying u with | some (.func ..) | some (.chan ..) | some .unsafePointer=>true | _=>false
theorem vP(P:Program) (t:TypeId):P.veiledRec t=yp P t:=by grind [Program.veiledRec,yp,ph]
def Ue(P:Program) (t:TypeId):Bool:=
 (ss P t).any fun u=>match P.underlying u with
  | some (.map k _)=>(match P.underlying k with | some (.array _ _) | some (.struct _)=>true | _=>false)
  | _=>false
theorem Sh(P:Program) (t:TypeId):P.wideKeysFrom t=Ue P t:=by grind [Program.wideKeysFrom,Ue,ph]
def tr(P:Program) (t:TypeId):Bool:=!yp P t || (let L:=P.libraryStructs;(ss P t).all fun u=>!(P.libraryStructIn L u && yp P u))
theorem uC(P:Program) (t:TypeId):P.veiledOwn t=tr P t:=by grind [Program.veiledOwn,tr,ph,vP]
def GR(P:Program) (n:String):Bool:=
 match P.globalNamed n with
 | some g=>((P.globals[g]?).map (·.type)).any fun t=>OZ P t && tr P t
 | none=>false
theorem Ji(P:Program) (n:String):P.varReadable n=GR P n:=by grind [Program.varReadable,GR,yo,uC]
end Go.Rc

namespace Go.Rc
open Go
def blocks{α:Type _}:Nat→List α→List (List α)
 | 0,_=>[]
 | n+1,l=>l.take 32::blocks n (l.drop 32)
def pick{α:Type _}(b:List (List α)) (t:Nat):Option α:=(b[t / 32]?).bind (·[t % 32]?)
theorem nH{α:Type _}:∀(n:Nat) (l:List α) (t:Nat),l.length≤n*32→pick (blocks n l) t=l[t]?
 | 0,l,t,h=>by grind [pick,blocks]
 | n+1,l,t,h=>by
  by_cases ht:t<32
  ·
   grind [pick,blocks]
  have h1:t / 32=(t - 32) / 32+1:=by omega
  have h2:t % 32=(t - 32) % 32:=by omega
  have ih:=nH n (l.drop 32) (t - 32) (by simp;omega)
  grind [pick,blocks]
def rootOf(b:List (List TypeInfo)) (t:TypeId):Option TypeDesc:=
 (pick b t).bind fun i=>match i.desc with
  | .named _ u=>(pick b u).map (·.desc)
  | d=>some d
def wide(b:List (List TypeInfo)) (t:TypeId):Nat:=((pick b t).map (·.size)).getD 0
theorem vQ{P:Program}{n:Nat}(hn:P.types.size≤n*32) {t:TypeId}{i:TypeInfo}(h:pick (blocks n P.types.toList) t=some i):P.info? t=some i:=by
 rw [nH n _ t (by simpa using hn),Array.getElem?_toList] at h;have ht:t<P.types.size:=(Array.getElem?_eq_some_iff.1 h).1
 unfold Tables.info?
 rw [if_pos ht,h]
theorem Si{P:Program}{n:Nat}(hn:P.types.size≤n*32) {t:TypeId}(h:t<P.types.size):∃i,pick (blocks n P.types.toList) t=some i:=by
 rw [nH n _ t (by simpa using hn),Array.getElem?_toList]
 simp_all
theorem vR{P:Program}{n:Nat}(hn:P.types.size≤n*32) {t:TypeId}{d:TypeDesc}(h:rootOf (blocks n P.types.toList) t=some d):P.underlying t=some d:=by
 unfold rootOf at h
 unfold Program.underlying
 cases hp:pick (blocks n P.types.toList) t with
 | none=>rw [hp] at h;cases h
 | some i=>
  rw [hp] at h;rw [vQ hn hp];obtain⟨e,_⟩:=i
  grind [pick,vQ]
theorem uD{P:Program}{n:Nat}(hn:P.types.size≤n*32) {t:TypeId}(h:t<P.types.size):wide (blocks n P.types.toList) t=P.cellsOf t:=by grind [Si,wide,Program.cellsOf,vQ]
def stands(b:List (List TypeInfo)) (N:Nat) (t:TypeId):Bool:=Nat.ble (t+1) N && kindOk (rootOf b t)
theorem rE{b:List (List TypeInfo)}{N:Nat}{t:TypeId}(h:stands b N t=true):t<N:=by
 simp only [stands,Bool.and_eq_true] at h;exact Nat.le_of_ble_eq_true h.1
theorem rF{P:Program}{n:Nat}(hn:P.types.size≤n*32) {t:TypeId}(h:stands (blocks n P.types.toList) P.types.size t=true):isVar P t=true:=by
 have hl:=rE h;simp only [stands,Bool.and_eq_true] at h
 unfold isVar
 cases hr:rootOf (blocks n P.types.toList) t with
 | none=>rw [hr] at h;cases h.2
 | some d=>grind [vR]
def uE(b:List (List TypeInfo)) (N:Nat):Nat→List Field→Bool
 | _,[]=>true
 | o,f::r=>stands b N f.type && Nat.beq f.offset o && uE b N (o+wide b f.type) r
def sumOf(b:List (List TypeInfo)):List Field→Nat
 | []=>0
 | f::r=>wide b f.type+sumOf b r
def WM(b:List (List TypeInfo)) (N:Nat) (t:TypeId):Bool:=
 match rootOf b t with
 | none=>false
 | some (.struct fs)=>uE b N 0 fs.toList && Nat.beq (wide b t) (sumOf b fs.toList)
 | some (.array k e)=>stands b N e && Nat.beq (wide b t) (k*wide b e)
 | some (.pointer e)=>stands b N e && Nat.beq (wide b t) 1
 | some (.slice e)=>stands b N e && Nat.beq (wide b t) 1
 | some (.tuple _)=>true
 | some .invalid=>true
 | some (.named _ _)=>true
 | _=>Nat.beq (wide b t) 1
def I7(b:List (List TypeInfo)) (N:Nat) (t:TypeId):Bool:=
 match rootOf b t with
 | none=>false
 | some (.map _ e)=>Nat.ble (e+1) N
 | _=>true
theorem uF{P:Program}{n:Nat}(hn:P.types.size≤n*32):∀(fs:List Field) (o:Nat),uE (blocks n P.types.toList) P.types.size o fs=true→
  (∀f∈fs,isVar P f.type=true)∧(∀j f,fs[j]?=some f→f.offset=o+((fs.take j).map fun f=>P.cellsOf f.type).sum)∧sumOf (blocks n P.types.toList) fs=(fs.map fun f=>P.cellsOf f.type).sum
 | [],_,_=>⟨by simp,by simp,rfl⟩
 | g::r,o,h=>by
  simp only [uE,Bool.and_eq_true] at h;obtain⟨⟨h1,h2⟩,h3⟩:=h;rw [uD hn (rE h1)] at h3;obtain⟨i1,i2,i3⟩:=uF hn r _ h3;refine⟨fun f hf=>?_,fun j f hj=>?_,?_⟩
  ·
   grind [rF]
  ·
   cases j with
   | zero=>simp_all
   | succ j=>grind
  grind [sumOf,uD,rE]
theorem Mr{P:Program}{n:Nat}(hn:P.types.size≤n*32) {t:TypeId}(ht:t<P.types.size) (h:WM (blocks n P.types.toList) P.types.size t=true):rowFine P t=true:=by
 unfold WM at h
 rw [uD hn ht] at h
 unfold rowFine
 rw [Bool.or_eq_true]
 cases hr:rootOf (blocks n P.types.toList) t with
 | none=>rw [hr] at h;cases h
 | some d=>
  have hu:=vR hn hr;rw [hr] at h
  cases d with
  | struct fs=>
   right
   simp only [hu];simp only [Bool.and_eq_true] at h;obtain⟨h1,h2,h3⟩:=uF hn fs.toList 0 h.1;simp only [Bool.and_eq_true,List.all_eq_true,beq_iff_eq];refine⟨⟨h1,(Nat.eq_of_beq_eq_true h.2).trans h3⟩,fun j hj=>?_⟩
   grind
  | array k e=>
   right
   simp only [hu];simp only [Bool.and_eq_true] at h ⊢;rw [uD hn (rE h.1)] at h;exact⟨rF hn h.1,by simp_all⟩
  | pointer e=>
   right
   simp only [hu];simp only [Bool.and_eq_true] at h ⊢;exact⟨rF hn h.1,by simp_all⟩
  | slice e=>
   right
   simp only [hu];simp only [Bool.and_eq_true] at h ⊢;exact⟨rF hn h.1,by simp_all⟩
  | tuple e=>left;simp [isVar,hu,kindOk]
  | invalid=>left;simp [isVar,hu,kindOk]
  | named a e=>left;simp [isVar,hu,kindOk]
  | _=>
   right
   simp only [hu];rw [beq_iff_eq];exact Nat.eq_of_beq_eq_true h
def GS(f:Nat→Bool):Nat→Bool
 | 0=>true
 | n+1=>f n && GS f n
theorem qH{f g:Nat→Bool}:∀(n:Nat),GS f n=true→(∀t,t<n→f t=true→g t=true)→(List.range n).all g=true
 | 0,_,_=>by simp
 | n+1,h,hg=>by
  simp only [GS,Bool.and_eq_true] at h;rw [List.range_succ,List.all_append,qH n h.2 fun t ht=>hg t (by omega)]
  simp [hg n (by omega) h.1]
theorem Ms{P:Program}{N n:Nat}(hN:P.types.size=N) (hn:Nat.ble N (n*32)=true) (h:GS (WM (blocks n P.types.toList) N) N=true):(List.range P.types.size).all (rowFine P)=true:=by
 subst hN
 exact qH _ h fun t hl ht=>Mr (Nat.le_of_ble_eq_true hn) hl ht
theorem Jj{P:Program}{N n:Nat}(hN:P.types.size=N) (hn:Nat.ble N (n*32)=true) (h:GS (I7 (blocks n P.types.toList) N) N=true):mapsRowed P=true:=by
 subst hN
 unfold mapsRowed
 refine qH _ h fun t hl ht=>?_
 unfold I7 at ht
 cases hr:rootOf (blocks n P.types.toList) t with
 | none=>rw [hr] at ht;cases ht
 | some d=>
  have hu:=vR (Nat.le_of_ble_eq_true hn) hr
  grind [Nat.le_of_ble_eq_true]
theorem Jk{P:Program}{N:Nat}(hN:P.types.size=N) (h:P.globals.toList.all (fun g=>Nat.ble (g.type+1) N)=true):P.globals.all (fun g=>decide (g.type<P.types.size))=true:=by grind [Nat.le_of_ble_eq_true]
theorem Mt{P:Program}{N:Nat}(hN:P.types.size=N) (h:P.funcs.toList.all (fun f=>f.params.toList.all fun t=>Nat.ble (t+1) N)=true):P.funcs.all (fun f=>f.params.all fun t=>decide (t<P.types.size))=true:=by grind [Nat.le_of_ble_eq_true]
theorem O1{P:Program}(h1:(List.range P.types.size).all (rowFine P)=true) (h2:P.globals.all (fun g=>decide (g.type<P.types.size))=true) (h3:P.funcs.all (fun f=>f.params.all fun t=>decide (t<P.types.size))=true):laidOutB P=true:=by grind [laidOutB]
theorem both{a b:Bool}(ha:a=true) (hb:b=true):(a && b)=true:=by rw [ha,hb];rfl
end Go.Rc

namespace Go.Rc
open Go
theorem Jl{P:Program}{N n:Nat}(hN:P.funcs.size=N) (hn:Nat.ble N (n*32)=true) (g:FuncId):P.funcs[g]?=pick (blocks n P.funcs.toList) g:=by
 subst hN;rw [nH n _ g (by simpa using Nat.le_of_ble_eq_true hn),Array.getElem?_toList]
def O2(name:String):Nat→List Func→List Nat
 | _,[]=>[]
 | k,f::r=>match f.name == name with
  | true=>k::O2 name (k+1) r
  | false=>O2 name (k+1) r
theorem K4(name:String):∀(l:List Func) (k:Nat),O2 name k l=((List.range l.length).filter fun i=>(l[i]?).any (·.name == name)).map (· + k)
 | [],_=>rfl
 | f::r,k=>by
  have h:=K4 name r (k+1);rw [List.length_cons,List.range_succ_eq_map,List.filter_cons,List.filter_map,List.getElem?_cons_zero]
  have e:((fun i=>((f::r)[i]?).any (·.name == name))∘Nat.succ)=fun i=>(r[i]?).any (·.name == name):=by
   funext i
   simp
  rw [e]
  have m:∀q:List Nat,(q.map Nat.succ).map (· + k)=q.map (· + (k+1)):=by
   intro q;rw [List.map_map]
   congr 1
   funext x
   show x.succ+k=x+(k+1)
   omega
  unfold O2
  cases hb:f.name == name with
  | true=>simp only [Option.any_some,hb,if_true,List.map_cons,Nat.zero_add,m,h]
  | false=>simp only [Option.any_some,hb,Bool.false_eq_true,if_false,m,h]
theorem qI(P:Program) (name:String):P.funcNamed name=match O2 name 0 P.funcs.toList with | [i]=>some i | _=>none:=by
 unfold Program.funcNamed
 rw [K4];simp only [Nat.add_zero,List.map_id',Array.length_toList,Array.getElem?_toList]
 generalize (List.range P.funcs.size).filter (fun i=>(P.funcs[i]?).any (·.name == name))=q
 rcases q with _ | ⟨a,_ | ⟨b,r⟩⟩ <;> rfl
theorem qJ(P:Program) (word:String):P.worded word=P.funcs.toList.any fun fn=>fn.body.isNone && fn.name == word:=by
 unfold Program.worded
 rw [Array.any_toList]
theorem zO(P:Program):P.laysLater=P.funcs.toList.any fun fn=>fn.body.isNone && (fn.name == "runtime.SetFinalizer" || fn.name == "runtime.AddCleanup" || fn.origin == "runtime.AddCleanup"):=by
 unfold Program.laysLater
 rw [Array.any_toList]
theorem xT(P:Program):P.stopsHeard=P.funcs.toList.all fun fn=>(Stop.rowOf fn).isNone || !fn.norace:=by
 unfold Program.stopsHeard
 rw [Array.all_toList]
def uG:List (String × DataW Unit)→List (String × DataW Unit)→Bool
 | [],[]=>true
 | (n,a)::r,(m,b)::s=>n == m && DataW.same a b && uG r s
 | _,_=>false
theorem xa:∀(l m:List (String × DataW Unit)),uG l m=true→l=m
 | [],[],_=>rfl
 | (n,a)::r,(k,b)::s,h=>by
  simp only [uG,Bool.and_eq_true,beq_iff_eq] at h;rw [h.1.1,DataW.same_eq a b h.1.2,xa r s h.2]
 | [],_::_,h=>by cases h
 | _::_,[],h=>by cases h
theorem Sj{P:Program}{n fuel M:Nat}{laid:List (String × DataW Unit)}{os:Os}{tape:Tape}{g:FuncId}(hg:varsId P=g) (he:funcsListed laid=[])
  (h:(match runN P n (Machine.entering P (World.unlaid P os) tape g ⟨#[],#[],[]⟩) with
   | .ended (.done _) w=>(DataW.laidRun P w.memory fuel ((laid.filter fun x=>x.2.handleName?.isNone).map (·.1))).any fun x=>nodupBits M x.2 0 && laidRowsB P w.memory x.2 && (laid.filter fun x=>x.2.handleName?.isSome && x.2.funcsIn?.isNone).all (handleAtB P w.memory) && uG x.1 (laid.filter fun x=>x.2.handleName?.isNone)
   | _=>false)=true):doorLeaves P n fuel M laid os tape=some (laid.filter fun x=>x.2.handleName?.isNone,(funcsListed laid).map (·.2.funcsOut)):=by
 unfold doorLeaves
 rw [hg]
 split at h
 ·
  rename_i v w hr
  rw [hr]
  simp only
  cases hx:DataW.laidRun P w.memory fuel ((laid.filter fun x=>x.2.handleName?.isNone).map (·.1)) with
  | none=>rw [hx] at h;cases h
  | some x=>
   rw [hx] at h;simp only [Option.any_some,Bool.and_eq_true] at h;obtain⟨⟨⟨h1,h2⟩,h3⟩,h4⟩:=h;have e:=xa _ _ h4;rw [he];simp only [Option.bind_some,h1,h2,h3,Bool.and_self,if_true,List.map_nil,funcsRun,Option.map_some,← e]
 cases h
end Go.Rc

namespace Go.Rc
open Go
theorem C2:∀l:List Int,(l.map fun z=>[Value.int .i64 z]).flatten=l.map (Value.int .i64)
 | []=>rfl
 | x::r=>by rw [List.map_cons,List.map_cons,List.flatten_cons,C2 r];rfl
theorem Sk{H:Type}{enc:TypeId × Value→H}{P:Program}{w:World}{r:Reach}{base:Nat}{t e:TypeId}{fuel n c:Nat}{a:Option Addr}{d:DataW H}{p:List MemPlace}(ht:P.underlying t=some (.slice e)) (k1:P.cellsOf e=1) (b1:1≤P.bytesOf e) (he:P.underlying e=some (.int .i64))
  (ie:Value.okWide P w r base t (.slice a n c)) (h:DataW.trod enc P w 0 (fun _=>true) true fuel t [.slice a n c]=some (d,p)) (hl:OW P t d):∃l:List Int,Rd RR.int 1 (fun b=>b<w.heap.size) w a n c l:=by
 obtain⟨l,hlr⟩:=Se (R:=fun(z:Int) r=>r=[Value.int .i64 z]) ht k1 (Nat.le_refl _) b1 (fun m cs d p hm vo _=>by
  obtain⟨z,rfl,_,_⟩:=DataW.trod_int he hm;exact⟨z,rfl⟩) h hl
 refine⟨l,hlr.len,l.map fun z=>[Value.int .i64 z],by simp,fun r hr=>?_,?_,fun i x r hx hr=>?_⟩
 ·
  obtain⟨z,_,rfl⟩:=List.mem_map.1 hr
  rfl
 ·
  rw [C2];refine⟨by simp [hlr.len],hlr.le,fun u hu=>?_,?_⟩
  ·
   obtain⟨z,_,rfl⟩:=List.mem_map.1 hu
   rfl
  rcases Deep.open_slice ht h with⟨hc,_⟩ | ⟨q,len,cap,m,fu,D,Pl,hc,_,hle,hmx,_⟩
  ·
   simp only [List.cons.injEq,Value.slice.injEq,and_true] at hc;exact .inl hc
  simp only [List.cons.injEq,Value.slice.injEq,and_true] at hc;obtain⟨rfl,rfl,rfl⟩:=hc
  have hz:q.spot=none∧q.block<w.heap.size:=by
   simp only [Value.okWide,ht,Cell.okWide,Cell.ok] at ie;obtain⟨_,_,_,h4,row,cells,h5,_⟩:=ie;refine⟨h4,?_⟩
   unfold World.shape? at h5
   split at h5
   ·
    rename_i hh
    exact(Array.getElem?_eq_some_iff.1 hh).1
   cases h5
  obtain⟨b,o,s⟩:=q;obtain⟨hs,hb⟩:=hz;simp only at hs hb;subst hs;refine .inr ⟨b,o,rfl,hle,hmx,hb,hb,fun j v hv=>?_⟩;rw [List.getElem?_map] at hv;obtain⟨z,hz,rfl⟩:=Option.map_eq_some_iff.1 hv;obtain⟨b',o',r',e1,_,rfl,hr,_⟩:=hlr.at_ hz;simp only [Option.some.injEq,Addr.mk.injEq,and_true] at e1;obtain⟨rfl,rfl⟩:=e1
  have:=hr 0 _ rfl
  simpa using this
 rw [List.getElem?_map,hx] at hr;exact(Option.some.inj hr).symm
end Go.Rc

