/- Base of the proof: frames, memory, ownership, and the plain meaning of rule systems. Conditions: as each lemma says. -/
import Derived.Test.YtilldnlhckpbjaaGreatDoorQBc
import Derived.Lib.SliceRun
import Derived.Test.YtilldnlhckpbjaaGreatDoorQBb
import Derived.Lib.IfaceEq
import Derived.Lib.BufferWrite
import Derived.Lib.UnsafeStr
import Derived.Laws.MakeOwn
set_option linter.all false
namespace Go.Rc
open Go
section
variable {P:Program}{kv:KV}{w:World}{T U ty:TypeId}{x y:Operand}
theorem ni{e:TypeId}(hT:P.underlying T=some (.pointer e)) (a:Option Addr):(Op.equalIn 10000 T (.pointer a) (.pointer none)).run P w=.ok (decide (a=none)) w:=by
 rw [show(10000:Nat)=9999+1 from rfl]
 unfold Op.equalIn
 cases a <;> simp [run_underlying hT]
theorem xb{e:TypeId}(hT:P.underlying T=some (.slice e)) (a:Option Addr) (n c:Nat):(Op.equalIn 10000 T (.slice a n c) (.slice none 0 0)).run P w=.ok (decide (a=none)) w:=by
 rw [show(10000:Nat)=9999+1 from rfl]
 unfold Op.equalIn
 cases a <;> simp [run_underlying hT]
theorem xc{e:Array String}(hT:∃ms,P.underlying T=some (.interface ms)):(Op.equalIn 10000 T .nilIface .nilIface).run P w=.ok true w:=by
 obtain⟨ms,hT⟩:=hT;rw [show(10000:Nat)=9999+1 from rfl]
 unfold Op.equalIn
 simp [run_underlying hT]
theorem PV.JU{e:TypeId}{a:Option Addr}(hT:P.underlying T=some (.pointer e)) (h:ev kv x=some (.pointer a)) (hy:ev kv y=some (.pointer none)):PV P (.binOp .eql T x y U) ty kv w (.bool (decide (a=none))):=
 ⟨rfl,by simp [known,opers,h,hy],fun _ _ _ _=>by
  simp only [execOp,aI h,aI hy]
  simp [eqGuard,binOp,Op.equal,Op.maxDepth,ni hT]⟩
theorem PV.JV{e:TypeId}{a:Option Addr}(hT:P.underlying T=some (.pointer e)) (h:ev kv x=some (.pointer a)) (hy:ev kv y=some (.pointer none)):PV P (.binOp .neq T x y U) ty kv w (.bool (decide (a≠none))):=
 ⟨rfl,by simp [known,opers,h,hy],fun _ _ _ _=>by
  simp only [execOp,aI h,aI hy]
  simp [eqGuard,binOp,Op.equal,Op.maxDepth,ni hT]⟩
theorem PV.JW{e:TypeId}{a:Option Addr}{n c:Nat}(hT:P.underlying T=some (.slice e)) (h:ev kv x=some (.slice a n c)) (hy:ev kv y=some (.slice none 0 0)):PV P (.binOp .eql T x y U) ty kv w (.bool (decide (a=none))):=
 ⟨rfl,by simp [known,opers,h,hy],fun _ _ _ _=>by
  simp only [execOp,aI h,aI hy]
  simp [eqGuard,binOp,Op.equal,Op.maxDepth,xb hT]⟩
theorem PV.JX(hT:∃ms,P.underlying T=some (.interface ms)) (h:ev kv x=some .nilIface):PV P (.binOp .neq T x (.const .nilIface) U) ty kv w (.bool false):=by
 have hy:ev kv (.const .nilIface)=some .nilIface:=rfl;refine⟨rfl,by simp [known,opers,h,hy],fun _ _ _ _=>?_⟩;simp only [execOp,aI h,aI hy]
 simp [eqGuard,binOp,Op.equal,Op.maxDepth,xc (e:=#[]) hT]
end
section
variable {α:Type}{R:RR α}{P:Program}{E k c b:Nat}{a:Option Addr}{u u':α}{Z:Nat→Prop}{w:World}
variable {N:Nat}{kv:KV}{K:KV→World→Prop}{ty:TypeId}{pos:String}{af:Array Edge}{g:Option (Nat × Bool)}{T:TypeId}
theorem OX.uG{d:Tmp}{n:Nat}{E k:Nat}(hT:P.underlying T=some (.slice E)) (m:∀w,(sizeOf E).run P w=.ok k w) (q:Nat.blt d n=true)
  (h:∀b w',wL w w' b→bJ w' b E []→K ((d,.slice (some ⟨b,0,none⟩) 0 0)::kv) w'):OX P ⟨some d,.buildSlice T 0 #[],ty,pos,af,g⟩ n kv w K:=by
 refine⟨rfl,q,rfl,?_⟩
 have hr:(execOp (hh kv) ⟨some d,.buildSlice T 0 #[],ty,pos,af,g⟩).run P w=.ok (.value (.slice (some ⟨w.heap.size,0,none⟩) 0 0)) (w.alloc (.cells #[] E)):=by
  simp only [execOp,Instr.buildSlice,Sem.run_bind,run_underlying hT,Result.andThen_ok,m w,Nat.zero_mul];rw [if_neg (by omega)];simp only [if_true,Sem.run_bind,Sem.run_pure,Result.andThen_ok]
  have r:Instr.fill (fun i=>some (i*k,k)) (Array.map (fun x=>(#[]:Array Value)[x % (#[]:Array Value).size]!) (Array.range 0)) (Array.map (fun x:Nat × Operand=>(x.fst,hh kv x.snd)) #[]).toList=some #[]:=by simp [Instr.fill]
  rw [r]
  rfl
 rw [hr];exact h _ _ ⟨ie _ _,Nat.le_refl _,by simp⟩ (js _ _)
theorem OR.JY{α:Type}{R:α→List Value→Prop}{base b E k:Nat}{w:World}(h:bJ w b E []) (hb:base≤b):OR base w E k R (some ⟨b,0,none⟩) 0 0 []:=
 ⟨rfl,[],rfl,by simp,by grind [OL.blk],fun i y r h1 m=>by simp at h1⟩
theorem Rd.qz{α:Type}{R:RR α}{k n c:Nat}{Z:Nat→Prop}{w:World}{xs:List α}(h:Rd R k Z w none n c xs):xs=[]:=by
 obtain⟨hn,rows,hl,hk,h1,q⟩:=h
 rcases h1.at_ with⟨_,m,_⟩ | ⟨b,o,m,_⟩
 ·
  grind
 cases m
end
theorem Calls.cap{P:Program}{f:FuncId}{r c:Value}{w:World}{Q:Ending→World→Prop}(h:Calls P f #[r,c] w Q):Calls P f (#[]++[r].toArray++#[c]) w Q:=by grind
theorem Calls.recv{P:Program}{f:FuncId}{v r:Value}{w:World}{Q:Ending→World→Prop}(h:Calls P f #[v,r] w Q):Calls P f (#[v]++[r].toArray++#[]) w Q:=by grind
end Go.Rc

namespace Go.Rc
open Go
section
variable {P:Program}{n:Nat}{kv:KV}{w:World}{d:Tmp}{ty:TypeId}{pos:String}{af:Array Edge}{g:Option (Nat × Bool)}
theorem WL.a{ops:Array Oper}{Q:Exit→Act→World→Prop}{rest:List Oper}{op:Op}{v:Value}(next:WL P ops Q rest n ((d,v)::kv) w)
  (m:gd ops kv ⟨some d,op,ty,pos,af,g⟩=some true:=by rfl) (q:Nat.blt d n=true:=by rfl)
  (h:PV P op ty kv w v:=by
   first
   | with_reducible exact PV.mv (by with_unfolding_all rfl) | with_reducible exact PV.ext (by with_unfolding_all rfl) (by with_unfolding_all rfl) | with_reducible exact PV.fa gq.h (by with_unfolding_all rfl) | with_reducible exact PV.as (by with_unfolding_all rfl) | with_reducible exact PV.JA (by with_unfolding_all rfl) | with_reducible exact PV.gT AJ.h (by with_unfolding_all rfl) | with_reducible exact PV.not (by with_unfolding_all rfl)
   | with_reducible exact PV.Im (by with_unfolding_all rfl) (by with_unfolding_all rfl) | with_reducible exact PV.Jz (by with_unfolding_all rfl) (by with_unfolding_all rfl) | with_reducible exact PV.lss (by with_unfolding_all rfl) (by with_unfolding_all rfl) | with_reducible exact PV.leq (by with_unfolding_all rfl) (by with_unfolding_all rfl) | with_reducible exact PV.gtr (by with_unfolding_all rfl) (by with_unfolding_all rfl) | with_reducible exact PV.geq (by with_unfolding_all rfl) (by with_unfolding_all rfl)
   | with_reducible exact PV.eqs (by with_unfolding_all rfl) (by with_unfolding_all rfl) | with_reducible exact PV.SC (by with_unfolding_all rfl) (by with_unfolding_all rfl) | with_reducible exact PV.Dh y5.h (by with_unfolding_all rfl) (by with_unfolding_all rfl) | with_reducible exact PV.It y5.h (by with_unfolding_all rfl) (by with_unfolding_all rfl)
   | with_reducible exact PV.C3 (by with_unfolding_all rfl) (by with_unfolding_all rfl) (by with_unfolding_all rfl) | with_reducible exact PV.C4 (by with_unfolding_all rfl) (by with_unfolding_all rfl) (by with_unfolding_all rfl)
   | with_reducible exact PV.add (by with_unfolding_all rfl) (by with_unfolding_all rfl) (by omega) (by omega) | with_reducible exact PV.sub (by with_unfolding_all rfl) (by with_unfolding_all rfl) (by omega) (by omega) | with_reducible exact PV.mul (by with_unfolding_all rfl) (by with_unfolding_all rfl) (by omega) (by omega)
   | with_reducible exact PV.rem (by with_unfolding_all rfl) (by with_unfolding_all rfl) (by omega) | with_reducible exact PV.quo (by with_unfolding_all rfl) (by with_unfolding_all rfl) (by omega) (by omega) (by omega) | with_reducible exact PV.cat (by with_unfolding_all rfl) (by with_unfolding_all rfl) (by omega)
   | with_reducible exact PV.zero JL.h | with_reducible exact PV.JU kH.h (by with_unfolding_all rfl) (by with_unfolding_all rfl) | with_reducible exact PV.JV kH.h (by with_unfolding_all rfl) (by with_unfolding_all rfl) | with_reducible exact PV.JW kH.h (by with_unfolding_all rfl) (by with_unfolding_all rfl) | with_reducible exact PV.uu kH.h (by with_unfolding_all rfl) | with_reducible exact PV.Gf (by with_unfolding_all rfl) (by with_unfolding_all rfl) | with_reducible exact PV.Dk (by with_unfolding_all rfl) (by with_unfolding_all rfl)) :
  WL P ops Q (⟨some d,op,ty,pos,af,g⟩::rest) n kv w:=WL.p m q h next
theorem DW.a{ops:Array Oper}{i:Nat}{C:World→Prop}{T:Nat→World→World→Prop}{E:Nat→Option (Value→World→Prop)}{Fin:KV→World→Prop}{rest:List Oper}{F:iq}{op:Op}{v:Value}
  (next:DW P ops n C T E Fin (i+1) rest ((d,v)::kv) F)
  (m:gd ops kv ⟨some d,op,ty,pos,af,g⟩=some true:=by rfl) (q:ba op=false:=by rfl) (hk:known kv op=true:=by rfl) (r:Nat.blt d n=true:=by rfl) (s:E i=none:=by rfl)
  (h:∀w,C w→PV P op ty kv w v:=by
   intro _ t
   first
   | with_reducible exact PV.mv (by with_unfolding_all rfl) | with_reducible exact PV.ext (by with_unfolding_all rfl) (by with_unfolding_all rfl) | with_reducible exact PV.fa gq.h (by with_unfolding_all rfl) | with_reducible exact PV.as (by with_unfolding_all rfl) | with_reducible exact PV.JA (by with_unfolding_all rfl) | with_reducible exact PV.gT AJ.h (by with_unfolding_all rfl) | with_reducible exact PV.not (by with_unfolding_all rfl)
   | with_reducible exact PV.Im (by with_unfolding_all rfl) (by with_unfolding_all rfl) | with_reducible exact PV.Jz (by with_unfolding_all rfl) (by with_unfolding_all rfl) | with_reducible exact PV.lss (by with_unfolding_all rfl) (by with_unfolding_all rfl) | with_reducible exact PV.leq (by with_unfolding_all rfl) (by with_unfolding_all rfl) | with_reducible exact PV.gtr (by with_unfolding_all rfl) (by with_unfolding_all rfl) | with_reducible exact PV.geq (by with_unfolding_all rfl) (by with_unfolding_all rfl)
   | with_reducible exact PV.eqs (by with_unfolding_all rfl) (by with_unfolding_all rfl) | with_reducible exact PV.SC (by with_unfolding_all rfl) (by with_unfolding_all rfl) | with_reducible exact PV.Dh y5.h (by with_unfolding_all rfl) (by with_unfolding_all rfl) | with_reducible exact PV.It y5.h (by with_unfolding_all rfl) (by with_unfolding_all rfl)
   | with_reducible exact PV.C3 (by with_unfolding_all rfl) (by with_unfolding_all rfl) (by with_unfolding_all rfl) | with_reducible exact PV.C4 (by with_unfolding_all rfl) (by with_unfolding_all rfl) (by with_unfolding_all rfl)
   | with_reducible exact PV.add (by with_unfolding_all rfl) (by with_unfolding_all rfl) (by omega) (by omega) | with_reducible exact PV.sub (by with_unfolding_all rfl) (by with_unfolding_all rfl) (by omega) (by omega) | with_reducible exact PV.mul (by with_unfolding_all rfl) (by with_unfolding_all rfl) (by omega) (by omega)
   | with_reducible exact PV.rem (by with_unfolding_all rfl) (by with_unfolding_all rfl) (by omega) | with_reducible exact PV.quo (by with_unfolding_all rfl) (by with_unfolding_all rfl) (by omega) (by omega) (by omega) | with_reducible exact PV.cat (by with_unfolding_all rfl) (by with_unfolding_all rfl) (by omega)
   | with_reducible exact PV.zero JL.h | with_reducible exact PV.JU kH.h (by with_unfolding_all rfl) (by with_unfolding_all rfl) | with_reducible exact PV.JV kH.h (by with_unfolding_all rfl) (by with_unfolding_all rfl) | with_reducible exact PV.JW kH.h (by with_unfolding_all rfl) (by with_unfolding_all rfl) | with_reducible exact PV.uu kH.h (by with_unfolding_all rfl) | with_reducible exact PV.Gf (by with_unfolding_all rfl) (by with_unfolding_all rfl) | with_reducible exact PV.Dk (by with_unfolding_all rfl) (by with_unfolding_all rfl)) :
  DW P ops n C T E Fin i (⟨some d,op,ty,pos,af,g⟩::rest) kv F:=DW.p m q hk r s h next
end
section
variable {P:Program}{n N:Nat}{w0:World}{M Z:Nat→Prop}{ls ed:List As}{Fin:KV→World→Prop}{l:List Oper}{i:Nat}{σ':List Nat}{kv:KV}{sd:List (Nat × As)}{K:Nat→Kd}{d:Tmp}{op:Op}{ty:TypeId}{pos:String}{af:Array Edge}{g:Option (Nat × Bool)}
theorem DG.a{v:Value}(next:DG P l.toArray n w0 M N ed K Fin σ' ((d,v)::kv) sd Z ls)
  (m:kn l i=some ⟨some d,op,ty,pos,af,g⟩:=by rfl) (q:gd l.toArray kv ⟨some d,op,ty,pos,af,g⟩=some true:=by rfl) (r:ba op=false:=by rfl) (hk:known kv op=true:=by rfl) (s:Nat.blt d n=true:=by rfl) (t:(K i).jL=true:=by rfl)
  (h:∀w z R,N≤w.heap.size→St w0 M z w R→(∀A∈ed,A∈R)→PV P op ty kv w v:=by
   intro _ _ _ _ _ _
   first
   | with_reducible exact PV.mv (by with_unfolding_all rfl) | with_reducible exact PV.ext (by with_unfolding_all rfl) (by with_unfolding_all rfl) | with_reducible exact PV.fa gq.h (by with_unfolding_all rfl) | with_reducible exact PV.as (by with_unfolding_all rfl) | with_reducible exact PV.JA (by with_unfolding_all rfl) | with_reducible exact PV.gT AJ.h (by with_unfolding_all rfl) | with_reducible exact PV.not (by with_unfolding_all rfl)
   | with_reducible exact PV.Im (by with_unfolding_all rfl) (by with_unfolding_all rfl) | with_reducible exact PV.Jz (by with_unfolding_all rfl) (by with_unfolding_all rfl) | with_reducible exact PV.lss (by with_unfolding_all rfl) (by with_unfolding_all rfl) | with_reducible exact PV.leq (by with_unfolding_all rfl) (by with_unfolding_all rfl) | with_reducible exact PV.gtr (by with_unfolding_all rfl) (by with_unfolding_all rfl) | with_reducible exact PV.geq (by with_unfolding_all rfl) (by with_unfolding_all rfl)
   | with_reducible exact PV.eqs (by with_unfolding_all rfl) (by with_unfolding_all rfl) | with_reducible exact PV.SC (by with_unfolding_all rfl) (by with_unfolding_all rfl) | with_reducible exact PV.Dh y5.h (by with_unfolding_all rfl) (by with_unfolding_all rfl) | with_reducible exact PV.It y5.h (by with_unfolding_all rfl) (by with_unfolding_all rfl)
   | with_reducible exact PV.C3 (by with_unfolding_all rfl) (by with_unfolding_all rfl) (by with_unfolding_all rfl) | with_reducible exact PV.C4 (by with_unfolding_all rfl) (by with_unfolding_all rfl) (by with_unfolding_all rfl)
   | with_reducible exact PV.add (by with_unfolding_all rfl) (by with_unfolding_all rfl) (by omega) (by omega) | with_reducible exact PV.sub (by with_unfolding_all rfl) (by with_unfolding_all rfl) (by omega) (by omega) | with_reducible exact PV.mul (by with_unfolding_all rfl) (by with_unfolding_all rfl) (by omega) (by omega)
   | with_reducible exact PV.rem (by with_unfolding_all rfl) (by with_unfolding_all rfl) (by omega) | with_reducible exact PV.quo (by with_unfolding_all rfl) (by with_unfolding_all rfl) (by omega) (by omega) (by omega) | with_reducible exact PV.cat (by with_unfolding_all rfl) (by with_unfolding_all rfl) (by omega)
   | with_reducible exact PV.zero JL.h | with_reducible exact PV.JU kH.h (by with_unfolding_all rfl) (by with_unfolding_all rfl) | with_reducible exact PV.JV kH.h (by with_unfolding_all rfl) (by with_unfolding_all rfl) | with_reducible exact PV.JW kH.h (by with_unfolding_all rfl) (by with_unfolding_all rfl) | with_reducible exact PV.uu kH.h (by with_unfolding_all rfl) | with_reducible exact PV.Gf (by with_unfolding_all rfl) (by with_unfolding_all rfl) | with_reducible exact PV.Dk (by with_unfolding_all rfl) (by with_unfolding_all rfl)) :
  DG P l.toArray n w0 M N ed K Fin (i::σ') kv sd Z ls:=DG.p m q r hk s t h next
end
/-! calls that own nothing -/
section
variable {P:Program}{n:Nat}{kv:KV}{w:World}{d:Tmp}{ty:TypeId}{pos:String}{af:Array Edge}{g:Option (Nat × Bool)}{w0:World}{M Z:Nat→Prop}{ls:List As}{f:FuncId}{xs:List Operand}{sy:Array TypeId}{args:List Value}{u u':Value}
theorem WL.c1 [q:fi P f] {ops:Array Oper}{Q:Exit→Act→World→Prop}{rest:List Oper}(hc:Calls P f args.toArray w fun e w'=>e=.returned u'∧aQ [] w w') (r:u'=u) (st:St w0 M Z w ls)
  (next:∀w',aQ [] w w'→St w0 M Z w' ls→WL P ops Q rest n ((d,u)::kv) w')
  (s:gd ops kv ⟨some d,.call {callee:=.value (.func f),args:=xs.toArray,argTypes:=sy},ty,pos,af,g⟩=some true:=by rfl) (t:Nat.blt d n=true:=by rfl) (z:xs.map (ev kv)=args.map some:=by rfl) :
  WL P ops Q (⟨some d,.call {callee:=.value (.func f),args:=xs.toArray,argTypes:=sy},ty,pos,af,g⟩::rest) n kv w:=
 WL.go s (OX.call q.h t z (hc.mono fun _ w' ⟨he,m⟩=>⟨u,by rw [he,r],next w' m (st.step m)⟩))
theorem WL.c0 [r:fi P f] {ops:Array Oper}{Q:Exit→Act→World→Prop}{rest:List Oper}(hc:Calls P f args.toArray w fun e w'=>e=.returned u∧aQ [] w w') (st:St w0 M Z w ls)
  (next:∀w',aQ [] w w'→St w0 M Z w' ls→WL P ops Q rest n ((d,u)::kv) w')
  (h:gd ops kv ⟨some d,.call {callee:=.value (.func f),args:=xs.toArray,argTypes:=sy},ty,pos,af,g⟩=some true:=by rfl) (m:Nat.blt d n=true:=by rfl) (q:xs.map (ev kv)=args.map some:=by rfl) :
  WL P ops Q (⟨some d,.call {callee:=.value (.func f),args:=xs.toArray,argTypes:=sy},ty,pos,af,g⟩::rest) n kv w:=WL.c1 hc rfl st next h m q
theorem DW.c1 [t:fi P f] {ops:Array Oper}{i N:Nat}{T:Nat→World→World→Prop}{E:Nat→Option (Value→World→Prop)}{Fin:KV→World→Prop}{rest:List Oper}{F:iq}
  (hc:∀m,(N≤m.heap.size∧St w0 M Z m ls)→wM (cz ⟨some d,.call {callee:=.value (.func f),args:=xs.toArray,argTypes:=sy},ty,pos,af,g⟩) F m→Calls P f args.toArray m fun e w'=>e=.returned u'∧aQ [] m w') (z:u'=u)
  (next:DW P ops n (fun m=>N≤m.heap.size∧St w0 M Z m ls) T E Fin (i+1) rest ((d,u)::kv) ((i,fun _=>u=u)::F))
  (A:gd ops kv ⟨some d,.call {callee:=.value (.func f),args:=xs.toArray,argTypes:=sy},ty,pos,af,g⟩=some true:=by rfl) (hk:known kv (.call {callee:=.value (.func f),args:=xs.toArray,argTypes:=sy})=true:=by rfl) (s:Nat.blt d n=true:=by rfl)
  (B:E i=some (fun v _=>v=u):=by rfl) (hT:∀w w',aQ [] w w'→T i w w':=by exact fun _ _ h=>h.p0) (C:xs.map (ev kv)=args.map some:=by rfl) :
  DW P ops n (fun m=>N≤m.heap.size∧St w0 M Z m ls) T E Fin i (⟨some d,.call {callee:=.value (.func f),args:=xs.toArray,argTypes:=sy},ty,pos,af,g⟩::rest) kv F:=
 DW.e A rfl hk s B (fun m q D=>OX.call t.h s C ((hc m q D).mono fun _ w' ⟨he,r⟩=>⟨u,by rw [he,z],⟨Nat.le_trans q.1 r.size,q.2.step r⟩,hT _ _ r,u,rfl,rfl⟩)) (by rintro _ _ _ rfl;exact next)
theorem DW.c0 [z:fi P f] {ops:Array Oper}{i N:Nat}{T:Nat→World→World→Prop}{E:Nat→Option (Value→World→Prop)}{Fin:KV→World→Prop}{rest:List Oper}{F:iq}
  (hc:∀m,(N≤m.heap.size∧St w0 M Z m ls)→wM (cz ⟨some d,.call {callee:=.value (.func f),args:=xs.toArray,argTypes:=sy},ty,pos,af,g⟩) F m→Calls P f args.toArray m fun e w'=>e=.returned u∧aQ [] m w')
  (next:DW P ops n (fun m=>N≤m.heap.size∧St w0 M Z m ls) T E Fin (i+1) rest ((d,u)::kv) ((i,fun _=>u=u)::F))
  (q:gd ops kv ⟨some d,.call {callee:=.value (.func f),args:=xs.toArray,argTypes:=sy},ty,pos,af,g⟩=some true:=by rfl) (hk:known kv (.call {callee:=.value (.func f),args:=xs.toArray,argTypes:=sy})=true:=by rfl) (r:Nat.blt d n=true:=by rfl)
  (s:E i=some (fun v _=>v=u):=by rfl) (hT:∀w w',aQ [] w w'→T i w w':=by exact fun _ _ h=>h.p0) (t:xs.map (ev kv)=args.map some:=by rfl) :
  DW P ops n (fun m=>N≤m.heap.size∧St w0 M Z m ls) T E Fin i (⟨some d,.call {callee:=.value (.func f),args:=xs.toArray,argTypes:=sy},ty,pos,af,g⟩::rest) kv F:=DW.c1 hc rfl next q hk r s hT t
end
/-! operations with effects, and what is owned behind them -/
section
variable {P:Program}{n:Nat}{kv:KV}{w:World}{d:Tmp}{ty:TypeId}{pos:String}{af:Array Edge}{g:Option (Nat × Bool)}{w0:World}{M Z:Nat→Prop}{ls:List As}{ops:Array Oper}{Q:Exit→Act→World→Prop}{rest:List Oper}
theorem WL.al{T:TypeId}{l:List Value} [hT:AK P T l] (st:St w0 M Z w ls) (next:∀b w',wL w w' b→bJ w' b T l→St w0 M Z w' (As.blk b T l::ls)→WL P ops Q rest n ((d,.pointer (some ⟨b,0,none⟩))::kv) w')
  (q:gd ops kv ⟨some d,.alloc T,ty,pos,af,g⟩=some true:=by rfl) (r:Nat.blt d n=true:=by rfl):WL P ops Q (⟨some d,.alloc T,ty,pos,af,g⟩::rest) n kv w:=
 WL.go q (OX.alloc hT.h r fun b w' m hb=>next b w' m hb (st.df m hb))
theorem WL.mm{κ:Type} [DecidableEq κ] (enc:κ→Value) {T:TypeId}(st:St w0 M Z w ls) (next:∀b w',wL w w' b→KM enc w' b []→St w0 M Z w' (As.map enc b []::ls)→WL P ops Q rest n ((d,.map (some b))::kv) w')
  (m:gd ops kv ⟨some d,.makeMap T none,ty,pos,af,g⟩=some true:=by rfl) (q:Nat.blt d n=true:=by rfl):WL P ops Q (⟨some d,.makeMap T none,ty,pos,af,g⟩::rest) n kv w:=
 WL.go m (OX.makeMap enc q fun b w' h hb=>next b w' h hb (st.Gi h hb))
theorem WL.s1{x y:Operand}{j b e U:Nat}{cs m:List Value}{v:Value} [hT:FU P U 1] (fr:St w0 M Z w (As.blk b e cs::ls)) (next:∀w',aQ [b] w w'→St w0 M Z w' (As.blk b e m::ls)→WL P ops Q rest n kv w')
  (q:gd ops kv ⟨none,.store U x y,ty,pos,af,g⟩=some true:=by rfl) (r:ev kv x=some (.pointer (some ⟨b,0+j,none⟩)):=by rfl) (hy:ev kv y=some v:=by rfl)
  (t:nth cs j≠none:=by first | (simp [nth];done) | exact SH rfl) (h1:v.oneCell'=true:=by rfl) (hl:wI cs j v=m:=by rfl):WL P ops Q (⟨none,.store U x y,ty,pos,af,g⟩::rest) n kv w:=
 WL.go q (OX.st hT.h (As.gb fr.g0) r hy t h1 hl fun w' s _ hb=>next w' s (fr.JN s hb))
theorem WL.s0{x y:Operand}{b e U:Nat}{cs m:List Value}{v:Value} [hT:FU P U 1] (fr:St w0 M Z w (As.blk b e cs::ls)) (next:∀w',aQ [b] w w'→St w0 M Z w' (As.blk b e m::ls)→WL P ops Q rest n kv w')
  (q:gd ops kv ⟨none,.store U x y,ty,pos,af,g⟩=some true:=by rfl) (r:ev kv x=some (.pointer (some ⟨b,0,none⟩)):=by rfl) (hy:ev kv y=some v:=by rfl)
  (t:nth cs 0≠none:=by first | (simp [nth];done) | exact SH rfl) (h1:v.oneCell'=true:=by rfl) (hl:wI cs 0 v=m:=by rfl):WL P ops Q (⟨none,.store U x y,ty,pos,af,g⟩::rest) n kv w:=
 WL.go q (OX.aO hT.h (As.gb fr.g0) r hy t h1 hl fun w' s _ hb=>next w' s (fr.JN s hb))
theorem WL.ap{α:Type}{R:RR α}{x y:Operand}{E k q c m c2 bytes U:Nat}{a a2:Option Addr}{xs t:List α}{A:Nat→Prop} [hT:Dm P U E k bytes] (B:ev kv x=some (.slice a q c)) (C:ev kv y=some (.slice a2 m c2)) (fr:St w0 M Z w (As.os R E k a q c xs::ls)) (D:SR A w k (R.r Z w) a2 m c2 t)
  (next:∀a' c' w',(∀x∈bA a',x∈bA a∨w.heap.size≤x)→(a'=none→a=none∧m=0)→St w0 M Z w' (As.os R E k a' (q+m) c' (xs++t)::ls)→WL P ops Q rest n ((d,.slice a' (q+m) c')::kv) w')
  (G:(q+m)*bytes≤140737488355328:=by omega) (H:q+m≤140737488355328:=by omega)
  (I:gd ops kv ⟨some d,.call {callee:=.builtin .append,args:=#[x,y],argTypes:=#[U,U]},ty,pos,af,g⟩=some true:=by rfl) (J:Nat.blt d n=true:=by rfl) :
  WL P ops Q (⟨some d,.call {callee:=.builtin .append,args:=#[x,y],argTypes:=#[U,U]},ty,pos,af,g⟩::rest) n kv w:=
 WL.go I (OX.mX hT.h J B C (As.gs fr.g0) D G H (Nat.zero_le _) fun a' c' w' h s z hn=>next a' c' w' z hn (fr.gN s h z))
end
end Go.Rc

namespace Go.Rc
open Go
theorem cL{p q:Prop}(g:p) (h:¬p:=by first | (simp;done) | (simp;omega) | (simp_all;done) | (simp_all;omega)):q:=absurd g h
section
variable {P:Program}{n:Nat}{kv:KV}{w:World}{d:Tmp}{ty:TypeId}{pos:String}{af:Array Edge}{g:Option (Nat × Bool)}
theorem WL.q{ops:Array Oper}{Q:Exit→Act→World→Prop}{rest:List Oper}{op:Op}{v:Value}(h:PV P op ty kv w v) (next:WL P ops Q rest n ((d,v)::kv) w)
  (m:gd ops kv ⟨some d,op,ty,pos,af,g⟩=some true:=by rfl) (r:Nat.blt d n=true:=by rfl):WL P ops Q (⟨some d,op,ty,pos,af,g⟩::rest) n kv w:=WL.p m r h next
theorem WL.z{ops:Array Oper}{Q:Exit→Act→World→Prop}{rest:List Oper}{o:Oper}(next:WL P ops Q rest n (iL kv o.dst undef) w)
  (h:gd ops kv o=some false:=by rfl) (m:mS n o.dst=true:=by rfl):WL P ops Q (o::rest) n kv w:=WL.no h m next
theorem DW.q{ops:Array Oper}{i:Nat}{C:World→Prop}{T:Nat→World→World→Prop}{E:Nat→Option (Value→World→Prop)}{Fin:KV→World→Prop}{rest:List Oper}{F:iq}{op:Op}{v:Value}
  (h:∀w,C w→PV P op ty kv w v) (next:DW P ops n C T E Fin (i+1) rest ((d,v)::kv) F)
  (m:gd ops kv ⟨some d,op,ty,pos,af,g⟩=some true:=by rfl) (r:ba op=false:=by rfl) (hk:known kv op=true:=by rfl) (s:Nat.blt d n=true:=by rfl) (t:E i=none:=by rfl) :
  DW P ops n C T E Fin i (⟨some d,op,ty,pos,af,g⟩::rest) kv F:=DW.p m r hk s t h next
theorem DW.z{ops:Array Oper}{i:Nat}{C:World→Prop}{T:Nat→World→World→Prop}{E:Nat→Option (Value→World→Prop)}{Fin:KV→World→Prop}{rest:List Oper}{F:iq}{op:Op}
  (next:DW P ops n C T E Fin (i+1) rest ((d,undef)::kv) F)
  (h:gd ops kv ⟨some d,op,ty,pos,af,g⟩=some false:=by rfl) (m:ba op=false:=by rfl) (q:Nat.blt d n=true:=by rfl) :
  DW P ops n C T E Fin i (⟨some d,op,ty,pos,af,g⟩::rest) kv F:=DW.no h m q next
end
section
variable {P:Program}{n N:Nat}{w0:World}{M Z:Nat→Prop}{ls ed:List As}{Fin:KV→World→Prop}{l:List Oper}{i:Nat}{σ':List Nat}{kv:KV}{sd:List (Nat × As)}{K:Nat→Kd}{d:Tmp}{op:Op}{ty:TypeId}{pos:String}{af:Array Edge}{g:Option (Nat × Bool)}
theorem DG.q{v:Value}(m:kn l i=some ⟨some d,op,ty,pos,af,g⟩) (h:∀w r R,N≤w.heap.size→St w0 M r w R→(∀A∈ed,A∈R)→PV P op ty kv w v) (next:DG P l.toArray n w0 M N ed K Fin σ' ((d,v)::kv) sd Z ls)
  (s:gd l.toArray kv ⟨some d,op,ty,pos,af,g⟩=some true:=by rfl) (t:ba op=false:=by rfl) (hk:known kv op=true:=by rfl) (z:Nat.blt d n=true:=by rfl) (B:(K i).jL=true:=by rfl) :
  DG P l.toArray n w0 M N ed K Fin (i::σ') kv sd Z ls:=DG.p m s t hk z B h next
theorem DG.z(h:kn l i=some ⟨some d,op,ty,pos,af,g⟩) (next:DG P l.toArray n w0 M N ed K Fin σ' ((d,undef)::kv) sd Z ls)
  (m:gd l.toArray kv ⟨some d,op,ty,pos,af,g⟩=some false:=by rfl) (q:ba op=false:=by rfl) (r:Nat.blt d n=true:=by rfl) :
  DG P l.toArray n w0 M N ed K Fin (i::σ') kv sd Z ls:=DG.no h m q r next
end
section
variable {w0 w:World}{M Z:Nat→Prop}{l:List As}{b T:Nat}{cs:List Value}
theorem St.b0(h:St w0 M Z w (As.blk b T cs::l)):w.rangeAt b 0 cs:=bJ.range (As.gb h.g0)
theorem St.b1{A0:As}(h:St w0 M Z w (A0::As.blk b T cs::l)):w.rangeAt b 0 cs:=bJ.range (As.gb h.g1)
theorem St.b2{A0 A1:As}(h:St w0 M Z w (A0::A1::As.blk b T cs::l)):w.rangeAt b 0 cs:=bJ.range (As.gb h.g2)
theorem St.b3{A0 A1 A2:As}(h:St w0 M Z w (A0::A1::A2::As.blk b T cs::l)):w.rangeAt b 0 cs:=bJ.range (As.gb h.g3)
theorem St.b4{A0 A1 A2 A3:As}(h:St w0 M Z w (A0::A1::A2::A3::As.blk b T cs::l)):w.rangeAt b 0 cs:=bJ.range (As.gb h.g4)
theorem St.b5{A0 A1 A2 A3 m:As}(h:St w0 M Z w (A0::A1::A2::A3::m::As.blk b T cs::l)):w.rangeAt b 0 cs:=bJ.range (As.gb h.g5)
end
structure j7 (q:Prop):Prop where
 out:q
theorem nx{p q:Prop}(next:q) (h:j7 q→p:=by
  intro h
  first
   | with_reducible refine WL.nil ?_
   | with_reducible refine EX.Tw ?_
   | with_reducible refine WC.seq ?_
   | with_reducible refine WC.region ?_
   | with_reducible refine WC.block ?_
   | with_reducible refine WC.skip ?_
   | with_reducible refine WC.exit ?_
   | with_reducible refine WC.ret ?_
   | with_reducible refine EX.NL ?_
   | with_reducible refine EX.NN ?_
   | with_reducible refine EX.Tx ?_
   | with_reducible refine EX.Jy ?_
   | with_reducible refine EX.Ty ?_
   | refine WL.a ?_
   | refine WL.z ?_
   | refine DW.a ?_
   | refine DW.z ?_
   | refine DG.a ?_
  exact h.out):p:=h ⟨next⟩
theorem au{p q:Prop}(next:q) (h:j7 q→p:=by intro h;(repeat (refine nx ?_));exact h.out):p:=h ⟨next⟩
theorem bM{p q:Prop}(next:q) (h:j7 q→p:=by intro h;refine nx ?_;refine nx ?_;exact h.out):p:=h ⟨next⟩
theorem cv{p q:Prop}(next:q) (h:j7 q→p:=by intro h;refine bM ?_;refine nx ?_;exact h.out):p:=h ⟨next⟩
theorem cw{p q:Prop}(next:q) (h:j7 q→p:=by intro h;refine bM ?_;refine bM ?_;exact h.out):p:=h ⟨next⟩
theorem dp{p q:Prop}(next:q) (h:j7 q→p:=by intro h;refine bM ?_;refine cv ?_;exact h.out):p:=h ⟨next⟩
theorem fj{p q:Prop}(next:q) (h:j7 q→p:=by intro h;refine cv ?_;refine cv ?_;exact h.out):p:=h ⟨next⟩
theorem fb{p q:Prop}(next:q) (h:j7 q→p:=by intro h;refine cv ?_;refine cw ?_;exact h.out):p:=h ⟨next⟩
theorem gW{p q:Prop}(next:q) (h:j7 q→p:=by intro h;refine cw ?_;refine cw ?_;exact h.out):p:=h ⟨next⟩
theorem lW{p q:Prop}(next:q) (h:j7 q→p:=by intro h;refine cw ?_;refine dp ?_;exact h.out):p:=h ⟨next⟩
theorem kL{p q:Prop}(next:q) (h:j7 q→p:=by intro h;refine dp ?_;refine dp ?_;exact h.out):p:=h ⟨next⟩
theorem iM{p q:Prop}(next:q) (h:j7 q→p:=by intro h;refine dp ?_;refine fj ?_;exact h.out):p:=h ⟨next⟩
theorem aT{p q:Prop}(next:q) (h:j7 q→p:=by intro h;refine fj ?_;refine fj ?_;exact h.out):p:=h ⟨next⟩
theorem CA{α:Type _}{a:α}{l m:List α}:(a::l)++m=a::(l++m):=rfl
theorem NA{α:Type _}{l:List α}:[]++l=l:=rfl
theorem CM{α β:Type _}{f:α→β}{a:α}{l:List α}:List.map f (a::l)=f a::List.map f l:=rfl
theorem NM{α β:Type _}{f:α→β}:List.map f []=[]:=rfl
theorem tG{g q:Prop}(h:g) (t:g→q:=by
  intro h
  first | rfl | (simp only [h];done) | (simp only [h];rfl) | (simp [h];done) | (simp;done) | (simp at h ⊢ <;> omega) | (simp <;> omega) | (simp [h] <;> omega) | (simp at h <;> omega)):q:=t h
theorem Sub.k2{kv r:KV}{t1 t2:Nat}{v1 v2:Value}(h1:Rc.look kv t1=some v1) (h:Rc.look kv t2=some v2) (hr:Sub kv r):Sub kv ((t1,v1)::(t2,v2)::r):=⟨h1,h,hr⟩
theorem Sub.k4{kv r:KV}{t1 t2 t3 t4:Nat}{v1 v2 v3 v4:Value}(h1:Rc.look kv t1=some v1) (h:Rc.look kv t2=some v2) (m:Rc.look kv t3=some v3) (q:Rc.look kv t4=some v4) (hr:Sub kv r):Sub kv ((t1,v1)::(t2,v2)::(t3,v3)::(t4,v4)::r):=⟨h1,h,m,q,hr⟩
section
variable {R L l ls:List As}{A0 A1 A2 A3:As}
theorem aC.k2(h:L=l++R):A0::A1::L=(A0::A1::l)++R:=aC.cons (aC.cons h)
theorem aC.k4(h:L=l++R):A0::A1::A2::A3::L=(A0::A1::A2::A3::l)++R:=aC.k2 (aC.k2 h)
theorem av.k4(h0:A0∈ls) (h1:A1∈ls) (h:A2∈ls) (m:A3∈ls) (t:∀A∈l,A∈ls):∀A∈A0::A1::A2::A3::l,A∈ls:=av.cons h0 (av.cons h1 (av.cons h (av.cons m t)))
end
inductive E2 {α β:Type}:α→α→β→β→Prop where
 | r {a:α}{b:β}:E2 a a b b
inductive E5 {α β γ δ ε:Type}:α→α→β→β→γ→γ→δ→δ→ε→ε→Prop where
 | r {a:α}{b:β}{c:γ}{d:δ}{e:ε}:E5 a a b b c c d d e e
inductive E6 {α β γ δ ε ζ:Type}:α→α→β→β→γ→γ→δ→δ→ε→ε→ζ→ζ→Prop where
 | r {a:α}{b:β}{c:γ}{d:δ}{e:ε}{f:ζ}:E6 a a b b c c d d e e f f
theorem E2.p1{α β:Type}{a a':α}{b b':β}(e:E2 a a' b b'):a=a':=by cases e;rfl
theorem E2.p2{α β:Type}{a a':α}{b b':β}(e:E2 a a' b b'):b=b':=by cases e;rfl
section
variable {α β γ δ ε ζ:Type}{a a':α}{b b':β}{c c':γ}{d d':δ}{e e':ε}{f f':ζ}
theorem E5.p(h:E5 a a' b b' c c' d d' e e'):a=a'∧b=b'∧c=c'∧d=d'∧e=e':=by cases h;exact⟨rfl,rfl,rfl,rfl,rfl⟩
theorem E6.p(h:E6 a a' b b' c c' d d' e e' f f'):a=a'∧b=b'∧c=c'∧d=d'∧e=e'∧f=f':=by cases h;exact⟨rfl,rfl,rfl,rfl,rfl,rfl⟩
end
section
variable {P:Program}{n N:Nat}{kv:KV}{w w0:World}{d:Tmp}{ty:TypeId}{pos:String}{af:Array Edge}{g:Option (Nat × Bool)}
theorem WP{ops:Array Oper}{Q:Exit→Act→World→Prop}{rest:List Oper}{op:Op}{v:Value}(e:E2 (gd ops kv ⟨some d,op,ty,pos,af,g⟩) (some true) (Nat.blt d n) true) (h:PV P op ty kv w v) (next:WL P ops Q rest n ((d,v)::kv) w):WL P ops Q (⟨some d,op,ty,pos,af,g⟩::rest) n kv w:=
 WL.p e.p1 e.p2 h next
theorem DP{ops:Array Oper}{i:Nat}{C:World→Prop}{T:Nat→World→World→Prop}{E:Nat→Option (Value→World→Prop)}{Fin:KV→World→Prop}{rest:List Oper}{F:iq}{op:Op}{v:Value}
  (e:E5 (gd ops kv ⟨some d,op,ty,pos,af,g⟩) (some true) (ba op) false (known kv op) true (Nat.blt d n) true (E i) none) (h:∀w,C w→PV P op ty kv w v) (next:DW P ops n C T E Fin (i+1) rest ((d,v)::kv) F) :
  DW P ops n C T E Fin i (⟨some d,op,ty,pos,af,g⟩::rest) kv F:=DW.p e.p.1 e.p.2.1 e.p.2.2.1 e.p.2.2.2.1 e.p.2.2.2.2 h next
theorem DQ{M Z:Nat→Prop}{ls ed:List As}{Fin:KV→World→Prop}{l:List Oper}{i:Nat}{σ':List Nat}{sd:List (Nat × As)}{K:Nat→Kd}{op:Op}{v:Value}
  (e:E6 (kn l i) (some ⟨some d,op,ty,pos,af,g⟩) (gd l.toArray kv ⟨some d,op,ty,pos,af,g⟩) (some true) (ba op) false (known kv op) true (Nat.blt d n) true ((K i).jL) true) (h:∀w m R,N≤w.heap.size→St w0 M m w R→(∀A∈ed,A∈R)→PV P op ty kv w v)
  (next:DG P l.toArray n w0 M N ed K Fin σ' ((d,v)::kv) sd Z ls):DG P l.toArray n w0 M N ed K Fin (i::σ') kv sd Z ls:=
 DG.p e.p.1 e.p.2.1 e.p.2.2.1 e.p.2.2.2.1 e.p.2.2.2.2.1 e.p.2.2.2.2.2 h next
end
theorem aj{a b:Prop}(x:a) (y:b):a∧b:=⟨x,y⟩
theorem V1{P:Program}{T ty:TypeId}{kv:KV}{w:World}(hT:One P T) {x:Operand}{b o j:Nat}{vs:List Value}{v:Value}(hc:w.rangeAt b o vs) (e:E2 (ev kv x) (some (.pointer (some ⟨b,o+j,none⟩))) (nth vs j) (some v)):PV P (.load T x) ty kv w v:=PV.ld1 hT hc e.p1 e.p2
theorem VA{P:Program}{T ty:TypeId}{kv:KV}{w:World}{k:Nat}(hT:pW P T k) {x:Operand}{b o:Nat}{vs:List Value}(hc:w.rangeAt b o vs) (e:E2 vs.length k (ev kv x) (some (.pointer (some ⟨b,o,none⟩)))):PV P (.load T x) ty kv w (.agg vs.toArray):=PV.Bx hT hc e.p1 e.p2
theorem Sub.v{kv r:KV}{t:Nat}{v v':Value}(hr:Sub kv r) (h:Rc.look kv t=some v:=by rfl) (m:v=v':=by first | rfl | (simp;done) | (congr 1;omega) | (simp only [];congr 1;omega)):Sub kv ((t,v')::r):=Sub.NW h m hr
theorem WC.cd{P:Program}{Q:Exit→Act→World→Prop}{n:Nat}{kv:KV}{w:World}{c:Operand}{x y:Code}{b:Bool}(ht:b=true→WC P x Q n kv w) (h:b=false→WC P y Q n kv w) (hc:ev kv c=some (.bool b):=by rfl):WC P (.cond c x y) Q n kv w:=WC.cond hc ht h
section
variable {P:Program}{n:Nat}{kv:KV}{w w0:World}{M Z:Nat→Prop}{ls:List As}{d:Tmp}{ty:TypeId}{pos:String}{af:Array Edge}{g:Option (Nat × Bool)}{ops:Array Oper}{Q:Exit→Act→World→Prop}{rest:List Oper}{T:TypeId}{x y:Operand}
theorem WL.bx{v:Value}{l:List Value}(st:St w0 M Z w ls) (next:∀b w',wL w w' b→bJ w' b T l→St w0 M Z w' (As.blk b T l::ls)→WL P ops Q rest n ((d,.pointer (some ⟨b,0,none⟩))::kv) w')
  (m:gd ops kv ⟨some d,.box T x,ty,pos,af,g⟩=some true:=by rfl) (q:Nat.blt d n=true:=by rfl) (r:ev kv x=some v:=by rfl) (hl:v.cells=l.toArray:=by rfl):WL P ops Q (⟨some d,.box T x,ty,pos,af,g⟩::rest) n kv w:=
 WL.go m (OX.box q r hl fun b w' h hb=>next b w' h hb (st.df h hb))
theorem WL.sW{k b:Nat}{e:TypeId}{l us:List Value}(hT:(P.info? T).map (·.size)=some k) (st:St w0 M Z w (As.blk b e l::ls)) (next:∀w',aQ [b] w w'→bJ w' b e us→St w0 M Z w' (As.blk b e us::ls)→WL P ops Q rest n kv w')
  (h:gd ops kv ⟨none,.store T x y,ty,pos,af,g⟩=some true:=by rfl) (m:ev kv x=some (.pointer (some ⟨b,0,none⟩)):=by rfl) (hy:ev kv y=some (.agg us.toArray):=by rfl) (hk:us.length=k:=by rfl) (hlen:l.length=k:=by rfl) (h1:us.all (·.oneCell')=true:=by rfl):WL P ops Q (⟨none,.store T x y,ty,pos,af,g⟩::rest) n kv w:=
 WL.go h (OX.oH hT (As.gb st.g0) m hy hk hlen h1 fun w' s _ hb=>next w' s hb (st.JN s hb))
theorem St.lv{Z':Nat→Prop}{w':World}{l0 r l1 m:List As}(h:St w0 M Z w (l0++r)) (q:St w (nZ l0) Z' w' l1) (s:fE w.heap.size Z Z') (hl:l1++r=m:=by simp only [List.cons_append,List.nil_append] <;> rfl):St w0 M Z' w' m:=hl ▸ St.leave h q s
end
@[reducible] def RT:Ending→(Value→Prop)→Prop
 | .returned v,K=>K v
 | _,_=>False
theorem RT.out{e:Ending}{K:Value→Prop}(h:RT e K):∃v,e=.returned v∧K v:=by
 cases e <;> first | exact⟨_,rfl,h⟩ | exact h.elim
theorem WL.cl{P:Program}{n:Nat}{kv:KV}{w:World}{d:Tmp}{ty:TypeId}{pos:String}{af:Array Edge}{g:Option (Nat × Bool)}{ops:Array Oper}{Q:Exit→Act→World→Prop}{rest:List Oper}{f:FuncId}(m:CF P f) {xs:List Operand}{sy:Array TypeId}{args:List Value}{R:Ending→World→Prop}(q:xs.map (ev kv)=args.map some) (h:Calls P f args.toArray w R)
  (next:∀e w',R e w'→RT e fun v=>WL P ops Q rest n ((d,v)::kv) w') (r:gd ops kv ⟨some d,.call {callee:=.value (.func f),args:=xs.toArray,argTypes:=sy},ty,pos,af,g⟩=some true:=by rfl) (s:Nat.blt d n=true:=by rfl):WL P ops Q (⟨some d,.call {callee:=.value (.func f),args:=xs.toArray,argTypes:=sy},ty,pos,af,g⟩::rest) n kv w:=
 WL.go r (OX.call m s q (h.mono fun e w' hr=>(next e w' hr).out))
abbrev CR(P:Program) (f:FuncId) (a:Array Value) (w:World) (v:Value):Prop:=Calls P f a w fun e w'=>e=.returned v∧aQ [] w w'
section
variable {w w0:World}{M Z:Nat→Prop}{l:List As}
theorem St.fr{α:Type}{R:RR α}{k n c:Nat}{a:Option Addr}{xs:List α}(st:St w0 M Z w l) (h:Rd R k Z w a n c xs):St w0 M Z w (As.ro R k a n c xs::l):=st.fact (As.Gj h) (fun _ m=>m)
theorem St.fg{b o:Nat}{r:List Value}(st:St w0 M Z w l) (h:Z b) (hr:w.rangeAt b o r):St w0 M Z w (As.rg b o r::l):=st.fact (As.N3 h (st.jC _ h) hr) (fun _ m=>m)
theorem St.s0(w:World):St w (fun _=>False) (fun _=>False) w []:=St.start (by simp)
theorem St.lr{w':World}{l0 r l1 m:List As}(h:St w0 M Z w (l0++r)) (q:St w (nZ l0) Z w' l1) (hl:l1++r=m:=by simp only [List.cons_append,List.nil_append] <;> rfl):St w0 M Z w' m:=hl ▸ St.leave h q (fE.refl _ _)
theorem EX.r1{P:Program}{fn:Func}{R:Ending→World→Prop}{n:Nat}{kv:KV}{t:Tmp}{v:Value}(h:R (.returned v) w) (hr:fn.results=#[.tmp t]:=by rfl) (m:look kv t=some v:=by rfl):EX (bodyPost P fn R) .ret n kv w:=EX.NR hr m h
theorem EX.r2{P:Program}{fn:Func}{R:Ending→World→Prop}{n:Nat}{kv:KV}{t u:Tmp}{v x:Value}(h:R (.returned (.tuple #[v,x])) w) (hr:fn.results=#[.tmp t,.tmp u]:=by rfl) (m:look kv t=some v:=by rfl) (q:look kv u=some x:=by rfl):EX (bodyPost P fn R) .ret n kv w:=EX.NS hr m q h
theorem WC.dS{P:Program}{Q:Exit→Act→World→Prop}{n:Nat}{kv:KV}{id m:Nat}{l:List Oper}{ls:List As}(st:St w0 M Z w ls) (hm:P.follows .mixedOrders=true)
  (q:DW P l.toArray n (fun h=>w.heap.size≤h.heap.size∧St w0 M Z h ls) (fun _=>fZ (nZ ls)) (cA []) (fun kv w=>WL P l.toArray Q (l.drop m) n kv w) 0 (l.take m) kv []) (r:wP l m []=true:=by kernel_rfl):WC P (.region id l.toArray true) Q n kv w:=
 WC.dh st (bz (show TK _ _ [] from trivial)) hm r q
end
section
variable {p:Prop}{P:Program}{n:Nat}{kv:KV}{w w0:World}{M Z:Nat→Prop}{ls:List As}{d:Tmp}{ty:TypeId}{pos:String}{af:Array Edge}{g:Option (Nat × Bool)}{ops:Array Oper}{Q:Exit→Act→World→Prop}{rest:List Oper}{T:TypeId}{x y:Operand}{b o j k:Nat}{vs:List Value}{v:Value}
theorem bp(s:j7 (WL P ops Q (⟨some d,.load T x,ty,pos,af,g⟩::rest) n kv w)→p:=by intro h;exact au h.out) (m:gd ops kv ⟨some d,.load T x,ty,pos,af,g⟩=some true:=by rfl) (q:Nat.blt d n=true:=by rfl) (r:ev kv x=some (.pointer (some ⟨b,o+j,none⟩)):=by rfl) (t:nth vs j=some v:=by rfl) (hT:One P T) (hc:w.rangeAt b o vs) (next:WL P ops Q rest n ((d,v)::kv) w):p:=s ⟨WL.p m q (PV.ld1 hT hc r t) next⟩
theorem bP(s:j7 (WL P ops Q (⟨some d,.load T x,ty,pos,af,g⟩::rest) n kv w)→p:=by intro h;exact au h.out) (m:gd ops kv ⟨some d,.load T x,ty,pos,af,g⟩=some true:=by rfl) (q:Nat.blt d n=true:=by rfl) (r:ev kv x=some (.pointer (some ⟨b,o,none⟩)):=by rfl) (t:vs.length=k:=by rfl) (hT:pW P T k) (hc:w.rangeAt b o vs) (next:WL P ops Q rest n ((d,.agg vs.toArray)::kv) w):p:=s ⟨WL.p m q (PV.Bx hT hc t r) next⟩
theorem ko{us:List Value}(s:j7 (WL P ops Q (⟨some d,.load T x,ty,pos,af,g⟩::rest) n kv w)→p:=by intro h;exact au h.out) (m:gd ops kv ⟨some d,.load T x,ty,pos,af,g⟩=some true:=by rfl) (q:Nat.blt d n=true:=by rfl) (r:ev kv x=some (.pointer (some ⟨b,o+j,none⟩)):=by rfl) (t:Io vs j k=some us:=by rfl) (hT:pW P T k) (hc:w.rangeAt b o vs) (next:WL P ops Q rest n ((d,.agg us.toArray)::kv) w):p:=s ⟨WL.p m q (PV.wK hT hc r t) next⟩
theorem aX{c:Operand}{X Y:Code}{t:Bool}(s:j7 (WC P (.cond c X Y) Q n kv w)→p:=by intro h;exact au h.out) (hc:ev kv c=some (.bool t):=by rfl) (ht:t=true→WC P X Q n kv w) (m:t=false→WC P Y Q n kv w):p:=s ⟨WC.cond hc ht m⟩
theorem cO{t m:Nat}{q c:Bool}{r:Option Tmp}{op:Op}(s:j7 (WL P ops Q (⟨r,op,ty,pos,af,some (m,q)⟩::rest) n kv w)→p:=by intro h;exact au h.out) (hm:eh ops m=some t:=by rfl) (ht:look kv t=some (.bool c):=by rfl) (hT:c=true→WL P ops Q (⟨r,op,ty,pos,af,some (m,q)⟩::rest) n ((t,.bool true)::kv) w) (z:c=false→WL P ops Q (⟨r,op,ty,pos,af,some (m,q)⟩::rest) n ((t,.bool false)::kv) w):p:=s ⟨WL.ct ht hT z⟩
theorem bB{fn:Func}{R:Ending→World→Prop}{t:Tmp}(s:j7 (EX (bodyPost P fn R) .ret n kv w)→p:=by intro h;exact au h.out) (hr:fn.results=#[.tmp t]:=by rfl) (m:look kv t=some v:=by rfl) (h:R (.returned v) w):p:=s ⟨EX.NR hr m h⟩
theorem wv{fn:Func}{R:Ending→World→Prop}{t u:Tmp}{z:Value}(s:j7 (EX (bodyPost P fn R) .ret n kv w)→p:=by intro h;exact au h.out) (hr:fn.results=#[.tmp t,.tmp u]:=by rfl) (m:look kv t=some v:=by rfl) (q:look kv u=some z:=by rfl) (h:R (.returned (.tuple #[v,z])) w):p:=s ⟨EX.NS hr m q h⟩
theorem kp{fn:Func}{R:Ending→World→Prop}{t:Nat}(s:j7 (EX (bodyPost P fn R) .ret n kv w)→p:=by intro h;exact au h.out) (hr:fn.results=#[.cell t T]:=by rfl) (ht:look kv t=some (.pointer (some ⟨b,0,none⟩)):=by rfl) (hl:vs.length=k:=by rfl) (hT:pW P T k) (hc:w.rangeAt b 0 vs) (h:R (.returned (.agg vs.toArray)) w):p:=s ⟨EX.TM hT hr ht hc hl h⟩
theorem cp{m:KV}{t:Nat}{v':Value}{J:World→Prop}(s:j7 (EX (oJ n t v kv J) .normal n m w)→p:=by intro h;exact au h.out) (q:iO (m.length - kv.length) m=kv:=by rfl) (r:lS (m.length - kv.length) m kv=true:=by rfl) (z:look m t=some v':=by rfl) (he:v'=v) (A:J w):p:=s ⟨EX.NX _ q r z he A⟩
theorem fF{m:KV}{t:Nat}{v':Value}{J:World→Prop}(s:j7 (EX (oJ n t v (fX t kv) J) .normal n m w)→p:=by intro h;exact au h.out) (q:iO (m.length - kv.length) m=kv:=by rfl) (r:lS (m.length - kv.length) m (fX t kv)=true:=by rfl) (z:look m t=some v':=by rfl) (he:v'=v) (A:J w):p:=s ⟨EX.JF _ q r z he A⟩
theorem dx(s:j7 (WL P ops Q (⟨some d,.box T x,ty,pos,af,g⟩::rest) n kv w)→p:=by intro h;exact au h.out) (m:gd ops kv ⟨some d,.box T x,ty,pos,af,g⟩=some true:=by rfl) (q:Nat.blt d n=true:=by rfl) (r:ev kv x=some v:=by rfl) (hl:v.cells=vs.toArray:=by rfl) (st:St w0 M Z w ls) (next:∀b w',wL w w' b→bJ w' b T vs→St w0 M Z w' (As.blk b T vs::ls)→WL P ops Q rest n ((d,.pointer (some ⟨b,0,none⟩))::kv) w'):p:=s ⟨WL.bx st next m q r hl⟩
theorem dZ{e:TypeId}{l:List Value}(s:j7 (WL P ops Q (⟨none,.store T x y,ty,pos,af,g⟩::rest) n kv w)→p:=by intro h;exact au h.out) (m:gd ops kv ⟨none,.store T x y,ty,pos,af,g⟩=some true:=by rfl) (q:ev kv x=some (.pointer (some ⟨b,0,none⟩)):=by rfl) (hy:ev kv y=some (.agg vs.toArray):=by rfl) (hk:vs.length=k:=by rfl) (hlen:l.length=k:=by rfl) (h1:vs.all (·.oneCell')=true:=by rfl) (hT:(P.info? T).map (·.size)=some k) (st:St w0 M Z w (As.blk b e l::ls)) (next:∀w',aQ [b] w w'→bJ w' b e vs→St w0 M Z w' (As.blk b e vs::ls)→WL P ops Q rest n kv w'):p:=s ⟨WL.sW hT st next m q hy hk hlen h1⟩
theorem gx{l:List Value}(s:j7 (WL P ops Q (⟨some d,.alloc T,ty,pos,af,g⟩::rest) n kv w)→p:=by intro h;exact au h.out) (m:gd ops kv ⟨some d,.alloc T,ty,pos,af,g⟩=some true:=by rfl) (q:Nat.blt d n=true:=by rfl) [hT:AK P T l] (st:St w0 M Z w ls) (next:∀b w',wL w w' b→bJ w' b T l→St w0 M Z w' (As.blk b T l::ls)→WL P ops Q rest n ((d,.pointer (some ⟨b,0,none⟩))::kv) w'):p:=s ⟨WL.al st next m q⟩
theorem eY{f:FuncId}{xs:List Operand}{sy:Array TypeId}{args:List Value}{u:Value}(s:j7 (WL P ops Q (⟨some d,.call {callee:=.value (.func f),args:=xs.toArray,argTypes:=sy},ty,pos,af,g⟩::rest) n kv w)→p:=by intro h;exact au h.out) (m:gd ops kv ⟨some d,.call {callee:=.value (.func f),args:=xs.toArray,argTypes:=sy},ty,pos,af,g⟩=some true:=by rfl) (q:Nat.blt d n=true:=by rfl) (r:xs.map (ev kv)=args.map some:=by rfl) [t:fi P f] (hc:CR P f args.toArray w u) (st:St w0 M Z w ls) (next:∀w',aQ [] w w'→St w0 M Z w' ls→WL P ops Q rest n ((d,u)::kv) w'):p:=s ⟨WL.c0 hc st next m q r⟩
theorem cJ{f:FuncId}{xs:List Operand}{sy:Array TypeId}{args:List Value}{R:Ending→World→Prop}(s:j7 (WL P ops Q (⟨some d,.call {callee:=.value (.func f),args:=xs.toArray,argTypes:=sy},ty,pos,af,g⟩::rest) n kv w)→p:=by intro h;exact au h.out) (m:gd ops kv ⟨some d,.call {callee:=.value (.func f),args:=xs.toArray,argTypes:=sy},ty,pos,af,g⟩=some true:=by rfl) (q:Nat.blt d n=true:=by rfl) (r:xs.map (ev kv)=args.map some:=by rfl) (t:CF P f) (h:Calls P f args.toArray w R) (next:∀e w',R e w'→RT e fun v=>WL P ops Q rest n ((d,v)::kv) w'):p:=s ⟨WL.cl t r h next m q⟩
section
variable {i N e:Nat}{U:Nat→World→World→Prop}{E:Nat→Option (Value→World→Prop)}{Fin:KV→World→Prop}{F:iq}
theorem gX(s:j7 (DW P ops n (fun m=>N≤m.heap.size∧St w0 M Z m ls) U E Fin i (⟨some d,.load T x,ty,pos,af,g⟩::rest) kv F)→p:=by intro h;exact au h.out) (q:gd ops kv ⟨some d,.load T x,ty,pos,af,g⟩=some true:=by rfl) (r:ba (.load T x)=false:=by rfl) (hk:known kv (.load T x)=true:=by rfl) (t:Nat.blt d n=true:=by rfl) (z:E i=none:=by rfl) (A:ev kv x=some (.pointer (some ⟨b,0+j,none⟩)):=by rfl) (B:nth vs j=some v:=by rfl) (hT:One P T) (hb:∀{m},St w0 M Z m ls→(As.blk b e vs).ok Z m) (next:DW P ops n (fun m=>N≤m.heap.size∧St w0 M Z m ls) U E Fin (i+1) rest ((d,v)::kv) F):p:=s ⟨DW.p q r hk t z (fun _ h=>PV.ld1 hT (bJ.range (As.gb (hb h.2))) A B) next⟩
theorem gy(s:j7 (DW P ops n (fun m=>N≤m.heap.size∧St w0 M Z m ls) U E Fin i (⟨some d,.load T x,ty,pos,af,g⟩::rest) kv F)→p:=by intro h;exact au h.out) (q:gd ops kv ⟨some d,.load T x,ty,pos,af,g⟩=some true:=by rfl) (r:ba (.load T x)=false:=by rfl) (hk:known kv (.load T x)=true:=by rfl) (t:Nat.blt d n=true:=by rfl) (z:E i=none:=by rfl) (A:ev kv x=some (.pointer (some ⟨b,0,none⟩)):=by rfl) (B:vs.length=k:=by rfl) (hT:pW P T k) (hb:∀{m},St w0 M Z m ls→(As.blk b e vs).ok Z m) (next:DW P ops n (fun m=>N≤m.heap.size∧St w0 M Z m ls) U E Fin (i+1) rest ((d,.agg vs.toArray)::kv) F):p:=s ⟨DW.p q r hk t z (fun _ h=>PV.Bx hT (bJ.range (As.gb (hb h.2))) B A) next⟩
theorem y9{us:List Value}(s:j7 (DW P ops n (fun m=>N≤m.heap.size∧St w0 M Z m ls) U E Fin i (⟨some d,.load T x,ty,pos,af,g⟩::rest) kv F)→p:=by intro h;exact au h.out) (q:gd ops kv ⟨some d,.load T x,ty,pos,af,g⟩=some true:=by rfl) (r:ba (.load T x)=false:=by rfl) (hk:known kv (.load T x)=true:=by rfl) (t:Nat.blt d n=true:=by rfl) (z:E i=none:=by rfl) (A:ev kv x=some (.pointer (some ⟨b,0+j,none⟩)):=by rfl) (B:Io vs j k=some us:=by rfl) (hT:pW P T k) (hb:∀{m},St w0 M Z m ls→(As.blk b e vs).ok Z m) (next:DW P ops n (fun m=>N≤m.heap.size∧St w0 M Z m ls) U E Fin (i+1) rest ((d,.agg us.toArray)::kv) F):p:=s ⟨DW.p q r hk t z (fun _ h=>PV.wK hT (bJ.range (As.gb (hb h.2))) A B) next⟩
theorem pF{t m r:Nat}{q c:Bool}{z:Option Tmp}{op:Op}{A:Array Oper}{l':List Oper}{C:World→Prop}(s:j7 (DW P ops r C U E (fun kv w=>WL P A Q l' n kv w) i (⟨z,op,ty,pos,af,some (m,q)⟩::rest) kv F)→p:=by intro h;exact au h.out) (hm:eh ops m=some t:=by rfl) (ht:look kv t=some (.bool c):=by rfl) (hT:c=true→DW P ops r C U E (fun kv w=>WL P A Q l' n kv w) i (⟨z,op,ty,pos,af,some (m,q)⟩::rest) ((t,.bool true)::kv) F) (B:c=false→DW P ops r C U E (fun kv w=>WL P A Q l' n kv w) i (⟨z,op,ty,pos,af,some (m,q)⟩::rest) ((t,.bool false)::kv) F):p:=s ⟨DW.ct ht hT B⟩
theorem cM{C:World→Prop}(s:j7 (DW P ops n C U E Fin i [] kv F)→p:=by intro h;exact au h.out) (h:∀w,C w→yS F w→Fin kv w):p:=s ⟨DW.nil h⟩
section
variable {l:List Oper}{σ:List Nat}{sd:List (Nat × As)}{K:Nat→Kd}{ed:List As}
theorem yM(s:j7 (DG P l.toArray n w0 M N ed K Fin (i::σ) kv sd Z ls)→p:=by intro h;exact au h.out) (r:kn l i=some ⟨some d,.load T x,ty,pos,af,g⟩:=by rfl) (t:gd l.toArray kv ⟨some d,.load T x,ty,pos,af,g⟩=some true:=by rfl) (z:ba (.load T x)=false:=by rfl) (hk:known kv (.load T x)=true:=by rfl) (A:Nat.blt d n=true:=by rfl) (B:(K i).jL=true:=by rfl) (C:ev kv x=some (.pointer (some ⟨b,0+j,none⟩)):=by rfl) (D:nth vs j=some v:=by rfl) (hT:One P T) (hb:∀{m q},SV w0 M q m ed→(As.blk b e vs).ok q m) (next:DG P l.toArray n w0 M N ed K Fin σ ((d,v)::kv) sd Z ls):p:=s ⟨DG.p r t z hk A B (fun _ _ _ _ h e=>PV.ld1 hT (bJ.range (As.gb (hb (h.sv e)))) C D) next⟩
theorem mQ(s:j7 (DG P l.toArray n w0 M N ed K Fin (i::σ) kv sd Z ls)→p:=by intro h;exact au h.out) (r:kn l i=some ⟨some d,.load T x,ty,pos,af,g⟩:=by rfl) (t:gd l.toArray kv ⟨some d,.load T x,ty,pos,af,g⟩=some true:=by rfl) (z:ba (.load T x)=false:=by rfl) (hk:known kv (.load T x)=true:=by rfl) (A:Nat.blt d n=true:=by rfl) (B:(K i).jL=true:=by rfl) (C:ev kv x=some (.pointer (some ⟨b,0,none⟩)):=by rfl) (D:vs.length=k:=by rfl) (hT:pW P T k) (hb:∀{m q},SV w0 M q m ed→(As.blk b e vs).ok q m) (next:DG P l.toArray n w0 M N ed K Fin σ ((d,.agg vs.toArray)::kv) sd Z ls):p:=s ⟨DG.p r t z hk A B (fun _ _ _ _ h e=>PV.Bx hT (bJ.range (As.gb (hb (h.sv e)))) D C) next⟩
theorem AR{us:List Value}(s:j7 (DG P l.toArray n w0 M N ed K Fin (i::σ) kv sd Z ls)→p:=by intro h;exact au h.out) (r:kn l i=some ⟨some d,.load T x,ty,pos,af,g⟩:=by rfl) (t:gd l.toArray kv ⟨some d,.load T x,ty,pos,af,g⟩=some true:=by rfl) (z:ba (.load T x)=false:=by rfl) (hk:known kv (.load T x)=true:=by rfl) (A:Nat.blt d n=true:=by rfl) (B:(K i).jL=true:=by rfl) (C:ev kv x=some (.pointer (some ⟨b,0+j,none⟩)):=by rfl) (D:Io vs j k=some us:=by rfl) (hT:pW P T k) (hb:∀{m q},SV w0 M q m ed→(As.blk b e vs).ok q m) (next:DG P l.toArray n w0 M N ed K Fin σ ((d,.agg us.toArray)::kv) sd Z ls):p:=s ⟨DG.p r t z hk A B (fun _ _ _ _ h e=>PV.wK hT (bJ.range (As.gb (hb (h.sv e)))) C D) next⟩
theorem gK{op:Op}(s:j7 (DG P l.toArray n w0 M N ed K Fin (i::σ) kv sd Z ls)→p:=by intro h;exact au h.out) (q:kn l i=some ⟨some d,op,ty,pos,af,g⟩:=by rfl) (r:gd l.toArray kv ⟨some d,op,ty,pos,af,g⟩=some true:=by rfl) (t:ba op=false:=by rfl) (hk:known kv op=true:=by rfl) (z:Nat.blt d n=true:=by rfl) (B:K i=.chain:=by rfl) (h:∀w R,N≤w.heap.size→St w0 M Z w (ls++R)→(∀p∈sd,p.2∈R)→OX P ⟨some d,op,ty,pos,af,g⟩ n kv w fun C w'=>w.heap.size≤w'.heap.size∧∃v,C=(d,v)::kv∧∃Z' L m,St w0 M Z' w' L∧L=m++R∧(∀A∈ed,A∈m)∧DG P l.toArray n w0 M N ed K Fin σ ((d,v)::kv) sd Z' m):p:=s ⟨DG.ch q r t hk z B h⟩
theorem ly(s:j7 (DG P l.toArray n w0 M N ed K Fin [] kv sd Z ls)→p:=by intro h;exact au h.out) (h:∀w,N≤w.heap.size→St w0 M Z w (sd.map (·.2)++ls)→Fin kv w):p:=s ⟨DG.nil h⟩
end
end
theorem Sub.t{kv m:KV}(h:Sub kv m:=by repeat (first | exact Sub.nil | refine Sub.cons rfl ?_ | refine Sub.v ?_)):Sub kv m:=h
section
variable {σ:Type}{db:σ→KV}
theorem fx{I:σ→World→Prop}{μ:σ→Nat}{m:Nat}(h:σ) (hi:I h w) (hm:μ h<m:=by first | (simp only [];omega) | omega) (q:Sub kv (db h):=by exact Sub.t):EX (Exit.then (fun a' w'=>∃h,Fr n a' (db h)∧I h w'∧μ h<m) Q) .normal n kv w:=EX.again h q hi hm
theorem nj{J:σ→World→Prop}(h:σ) (m:J h w) (q:Sub kv (db h):=by exact Sub.t):EX (fun e a w'=>e=.normal∧∃s,Fr n a (db s)∧J s w') .normal n kv w:=EX.NQ h q m
end
end
end Go.Rc

namespace Go.Rc
open Go
section
variable {P:Program}{kv:KV}{w:World}{T U ty:TypeId}{x y:Operand}
theorem uH{t:TypeId}{v:Value}(hT:∃ms,P.underlying T=some (.interface ms)):(Op.equalIn 10000 T (.iface t v) .nilIface).run P w=.ok false w:=by
 obtain⟨ms,hT⟩:=hT;rw [show(10000:Nat)=9999+1 from rfl]
 unfold Op.equalIn
 simp [run_underlying hT]
theorem PV.Oj{v:Value}{ok:Bool}(hT:∃ms,P.underlying T=some (.interface ms)) (m:ev kv x=some v) (h:(ok=true∧v=.nilIface)∨(ok=false∧∃t y,v=.iface t y)):PV P (.binOp .neq T x (.const .nilIface) U) ty kv w (.bool (!ok)):=by
 rcases h with⟨rfl,rfl⟩ | ⟨rfl,t,y,rfl⟩
 ·
  exact PV.JX hT m
 have hy:ev kv (.const .nilIface)=some .nilIface:=rfl;refine⟨rfl,by simp [known,opers,m,hy],fun _ _ _ _=>?_⟩;simp only [execOp,aI m,aI hy]
 simp [eqGuard,binOp,Op.equal,Op.maxDepth,uH hT]
end
theorem WC.T0{P:Program}{Q:Exit→Act→World→Prop}{n:Nat}{kv:KV}{w0 w:World}{M Z:Nat→Prop}{σ:Type}{c:Code}{rest:List As}(l0:List As) (db:σ→KV) (F:σ→List As) (I:σ→Prop) (Zf:σ→Nat→Prop) (_hst:St w0 M Z w (l0++rest))
  (h:WC P c (fun e a w'=>e=.normal∧∃s,Fr n a (db s)∧(St w0 M (Zf s) w' (F s++rest)∧I s)) n kv w)
  (m:∀s w',St w0 M (Zf s) w' (F s++rest)→I s→EX Q .normal n (db s) w'):WC P c Q n kv w:=
 WC.Tz db (fun s w'=>St w0 M (Zf s) w' (F s++rest)∧I s) h fun s w' ⟨a,b⟩=>m s w' a b
theorem WC.iU{P:Program}{Q:Exit→Act→World→Prop}{n:Nat}{kv:KV}{w0 w:World}{M Z:Nat→Prop}{σ:Type}{c:Code}{rest:List As}(l0:List As) (db:σ→KV) (F:σ→List As) (I:σ→Prop) (m:St w0 M Z w (l0++rest))
  (h:WC P c (fun e a w'=>e=.normal∧∃s,Fr n a (db s)∧(St w0 M Z w' (F s++rest)∧I s)) n kv w)
  (q:∀s w',St w0 M Z w' (F s++rest)→I s→EX Q .normal n (db s) w'):WC P c Q n kv w:=
 WC.T0 l0 db F I (fun _=>Z) m h q
section
variable {w0 w:World}{M Z:Nat→Prop}{l:List As}
theorem St.e8{A0 A1 A2 A3 m q r s:As}(h:St w0 M Z w (A0::A1::A2::A3::m::q::r::s::l)):St w (nZ [A0,A1,A2,A3,m,q,r,s]) Z w [A0,A1,A2,A3,m,q,r,s]:=St.enter (l0:=[A0,A1,A2,A3,m,q,r,s]) h
theorem St.e9{A0 A1 A2 A3 m q r s t:As}(h:St w0 M Z w (A0::A1::A2::A3::m::q::r::s::t::l)):St w (nZ [A0,A1,A2,A3,m,q,r,s,t]) Z w [A0,A1,A2,A3,m,q,r,s,t]:=St.enter (l0:=[A0,A1,A2,A3,m,q,r,s,t]) h
end
theorem Calls.T1{P:Program}{f:FuncId}{r c1 c2 c3 c4 c5:Value}{w:World}{Q:Ending→World→Prop}(h:Calls P f #[r,c1,c2,c3,c4,c5] w Q):Calls P f (#[]++[r].toArray++#[c1,c2,c3,c4,c5]) w Q:=by grind
theorem Calls.Ol{P:Program}{f:FuncId}{r:Value}{w:World}{Q:Ending→World→Prop}(h:Calls P f #[r] w Q):Calls P f (#[]++[r].toArray++#[]) w Q:=by grind
end Go.Rc

namespace Go.Rc
open Go
theorem aQ.xd{w w':World}(h:RowKit.Below w.heap.size w w') (m:w.drawn≤w'.drawn):aQ [] w w':=⟨h.os,h.tape,h.output,h.size,m,fun k hk _=>h.block k hk⟩
theorem nk(w:World) (p:Addr) (n:Nat):(w.freeze p n).drawn=w.drawn:=by grind [World.freeze]
section
variable {P:Program}{n:Nat}{kv:KV}{w w':World}{K:KV→World→Prop}{d:Tmp}{ty:TypeId}{pos:String}{af:Array Edge}{g:Option (Nat × Bool)}{T U:TypeId}{op:Op}{v:Value}{x y:Operand}
theorem OX.val(m:ba op=false) (q:Nat.blt d n=true) (hk:known kv op=true) (hr:(execOp (hh kv) ⟨some d,op,ty,pos,af,g⟩).run P w=.ok (.value v) w') (h:K ((d,v)::kv) w'):OX P ⟨some d,op,ty,pos,af,g⟩ n kv w K:=⟨m,q,hk,by rw [hr];exact h⟩
theorem PV.Dt{h:TypeDesc}(hT:P.underlying T=some h) (q:∀ms,h≠.interface ms) (m:ev kv x=some v):PV P (.makeInterface T x) ty kv w (.iface T v):=
 ⟨rfl,by simp [known,opers,m],fun _ _ _ _=>by
  simp only [execOp,aI m,Instr.makeInterface,Sem.run_bind,run_underlying hT,Result.andThen_ok]
  simp_all⟩
theorem PV.JZ{ms:Array (String × TypeId)}{m:TypeId}{q:IntKind}{a b:Int}(hT:P.underlying T=some (.interface ms)) (hc:(P.info? m).map (·.comparable)=some true) (s:P.underlying m=some (.int q)) (r:ev kv x=some (.iface m (.int .i64 a))) (hy:ev kv y=some (.iface m (.int .i64 b))):PV P (.binOp .eql T x y U) ty kv w (.bool (a == b)):=
 ⟨rfl,by simp [known,opers,r,hy],fun _ _ _ _=>by
  have h:=Lib.run_eql_iface_int w (k:=.i64) a b hT hc s;simp only [execOp,aI r,aI hy]
  simp [eqGuard,h]⟩
theorem OX.Om{r:Value}(q:Nat.blt d n=true) {u v:Value}(m:ev kv x=some u) (hy:ev kv y=some v) (hr:(Instr.makeSlice T u v).run P w=.ok r w') (h:K ((d,r)::kv) w'):OX P ⟨some d,.makeSlice T x y,ty,pos,af,g⟩ n kv w K:=
 OX.val rfl q (by simp [known,opers,m,hy]) (by simp only [execOp,aI m,aI hy,Sem.run_bind,hr,Result.andThen_ok];rfl) h
theorem OX.On{r u v:Value}(q:Nat.blt d n=true) (m:ev kv x=some u) (hy:ev kv y=some v) (hr:(Builtin.copy_ #[T,U] ty #[u,v]).run P w=.ok r w') (h:K ((d,r)::kv) w'):OX P ⟨some d,.call {callee:=.builtin .copy,args:=#[x,y],argTypes:=#[T,U]},ty,pos,af,g⟩ n kv w K:=
 OX.val rfl q (by simp [known,opers,m,hy]) (by simp [execOp,aI m,aI hy,resolve,invoke,builtin,hr]) h
theorem OX.T2{r u v:Value}(q:Nat.blt d n=true) (m:ev kv x=some u) (hy:ev kv y=some v) (hr:(Builtin.unsafeString_ #[T,U] ty #[u,v]).run P w=.ok r w') (h:K ((d,r)::kv) w'):OX P ⟨some d,.call {callee:=.builtin .unsafeString,args:=#[x,y],argTypes:=#[T,U]},ty,pos,af,g⟩ n kv w K:=
 OX.val rfl q (by simp [known,opers,m,hy]) (by simp [execOp,aI m,aI hy,resolve,invoke,builtin,hr]) h
end
theorem uI{P:Program}{T S e pt it T3 T4:TypeId}{i:TypeInfo}(hT:P.underlying T=some (.slice e)) (hi:P.info? e=some i) (q:i.zero=some (.int .u8 0)) (h1:i.size=1) (hb:i.bytes=1) (A:P.underlying pt=some (.pointer e)) {s:ByteArray}(h0:s.size≠0) (O:s.size≤1000) (w:World) :
  ∃w1 w2 w3:World,(Instr.makeSlice T (.int .i64 (s.size:Int)) (.int .i64 (s.size:Int))).run P w=.ok (.slice (some ⟨w.heap.size,0,none⟩) s.size s.size) w1∧
   (Builtin.copy_ #[T,S] T3 #[.slice (some ⟨w.heap.size,0,none⟩) s.size s.size,.string s]).run P w1=.ok (goInt s.size) w2∧
   (Builtin.unsafeString_ #[pt,it] T4 #[.pointer (some ⟨w.heap.size,0,none⟩),.int .i64 (s.size:Int)]).run P w2=.ok (.string s) w3∧aQ [] w w3:=by
 have B:(P.info? e).map (·.size)=some 1:=by rw [hi];simp [h1]
 have C:P.cellsOf e=1:=by simp [Program.cellsOf,hi,h1]
 have V:(Lib.byteCells s.data.toList).length=s.size:=by rw [Lib.byteCells_length,← Lib.size_eq]
 have m:=run_make (P:=P) w T e i (.int .u8 0) hT hi q .i64 .i64 (s.size:Int) (s.size:Int) (by omega) (by omega) (by rw [hb];omega) (by omega)
 have D:(madeCells (Value.int .u8 0).cells (((s.size:Nat):Int).toNat*i.size)).size=s.size:=by rw [size_madeCells,h1];simp
 generalize madeCells (Value.int .u8 0).cells (((s.size:Nat):Int).toNat*i.size)=M at m D
 rw [Int.toNat_natCast] at m;have r:=Lib.run_copy_row_string (P:=P) (w.alloc (.cells M e)) T S T3 e w.heap.size 0 s.size s.size s M e hT B (heap_alloc_new w _) (Nat.le_refl _) (by omega)
 have G:(M.toList.take 0++Lib.byteCells s.data.toList++M.toList.drop (0+s.size)).toArray=(Lib.byteCells s.data.toList).toArray:=by grind
 rw [G] at r;have H:((w.alloc (.cells M e)).setRow w.heap.size (Lib.byteCells s.data.toList).toArray).heap[w.heap.size]?=some (.cells (Lib.byteCells s.data.toList).toArray e (0,0)):=setRow_heap _ _ M _ e (0,0) (heap_alloc_new w _);have I:s.data.toList≠[]:=fun h=>h0 (by rw [Lib.size_eq,h];rfl);have t:=Lib.run_unsafeString_row (P:=P) ((w.alloc (.cells M e)).setRow w.heap.size (Lib.byteCells s.data.toList).toArray) pt it T4 e A C w.heap.size s.size (by grind [World.shape?]) s.data.toList I (by rw [← Lib.size_eq];omega) (by rw [← Lib.size_eq];omega)
  (fun j z q=>Lib.cells_of_row H s.size j _ (by grind [Lib.byteCells]))
 rw [← Lib.size_eq] at t;have J:RowKit.Below w.heap.size (w.alloc (.cells M e)) ((w.alloc (.cells M e)).setRow w.heap.size (Lib.byteCells s.data.toList).toArray):=⟨rfl,rfl,rfl,by simp [World.setRow],fun k hk=>setRow_other _ _ _ _ (by omega)⟩;refine⟨_,_,_,m,r,t,aQ.xd (Lib.below_freeze (((RowKit.Below.refl _ w).alloc (Nat.le_refl _) _).trans J) (p:=⟨w.heap.size,0,none⟩) (Nat.le_refl _) _) ?_⟩;rw [nk];exact Nat.le_refl _
end Go.Rc

namespace Go.Rc
open Go
instance:Inhabited bW:=⟨⟨dA,⟨#[]⟩,0⟩⟩
def cB.row(x:cB) (a1:Option Addr) (n1 c1:Nat) (a2:Option Addr) (n2 c2:Nat):List Value:=[.int .i64 x.ad,.slice a1 n1 c1,.slice a2 n2 c2]
def fK(rev:Int) (l:List bW) (i:Nat):Bool:=
 !ek l[i]!.key || (!aw l[i]!.key || ((decide (0<(i:Int)) && decide (0≤bl l[i - 1]!.key l[i]!.key)) || (decide (1073741824<(l[i]!.value.size:Int)) || (decide (l[i]!.changed<0) || decide (rev<l[i]!.changed)))))
def uJ(rev:Int) (l:List bW):Prop:=∀i y,l[i]?=some y→fK rev l i=false
open Classical in
noncomputable def nn(l:List Rec):Bool:=decide (kJ l)
theorem za{l:List Rec}{b:Bool}(h:b=true↔kJ l):b=nn l:=by
 unfold nn
 grind
def gz(x:cB):Prop:=uJ x.ad x.ab∧(∀(i:Nat) (r:Rec),x.ai[i]?=some r→r.aq≤x.ad)∧0≤x.ad∧x.ad≤1073741824∧x.ab.length≤64∧kJ x.ai
noncomputable def jM(x:cB):Bool:=decide (0≤x.ad) && (decide (x.ad≤1073741824) && (decide ((x.ab.length:Int)≤64) && nn x.ai))
theorem oT(x:cB):jM x=true↔0≤x.ad∧x.ad≤1073741824∧x.ab.length≤64∧kJ x.ai:=by
 simp only [jM,nn,Bool.and_eq_true,decide_eq_true_eq]
 grind
theorem PV.uK{P:Program}{kv:KV}{w:World}{T ty:TypeId}{f off:Nat}{fs:List Field}{fd:Field}(hu:P.underlying T=some (.struct fs.toArray)) (h:fs[f]?=some fd) (m:fd.offset=off) (h1:∀w,(isAgg fd.type).run P w=.ok false w)
  {x:Operand}{us:List Value}{v:Value}(q:ev kv x=some (.agg us.toArray)) (r:nth us off=some v):PV P (.field T x f) ty kv w v:=
 PV.Ge hu (by simpa using h) m h1 q (by rw [← qd];exact r)
end Go.Rc
namespace Go.Rc
open Go
def cx(k:Key):Prop:=k.kind<1∨22<k.kind
def aM(aa:List aG) (k:Key) (ae:List ByteArray):uE:=if k.kind=31∨k.kind=32 then bN aa k ae else ⟨true,⟨#[]⟩,dA⟩
def pZ(n:Int):ByteArray:=if n=14 then ⟨#[48]⟩ else ⟨#[]⟩
def mw(k:Key):ByteArray:=if k.kind=32 then ⟨#[48]⟩ else if ax k then pZ k.kind else ⟨#[]⟩
def fL(aa:List aG) (k:Key):Bool:=ek k && ((decide (k.kind≠31) && decide (k.kind≠32)) || decide (aN aa (number k)=k))
def aF(l:List Rec) (k:Key):Rec:=(ay l k).getD na
def bU(l:List Rec) (rev:Int) (k:Key):Bool:=(ay l k).isSome && (ax k && (decide ((aF l k).aq<rev) && !(aF l k).bV))
def gg(x:cB) (k:Key):Bool:=aw k || ((ay x.ai k).isSome && decide ((aF x.ai k).aq=x.ad))
def jw(x:cB) (k:Key):ByteArray:=if aw k then (bf x.ab k).value else if gg x k then (aF x.ai k).value else ⟨#[]⟩
def bY(x:cB) (k:Key) (v:ByteArray) (reads:List Key):Rec:=
 ⟨k,v,reads,if (ay x.ai k).isSome && decide ((aF x.ai k).value=v) then (aF x.ai k).changed else x.ad,x.ad,1+(reads.length:Int),false⟩
end Go.Rc
namespace Go.Rc
open Go
end Go.Rc
namespace Go.Rc
open Go
structure oU where
 fm:Key
 read:Key
 deriving DecidableEq
def oU.cells(x:oU):List Value:=[.int .i64 x.fm.kind,.string x.fm.text,.int .i64 x.read.kind,.string x.read.text]
def cN(group:List Key) (m:Key) (l:List Key):List oU:=(l.filter fun x=>!decide (x∈group)).map fun x=>⟨m,x⟩
def cj(l:List Rec) (group:List Key):List oU:=group.flatMap fun m=>cN group m (aF l m).reads
theorem lX{group:List Key}{m:Key}{l:List Key}{j:Nat}(h:j<l.length):cN group m (l.take (j+1))=if l[j]∈group then cN group m (l.take j) else cN group m (l.take j)++[⟨m,l[j]⟩]:=by
 rw [List.take_succ_eq_append_getElem h];simp only [cN,List.filter_append,List.map_append]
 grind
theorem jO(group:List Key) (m:Key) (l:List Key):(cN group m l).length≤l.length:=by grind [cN]
end Go.Rc
namespace Go.Rc
end Go.Rc

namespace Go.Rc
open Go
variable {E EK ER EI ES EF base:Nat}{w w':World}{a:Option Addr}{n c:Nat}{S:List Nat}
structure bZ where
 key:Key
 running:Bool
 at_:Int
 reads:List Key
 ae:List ByteArray
 deriving DecidableEq
def bZ.row(x:bZ) (a1:Option Addr) (n1 c1:Nat) (a2:Option Addr) (n2 c2:Nat):List Value:=[.int .i64 x.key.kind,.string x.key.text,.bool x.running,.int .i64 x.at_,.slice a1 n1 c1,.slice a2 n2 c2]
/-! the plain meaning -/
def fe(l:List bZ) (k:Key):Bool:=l.any fun f=>decide (f.key=k)
def da(x:cB) (l:List bZ) (k:Key):Bool:=!(aw k || fe l k) && (!(ay x.ai k).isSome || decide ((aF x.ai k).aq≠x.ad))
def bF(x:cB) (l others:List bZ) (k:Key):Int:=
 if !ax k && fe l k then 3 else if !da x l k then 0 else if !fe others k then 1 else if ax k then 0 else 2
end Go.Rc
namespace Go.Rc
open Go
variable {EA ERu:Nat}{w w':World}{a:Option Addr}{n c base:Nat}{S:List Nat}
end Go.Rc

namespace Go.Rc
open Go
def RR.key:RR Key:=RR.flat Key.cells
def RR.str:RR ByteArray:=RR.flat fun s=>[.string s]
def RR.ask:RR Ask:=RR.flat Ask.cells
def RR.aD:RR bW:=RR.flat bW.cells
def RR.BV:RR oU:=RR.flat oU.cells
def RR.int:RR Int:=RR.flat fun n=>[.int .i64 n]
def RR.dM:RR aG where
 r Z w x row:=wT Z w x row
 mono hZ h:=by obtain⟨a,n,c,h1,h2⟩:=h;exact⟨a,n,c,h1,h2.mono (fun b hb _=>hZ b hb) fun _ _ h=>h⟩
 st hs hc h:=by obtain⟨a,n,c,h1,h2⟩:=h;exact⟨a,n,c,h1,SR.st hs hc (fun _ _ h=>h) h2⟩
 cut h:=by obtain⟨a,n,c,h1,h2⟩:=h;exact⟨a,n,c,h1,h2.mono (fun b hb oQ=>⟨hb,oQ⟩) fun _ _ h=>h⟩
def RR.iV:RR Rec where
 r Z w x row:=∃a n c,row=x.row a n c∧Rd RR.key 2 Z w a n c x.reads∧x.reads.length≤4000
 mono hZ h:=by obtain⟨a,n,c,h1,h2,h3⟩:=h;exact⟨a,n,c,h1,h2.mono hZ,h3⟩
 st hs hc h:=by obtain⟨a,n,c,h1,h2,h3⟩:=h;exact⟨a,n,c,h1,h2.st hs hc,h3⟩
 cut h:=by grind [Rd.cut]
end Go.Rc

namespace Go.Rc
open Go
/-! ### numbers and their texts -/
theorem qA:∀(u:Nat) (n:Nat) (rest:List UInt8),decFrom (Lib.decDigits u++rest) (n:Int)=decFrom rest ((n*10 ^ Lib.nDigits u+u:Nat):Int):=by
 intro u
 induction u using Nat.strongRecOn with
 | _ u m=>
  intro n rest
  by_cases h:u<10
  ·
   rw [Lib.decDigits_one h,Lib.nDigits_small h]
   have e:(UInt8.ofNat (48+u)).toNat=48+u:=by rw [UInt8.toNat_ofNat'];omega
   simp only [List.cons_append,List.nil_append,decFrom,e]
   grind
  rw [Lib.decDigits,dif_neg h,Lib.nDigits_big h,List.append_assoc,m (u / 10) (by omega)]
  have e:(UInt8.ofNat (48+u % 10)).toNat=48+u % 10:=by rw [UInt8.toNat_ofNat'];omega
  simp only [List.cons_append,List.nil_append,decFrom,e]
  grind
theorem qB:∀u:Nat,∃d r,Lib.decDigits u=d::r∧(0<u→d≠48):=by
 intro u
 induction u using Nat.strongRecOn with
 | _ u m=>
  by_cases h:u<10
  ·
   refine⟨_,[],Lib.decDigits_one h,fun hu e=>?_⟩
   have:=congrArg UInt8.toNat e
   rw [UInt8.toNat_ofNat'] at this
   grind
  obtain⟨d,r,h1,q⟩:=m (u / 10) (by omega);exact⟨d,r++[UInt8.ofNat (48+u % 10)],by rw [Lib.decDigits,dif_neg h,h1];rfl,fun _=>q (by omega)⟩
theorem qC:∀(k u:Nat),u<10 ^ (k+1)→Lib.nDigits u≤k+1
 | 0,u,h=>by grind [Lib.nDigits_small]
 | k+1,u,h=>by
  by_cases h1:u<10
  ·
   rw [Lib.nDigits_small h1];omega
  rw [Lib.nDigits_big h1]
  have:=qC k (u / 10) (by rw [Nat.pow_succ] at h;omega)
  omega
theorem hV{n:Nat}(h:n<1000000000):cV (itoa (n:Int))=n:=by
 have e:Lib.itoa (n:Int)=Lib.decDigits n:=by unfold Lib.itoa;rw [if_neg (by omega)];rfl
 have hl:(Lib.decDigits n).length≤9:=by rw [Lib.decDigits_length];exact qC 8 n h
 have z:1≤(Lib.decDigits n).length:=by grind [Lib.decDigits_length,Lib.nDigits_pos]
 have q:(itoa (n:Int)).size=(Lib.decDigits n).length:=by grind [itoa,ByteArray.size]
 have m:(itoa (n:Int)).data.toList=Lib.decDigits n:=by unfold itoa;rw [e]
 unfold cV
 rw [if_neg]
 ·
  rw [m,← List.append_nil (Lib.decDigits n)]
  have:=qA n 0 []
  simp only [Nat.zero_mul,Nat.zero_add] at this;exact this
 rw [q,m];rintro(h1 | h1 | ⟨h1,A⟩)
 ·
  omega
 ·
  omega
 obtain⟨d,r,s,t⟩:=qB n;rw [s] at h1
 simp at h1
 by_cases h0:0<n
 ·
  exact t h0 h1
 grind [Lib.decDigits_one]
theorem dH{n:Nat}(h:n≤65535):bR (itoa (n:Int))=n:=by
 unfold bR
 rw [hV (by omega),if_neg (by omega)]
 rfl
theorem xe{m n:Nat}(hm:m<1000000000) (hn:n<1000000000) (h:itoa (m:Int)=itoa (n:Int)):m=n:=by grind [hV]
/-! ### keys -/
theorem bC{aa:List aG}{i:Nat}(hi:i<aa.length) (gu:i≤99):number (aN aa (i:Int))=i:=by
 have hk:aN aa (i:Int)=⟨if aA aa i then 32 else 31,itoa i⟩:=by unfold aN;rw [if_neg (by omega)];rfl
 rw [hk]
 unfold number
 simp only
 rw [hV (by omega),if_pos]
 split <;> omega
theorem dn{aa:List aG}{i:Nat}(hi:i<aa.length) (gu:i≤99):(aN aa (i:Int)).kind=if aA aa i then 32 else 31:=by
 unfold aN;rw [if_neg (by omega)];rfl
theorem cG{aa:List aG}{i:Nat}(hi:i<aa.length) (gu:i≤99):aw (aN aa (i:Int))=false:=by grind [aw,dn]
theorem aR{n:Nat}(h:n≤99):aw (bO (n:Int))=true:=by
 unfold aw bO;rw [if_neg (by omega)];simp
theorem aW{aa:List aG}{i:Nat}(hi:i<aa.length) (gu:i≤99):ax (aN aa (i:Int))=aA aa i:=by grind [ax,dn]
theorem iv{n:Nat}(h:n≤99):ax (bO (n:Int))=false:=by
 unfold ax bO;rw [if_neg (by omega)];simp
inductive dU (aa:List aG):Key→Prop where
 | cell {n:Nat}(h:n≤99):dU aa (bO (n:Int))
 | dM {i:Nat}(h:i<aa.length) (gu:i≤99):dU aa (aN aa (i:Int))
/-! ### values -/
def cellOf(aD:List bW) (k:Key):ByteArray:=(bf aD k).value
def dc(turn:List ByteArray→uE) (fW:Key→ByteArray):Nat→List Key × List ByteArray
 | 0=>([],[])
 | n+1=>((dc turn fW n).1++[(turn (dc turn fW n).2).ask],(dc turn fW n).2++[fW (turn (dc turn fW n).2).ask])
def Du(aD:List bW) (prev:List ByteArray) (k:Key):ByteArray:=if aw k then cellOf aD k else prev.getD (number k).toNat ⟨#[]⟩
def bQ(aa:List aG) (i:Nat):Nat:=(aa[i]?.map (·.asks.length)).getD 0
def bm(aa:List aG) (x:Ask):Key:=if x.cell then bO x.n else aN aa x.n
def ee(aa:List aG) (i j:Nat):Prop:=∃r x,aa[i]?=some r∧r.ring=true∧x∈r.asks∧x.cell=false∧x.n=(j:Int)∧aA aa j=true
inductive cm (aa:List aG) (i:Nat):Nat→Prop where
 | refl:cm aa i i
 | step {j k:Nat}:cm aa i j→ee aa j k→cm aa i k
def outside(aa:List aG) (x:Ask):Bool:=x.cell || !aA aa x.n.toNat
def iW(aa:List aG) (fW:Key→ByteArray) (j:Nat):Nat:=
 match aa[j]? with
 | some r=>dE r.c.toNat ((r.asks.filter (outside aa)).map fun x=>bR (fW (bm aa x)))
 | none=>0
open Classical in
noncomputable def ofBits(P:Nat→Prop):Nat→Nat
 | 0=>0
 | n+1=>ofBits P n ||| (if P n then 2 ^ n else 0)
theorem BW(P:Nat→Prop):∀n,ofBits P n<2 ^ n:=by
 intro n
 induction n with
 | zero=>simp [ofBits]
 | succ n h=>
  unfold ofBits
  refine Nat.or_lt_two_pow (Nat.lt_of_lt_of_le h (Nat.pow_le_pow_right (by omega) (by omega))) ?_
  grind
theorem zb(P:Nat→Prop):∀n b,(ofBits P n).testBit b=true↔b<n∧P b:=by
 intro n
 induction n with
 | zero=>intro b;simp [ofBits]
 | succ n h=>
  intro b
  unfold ofBits
  grind
noncomputable def qD(aa:List aG) (fW:Key→ByteArray) (i:Nat):Nat:=ofBits (fun b=>∃j,cm aa i j∧(iW aa fW j).testBit b=true) 16
noncomputable def nq(aa:List aG) (aD:List bW) (prev:List ByteArray) (i:Nat):ByteArray:=
 if aA aa i then itoa (qD aa (Du aD prev) i:Int)
 else (bN aa (aN aa (i:Int)) (dc (bN aa (aN aa (i:Int))) (Du aD prev) (bQ aa i)).2).value
noncomputable def aU(aa:List aG) (aD:List bW):Nat→List ByteArray
 | 0=>[]
 | n+1=>aU aa aD n++[nq aa aD (aU aa aD n) n]
noncomputable def pG(aa:List aG) (aD:List bW) (i:Nat):ByteArray:=nq aa aD (aU aa aD i) i
noncomputable def valOf(aa:List aG) (aD:List bW) (k:Key):ByteArray:=if aw k then cellOf aD k else pG aa aD (number k).toNat
section
variable {aa:List aG}{aD:List bW}
theorem Dv:∀n,(aU aa aD n).length=n:=by
 intro n;induction n with
 | zero=>rfl
 | succ n h=>simp [aU,h]
theorem Dw:∀n m,m<n→(aU aa aD n).getD m ⟨#[]⟩=pG aa aD m:=by
 intro n
 induction n with
 | zero=>intro m h;omega
 | succ n q=>grind [aU,Dv,pG]
theorem tx{n:Nat}{k:Key}(h:aw k=true∨(number k).toNat<n):Du aD (aU aa aD n) k=valOf aa aD k:=by
 unfold Du valOf
 by_cases hi:aw k=true
 ·
  rw [if_pos hi,if_pos hi]
 rw [if_neg hi,if_neg hi,Dw]
 grind
theorem ep(turn:List ByteArray→uE) (fW:Key→ByteArray):∀n,(dc turn fW n).1.length=n∧(dc turn fW n).2.length=n:=by
 intro n;induction n with
 | zero=>simp [dc]
 | succ n h=>simp [dc,h.1,h.2]
theorem qE{turn:List ByteArray→uE}{fW h:Key→ByteArray}:∀n,(∀m,m<n→fW (turn (dc turn fW m).2).ask=h (turn (dc turn fW m).2).ask)→dc turn fW n=dc turn h n:=by
 intro n
 induction n with
 | zero=>intro _;rfl
 | succ n q=>grind [dc]
end
/-! ### what valid rules ask for -/
section
variable {aa:List aG}{aD:List bW}
theorem eL(l:List aG):∀k,bd l k≤k:=by
 intro k;induction k with
 | zero=>simp [bd]
 | succ k h=>unfold bd;split <;> omega
theorem tz(l:List aG) {m:Nat}(h:m≤l.length):cU l m≤l.length:=by grind [cU,List.takeWhile_sublist]
theorem xf{i:Nat}(hi:i<aa.length):block aa (i:Int)=if aA aa i then ((bd aa i:Int),(cU aa (i+1):Int)) else ((i:Int),(i:Int)+1):=by
 unfold block;rw [if_neg (by omega)];rfl
theorem mx{i j:Nat}(hi:aA aa i=true) (h1:bd aa i≤j) (r:j<cU aa (i+1)):aA aa j=true:=by
 have s:∀k,bd aa k≤j→j<k→aA aa j=true:=by
  intro k
  induction k with
  | zero=>intro _ h;omega
  | succ k B=>
   intro t C
   unfold bd at t
   grind
 rcases Nat.lt_trichotomy j i with h | h | h
 ·
  exact s i h1 h
 ·
  rw [h];exact hi
 have key:∀(l:List aG) (m j:Nat),m≤j→j<m+((l.drop m).takeWhile (·.ring)).length→aA l j=true:=by
  intro l m j hm D
  have q:j - m<((l.drop m).takeWhile (·.ring)).length:=by omega
  have z:=List.getElem_mem q;have hr:=List.all_eq_true.1 (List.all_takeWhile (p:=fun x:aG=>x.ring) (l:=l.drop m)) _ z;have A:((l.drop m).takeWhile (·.ring)) <+: l.drop m:=List.takeWhile_prefix _;have G:=A.getElem q
  grind [bs]
 exact key aa (i+1) j (by omega) r
theorem jx{i:Nat}(hi:i<aa.length) (hlen:aa.length≤24) {c:Bool}{n:Int}(h:eS aa i c n=true) :
  ∃m:Nat,n=m∧if c then m≤15 else m<aa.length∧(aA aa m=true∧aA aa i=true∨m<i)∧(aA aa i=false→m<i)∧(aA aa m=false→m<i):=by
 unfold eS at h
 cases c
 ·
  simp only [Bool.false_eq_true,if_false,Bool.and_eq_true,decide_eq_true_eq] at h ⊢;obtain⟨m,rfl⟩:∃m:Nat,n=m:=⟨n.toNat,by omega⟩;refine⟨m,rfl,?_⟩;have q:=h.2
  unfold dT at q
  rw [xf hi] at q
  by_cases hr:aA aa i=true
  ·
   rw [if_pos hr] at q;simp only [hr,if_true] at q
   have s:m<cU aa (i+1):=by omega
   have t:=tz aa (show i+1≤aa.length by omega);refine⟨by omega,?_,(fun h=>by rw [hr] at h;cases h),?_⟩
   ·
    by_cases r:m<i
    ·
     exact .inr r
    grind [mx,eL]
   grind [mx,eL]
  grind
 simp only [if_true,Bool.and_eq_true,decide_eq_true_eq] at h ⊢;exact⟨n.toNat,by omega,by omega⟩
end
end Go.Rc

namespace Go.Rc
open Go
section
variable {aa:List aG}{aD:List bW}
theorem ao.len(h:ao aa):aa.length≤24:=h.1
theorem ao.at(h:ao aa) {i:Nat}(hi:i<aa.length):jI aa i aa[i]:=h.2 i _ (ah hi)
theorem cW{i:Nat}(hi:i<aa.length):bQ aa i=aa[i].asks.length:=by grind [bQ]
theorem zc{m lo:Nat}(h1:lo≤m) (h:∀j,lo≤j→j<m→aA aa j=true):bd aa m≤lo:=by
 induction m with
 | zero=>simp [bd]
 | succ m q=>
  by_cases e:lo=m+1
  ·
   rw [e];exact eL _ _
  unfold bd
  grind
theorem ns(_hR:ao aa) {i:Nat}(hi:i<aa.length) (hr:aA aa i=true) {m:Nat}(h:eS aa i false (m:Int)=true) :
  m<aa.length∧(aA aa m=true→bd aa m≤bd aa i)∧(aA aa m=false→m<bd aa i):=by
 unfold eS at h
 simp only [Bool.false_eq_true,if_false,Bool.and_eq_true,decide_eq_true_eq] at h;have q:=h.2
 unfold dT at q
 rw [xf hi,if_pos hr] at q;simp only [hr,if_true] at q
 grind [tz,zc,mx]
def dB(aa:List aG) (i:Nat) (k:Key):Prop:=
 (∃n:Nat,n≤15∧k=bO (n:Int))∨
 (∃m:Nat,m<aa.length∧k=aN aa (m:Int)∧(aA aa m=true∧aA aa i=true∨m<i)∧(aA aa i=false→m<i)∧(aA aa m=false→m<i)∧(aA aa m=false→aA aa i=true→m<bd aa i))
theorem AU(r:ao aa) {i:Nat}(hi:i<aa.length) {c:Bool}{n:Int}(h:eS aa i c n=true):dB aa i (if c then bO n else aN aa n):=by
 obtain⟨m,rfl,q⟩:=jx hi r.len h
 cases c
 ·
  exact .inr ⟨m,q.1,rfl,q.2.1,q.2.2.1,q.2.2.2,fun s t=>(ns r hi t h).2.2 s⟩
 exact .inl ⟨m,q,rfl⟩
theorem dB.yN(q:ao aa) {i:Nat}{k:Key}(h:dB aa i k):dU aa k:=by
 have:=q.len
 rcases h with⟨n,h1,rfl⟩ | ⟨m,h1,rfl,_⟩
 ·
  exact .cell (by omega)
 exact .dM h1 (by omega)
theorem J0(m:ao aa) {i n:Nat}(hi:i<aa.length) (hn:n<aa[i].asks.length) (ae:List ByteArray) (hl:ae.length=n) :
  dB aa i (if aa[i].asks[n].cell then bO (mr aa[i].asks[n] ae) else aN aa (mr aa[i].asks[n] ae)):=by
 obtain⟨_,r,_⟩:=m.at hi;have h:=r n _ (ah hn)
 unfold dL at h
 rw [Bool.and_eq_true] at h
 unfold mr
 by_cases q:dK aa[i].asks[n] ae=true
 ·
  rw [if_pos q]
  have s:aa[i].asks[n].pick=true:=by grind [dK]
  rw [s] at h;simp only [if_true,Bool.and_eq_true] at h;exact AU m hi h.2.2
 rw [if_neg q];exact AU m hi h.1
theorem cR(h:ao aa) {i:Nat}(hi:i<aa.length) {ae:List ByteArray}(hn:ae.length<bQ aa i) :
  ∃a,bN aa (aN aa (i:Int)) ae=⟨false,⟨#[]⟩,a⟩∧dB aa i a∧(aA aa i=true→∃x,aa[i].asks[ae.length]?=some x∧a=bm aa x):=by
 have r:=h.len;rw [cW hi] at hn;have hk:=bC hi (by omega:i≤99);refine⟨_,gB hk hi (by rw [hk]) hn,J0 h hi hn ae rfl,fun hr=>⟨_,ah hn,?_⟩⟩;obtain⟨_,q,_⟩:=h.at hi;have m:=q _ _ (ah hn)
 unfold dL at m
 rw [Bool.and_eq_true] at m
 grind [bs,bm,mr,dK]
theorem et(h:ao aa) {i:Nat}(hi:i<aa.length) {ae:List ByteArray}(hn:ae.length=bQ aa i) :
  bN aa (aN aa (i:Int)) ae=⟨true,itoa (cI aa[i].final aa[i].c.toNat (ae.map bR)),dA⟩:=by grind [ao.len,cW,bC,ik]
theorem iw(h:ao aa) {i:Nat}(hi:i<aa.length):bQ aa i≤6:=by rw [cW hi];exact(h.at hi).1
theorem uL(q:ao aa) {i:Nat}{k:Key}(h:dB aa i k) (hr:aA aa i=false∨ax k=false):aw k=true∨(number k).toNat<i:=by
 have r:=q.len
 rcases h with⟨n,h1,rfl⟩ | ⟨m,h1,rfl,s,t,z,_⟩
 ·
  grind [aR]
 grind [bC,aW]
theorem BX(m:ao aa) {i:Nat}(hi:i<aa.length) (hr:aA aa i=false) :
  bN aa (aN aa (i:Int)) (dc (bN aa (aN aa (i:Int))) (valOf aa aD) (bQ aa i)).2=⟨true,pG aa aD i,dA⟩:=by
 have h:pG aa aD i=(bN aa (aN aa (i:Int)) (dc (bN aa (aN aa (i:Int))) (valOf aa aD) (bQ aa i)).2).value:=by
  unfold pG nq
  rw [if_neg (by simp [hr])]
  grind [qE,cR,ep,tx,uL]
 grind [et,ep]
/-! rings -/
theorem il(h:ao aa) {i:Nat}(hi:i<aa.length) (_hr:aA aa i=true) {x:Ask}(m:x∈aa[i].asks):eS aa i x.cell x.n=true:=by
 obtain⟨k,hk,rfl⟩:=List.mem_iff_getElem.1 m
 have:=(h.at hi).2.1 k _ (ah hk)
 unfold dL at this
 grind
theorem ee.lt{i j:Nat}(h:ee aa i j):i<aa.length∧j<aa.length∧aA aa i=true∧aA aa j=true:=by
 obtain⟨r,x,h1,m,_,_,_,q⟩:=h
 grind [jG,bs]
theorem gC{i j:Nat}(hi:i<aa.length) (hr:aA aa i=true) (h:cm aa i j):j<aa.length∧aA aa j=true:=by
 induction h with
 | refl=>exact⟨hi,hr⟩
 | step _ m _=>exact⟨m.lt.2.1,m.lt.2.2.2⟩
theorem iy(q:ao aa) {i j:Nat}(h:cm aa i j):bd aa j≤bd aa i:=by
 induction h with
 | refl=>exact Nat.le_refl _
 | step h1 m s=>
  have hl:=m.lt;obtain⟨r,x,t,z,A,B,C,D⟩:=m
  grind [il,ns]
theorem cm.head{i j k:Nat}(h:ee aa i j) (m:cm aa j k):cm aa i k:=by
 induction m with
 | refl=>exact .step .refl h
 | step _ q r=>exact .step r q
theorem cm.cases{i k:Nat}(h:cm aa i k):k=i∨∃j,ee aa i j∧cm aa j k:=by
 induction h with
 | refl=>exact .inl rfl
 | step h1 m q=>
  right
  rcases q with rfl | ⟨j,r,s⟩
  ·
   exact⟨_,m,.refl⟩
  exact⟨j,r,.step s m⟩
theorem jy:∀(l:List Nat) (c b:Nat),(dE c l).testBit b=true↔c.testBit b=true∨∃x∈l,x.testBit b=true:=by
 intro l
 induction l with
 | nil=>intro c b;simp [dE]
 | cons x r h=>
  intro c b
  have:=h (c ||| x) b
  simp only [dE,List.foldl_cons] at this ⊢
  grind
theorem qF(m:ao aa) {i:Nat}(hi:i<aa.length) (hr:aA aa i=true):aa[i].final=5∧aa[i].c.toNat≤65535:=by
 have h:=(m.at hi).2.2
 grind [fH,bs]
theorem tA{n b:Nat}(h:n≤65535) (hb:n.testBit b=true):b<16:=by
 rcases Nat.lt_or_ge b 16 with h1 | h1
 ·
  exact h1
 have:=Nat.ge_two_pow_of_testBit hb
 have m:2 ^ 16≤2 ^ b:=Nat.pow_le_pow_right (by omega) h1
 omega
theorem dI{fW:Key→ByteArray}{i:Nat}(hi:i<aa.length) (b:Nat) :
  (iW aa fW i).testBit b=true↔aa[i].c.toNat.testBit b=true∨∃x∈aa[i].asks,outside aa x=true∧(bR (fW (bm aa x))).testBit b=true:=by
 unfold iW
 rw [ah hi];simp only [jy,List.mem_map,List.mem_filter]
 grind
theorem Dx(m:ao aa) {fW:Key→ByteArray}{i:Nat}(hi:i<aa.length) (hr:aA aa i=true) {b:Nat}(h:(iW aa fW i).testBit b=true):b<16:=by
 rcases(dI hi b).1 h with h1 | ⟨x,_,_,h1⟩
 ·
  exact tA (qF m hi hr).2 h1
 exact tA (iS _) h1
theorem de(r:ao aa) {fW:Key→ByteArray}{i:Nat}(hi:i<aa.length) (hr:aA aa i=true) (b:Nat) :
  (qD aa fW i).testBit b=true↔∃j,cm aa i j∧(iW aa fW j).testBit b=true:=by
 unfold qD
 rw [zb]
 constructor
 ·
  exact fun h=>h.2
 rintro⟨j,h1,m⟩;have q:=gC hi hr h1;exact⟨Dx r q.1 q.2 m,j,h1,m⟩
theorem xg{fW:Key→ByteArray}(i:Nat):qD aa fW i≤65535:=by
 have:=BW (fun b=>∃j,cm aa i j∧(iW aa fW j).testBit b=true) 16
 unfold qD;omega
noncomputable def rv(aa:List aG) (aD:List bW) (i:Nat):Nat:=qD aa (valOf aa aD) i
theorem uM(q:ao aa) {i:Nat}(hi:i<aa.length) (hr:aA aa i=true) {x:Ask}(s:x∈aa[i].asks) (r:outside aa x=true):aw (bm aa x)=true∨(number (bm aa x)).toNat<bd aa i:=by
 have t:=q.len;have hm:=il q hi hr s;obtain⟨m,h1,h⟩:=jx hi q.len hm
 unfold bm
 unfold outside at r
 cases hc:x.cell
 ·
  rw [hc] at hm r h
  right
  simp only [Bool.false_eq_true,if_false] at h ⊢
  grind [bC,ns]
 left
 rw [hc] at h;simp only [if_true] at h ⊢
 grind [aR]
theorem fR(m:ao aa) {i:Nat}(hi:i<aa.length) (hr:aA aa i=true):pG aa aD i=itoa (rv aa aD i:Int):=by
 unfold pG nq rv
 rw [if_pos hr]
 congr 2
 refine Nat.eq_of_testBit_eq fun b=>?_;rw [Bool.eq_iff_iff,de m hi hr,de m hi hr]
 have key:∀j,cm aa i j→((iW aa (Du aD (aU aa aD i)) j).testBit b=true↔(iW aa (valOf aa aD) j).testBit b=true):=by
  intro j h;have q:=gC hi hr h;have r:=iy m h;have hle:=eL aa i;rw [dI q.1,dI q.1];refine or_congr_right (exists_congr fun x=>and_congr_right fun s=>and_congr_right fun t=>?_);rw [tx]
  grind [uM]
 grind
theorem fy(h:ao aa) {i:Nat}(hi:i<aa.length):valOf aa aD (aN aa (i:Int))=pG aa aD i:=by
 have m:=h.len
 unfold valOf
 rw [if_neg (by grind [cG]),bC hi (by omega)]
 rfl
theorem kM{n:Nat}(h:n≤99):valOf aa aD (bO (n:Int))=cellOf aD (bO (n:Int)):=by
 unfold valOf;rw [if_pos (aR h)]
def lz(aa:List aG) (fW:Key→ByteArray) (i:Nat):List Nat:=((aa[i]?.map (·.asks)).getD []).map fun x=>bR (fW (bm aa x))
theorem tB(h:ao aa) {i:Nat}(hi:i<aa.length) (hr:aA aa i=true) (fW:Key→ByteArray):∀n,n≤aa[i].asks.length→
  dc (bN aa (aN aa (i:Int))) fW n=((aa[i].asks.take n).map (bm aa),(aa[i].asks.take n).map fun x=>fW (bm aa x)):=by
 intro n
 induction n with
 | zero=>intro _;simp [dc]
 | succ n m=>
  intro hn;have e:=m (by omega);simp only [dc]
  have hlen:((aa[i].asks.take n).map fun x=>fW (bm aa x)).length=n:=by simp;omega
  obtain⟨a,h1,_,q⟩:=cR h hi (ae:=(aa[i].asks.take n).map fun x=>fW (bm aa x)) (by rw [hlen,cW hi];omega)
  grind [List.take_succ_eq_append_getElem]
theorem BZ(h:ao aa) {i:Nat}(hi:i<aa.length) (hr:aA aa i=true) (fW:Key→ByteArray) :
  bN aa (aN aa (i:Int)) (dc (bN aa (aN aa (i:Int))) fW (bQ aa i)).2=⟨true,itoa (dE aa[i].c.toNat (lz aa fW i):Int),dA⟩:=by
 rw [et h hi ((ep _ _ _).2),tB h hi hr fW _ (by rw [cW hi];exact Nat.le_refl _),(qF h hi hr).1,cW hi]
 unfold lz
 rw [ah hi];simp only [List.take_length,List.map_map,Option.map_some,Option.getD_some]
 rfl
theorem oV{fW:Key→ByteArray}{i:Nat}(hi:i<aa.length) (b:Nat) :
  (dE aa[i].c.toNat (lz aa fW i)).testBit b=true↔(iW aa fW i).testBit b=true∨∃x∈aa[i].asks,outside aa x=false∧(bR (fW (bm aa x))).testBit b=true:=by
 rw [jy,dI hi]
 unfold lz
 grind
theorem fM(r:ao aa) {i:Nat}(hi:i<aa.length) (hr:aA aa i=true) {x:Ask}(s:x∈aa[i].asks) (h:outside aa x=false):∃j:Nat,ee aa i j∧bm aa x=aN aa (j:Int)∧j<aa.length:=by
 have hm:=il r hi hr s
 unfold outside at h
 rw [Bool.or_eq_false_iff] at h;obtain⟨m,h1,q⟩:=jx hi r.len hm;rw [h.1] at q;simp only [Bool.false_eq_true,if_false] at q
 have t:aA aa m=true:=by grind
 refine⟨m,⟨_,x,ah hi,by rw [← bs hi];exact hr,s,h.1,h1,t⟩,?_,q.1⟩
 grind [bm]
theorem my{i j:Nat}(hi:i<aa.length) (h:ee aa i j):∃x∈aa[i].asks,outside aa x=false∧bm aa x=aN aa (j:Int):=by
 obtain⟨r,x,h1,_,m,q,s,t⟩:=h
 grind [outside,bm]
theorem J1(q:ao aa) {i:Nat}(hi:i<aa.length) (hr:aA aa i=true):dE aa[i].c.toNat (lz aa (valOf aa aD) i)=rv aa aD i:=by
 refine Nat.eq_of_testBit_eq fun b=>?_;rw [Bool.eq_iff_iff,oV hi]
 unfold rv
 rw [de q hi hr]
 have B:∀j,j<aa.length→aA aa j=true→bR (valOf aa aD (aN aa (j:Int)))=qD aa (valOf aa aD) j:=fun j C D=>by
  rw [fy q C,fR q C D];exact dH (xg j)
 constructor
 ·
  rintro(h | ⟨x,h1,s,m⟩)
  ·
   exact⟨i,.refl,h⟩
  obtain⟨j,r,z,t⟩:=fM q hi hr h1 s;rw [z,B j t r.lt.2.2.2,de q t r.lt.2.2.2] at m;obtain⟨k,A,G⟩:=m;exact⟨k,.head r A,G⟩
 rintro⟨k,h1,s⟩
 rcases h1.cases with rfl | ⟨j,m,r⟩
 ·
  exact .inl s
 right
 obtain⟨x,z,t,A⟩:=my hi m;refine⟨x,z,t,?_⟩;rw [A,B j m.lt.2.1 m.lt.2.2.2,de q m.lt.2.1 m.lt.2.2.2];exact⟨k,r,s⟩
theorem Dy(r:ao aa) {i:Nat}(hi:i<aa.length) (hr:aA aa i=true) (v:Nat→Nat)
  (h1:∀j b,cm aa i j→(iW aa (valOf aa aD) j).testBit b=true→(v j).testBit b=true)
  (s:∀j k b,cm aa i j→ee aa j k→(v k).testBit b=true→(v j).testBit b=true) (b:Nat) (hb:(rv aa aD i).testBit b=true):(v i).testBit b=true:=by
 unfold rv at hb
 rw [de r hi hr] at hb;obtain⟨j,h,m⟩:=hb;have q:=h1 j b h m
 clear m
 induction h with
 | refl=>exact q
 | step t z A=>exact A (s _ _ b t z q)
theorem eM(h:ao aa) {i:Nat}(hi:i<aa.length) :
  bN aa (aN aa (i:Int)) (dc (bN aa (aN aa (i:Int))) (valOf aa aD) (bQ aa i)).2=⟨true,valOf aa aD (aN aa (i:Int)),dA⟩:=by grind [fy,BX,BZ,J1,fR]
end
end Go.Rc

