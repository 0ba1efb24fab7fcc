/- Base of the proof: frames, memory, ownership, and the plain meaning of rule systems. Conditions: as each lemma says. -/
import Derived.Test.YtfamnpoplgkkcaaGreatDoorKBb
import Derived.Test.YtfamnpoplgkkcaaGreatDoorKBc
import Derived.Lib.IfaceEq
import Derived.Lib.BufferWrite
import Derived.Lib.UnsafeStr
import Derived.Laws.MakeOwn
set_option linter.all false
namespace Go.Rc
open Go
section
variable {P:Program}{n:Nat}{kv:KV}{w:World}{d:Tmp}{ty:TypeId}{pos:String}{af:Array Edge}{g:Option (Nat × Bool)}
theorem WL.a{ops:Array Oper}{Q:Exit→Act→World→Prop}{rest:List Oper}{op:Op}{v:Value}(next:WL P ops Q rest n ((d,v)::kv) w)
  (m:gd ops kv ⟨some d,op,ty,pos,af,g⟩=some true:=by rfl) (q:Nat.blt d n=true:=by rfl)
  (h:PV P op ty kv w v:=by
   first
   | with_reducible exact PV.mv (by with_unfolding_all rfl) | with_reducible exact PV.ext (by with_unfolding_all rfl) (by with_unfolding_all rfl) | with_reducible exact PV.fa fj.h (by with_unfolding_all rfl) | with_reducible exact PV.as (by with_unfolding_all rfl) | with_reducible exact PV.Hb (by with_unfolding_all rfl) | with_reducible exact PV.jv yG.h (by with_unfolding_all rfl) | with_reducible exact PV.not (by with_unfolding_all rfl)
   | with_reducible exact PV.Gf (by with_unfolding_all rfl) (by with_unfolding_all rfl) | with_reducible exact PV.Qo (by with_unfolding_all rfl) (by with_unfolding_all rfl) | with_reducible exact PV.lss (by with_unfolding_all rfl) (by with_unfolding_all rfl) | with_reducible exact PV.leq (by with_unfolding_all rfl) (by with_unfolding_all rfl) | with_reducible exact PV.gtr (by with_unfolding_all rfl) (by with_unfolding_all rfl) | with_reducible exact PV.geq (by with_unfolding_all rfl) (by with_unfolding_all rfl)
   | with_reducible exact PV.eqs (by with_unfolding_all rfl) (by with_unfolding_all rfl) | with_reducible exact PV.Qp (by with_unfolding_all rfl) (by with_unfolding_all rfl) | with_reducible exact PV.Be xm.h (by with_unfolding_all rfl) (by with_unfolding_all rfl) | with_reducible exact PV.Kx xm.h (by with_unfolding_all rfl) (by with_unfolding_all rfl)
   | with_reducible exact PV.AH (by with_unfolding_all rfl) (by with_unfolding_all rfl) (by with_unfolding_all rfl) | with_reducible exact PV.AJ (by with_unfolding_all rfl) (by with_unfolding_all rfl) (by with_unfolding_all rfl)
   | with_reducible exact PV.add (by with_unfolding_all rfl) (by with_unfolding_all rfl) (by omega) (by omega) | with_reducible exact PV.sub (by with_unfolding_all rfl) (by with_unfolding_all rfl) (by omega) (by omega) | with_reducible exact PV.mul (by with_unfolding_all rfl) (by with_unfolding_all rfl) (by omega) (by omega)
   | with_reducible exact PV.rem (by with_unfolding_all rfl) (by with_unfolding_all rfl) (by omega) | with_reducible exact PV.quo (by with_unfolding_all rfl) (by with_unfolding_all rfl) (by omega) (by omega) (by omega) | with_reducible exact PV.cat (by with_unfolding_all rfl) (by with_unfolding_all rfl) (by omega)
   | with_reducible exact PV.zero Ky.h | with_reducible exact PV.Hz jA.h (by with_unfolding_all rfl) (by with_unfolding_all rfl) | with_reducible exact PV.HA jA.h (by with_unfolding_all rfl) (by with_unfolding_all rfl) | with_reducible exact PV.HB jA.h (by with_unfolding_all rfl) (by with_unfolding_all rfl) | with_reducible exact PV.sq jA.h (by with_unfolding_all rfl) | with_reducible exact PV.Hm (by with_unfolding_all rfl) (by with_unfolding_all rfl) | with_reducible exact PV.DV (by with_unfolding_all rfl) (by with_unfolding_all rfl)) :
  WL P ops Q (⟨some d,op,ty,pos,af,g⟩::rest) n kv w:=WL.p m q h next
theorem DW.a{ops:Array Oper}{i:Nat}{C:World→Prop}{T:Nat→World→World→Prop}{E:Nat→Option (Value→World→Prop)}{Fin:KV→World→Prop}{rest:List Oper}{F:gH}{op:Op}{v:Value}
  (next:DW P ops n C T E Fin (i+1) rest ((d,v)::kv) F)
  (m:gd ops kv ⟨some d,op,ty,pos,af,g⟩=some true:=by rfl) (q:aU op=false:=by rfl) (hk:known kv op=true:=by rfl) (r:Nat.blt d n=true:=by rfl) (s:E i=none:=by rfl)
  (h:∀w,C w→PV P op ty kv w v:=by
   intro _ t
   first
   | with_reducible exact PV.mv (by with_unfolding_all rfl) | with_reducible exact PV.ext (by with_unfolding_all rfl) (by with_unfolding_all rfl) | with_reducible exact PV.fa fj.h (by with_unfolding_all rfl) | with_reducible exact PV.as (by with_unfolding_all rfl) | with_reducible exact PV.Hb (by with_unfolding_all rfl) | with_reducible exact PV.jv yG.h (by with_unfolding_all rfl) | with_reducible exact PV.not (by with_unfolding_all rfl)
   | with_reducible exact PV.Gf (by with_unfolding_all rfl) (by with_unfolding_all rfl) | with_reducible exact PV.Qo (by with_unfolding_all rfl) (by with_unfolding_all rfl) | with_reducible exact PV.lss (by with_unfolding_all rfl) (by with_unfolding_all rfl) | with_reducible exact PV.leq (by with_unfolding_all rfl) (by with_unfolding_all rfl) | with_reducible exact PV.gtr (by with_unfolding_all rfl) (by with_unfolding_all rfl) | with_reducible exact PV.geq (by with_unfolding_all rfl) (by with_unfolding_all rfl)
   | with_reducible exact PV.eqs (by with_unfolding_all rfl) (by with_unfolding_all rfl) | with_reducible exact PV.Qp (by with_unfolding_all rfl) (by with_unfolding_all rfl) | with_reducible exact PV.Be xm.h (by with_unfolding_all rfl) (by with_unfolding_all rfl) | with_reducible exact PV.Kx xm.h (by with_unfolding_all rfl) (by with_unfolding_all rfl)
   | with_reducible exact PV.AH (by with_unfolding_all rfl) (by with_unfolding_all rfl) (by with_unfolding_all rfl) | with_reducible exact PV.AJ (by with_unfolding_all rfl) (by with_unfolding_all rfl) (by with_unfolding_all rfl)
   | with_reducible exact PV.add (by with_unfolding_all rfl) (by with_unfolding_all rfl) (by omega) (by omega) | with_reducible exact PV.sub (by with_unfolding_all rfl) (by with_unfolding_all rfl) (by omega) (by omega) | with_reducible exact PV.mul (by with_unfolding_all rfl) (by with_unfolding_all rfl) (by omega) (by omega)
   | with_reducible exact PV.rem (by with_unfolding_all rfl) (by with_unfolding_all rfl) (by omega) | with_reducible exact PV.quo (by with_unfolding_all rfl) (by with_unfolding_all rfl) (by omega) (by omega) (by omega) | with_reducible exact PV.cat (by with_unfolding_all rfl) (by with_unfolding_all rfl) (by omega)
   | with_reducible exact PV.zero Ky.h | with_reducible exact PV.Hz jA.h (by with_unfolding_all rfl) (by with_unfolding_all rfl) | with_reducible exact PV.HA jA.h (by with_unfolding_all rfl) (by with_unfolding_all rfl) | with_reducible exact PV.HB jA.h (by with_unfolding_all rfl) (by with_unfolding_all rfl) | with_reducible exact PV.sq jA.h (by with_unfolding_all rfl) | with_reducible exact PV.Hm (by with_unfolding_all rfl) (by with_unfolding_all rfl) | with_reducible exact PV.DV (by with_unfolding_all rfl) (by with_unfolding_all rfl)) :
  DW P ops n C T E Fin i (⟨some d,op,ty,pos,af,g⟩::rest) kv F:=DW.p m q hk r s h next
end
section
variable {P:Program}{n N:Nat}{w0:World}{M Z:Nat→Prop}{ls dr:List As}{Fin:KV→World→Prop}{l:List Oper}{i:Nat}{σ':List Nat}{kv:KV}{sd:List (Nat × As)}{K:Nat→Kd}{d:Tmp}{op:Op}{ty:TypeId}{pos:String}{af:Array Edge}{g:Option (Nat × Bool)}
theorem DG.a{v:Value}(next:DG P l.toArray n w0 M N dr K Fin σ' ((d,v)::kv) sd Z ls)
  (m:jm l i=some ⟨some d,op,ty,pos,af,g⟩:=by rfl) (q:gd l.toArray kv ⟨some d,op,ty,pos,af,g⟩=some true:=by rfl) (r:aU op=false:=by rfl) (hk:known kv op=true:=by rfl) (s:Nat.blt d n=true:=by rfl) (t:(K i).iV=true:=by rfl)
  (h:∀w z R,N≤w.heap.size→St w0 M z w R→(∀A∈dr,A∈R)→PV P op ty kv w v:=by
   intro _ _ _ _ _ _
   first
   | with_reducible exact PV.mv (by with_unfolding_all rfl) | with_reducible exact PV.ext (by with_unfolding_all rfl) (by with_unfolding_all rfl) | with_reducible exact PV.fa fj.h (by with_unfolding_all rfl) | with_reducible exact PV.as (by with_unfolding_all rfl) | with_reducible exact PV.Hb (by with_unfolding_all rfl) | with_reducible exact PV.jv yG.h (by with_unfolding_all rfl) | with_reducible exact PV.not (by with_unfolding_all rfl)
   | with_reducible exact PV.Gf (by with_unfolding_all rfl) (by with_unfolding_all rfl) | with_reducible exact PV.Qo (by with_unfolding_all rfl) (by with_unfolding_all rfl) | with_reducible exact PV.lss (by with_unfolding_all rfl) (by with_unfolding_all rfl) | with_reducible exact PV.leq (by with_unfolding_all rfl) (by with_unfolding_all rfl) | with_reducible exact PV.gtr (by with_unfolding_all rfl) (by with_unfolding_all rfl) | with_reducible exact PV.geq (by with_unfolding_all rfl) (by with_unfolding_all rfl)
   | with_reducible exact PV.eqs (by with_unfolding_all rfl) (by with_unfolding_all rfl) | with_reducible exact PV.Qp (by with_unfolding_all rfl) (by with_unfolding_all rfl) | with_reducible exact PV.Be xm.h (by with_unfolding_all rfl) (by with_unfolding_all rfl) | with_reducible exact PV.Kx xm.h (by with_unfolding_all rfl) (by with_unfolding_all rfl)
   | with_reducible exact PV.AH (by with_unfolding_all rfl) (by with_unfolding_all rfl) (by with_unfolding_all rfl) | with_reducible exact PV.AJ (by with_unfolding_all rfl) (by with_unfolding_all rfl) (by with_unfolding_all rfl)
   | with_reducible exact PV.add (by with_unfolding_all rfl) (by with_unfolding_all rfl) (by omega) (by omega) | with_reducible exact PV.sub (by with_unfolding_all rfl) (by with_unfolding_all rfl) (by omega) (by omega) | with_reducible exact PV.mul (by with_unfolding_all rfl) (by with_unfolding_all rfl) (by omega) (by omega)
   | with_reducible exact PV.rem (by with_unfolding_all rfl) (by with_unfolding_all rfl) (by omega) | with_reducible exact PV.quo (by with_unfolding_all rfl) (by with_unfolding_all rfl) (by omega) (by omega) (by omega) | with_reducible exact PV.cat (by with_unfolding_all rfl) (by with_unfolding_all rfl) (by omega)
   | with_reducible exact PV.zero Ky.h | with_reducible exact PV.Hz jA.h (by with_unfolding_all rfl) (by with_unfolding_all rfl) | with_reducible exact PV.HA jA.h (by with_unfolding_all rfl) (by with_unfolding_all rfl) | with_reducible exact PV.HB jA.h (by with_unfolding_all rfl) (by with_unfolding_all rfl) | with_reducible exact PV.sq jA.h (by with_unfolding_all rfl) | with_reducible exact PV.Hm (by with_unfolding_all rfl) (by with_unfolding_all rfl) | with_reducible exact PV.DV (by with_unfolding_all rfl) (by with_unfolding_all rfl)) :
  DG P l.toArray n w0 M N dr K Fin (i::σ') kv sd Z ls:=DG.p m q r hk s t h next
end
/-! calls that own nothing -/
section
variable {P:Program}{n:Nat}{kv:KV}{w:World}{d:Tmp}{ty:TypeId}{pos:String}{af:Array Edge}{g:Option (Nat × Bool)}{w0:World}{M Z:Nat→Prop}{ls:List As}{f:FuncId}{xs:List Operand}{qB:Array TypeId}{args:List Value}{u u':Value}
theorem WL.c1 [q:dQ P f] {ops:Array Oper}{Q:Exit→Act→World→Prop}{rest:List Oper}(hc:Calls P f args.toArray w fun e w'=>e=.returned u'∧aQ [] w w') (r:u'=u) (st:St w0 M Z w ls)
  (next:∀w',aQ [] w w'→St w0 M Z w' ls→WL P ops Q rest n ((d,u)::kv) w')
  (s:gd ops kv ⟨some d,.call {callee:=.value (.func f),args:=xs.toArray,argTypes:=qB},ty,pos,af,g⟩=some true:=by rfl) (t:Nat.blt d n=true:=by rfl) (z:xs.map (ev kv)=args.map some:=by rfl) :
  WL P ops Q (⟨some d,.call {callee:=.value (.func f),args:=xs.toArray,argTypes:=qB},ty,pos,af,g⟩::rest) n kv w:=
 WL.go s (OX.call q.h t z (hc.mono fun _ w' ⟨he,m⟩=>⟨u,by rw [he,r],next w' m (st.step m)⟩))
theorem WL.c0 [r:dQ P f] {ops:Array Oper}{Q:Exit→Act→World→Prop}{rest:List Oper}(hc:Calls P f args.toArray w fun e w'=>e=.returned u∧aQ [] w w') (st:St w0 M Z w ls)
  (next:∀w',aQ [] w w'→St w0 M Z w' ls→WL P ops Q rest n ((d,u)::kv) w')
  (h:gd ops kv ⟨some d,.call {callee:=.value (.func f),args:=xs.toArray,argTypes:=qB},ty,pos,af,g⟩=some true:=by rfl) (m:Nat.blt d n=true:=by rfl) (q:xs.map (ev kv)=args.map some:=by rfl) :
  WL P ops Q (⟨some d,.call {callee:=.value (.func f),args:=xs.toArray,argTypes:=qB},ty,pos,af,g⟩::rest) n kv w:=WL.c1 hc rfl st next h m q
theorem DW.c1 [t:dQ P f] {ops:Array Oper}{i N:Nat}{T:Nat→World→World→Prop}{E:Nat→Option (Value→World→Prop)}{Fin:KV→World→Prop}{rest:List Oper}{F:gH}
  (hc:∀m,(N≤m.heap.size∧St w0 M Z m ls)→uF (cx ⟨some d,.call {callee:=.value (.func f),args:=xs.toArray,argTypes:=qB},ty,pos,af,g⟩) F m→Calls P f args.toArray m fun e w'=>e=.returned u'∧aQ [] m w') (z:u'=u)
  (next:DW P ops n (fun m=>N≤m.heap.size∧St w0 M Z m ls) T E Fin (i+1) rest ((d,u)::kv) ((i,fun _=>u=u)::F))
  (A:gd ops kv ⟨some d,.call {callee:=.value (.func f),args:=xs.toArray,argTypes:=qB},ty,pos,af,g⟩=some true:=by rfl) (hk:known kv (.call {callee:=.value (.func f),args:=xs.toArray,argTypes:=qB})=true:=by rfl) (s:Nat.blt d n=true:=by rfl)
  (B:E i=some (fun v _=>v=u):=by rfl) (hT:∀w w',aQ [] w w'→T i w w':=by exact fun _ _ h=>h.p0) (C:xs.map (ev kv)=args.map some:=by rfl) :
  DW P ops n (fun m=>N≤m.heap.size∧St w0 M Z m ls) T E Fin i (⟨some d,.call {callee:=.value (.func f),args:=xs.toArray,argTypes:=qB},ty,pos,af,g⟩::rest) kv F:=
 DW.e A rfl hk s B (fun m q D=>OX.call t.h s C ((hc m q D).mono fun _ w' ⟨he,r⟩=>⟨u,by rw [he,z],⟨Nat.le_trans q.1 r.size,q.2.step r⟩,hT _ _ r,u,rfl,rfl⟩)) (by rintro _ _ _ rfl;exact next)
theorem DW.c0 [z:dQ P f] {ops:Array Oper}{i N:Nat}{T:Nat→World→World→Prop}{E:Nat→Option (Value→World→Prop)}{Fin:KV→World→Prop}{rest:List Oper}{F:gH}
  (hc:∀m,(N≤m.heap.size∧St w0 M Z m ls)→uF (cx ⟨some d,.call {callee:=.value (.func f),args:=xs.toArray,argTypes:=qB},ty,pos,af,g⟩) F m→Calls P f args.toArray m fun e w'=>e=.returned u∧aQ [] m w')
  (next:DW P ops n (fun m=>N≤m.heap.size∧St w0 M Z m ls) T E Fin (i+1) rest ((d,u)::kv) ((i,fun _=>u=u)::F))
  (q:gd ops kv ⟨some d,.call {callee:=.value (.func f),args:=xs.toArray,argTypes:=qB},ty,pos,af,g⟩=some true:=by rfl) (hk:known kv (.call {callee:=.value (.func f),args:=xs.toArray,argTypes:=qB})=true:=by rfl) (r:Nat.blt d n=true:=by rfl)
  (s:E i=some (fun v _=>v=u):=by rfl) (hT:∀w w',aQ [] w w'→T i w w':=by exact fun _ _ h=>h.p0) (t:xs.map (ev kv)=args.map some:=by rfl) :
  DW P ops n (fun m=>N≤m.heap.size∧St w0 M Z m ls) T E Fin i (⟨some d,.call {callee:=.value (.func f),args:=xs.toArray,argTypes:=qB},ty,pos,af,g⟩::rest) kv F:=DW.c1 hc rfl next q hk r s hT t
end
/-! operations with effects, and what is owned behind them -/
section
variable {P:Program}{n:Nat}{kv:KV}{w:World}{d:Tmp}{ty:TypeId}{pos:String}{af:Array Edge}{g:Option (Nat × Bool)}{w0:World}{M Z:Nat→Prop}{ls:List As}{ops:Array Oper}{Q:Exit→Act→World→Prop}{rest:List Oper}
theorem WL.al{T:TypeId}{l:List Value} [hT:xn P T l] (st:St w0 M Z w ls) (next:∀b w',uE w w' b→bC w' b T l→St w0 M Z w' (As.blk b T l::ls)→WL P ops Q rest n ((d,.pointer (some ⟨b,0,none⟩))::kv) w')
  (q:gd ops kv ⟨some d,.alloc T,ty,pos,af,g⟩=some true:=by rfl) (r:Nat.blt d n=true:=by rfl):WL P ops Q (⟨some d,.alloc T,ty,pos,af,g⟩::rest) n kv w:=
 WL.go q (OX.alloc hT.h r fun b w' m hb=>next b w' m hb (st.dG m hb))
theorem WL.mm{κ:Type} [DecidableEq κ] (enc:κ→Value) {T:TypeId}(st:St w0 M Z w ls) (next:∀b w',uE w w' b→KM enc w' b []→St w0 M Z w' (As.map enc b []::ls)→WL P ops Q rest n ((d,.map (some b))::kv) w')
  (m:gd ops kv ⟨some d,.makeMap T none,ty,pos,af,g⟩=some true:=by rfl) (q:Nat.blt d n=true:=by rfl):WL P ops Q (⟨some d,.makeMap T none,ty,pos,af,g⟩::rest) n kv w:=
 WL.go m (OX.makeMap enc q fun b w' h hb=>next b w' h hb (st.Hp h hb))
theorem WL.s1{x y:Operand}{j b e U:Nat}{cs m:List Value}{v:Value} [hT:AE P U 1] (fr:St w0 M Z w (As.blk b e cs::ls)) (next:∀w',aQ [b] w w'→St w0 M Z w' (As.blk b e m::ls)→WL P ops Q rest n kv w')
  (q:gd ops kv ⟨none,.store U x y,ty,pos,af,g⟩=some true:=by rfl) (r:ev kv x=some (.pointer (some ⟨b,0+j,none⟩)):=by rfl) (t:ev kv y=some v:=by rfl)
  (z:nth cs j≠none:=by first | (simp [nth];done) | exact Qu rfl) (h1:v.oneCell'=true:=by rfl) (hl:uB cs j v=m:=by rfl):WL P ops Q (⟨none,.store U x y,ty,pos,af,g⟩::rest) n kv w:=
 WL.go q (OX.st hT.h (As.gb fr.g0) r t z h1 hl fun w' s _ hb=>next w' s (fr.Hq s hb))
theorem WL.s0{x y:Operand}{b e U:Nat}{cs m:List Value}{v:Value} [hT:AE P U 1] (fr:St w0 M Z w (As.blk b e cs::ls)) (next:∀w',aQ [b] w w'→St w0 M Z w' (As.blk b e m::ls)→WL P ops Q rest n kv w')
  (q:gd ops kv ⟨none,.store U x y,ty,pos,af,g⟩=some true:=by rfl) (r:ev kv x=some (.pointer (some ⟨b,0,none⟩)):=by rfl) (t:ev kv y=some v:=by rfl)
  (z:nth cs 0≠none:=by first | (simp [nth];done) | exact Qu rfl) (h1:v.oneCell'=true:=by rfl) (hl:uB cs 0 v=m:=by rfl):WL P ops Q (⟨none,.store U x y,ty,pos,af,g⟩::rest) n kv w:=
 WL.go q (OX.aM hT.h (As.gb fr.g0) r t z h1 hl fun w' s _ hb=>next w' s (fr.Hq s hb))
theorem WL.ap{α:Type}{R:RR α}{x y:Operand}{E k q c m c2 bytes U:Nat}{a a2:Option Addr}{xs t:List α}{A:Nat→Prop} [hT:Bk P U E k bytes] (B:ev kv x=some (.slice a q c)) (C:ev kv y=some (.slice a2 m c2)) (fr:St w0 M Z w (As.os R E k a q c xs::ls)) (D:SR A w k (R.r Z w) a2 m c2 t)
  (next:∀a' c' w',(∀x∈bN a',x∈bN a∨w.heap.size≤x)→(a'=none→a=none∧m=0)→St w0 M Z w' (As.os R E k a' (q+m) c' (xs++t)::ls)→WL P ops Q rest n ((d,.slice a' (q+m) c')::kv) w')
  (G:(q+m)*bytes≤140737488355328:=by omega) (H:q+m≤140737488355328:=by omega)
  (I:gd ops kv ⟨some d,.call {callee:=.builtin .append,args:=#[x,y],argTypes:=#[U,U]},ty,pos,af,g⟩=some true:=by rfl) (J:Nat.blt d n=true:=by rfl) :
  WL P ops Q (⟨some d,.call {callee:=.builtin .append,args:=#[x,y],argTypes:=#[U,U]},ty,pos,af,g⟩::rest) n kv w:=
 WL.go I (OX.oL hT.h J B C (As.gs fr.g0) D G H (Nat.zero_le _) fun a' c' w' h s z hn=>next a' c' w' z hn (fr.gK s h z))
end
end Go.Rc

namespace Go.Rc
open Go
theorem cI{p q:Prop}(g:p) (h:¬p:=by first | (simp;done) | (simp;omega) | (simp_all;done) | (simp_all;omega)):q:=absurd g h
section
variable {P:Program}{n:Nat}{kv:KV}{w:World}{d:Tmp}{ty:TypeId}{pos:String}{af:Array Edge}{g:Option (Nat × Bool)}
theorem WL.q{ops:Array Oper}{Q:Exit→Act→World→Prop}{rest:List Oper}{op:Op}{v:Value}(h:PV P op ty kv w v) (next:WL P ops Q rest n ((d,v)::kv) w)
  (m:gd ops kv ⟨some d,op,ty,pos,af,g⟩=some true:=by rfl) (r:Nat.blt d n=true:=by rfl):WL P ops Q (⟨some d,op,ty,pos,af,g⟩::rest) n kv w:=WL.p m r h next
theorem WL.z{ops:Array Oper}{Q:Exit→Act→World→Prop}{rest:List Oper}{o:Oper}(next:WL P ops Q rest n (gS kv o.dst undef) w)
  (h:gd ops kv o=some false:=by rfl) (m:ll n o.dst=true:=by rfl):WL P ops Q (o::rest) n kv w:=WL.no h m next
theorem DW.q{ops:Array Oper}{i:Nat}{C:World→Prop}{T:Nat→World→World→Prop}{E:Nat→Option (Value→World→Prop)}{Fin:KV→World→Prop}{rest:List Oper}{F:gH}{op:Op}{v:Value}
  (h:∀w,C w→PV P op ty kv w v) (next:DW P ops n C T E Fin (i+1) rest ((d,v)::kv) F)
  (m:gd ops kv ⟨some d,op,ty,pos,af,g⟩=some true:=by rfl) (r:aU op=false:=by rfl) (hk:known kv op=true:=by rfl) (s:Nat.blt d n=true:=by rfl) (t:E i=none:=by rfl) :
  DW P ops n C T E Fin i (⟨some d,op,ty,pos,af,g⟩::rest) kv F:=DW.p m r hk s t h next
theorem DW.z{ops:Array Oper}{i:Nat}{C:World→Prop}{T:Nat→World→World→Prop}{E:Nat→Option (Value→World→Prop)}{Fin:KV→World→Prop}{rest:List Oper}{F:gH}{op:Op}
  (next:DW P ops n C T E Fin (i+1) rest ((d,undef)::kv) F)
  (h:gd ops kv ⟨some d,op,ty,pos,af,g⟩=some false:=by rfl) (m:aU op=false:=by rfl) (q:Nat.blt d n=true:=by rfl) :
  DW P ops n C T E Fin i (⟨some d,op,ty,pos,af,g⟩::rest) kv F:=DW.no h m q next
end
section
variable {P:Program}{n N:Nat}{w0:World}{M Z:Nat→Prop}{ls dr:List As}{Fin:KV→World→Prop}{l:List Oper}{i:Nat}{σ':List Nat}{kv:KV}{sd:List (Nat × As)}{K:Nat→Kd}{d:Tmp}{op:Op}{ty:TypeId}{pos:String}{af:Array Edge}{g:Option (Nat × Bool)}
theorem DG.q{v:Value}(m:jm l i=some ⟨some d,op,ty,pos,af,g⟩) (h:∀w r R,N≤w.heap.size→St w0 M r w R→(∀A∈dr,A∈R)→PV P op ty kv w v) (next:DG P l.toArray n w0 M N dr K Fin σ' ((d,v)::kv) sd Z ls)
  (s:gd l.toArray kv ⟨some d,op,ty,pos,af,g⟩=some true:=by rfl) (t:aU op=false:=by rfl) (hk:known kv op=true:=by rfl) (z:Nat.blt d n=true:=by rfl) (B:(K i).iV=true:=by rfl) :
  DG P l.toArray n w0 M N dr K Fin (i::σ') kv sd Z ls:=DG.p m s t hk z B h next
theorem DG.z(h:jm l i=some ⟨some d,op,ty,pos,af,g⟩) (next:DG P l.toArray n w0 M N dr K Fin σ' ((d,undef)::kv) sd Z ls)
  (m:gd l.toArray kv ⟨some d,op,ty,pos,af,g⟩=some false:=by rfl) (q:aU op=false:=by rfl) (r:Nat.blt d n=true:=by rfl) :
  DG P l.toArray n w0 M N dr K Fin (i::σ') kv sd Z ls:=DG.no h m q r next
end
section
variable {w0 w:World}{M Z:Nat→Prop}{l:List As}{b T:Nat}{cs:List Value}
theorem St.b0(h:St w0 M Z w (As.blk b T cs::l)):w.rangeAt b 0 cs:=bC.range (As.gb h.g0)
theorem St.b1{A0:As}(h:St w0 M Z w (A0::As.blk b T cs::l)):w.rangeAt b 0 cs:=bC.range (As.gb h.g1)
theorem St.b2{A0 A1:As}(h:St w0 M Z w (A0::A1::As.blk b T cs::l)):w.rangeAt b 0 cs:=bC.range (As.gb h.g2)
theorem St.b3{A0 A1 A2:As}(h:St w0 M Z w (A0::A1::A2::As.blk b T cs::l)):w.rangeAt b 0 cs:=bC.range (As.gb h.g3)
theorem St.b4{A0 A1 A2 A3:As}(h:St w0 M Z w (A0::A1::A2::A3::As.blk b T cs::l)):w.rangeAt b 0 cs:=bC.range (As.gb h.g4)
theorem St.b5{A0 A1 A2 A3 m:As}(h:St w0 M Z w (A0::A1::A2::A3::m::As.blk b T cs::l)):w.rangeAt b 0 cs:=bC.range (As.gb h.g5)
end
structure jg (q:Prop):Prop where
 out:q
theorem nx{p q:Prop}(next:q) (h:jg q→p:=by
  intro h
  first
   | with_reducible refine WL.nil ?_
   | with_reducible refine EX.Rq ?_
   | with_reducible refine WC.seq ?_
   | with_reducible refine WC.region ?_
   | with_reducible refine WC.block ?_
   | with_reducible refine WC.skip ?_
   | with_reducible refine WC.exit ?_
   | with_reducible refine WC.ret ?_
   | with_reducible refine EX.La ?_
   | with_reducible refine EX.Lb ?_
   | with_reducible refine EX.Rr ?_
   | with_reducible refine EX.Ha ?_
   | with_reducible refine EX.Rs ?_
   | refine WL.a ?_
   | refine WL.z ?_
   | refine DW.a ?_
   | refine DW.z ?_
   | refine DG.a ?_
  exact h.out):p:=h ⟨next⟩
theorem au{p q:Prop}(next:q) (h:jg q→p:=by intro h;(repeat (refine nx ?_));exact h.out):p:=h ⟨next⟩
theorem cm{p q:Prop}(next:q) (h:jg q→p:=by intro h;refine nx ?_;refine nx ?_;exact h.out):p:=h ⟨next⟩
theorem cM{p q:Prop}(next:q) (h:jg q→p:=by intro h;refine cm ?_;refine nx ?_;exact h.out):p:=h ⟨next⟩
theorem cv{p q:Prop}(next:q) (h:jg q→p:=by intro h;refine cm ?_;refine cm ?_;exact h.out):p:=h ⟨next⟩
theorem dz{p q:Prop}(next:q) (h:jg q→p:=by intro h;refine cm ?_;refine cM ?_;exact h.out):p:=h ⟨next⟩
theorem fE{p q:Prop}(next:q) (h:jg q→p:=by intro h;refine cM ?_;refine cM ?_;exact h.out):p:=h ⟨next⟩
theorem eE{p q:Prop}(next:q) (h:jg q→p:=by intro h;refine cM ?_;refine cv ?_;exact h.out):p:=h ⟨next⟩
theorem ho{p q:Prop}(next:q) (h:jg q→p:=by intro h;refine cv ?_;refine cv ?_;exact h.out):p:=h ⟨next⟩
theorem oa{p q:Prop}(next:q) (h:jg q→p:=by intro h;refine cv ?_;refine dz ?_;exact h.out):p:=h ⟨next⟩
theorem mG{p q:Prop}(next:q) (h:jg q→p:=by intro h;refine dz ?_;refine dz ?_;exact h.out):p:=h ⟨next⟩
theorem hY{p q:Prop}(next:q) (h:jg q→p:=by intro h;refine dz ?_;refine fE ?_;exact h.out):p:=h ⟨next⟩
theorem ba{p q:Prop}(next:q) (h:jg q→p:=by intro h;refine fE ?_;refine fE ?_;exact h.out):p:=h ⟨next⟩
theorem CA{α:Type _}{a:α}{l m:List α}:(a::l)++m=a::(l++m):=rfl
theorem NA{α:Type _}{l:List α}:[]++l=l:=rfl
theorem CM{α β:Type _}{f:α→β}{a:α}{l:List α}:List.map f (a::l)=f a::List.map f l:=rfl
theorem NM{α β:Type _}{f:α→β}:List.map f []=[]:=rfl
theorem tG{g q:Prop}(h:g) (t:g→q:=by
  intro h
  first | rfl | (simp only [h];done) | (simp only [h];rfl) | (simp [h];done) | (simp;done) | (simp at h ⊢ <;> omega) | (simp <;> omega) | (simp [h] <;> omega) | (simp at h <;> omega)):q:=t h
theorem Sub.k2{kv r:KV}{t1 t2:Nat}{v1 v2:Value}(h1:Rc.look kv t1=some v1) (h:Rc.look kv t2=some v2) (hr:Sub kv r):Sub kv ((t1,v1)::(t2,v2)::r):=⟨h1,h,hr⟩
theorem Sub.k4{kv r:KV}{t1 t2 t3 t4:Nat}{v1 v2 v3 v4:Value}(h1:Rc.look kv t1=some v1) (h:Rc.look kv t2=some v2) (m:Rc.look kv t3=some v3) (q:Rc.look kv t4=some v4) (hr:Sub kv r):Sub kv ((t1,v1)::(t2,v2)::(t3,v3)::(t4,v4)::r):=⟨h1,h,m,q,hr⟩
section
variable {R L l ls:List As}{A0 A1 A2 A3:As}
theorem aG.k2(h:L=l++R):A0::A1::L=(A0::A1::l)++R:=aG.cons (aG.cons h)
theorem aG.k4(h:L=l++R):A0::A1::A2::A3::L=(A0::A1::A2::A3::l)++R:=aG.k2 (aG.k2 h)
theorem av.k4(h0:A0∈ls) (h1:A1∈ls) (h:A2∈ls) (m:A3∈ls) (t:∀A∈l,A∈ls):∀A∈A0::A1::A2::A3::l,A∈ls:=av.cons h0 (av.cons h1 (av.cons h (av.cons m t)))
end
inductive E2 {α β:Type}:α→α→β→β→Prop where
 | r {a:α}{b:β}:E2 a a b b
inductive E5 {α β γ δ ε:Type}:α→α→β→β→γ→γ→δ→δ→ε→ε→Prop where
 | r {a:α}{b:β}{c:γ}{d:δ}{e:ε}:E5 a a b b c c d d e e
inductive E6 {α β γ δ ε ζ:Type}:α→α→β→β→γ→γ→δ→δ→ε→ε→ζ→ζ→Prop where
 | r {a:α}{b:β}{c:γ}{d:δ}{e:ε}{f:ζ}:E6 a a b b c c d d e e f f
theorem E2.p1{α β:Type}{a a':α}{b b':β}(e:E2 a a' b b'):a=a':=by cases e;rfl
theorem E2.p2{α β:Type}{a a':α}{b b':β}(e:E2 a a' b b'):b=b':=by cases e;rfl
section
variable {α β γ δ ε ζ:Type}{a a':α}{b b':β}{c c':γ}{d d':δ}{e e':ε}{f f':ζ}
theorem E5.p(h:E5 a a' b b' c c' d d' e e'):a=a'∧b=b'∧c=c'∧d=d'∧e=e':=by cases h;exact⟨rfl,rfl,rfl,rfl,rfl⟩
theorem E6.p(h:E6 a a' b b' c c' d d' e e' f f'):a=a'∧b=b'∧c=c'∧d=d'∧e=e'∧f=f':=by cases h;exact⟨rfl,rfl,rfl,rfl,rfl,rfl⟩
end
section
variable {P:Program}{n N:Nat}{kv:KV}{w w0:World}{d:Tmp}{ty:TypeId}{pos:String}{af:Array Edge}{g:Option (Nat × Bool)}
theorem WP{ops:Array Oper}{Q:Exit→Act→World→Prop}{rest:List Oper}{op:Op}{v:Value}(e:E2 (gd ops kv ⟨some d,op,ty,pos,af,g⟩) (some true) (Nat.blt d n) true) (h:PV P op ty kv w v) (next:WL P ops Q rest n ((d,v)::kv) w):WL P ops Q (⟨some d,op,ty,pos,af,g⟩::rest) n kv w:=
 WL.p e.p1 e.p2 h next
theorem DP{ops:Array Oper}{i:Nat}{C:World→Prop}{T:Nat→World→World→Prop}{E:Nat→Option (Value→World→Prop)}{Fin:KV→World→Prop}{rest:List Oper}{F:gH}{op:Op}{v:Value}
  (e:E5 (gd ops kv ⟨some d,op,ty,pos,af,g⟩) (some true) (aU op) false (known kv op) true (Nat.blt d n) true (E i) none) (h:∀w,C w→PV P op ty kv w v) (next:DW P ops n C T E Fin (i+1) rest ((d,v)::kv) F) :
  DW P ops n C T E Fin i (⟨some d,op,ty,pos,af,g⟩::rest) kv F:=DW.p e.p.1 e.p.2.1 e.p.2.2.1 e.p.2.2.2.1 e.p.2.2.2.2 h next
theorem DQ{M Z:Nat→Prop}{ls dr:List As}{Fin:KV→World→Prop}{l:List Oper}{i:Nat}{σ':List Nat}{sd:List (Nat × As)}{K:Nat→Kd}{op:Op}{v:Value}
  (e:E6 (jm l i) (some ⟨some d,op,ty,pos,af,g⟩) (gd l.toArray kv ⟨some d,op,ty,pos,af,g⟩) (some true) (aU op) false (known kv op) true (Nat.blt d n) true ((K i).iV) true) (h:∀w m R,N≤w.heap.size→St w0 M m w R→(∀A∈dr,A∈R)→PV P op ty kv w v)
  (next:DG P l.toArray n w0 M N dr K Fin σ' ((d,v)::kv) sd Z ls):DG P l.toArray n w0 M N dr K Fin (i::σ') kv sd Z ls:=
 DG.p e.p.1 e.p.2.1 e.p.2.2.1 e.p.2.2.2.1 e.p.2.2.2.2.1 e.p.2.2.2.2.2 h next
end
theorem aj{a b:Prop}(x:a) (y:b):a∧b:=⟨x,y⟩
theorem V1{P:Program}{T ty:TypeId}{kv:KV}{w:World}(hT:One P T) {x:Operand}{b o j:Nat}{vs:List Value}{v:Value}(hc:w.rangeAt b o vs) (e:E2 (ev kv x) (some (.pointer (some ⟨b,o+j,none⟩))) (nth vs j) (some v)):PV P (.load T x) ty kv w v:=PV.ld1 hT hc e.p1 e.p2
theorem VA{P:Program}{T ty:TypeId}{kv:KV}{w:World}{k:Nat}(hT:ow P T k) {x:Operand}{b o:Nat}{vs:List Value}(hc:w.rangeAt b o vs) (e:E2 vs.length k (ev kv x) (some (.pointer (some ⟨b,o,none⟩)))):PV P (.load T x) ty kv w (.agg vs.toArray):=PV.Kw hT hc e.p1 e.p2
theorem Sub.v{kv r:KV}{t:Nat}{v v':Value}(hr:Sub kv r) (h:Rc.look kv t=some v:=by rfl) (m:v=v':=by first | rfl | (simp;done) | (congr 1;omega) | (simp only [];congr 1;omega)):Sub kv ((t,v')::r):=Sub.Lj h m hr
theorem WC.cd{P:Program}{Q:Exit→Act→World→Prop}{n:Nat}{kv:KV}{w:World}{c:Operand}{x y:Code}{b:Bool}(ht:b=true→WC P x Q n kv w) (h:b=false→WC P y Q n kv w) (hc:ev kv c=some (.bool b):=by rfl):WC P (.cond c x y) Q n kv w:=WC.cond hc ht h
section
variable {P:Program}{n:Nat}{kv:KV}{w w0:World}{M Z:Nat→Prop}{ls:List As}{d:Tmp}{ty:TypeId}{pos:String}{af:Array Edge}{g:Option (Nat × Bool)}{ops:Array Oper}{Q:Exit→Act→World→Prop}{rest:List Oper}{T:TypeId}{x y:Operand}
theorem WL.bx{v:Value}{l:List Value}(st:St w0 M Z w ls) (next:∀b w',uE w w' b→bC w' b T l→St w0 M Z w' (As.blk b T l::ls)→WL P ops Q rest n ((d,.pointer (some ⟨b,0,none⟩))::kv) w')
  (m:gd ops kv ⟨some d,.box T x,ty,pos,af,g⟩=some true:=by rfl) (q:Nat.blt d n=true:=by rfl) (r:ev kv x=some v:=by rfl) (hl:v.cells=l.toArray:=by rfl):WL P ops Q (⟨some d,.box T x,ty,pos,af,g⟩::rest) n kv w:=
 WL.go m (OX.box q r hl fun b w' h hb=>next b w' h hb (st.dG h hb))
theorem WL.sW{k b:Nat}{e:TypeId}{l us:List Value}(hT:(P.info? T).map (·.size)=some k) (st:St w0 M Z w (As.blk b e l::ls)) (next:∀w',aQ [b] w w'→bC w' b e us→St w0 M Z w' (As.blk b e us::ls)→WL P ops Q rest n kv w')
  (h:gd ops kv ⟨none,.store T x y,ty,pos,af,g⟩=some true:=by rfl) (m:ev kv x=some (.pointer (some ⟨b,0,none⟩)):=by rfl) (q:ev kv y=some (.agg us.toArray):=by rfl) (hk:us.length=k:=by rfl) (hlen:l.length=k:=by rfl) (h1:us.all (·.oneCell')=true:=by rfl):WL P ops Q (⟨none,.store T x y,ty,pos,af,g⟩::rest) n kv w:=
 WL.go h (OX.xb hT (As.gb st.g0) m q hk hlen h1 fun w' s _ hb=>next w' s hb (st.Hq s hb))
theorem St.lv{Z':Nat→Prop}{w':World}{l0 r l1 m:List As}(h:St w0 M Z w (l0++r)) (q:St w (nY l0) Z' w' l1) (s:eI w.heap.size Z Z') (hl:l1++r=m:=by simp only [List.cons_append,List.nil_append] <;> rfl):St w0 M Z' w' m:=hl ▸ St.leave h q s
end
@[reducible] def RT:Ending→(Value→Prop)→Prop
 | .returned v,K=>K v
 | _,_=>False
theorem RT.out{e:Ending}{K:Value→Prop}(h:RT e K):∃v,e=.returned v∧K v:=by
 cases e <;> first | exact⟨_,rfl,h⟩ | exact h.elim
theorem WL.cl{P:Program}{n:Nat}{kv:KV}{w:World}{d:Tmp}{ty:TypeId}{pos:String}{af:Array Edge}{g:Option (Nat × Bool)}{ops:Array Oper}{Q:Exit→Act→World→Prop}{rest:List Oper}{f:FuncId}(m:CF P f) {xs:List Operand}{qB:Array TypeId}{args:List Value}{R:Ending→World→Prop}(q:xs.map (ev kv)=args.map some) (h:Calls P f args.toArray w R)
  (next:∀e w',R e w'→RT e fun v=>WL P ops Q rest n ((d,v)::kv) w') (r:gd ops kv ⟨some d,.call {callee:=.value (.func f),args:=xs.toArray,argTypes:=qB},ty,pos,af,g⟩=some true:=by rfl) (s:Nat.blt d n=true:=by rfl):WL P ops Q (⟨some d,.call {callee:=.value (.func f),args:=xs.toArray,argTypes:=qB},ty,pos,af,g⟩::rest) n kv w:=
 WL.go r (OX.call m s q (h.mono fun e w' hr=>(next e w' hr).out))
abbrev CR(P:Program) (f:FuncId) (a:Array Value) (w:World) (v:Value):Prop:=Calls P f a w fun e w'=>e=.returned v∧aQ [] w w'
section
variable {w w0:World}{M Z:Nat→Prop}{l:List As}
theorem St.fr{α:Type}{R:RR α}{k n c:Nat}{a:Option Addr}{xs:List α}(st:St w0 M Z w l) (h:Rd R k Z w a n c xs):St w0 M Z w (As.ro R k a n c xs::l):=st.fact (As.DZ h) (fun _ m=>m)
theorem St.fg{b o:Nat}{r:List Value}(st:St w0 M Z w l) (h:Z b) (hr:w.rangeAt b o r):St w0 M Z w (As.rg b o r::l):=st.fact (As.Ls h (st.kc _ h) hr) (fun _ m=>m)
theorem St.s0(w:World):St w (fun _=>False) (fun _=>False) w []:=St.start (by simp)
theorem St.lr{w':World}{l0 r l1 m:List As}(h:St w0 M Z w (l0++r)) (q:St w (nY l0) Z w' l1) (hl:l1++r=m:=by simp only [List.cons_append,List.nil_append] <;> rfl):St w0 M Z w' m:=hl ▸ St.leave h q (eI.refl _ _)
theorem EX.r1{P:Program}{fn:Func}{R:Ending→World→Prop}{n:Nat}{kv:KV}{t:Tmp}{v:Value}(h:R (.returned v) w) (hr:fn.results=#[.tmp t]:=by rfl) (m:look kv t=some v:=by rfl):EX (bodyPost P fn R) .ret n kv w:=EX.Le hr m h
theorem EX.r2{P:Program}{fn:Func}{R:Ending→World→Prop}{n:Nat}{kv:KV}{t u:Tmp}{v x:Value}(h:R (.returned (.tuple #[v,x])) w) (hr:fn.results=#[.tmp t,.tmp u]:=by rfl) (m:look kv t=some v:=by rfl) (q:look kv u=some x:=by rfl):EX (bodyPost P fn R) .ret n kv w:=EX.Lf hr m q h
theorem WC.dS{P:Program}{Q:Exit→Act→World→Prop}{n:Nat}{kv:KV}{id m:Nat}{l:List Oper}{ls:List As}(st:St w0 M Z w ls) (hm:P.follows .mixedOrders=true)
  (q:DW P l.toArray n (fun h=>w.heap.size≤h.heap.size∧St w0 M Z h ls) (fun _=>fD (nY ls)) (cO []) (fun kv w=>WL P l.toArray Q (l.drop m) n kv w) 0 (l.take m) kv []) (r:uI l m []=true:=by kernel_rfl):WC P (.region id l.toArray true) Q n kv w:=
 WC.dN st (ca (show RG _ _ [] from trivial)) hm r q
end
section
variable {p:Prop}{P:Program}{n:Nat}{kv:KV}{w w0:World}{M Z:Nat→Prop}{ls:List As}{d:Tmp}{ty:TypeId}{pos:String}{af:Array Edge}{g:Option (Nat × Bool)}{ops:Array Oper}{Q:Exit→Act→World→Prop}{rest:List Oper}{T:TypeId}{x y:Operand}{b o j k:Nat}{vs:List Value}{v:Value}
theorem bF(s:jg (WL P ops Q (⟨some d,.load T x,ty,pos,af,g⟩::rest) n kv w)→p:=by intro h;exact au h.out) (m:gd ops kv ⟨some d,.load T x,ty,pos,af,g⟩=some true:=by rfl) (q:Nat.blt d n=true:=by rfl) (r:ev kv x=some (.pointer (some ⟨b,o+j,none⟩)):=by rfl) (t:nth vs j=some v:=by rfl) (hT:One P T) (hc:w.rangeAt b o vs) (next:WL P ops Q rest n ((d,v)::kv) w):p:=s ⟨WL.p m q (PV.ld1 hT hc r t) next⟩
theorem bS(s:jg (WL P ops Q (⟨some d,.load T x,ty,pos,af,g⟩::rest) n kv w)→p:=by intro h;exact au h.out) (m:gd ops kv ⟨some d,.load T x,ty,pos,af,g⟩=some true:=by rfl) (q:Nat.blt d n=true:=by rfl) (r:ev kv x=some (.pointer (some ⟨b,o,none⟩)):=by rfl) (t:vs.length=k:=by rfl) (hT:ow P T k) (hc:w.rangeAt b o vs) (next:WL P ops Q rest n ((d,.agg vs.toArray)::kv) w):p:=s ⟨WL.p m q (PV.Kw hT hc t r) next⟩
theorem lj{us:List Value}(s:jg (WL P ops Q (⟨some d,.load T x,ty,pos,af,g⟩::rest) n kv w)→p:=by intro h;exact au h.out) (m:gd ops kv ⟨some d,.load T x,ty,pos,af,g⟩=some true:=by rfl) (q:Nat.blt d n=true:=by rfl) (r:ev kv x=some (.pointer (some ⟨b,o+j,none⟩)):=by rfl) (t:Gg vs j k=some us:=by rfl) (hT:ow P T k) (hc:w.rangeAt b o vs) (next:WL P ops Q rest n ((d,.agg us.toArray)::kv) w):p:=s ⟨WL.p m q (PV.uD hT hc r t) next⟩
theorem bl{c:Operand}{X Y:Code}{t:Bool}(s:jg (WC P (.cond c X Y) Q n kv w)→p:=by intro h;exact au h.out) (hc:ev kv c=some (.bool t):=by rfl) (ht:t=true→WC P X Q n kv w) (m:t=false→WC P Y Q n kv w):p:=s ⟨WC.cond hc ht m⟩
theorem c7{t m:Nat}{q c:Bool}{r:Option Tmp}{op:Op}(s:jg (WL P ops Q (⟨r,op,ty,pos,af,some (m,q)⟩::rest) n kv w)→p:=by intro h;exact au h.out) (hm:dT ops m=some t:=by rfl) (ht:look kv t=some (.bool c):=by rfl) (hT:c=true→WL P ops Q (⟨r,op,ty,pos,af,some (m,q)⟩::rest) n ((t,.bool true)::kv) w) (z:c=false→WL P ops Q (⟨r,op,ty,pos,af,some (m,q)⟩::rest) n ((t,.bool false)::kv) w):p:=s ⟨WL.bX ht hT z⟩
theorem bJ{fn:Func}{R:Ending→World→Prop}{t:Tmp}(s:jg (EX (bodyPost P fn R) .ret n kv w)→p:=by intro h;exact au h.out) (hr:fn.results=#[.tmp t]:=by rfl) (m:look kv t=some v:=by rfl) (h:R (.returned v) w):p:=s ⟨EX.Le hr m h⟩
theorem xt{fn:Func}{R:Ending→World→Prop}{t u:Tmp}{z:Value}(s:jg (EX (bodyPost P fn R) .ret n kv w)→p:=by intro h;exact au h.out) (hr:fn.results=#[.tmp t,.tmp u]:=by rfl) (m:look kv t=some v:=by rfl) (q:look kv u=some z:=by rfl) (h:R (.returned (.tuple #[v,z])) w):p:=s ⟨EX.Lf hr m q h⟩
theorem nC{fn:Func}{R:Ending→World→Prop}{t:Nat}(s:jg (EX (bodyPost P fn R) .ret n kv w)→p:=by intro h;exact au h.out) (hr:fn.results=#[.cell t T]:=by rfl) (ht:look kv t=some (.pointer (some ⟨b,0,none⟩)):=by rfl) (hl:vs.length=k:=by rfl) (hT:ow P T k) (hc:w.rangeAt b 0 vs) (h:R (.returned (.agg vs.toArray)) w):p:=s ⟨EX.RJ hT hr ht hc hl h⟩
theorem cP{m:KV}{t:Nat}{v':Value}{J:World→Prop}(s:jg (EX (ns n t v kv J) .normal n m w)→p:=by intro h;exact au h.out) (q:gW (m.length - kv.length) m=kv:=by rfl) (r:kl (m.length - kv.length) m kv=true:=by rfl) (z:look m t=some v':=by rfl) (he:v'=v) (A:J w):p:=s ⟨EX.Lk _ q r z he A⟩
theorem fB{m:KV}{t:Nat}{v':Value}{J:World→Prop}(s:jg (EX (ns n t v (fl t kv) J) .normal n m w)→p:=by intro h;exact au h.out) (q:gW (m.length - kv.length) m=kv:=by rfl) (r:kl (m.length - kv.length) m (fl t kv)=true:=by rfl) (z:look m t=some v':=by rfl) (he:v'=v) (A:J w):p:=s ⟨EX.Hh _ q r z he A⟩
theorem dt(s:jg (WL P ops Q (⟨some d,.box T x,ty,pos,af,g⟩::rest) n kv w)→p:=by intro h;exact au h.out) (m:gd ops kv ⟨some d,.box T x,ty,pos,af,g⟩=some true:=by rfl) (q:Nat.blt d n=true:=by rfl) (r:ev kv x=some v:=by rfl) (hl:v.cells=vs.toArray:=by rfl) (st:St w0 M Z w ls) (next:∀b w',uE w w' b→bC w' b T vs→St w0 M Z w' (As.blk b T vs::ls)→WL P ops Q rest n ((d,.pointer (some ⟨b,0,none⟩))::kv) w'):p:=s ⟨WL.bx st next m q r hl⟩
theorem dH{e:TypeId}{l:List Value}(s:jg (WL P ops Q (⟨none,.store T x y,ty,pos,af,g⟩::rest) n kv w)→p:=by intro h;exact au h.out) (m:gd ops kv ⟨none,.store T x y,ty,pos,af,g⟩=some true:=by rfl) (q:ev kv x=some (.pointer (some ⟨b,0,none⟩)):=by rfl) (r:ev kv y=some (.agg vs.toArray):=by rfl) (hk:vs.length=k:=by rfl) (hlen:l.length=k:=by rfl) (h1:vs.all (·.oneCell')=true:=by rfl) (hT:(P.info? T).map (·.size)=some k) (st:St w0 M Z w (As.blk b e l::ls)) (next:∀w',aQ [b] w w'→bC w' b e vs→St w0 M Z w' (As.blk b e vs::ls)→WL P ops Q rest n kv w'):p:=s ⟨WL.sW hT st next m q r hk hlen h1⟩
theorem fF{l:List Value}(s:jg (WL P ops Q (⟨some d,.alloc T,ty,pos,af,g⟩::rest) n kv w)→p:=by intro h;exact au h.out) (m:gd ops kv ⟨some d,.alloc T,ty,pos,af,g⟩=some true:=by rfl) (q:Nat.blt d n=true:=by rfl) [hT:xn P T l] (st:St w0 M Z w ls) (next:∀b w',uE w w' b→bC w' b T l→St w0 M Z w' (As.blk b T l::ls)→WL P ops Q rest n ((d,.pointer (some ⟨b,0,none⟩))::kv) w'):p:=s ⟨WL.al st next m q⟩
theorem eO{f:FuncId}{xs:List Operand}{qB:Array TypeId}{args:List Value}{u:Value}(s:jg (WL P ops Q (⟨some d,.call {callee:=.value (.func f),args:=xs.toArray,argTypes:=qB},ty,pos,af,g⟩::rest) n kv w)→p:=by intro h;exact au h.out) (m:gd ops kv ⟨some d,.call {callee:=.value (.func f),args:=xs.toArray,argTypes:=qB},ty,pos,af,g⟩=some true:=by rfl) (q:Nat.blt d n=true:=by rfl) (r:xs.map (ev kv)=args.map some:=by rfl) [t:dQ P f] (hc:CR P f args.toArray w u) (st:St w0 M Z w ls) (next:∀w',aQ [] w w'→St w0 M Z w' ls→WL P ops Q rest n ((d,u)::kv) w'):p:=s ⟨WL.c0 hc st next m q r⟩
theorem c6{f:FuncId}{xs:List Operand}{qB:Array TypeId}{args:List Value}{R:Ending→World→Prop}(s:jg (WL P ops Q (⟨some d,.call {callee:=.value (.func f),args:=xs.toArray,argTypes:=qB},ty,pos,af,g⟩::rest) n kv w)→p:=by intro h;exact au h.out) (m:gd ops kv ⟨some d,.call {callee:=.value (.func f),args:=xs.toArray,argTypes:=qB},ty,pos,af,g⟩=some true:=by rfl) (q:Nat.blt d n=true:=by rfl) (r:xs.map (ev kv)=args.map some:=by rfl) (t:CF P f) (h:Calls P f args.toArray w R) (next:∀e w',R e w'→RT e fun v=>WL P ops Q rest n ((d,v)::kv) w'):p:=s ⟨WL.cl t r h next m q⟩
section
variable {i N e:Nat}{U:Nat→World→World→Prop}{E:Nat→Option (Value→World→Prop)}{Fin:KV→World→Prop}{F:gH}
theorem kf(s:jg (DW P ops n (fun m=>N≤m.heap.size∧St w0 M Z m ls) U E Fin i (⟨some d,.load T x,ty,pos,af,g⟩::rest) kv F)→p:=by intro h;exact au h.out) (q:gd ops kv ⟨some d,.load T x,ty,pos,af,g⟩=some true:=by rfl) (r:aU (.load T x)=false:=by rfl) (hk:known kv (.load T x)=true:=by rfl) (t:Nat.blt d n=true:=by rfl) (z:E i=none:=by rfl) (A:ev kv x=some (.pointer (some ⟨b,0+j,none⟩)):=by rfl) (B:nth vs j=some v:=by rfl) (hT:One P T) (hb:∀{m},St w0 M Z m ls→(As.blk b e vs).ok Z m) (next:DW P ops n (fun m=>N≤m.heap.size∧St w0 M Z m ls) U E Fin (i+1) rest ((d,v)::kv) F):p:=s ⟨DW.p q r hk t z (fun _ h=>PV.ld1 hT (bC.range (As.gb (hb h.2))) A B) next⟩
theorem iN(s:jg (DW P ops n (fun m=>N≤m.heap.size∧St w0 M Z m ls) U E Fin i (⟨some d,.load T x,ty,pos,af,g⟩::rest) kv F)→p:=by intro h;exact au h.out) (q:gd ops kv ⟨some d,.load T x,ty,pos,af,g⟩=some true:=by rfl) (r:aU (.load T x)=false:=by rfl) (hk:known kv (.load T x)=true:=by rfl) (t:Nat.blt d n=true:=by rfl) (z:E i=none:=by rfl) (A:ev kv x=some (.pointer (some ⟨b,0,none⟩)):=by rfl) (B:vs.length=k:=by rfl) (hT:ow P T k) (hb:∀{m},St w0 M Z m ls→(As.blk b e vs).ok Z m) (next:DW P ops n (fun m=>N≤m.heap.size∧St w0 M Z m ls) U E Fin (i+1) rest ((d,.agg vs.toArray)::kv) F):p:=s ⟨DW.p q r hk t z (fun _ h=>PV.Kw hT (bC.range (As.gb (hb h.2))) B A) next⟩
theorem Bo{us:List Value}(s:jg (DW P ops n (fun m=>N≤m.heap.size∧St w0 M Z m ls) U E Fin i (⟨some d,.load T x,ty,pos,af,g⟩::rest) kv F)→p:=by intro h;exact au h.out) (q:gd ops kv ⟨some d,.load T x,ty,pos,af,g⟩=some true:=by rfl) (r:aU (.load T x)=false:=by rfl) (hk:known kv (.load T x)=true:=by rfl) (t:Nat.blt d n=true:=by rfl) (z:E i=none:=by rfl) (A:ev kv x=some (.pointer (some ⟨b,0+j,none⟩)):=by rfl) (B:Gg vs j k=some us:=by rfl) (hT:ow P T k) (hb:∀{m},St w0 M Z m ls→(As.blk b e vs).ok Z m) (next:DW P ops n (fun m=>N≤m.heap.size∧St w0 M Z m ls) U E Fin (i+1) rest ((d,.agg us.toArray)::kv) F):p:=s ⟨DW.p q r hk t z (fun _ h=>PV.uD hT (bC.range (As.gb (hb h.2))) A B) next⟩
theorem uv{t m r:Nat}{q c:Bool}{z:Option Tmp}{op:Op}{A:Array Oper}{l':List Oper}{C:World→Prop}(s:jg (DW P ops r C U E (fun kv w=>WL P A Q l' n kv w) i (⟨z,op,ty,pos,af,some (m,q)⟩::rest) kv F)→p:=by intro h;exact au h.out) (hm:dT ops m=some t:=by rfl) (ht:look kv t=some (.bool c):=by rfl) (hT:c=true→DW P ops r C U E (fun kv w=>WL P A Q l' n kv w) i (⟨z,op,ty,pos,af,some (m,q)⟩::rest) ((t,.bool true)::kv) F) (B:c=false→DW P ops r C U E (fun kv w=>WL P A Q l' n kv w) i (⟨z,op,ty,pos,af,some (m,q)⟩::rest) ((t,.bool false)::kv) F):p:=s ⟨DW.bX ht hT B⟩
theorem da{C:World→Prop}(s:jg (DW P ops n C U E Fin i [] kv F)→p:=by intro h;exact au h.out) (h:∀w,C w→xc F w→Fin kv w):p:=s ⟨DW.nil h⟩
section
variable {l:List Oper}{σ:List Nat}{sd:List (Nat × As)}{K:Nat→Kd}{dr:List As}
theorem wW(s:jg (DG P l.toArray n w0 M N dr K Fin (i::σ) kv sd Z ls)→p:=by intro h;exact au h.out) (r:jm l i=some ⟨some d,.load T x,ty,pos,af,g⟩:=by rfl) (t:gd l.toArray kv ⟨some d,.load T x,ty,pos,af,g⟩=some true:=by rfl) (z:aU (.load T x)=false:=by rfl) (hk:known kv (.load T x)=true:=by rfl) (A:Nat.blt d n=true:=by rfl) (B:(K i).iV=true:=by rfl) (C:ev kv x=some (.pointer (some ⟨b,0+j,none⟩)):=by rfl) (D:nth vs j=some v:=by rfl) (hT:One P T) (hb:∀{m q},SV w0 M q m dr→(As.blk b e vs).ok q m) (next:DG P l.toArray n w0 M N dr K Fin σ ((d,v)::kv) sd Z ls):p:=s ⟨DG.p r t z hk A B (fun _ _ _ _ h e=>PV.ld1 hT (bC.range (As.gb (hb (h.sv e)))) C D) next⟩
theorem qu(s:jg (DG P l.toArray n w0 M N dr K Fin (i::σ) kv sd Z ls)→p:=by intro h;exact au h.out) (r:jm l i=some ⟨some d,.load T x,ty,pos,af,g⟩:=by rfl) (t:gd l.toArray kv ⟨some d,.load T x,ty,pos,af,g⟩=some true:=by rfl) (z:aU (.load T x)=false:=by rfl) (hk:known kv (.load T x)=true:=by rfl) (A:Nat.blt d n=true:=by rfl) (B:(K i).iV=true:=by rfl) (C:ev kv x=some (.pointer (some ⟨b,0,none⟩)):=by rfl) (D:vs.length=k:=by rfl) (hT:ow P T k) (hb:∀{m q},SV w0 M q m dr→(As.blk b e vs).ok q m) (next:DG P l.toArray n w0 M N dr K Fin σ ((d,.agg vs.toArray)::kv) sd Z ls):p:=s ⟨DG.p r t z hk A B (fun _ _ _ _ h e=>PV.Kw hT (bC.range (As.gb (hb (h.sv e)))) D C) next⟩
theorem AF{us:List Value}(s:jg (DG P l.toArray n w0 M N dr K Fin (i::σ) kv sd Z ls)→p:=by intro h;exact au h.out) (r:jm l i=some ⟨some d,.load T x,ty,pos,af,g⟩:=by rfl) (t:gd l.toArray kv ⟨some d,.load T x,ty,pos,af,g⟩=some true:=by rfl) (z:aU (.load T x)=false:=by rfl) (hk:known kv (.load T x)=true:=by rfl) (A:Nat.blt d n=true:=by rfl) (B:(K i).iV=true:=by rfl) (C:ev kv x=some (.pointer (some ⟨b,0+j,none⟩)):=by rfl) (D:Gg vs j k=some us:=by rfl) (hT:ow P T k) (hb:∀{m q},SV w0 M q m dr→(As.blk b e vs).ok q m) (next:DG P l.toArray n w0 M N dr K Fin σ ((d,.agg us.toArray)::kv) sd Z ls):p:=s ⟨DG.p r t z hk A B (fun _ _ _ _ h e=>PV.uD hT (bC.range (As.gb (hb (h.sv e)))) C D) next⟩
theorem gR{op:Op}(s:jg (DG P l.toArray n w0 M N dr K Fin (i::σ) kv sd Z ls)→p:=by intro h;exact au h.out) (q:jm l i=some ⟨some d,op,ty,pos,af,g⟩:=by rfl) (r:gd l.toArray kv ⟨some d,op,ty,pos,af,g⟩=some true:=by rfl) (t:aU op=false:=by rfl) (hk:known kv op=true:=by rfl) (z:Nat.blt d n=true:=by rfl) (B:K i=.chain:=by rfl) (h:∀w R,N≤w.heap.size→St w0 M Z w (ls++R)→(∀p∈sd,p.2∈R)→OX P ⟨some d,op,ty,pos,af,g⟩ n kv w fun C w'=>w.heap.size≤w'.heap.size∧∃v,C=(d,v)::kv∧∃Z' L m,St w0 M Z' w' L∧L=m++R∧(∀A∈dr,A∈m)∧DG P l.toArray n w0 M N dr K Fin σ ((d,v)::kv) sd Z' m):p:=s ⟨DG.ch q r t hk z B h⟩
theorem lJ(s:jg (DG P l.toArray n w0 M N dr K Fin [] kv sd Z ls)→p:=by intro h;exact au h.out) (h:∀w,N≤w.heap.size→St w0 M Z w (sd.map (·.2)++ls)→Fin kv w):p:=s ⟨DG.nil h⟩
end
end
theorem Sub.t{kv m:KV}(h:Sub kv m:=by repeat (first | exact Sub.nil | refine Sub.cons rfl ?_ | refine Sub.v ?_)):Sub kv m:=h
section
variable {σ:Type}{cX:σ→KV}
theorem fJ{I:σ→World→Prop}{μ:σ→Nat}{m:Nat}(h:σ) (hi:I h w) (hm:μ h<m:=by first | (simp only [];omega) | omega) (q:Sub kv (cX h):=by exact Sub.t):EX (Exit.then (fun a' w'=>∃h,Fr n a' (cX h)∧I h w'∧μ h<m) Q) .normal n kv w:=EX.again h q hi hm
theorem lK{J:σ→World→Prop}(h:σ) (m:J h w) (q:Sub kv (cX h):=by exact Sub.t):EX (fun e a w'=>e=.normal∧∃s,Fr n a (cX s)∧J s w') .normal n kv w:=EX.Lc h q m
end
end
end Go.Rc

namespace Go.Rc
open Go
section
variable {P:Program}{kv:KV}{w:World}{T U ty:TypeId}{x y:Operand}
theorem sJ{t:TypeId}{v:Value}(hT:∃ms,P.underlying T=some (.interface ms)):(Op.equalIn 10000 T (.iface t v) .nilIface).run P w=.ok false w:=by
 obtain⟨ms,hT⟩:=hT;rw [show(10000:Nat)=9999+1 from rfl]
 unfold Op.equalIn
 simp [run_underlying hT]
theorem PV.LK{v:Value}{ok:Bool}(hT:∃ms,P.underlying T=some (.interface ms)) (m:ev kv x=some v) (h:(ok=true∧v=.nilIface)∨(ok=false∧∃t y,v=.iface t y)):PV P (.binOp .neq T x (.const .nilIface) U) ty kv w (.bool (!ok)):=by
 rcases h with⟨rfl,rfl⟩ | ⟨rfl,t,y,rfl⟩
 ·
  exact PV.HC hT m
 have q:ev kv (.const .nilIface)=some .nilIface:=rfl;refine⟨rfl,by simp [known,opers,m,q],fun _ _ _ _=>?_⟩;simp only [execOp,aH m,aH q]
 simp [eqGuard,binOp,Op.equal,Op.maxDepth,sJ hT]
end
theorem WC.RY{P:Program}{Q:Exit→Act→World→Prop}{n:Nat}{kv:KV}{w0 w:World}{M Z:Nat→Prop}{σ:Type}{c:Code}{rest:List As}(l0:List As) (cX:σ→KV) (F:σ→List As) (I:σ→Prop) (Zf:σ→Nat→Prop) (_hst:St w0 M Z w (l0++rest))
  (h:WC P c (fun e a w'=>e=.normal∧∃s,Fr n a (cX s)∧(St w0 M (Zf s) w' (F s++rest)∧I s)) n kv w)
  (m:∀s w',St w0 M (Zf s) w' (F s++rest)→I s→EX Q .normal n (cX s) w'):WC P c Q n kv w:=
 WC.Rt cX (fun s w'=>St w0 M (Zf s) w' (F s++rest)∧I s) h fun s w' ⟨a,b⟩=>m s w' a b
theorem WC.hI{P:Program}{Q:Exit→Act→World→Prop}{n:Nat}{kv:KV}{w0 w:World}{M Z:Nat→Prop}{σ:Type}{c:Code}{rest:List As}(l0:List As) (cX:σ→KV) (F:σ→List As) (I:σ→Prop) (m:St w0 M Z w (l0++rest))
  (h:WC P c (fun e a w'=>e=.normal∧∃s,Fr n a (cX s)∧(St w0 M Z w' (F s++rest)∧I s)) n kv w)
  (q:∀s w',St w0 M Z w' (F s++rest)→I s→EX Q .normal n (cX s) w'):WC P c Q n kv w:=
 WC.RY l0 cX F I (fun _=>Z) m h q
section
variable {w0 w:World}{M Z:Nat→Prop}{l:List As}
theorem St.e8{A0 A1 A2 A3 m q r s:As}(h:St w0 M Z w (A0::A1::A2::A3::m::q::r::s::l)):St w (nY [A0,A1,A2,A3,m,q,r,s]) Z w [A0,A1,A2,A3,m,q,r,s]:=St.enter (l0:=[A0,A1,A2,A3,m,q,r,s]) h
theorem St.e9{A0 A1 A2 A3 m q r s t:As}(h:St w0 M Z w (A0::A1::A2::A3::m::q::r::s::t::l)):St w (nY [A0,A1,A2,A3,m,q,r,s,t]) Z w [A0,A1,A2,A3,m,q,r,s,t]:=St.enter (l0:=[A0,A1,A2,A3,m,q,r,s,t]) h
end
theorem Calls.RZ{P:Program}{f:FuncId}{r c1 c2 c3 c4 c5:Value}{w:World}{Q:Ending→World→Prop}(h:Calls P f #[r,c1,c2,c3,c4,c5] w Q):Calls P f (#[]++[r].toArray++#[c1,c2,c3,c4,c5]) w Q:=by grind
theorem Calls.LL{P:Program}{f:FuncId}{r:Value}{w:World}{Q:Ending→World→Prop}(h:Calls P f #[r] w Q):Calls P f (#[]++[r].toArray++#[]) w Q:=by grind
end Go.Rc

namespace Go.Rc
open Go
theorem aQ.uY{w w':World}(h:RowKit.Below w.heap.size w w') (m:w.drawn≤w'.drawn):aQ [] w w':=⟨h.os,h.tape,h.output,h.size,m,fun k hk _=>h.block k hk⟩
theorem lL(w:World) (p:Addr) (n:Nat):(w.freeze p n).drawn=w.drawn:=by grind [World.freeze]
section
variable {P:Program}{n:Nat}{kv:KV}{w w':World}{K:KV→World→Prop}{d:Tmp}{ty:TypeId}{pos:String}{af:Array Edge}{g:Option (Nat × Bool)}{T U:TypeId}{op:Op}{v:Value}{x y:Operand}
theorem OX.val(m:aU op=false) (q:Nat.blt d n=true) (hk:known kv op=true) (hr:(execOp (gw kv) ⟨some d,op,ty,pos,af,g⟩).run P w=.ok (.value v) w') (h:K ((d,v)::kv) w'):OX P ⟨some d,op,ty,pos,af,g⟩ n kv w K:=⟨m,q,hk,by rw [hr];exact h⟩
theorem PV.Bp{h:TypeDesc}(hT:P.underlying T=some h) (q:∀ms,h≠.interface ms) (m:ev kv x=some v):PV P (.makeInterface T x) ty kv w (.iface T v):=
 ⟨rfl,by simp [known,opers,m],fun _ _ _ _=>by
  simp only [execOp,aH m,Instr.makeInterface,Sem.run_bind,run_underlying hT,Result.andThen_ok]
  simp_all⟩
theorem PV.HE{ms:Array (String × TypeId)}{m:TypeId}{q:IntKind}{a b:Int}(hT:P.underlying T=some (.interface ms)) (hc:(P.info? m).map (·.comparable)=some true) (t:P.underlying m=some (.int q)) (r:ev kv x=some (.iface m (.int .i64 a))) (s:ev kv y=some (.iface m (.int .i64 b))):PV P (.binOp .eql T x y U) ty kv w (.bool (a == b)):=
 ⟨rfl,by simp [known,opers,r,s],fun _ _ _ _=>by
  have h:=Lib.run_eql_iface_int w (k:=.i64) a b hT hc t;simp only [execOp,aH r,aH s]
  simp [eqGuard,h]⟩
theorem OX.LM{r:Value}(s:Nat.blt d n=true) {u v:Value}(m:ev kv x=some u) (q:ev kv y=some v) (hr:(Instr.makeSlice T u v).run P w=.ok r w') (h:K ((d,r)::kv) w'):OX P ⟨some d,.makeSlice T x y,ty,pos,af,g⟩ n kv w K:=
 OX.val rfl s (by simp [known,opers,m,q]) (by simp only [execOp,aH m,aH q,Sem.run_bind,hr,Result.andThen_ok];rfl) h
theorem OX.LN{r u v:Value}(s:Nat.blt d n=true) (m:ev kv x=some u) (q:ev kv y=some v) (hr:(Builtin.copy_ #[T,U] ty #[u,v]).run P w=.ok r w') (h:K ((d,r)::kv) w'):OX P ⟨some d,.call {callee:=.builtin .copy,args:=#[x,y],argTypes:=#[T,U]},ty,pos,af,g⟩ n kv w K:=
 OX.val rfl s (by simp [known,opers,m,q]) (by simp [execOp,aH m,aH q,resolve,invoke,builtin,hr]) h
theorem OX.R0{r u v:Value}(s:Nat.blt d n=true) (m:ev kv x=some u) (q:ev kv y=some v) (hr:(Builtin.unsafeString_ #[T,U] ty #[u,v]).run P w=.ok r w') (h:K ((d,r)::kv) w'):OX P ⟨some d,.call {callee:=.builtin .unsafeString,args:=#[x,y],argTypes:=#[T,U]},ty,pos,af,g⟩ n kv w K:=
 OX.val rfl s (by simp [known,opers,m,q]) (by simp [execOp,aH m,aH q,resolve,invoke,builtin,hr]) h
end
theorem sK{P:Program}{T S e pt it R1 R2:TypeId}{i:TypeInfo}(hT:P.underlying T=some (.slice e)) (hi:P.info? e=some i) (q:i.zero=some (.int .u8 0)) (h1:i.size=1) (hb:i.bytes=1) (A:P.underlying pt=some (.pointer e)) {s:ByteArray}(h0:s.size≠0) (O:s.size≤1000) (w:World) :
  ∃w1 w2 w3:World,(Instr.makeSlice T (.int .i64 (s.size:Int)) (.int .i64 (s.size:Int))).run P w=.ok (.slice (some ⟨w.heap.size,0,none⟩) s.size s.size) w1∧
   (Builtin.copy_ #[T,S] R1 #[.slice (some ⟨w.heap.size,0,none⟩) s.size s.size,.string s]).run P w1=.ok (goInt s.size) w2∧
   (Builtin.unsafeString_ #[pt,it] R2 #[.pointer (some ⟨w.heap.size,0,none⟩),.int .i64 (s.size:Int)]).run P w2=.ok (.string s) w3∧aQ [] w w3:=by
 have B:(P.info? e).map (·.size)=some 1:=by rw [hi];simp [h1]
 have C:P.cellsOf e=1:=by simp [Program.cellsOf,hi,h1]
 have V:(Lib.byteCells s.data.toList).length=s.size:=by rw [Lib.byteCells_length,← Lib.size_eq]
 have m:=run_make (P:=P) w T e i (.int .u8 0) hT hi q .i64 .i64 (s.size:Int) (s.size:Int) (by omega) (by omega) (by rw [hb];omega) (by omega)
 have D:(madeCells (Value.int .u8 0).cells (((s.size:Nat):Int).toNat*i.size)).size=s.size:=by rw [size_madeCells,h1];simp
 generalize madeCells (Value.int .u8 0).cells (((s.size:Nat):Int).toNat*i.size)=M at m D
 rw [Int.toNat_natCast] at m;have r:=Lib.run_copy_row_string (P:=P) (w.alloc (.cells M e)) T S R1 e w.heap.size 0 s.size s.size s M e hT B (heap_alloc_new w _) (Nat.le_refl _) (by omega)
 have G:(M.toList.take 0++Lib.byteCells s.data.toList++M.toList.drop (0+s.size)).toArray=(Lib.byteCells s.data.toList).toArray:=by grind
 rw [G] at r;have H:((w.alloc (.cells M e)).setRow w.heap.size (Lib.byteCells s.data.toList).toArray).heap[w.heap.size]?=some (.cells (Lib.byteCells s.data.toList).toArray e (0,0)):=setRow_heap _ _ M _ e (0,0) (heap_alloc_new w _);have I:s.data.toList≠[]:=fun h=>h0 (by rw [Lib.size_eq,h];rfl);have t:=Lib.run_unsafeString_row (P:=P) ((w.alloc (.cells M e)).setRow w.heap.size (Lib.byteCells s.data.toList).toArray) pt it R2 e A C w.heap.size s.size (by grind [World.shape?]) s.data.toList I (by rw [← Lib.size_eq];omega) (by rw [← Lib.size_eq];omega)
  (fun j z q=>Lib.cells_of_row H s.size j _ (by grind [Lib.byteCells]))
 rw [← Lib.size_eq] at t;have J:RowKit.Below w.heap.size (w.alloc (.cells M e)) ((w.alloc (.cells M e)).setRow w.heap.size (Lib.byteCells s.data.toList).toArray):=⟨rfl,rfl,rfl,by simp [World.setRow],fun k hk=>setRow_other _ _ _ _ (by omega)⟩;refine⟨_,_,_,m,r,t,aQ.uY (Lib.below_freeze (((RowKit.Below.refl _ w).alloc (Nat.le_refl _) _).trans J) (p:=⟨w.heap.size,0,none⟩) (Nat.le_refl _) _) ?_⟩;rw [lL];exact Nat.le_refl _
end Go.Rc

namespace Go.Rc
open Go
instance:Inhabited bG:=⟨⟨de,⟨#[]⟩,0⟩⟩
def bZ.row(x:bZ) (a1:Option Addr) (n1 c1:Nat) (a2:Option Addr) (n2 c2:Nat):List Value:=[.int .i64 x.ad,.slice a1 n1 c1,.slice a2 n2 c2]
def eS(rev:Int) (l:List bG) (i:Nat):Bool:=
 !dZ l[i]!.key || (!ax l[i]!.key || ((decide (0<(i:Int)) && decide (0≤bj l[i - 1]!.key l[i]!.key)) || (decide (1073741824<(l[i]!.value.size:Int)) || (decide (l[i]!.changed<0) || decide (rev<l[i]!.changed)))))
def sL(rev:Int) (l:List bG):Prop:=∀i y,l[i]?=some y→eS rev l i=false
open Classical in
noncomputable def lM(l:List Rec):Bool:=decide (jC l)
theorem xu{l:List Rec}{b:Bool}(h:b=true↔jC l):b=lM l:=by
 unfold lM
 grind
def iw(x:bZ):Prop:=sL x.ad x.ab∧(∀(i:Nat) (r:Rec),x.ai[i]?=some r→r.ak≤x.ad)∧0≤x.ad∧x.ad≤1073741824∧x.ab.length≤64∧jC x.ai
noncomputable def iW(x:bZ):Bool:=decide (0≤x.ad) && (decide (x.ad≤1073741824) && (decide ((x.ab.length:Int)≤64) && lM x.ai))
theorem nD(x:bZ):iW x=true↔0≤x.ad∧x.ad≤1073741824∧x.ab.length≤64∧jC x.ai:=by
 simp only [iW,lM,Bool.and_eq_true,decide_eq_true_eq]
 grind
theorem PV.sM{P:Program}{kv:KV}{w:World}{T ty:TypeId}{f off:Nat}{fs:List Field}{fd:Field}(hu:P.underlying T=some (.struct fs.toArray)) (h:fs[f]?=some fd) (m:fd.offset=off) (h1:∀w,(isAgg fd.type).run P w=.ok false w)
  {x:Operand}{us:List Value}{v:Value}(q:ev kv x=some (.agg us.toArray)) (r:nth us off=some v):PV P (.field T x f) ty kv w v:=
 PV.DU hu (by simpa using h) m h1 q (by rw [← oE];exact r)
end Go.Rc
namespace Go.Rc
open Go
def cn(k:Key):Prop:=k.kind<1∨22<k.kind
def aO(aa:List aF) (k:Key) (ae:List ByteArray):uR:=if k.kind=31∨k.kind=32 then bP aa k ae else ⟨true,⟨#[]⟩,de⟩
def aD(l:List Rec) (k:Key):Rec:=(ay l k).getD jB
def bH(l:List Rec) (rev:Int) (k:Key):Bool:=(ay l k).isSome && (aw k && (decide ((aD l k).ak<rev) && !(aD l k).bU))
def fo(x:bZ) (k:Key):Bool:=ax k || ((ay x.ai k).isSome && decide ((aD x.ai k).ak=x.ad))
def iy(x:bZ) (k:Key):ByteArray:=if ax k then (aL x.ab k).value else if fo x k then (aD x.ai k).value else ⟨#[]⟩
def cc(x:bZ) (k:Key) (v:ByteArray) (reads:List Key):Rec:=
 ⟨k,v,reads,if (ay x.ai k).isSome && decide ((aD x.ai k).value=v) then (aD x.ai k).changed else x.ad,x.ad,1+(reads.length:Int),false⟩
end Go.Rc
namespace Go.Rc
open Go
end Go.Rc
namespace Go.Rc
open Go
structure ob where
 eT:Key
 read:Key
 deriving DecidableEq
def ob.cells(x:ob):List Value:=[.int .i64 x.eT.kind,.string x.eT.text,.int .i64 x.read.kind,.string x.read.text]
def cA(group:List Key) (m:Key) (l:List Key):List ob:=(l.filter fun x=>!decide (x∈group)).map fun x=>⟨m,x⟩
def bW(l:List Rec) (group:List Key):List ob:=group.flatMap fun m=>cA group m (aD l m).reads
theorem ku{group:List Key}{m:Key}{l:List Key}{j:Nat}(h:j<l.length):cA group m (l.take (j+1))=if l[j]∈group then cA group m (l.take j) else cA group m (l.take j)++[⟨m,l[j]⟩]:=by
 rw [List.take_succ_eq_append_getElem h];simp only [cA,List.filter_append,List.map_append]
 grind
theorem iX(group:List Key) (m:Key) (l:List Key):(cA group m l).length≤l.length:=by grind [cA]
end Go.Rc
namespace Go.Rc
end Go.Rc

namespace Go.Rc
open Go
variable {E EK ER EI ES EF base:Nat}{w w':World}{a:Option Addr}{n c:Nat}{S:List Nat}
structure bT where
 key:Key
 running:Bool
 at_:Int
 reads:List Key
 ae:List ByteArray
 deriving DecidableEq
def bT.row(x:bT) (a1:Option Addr) (n1 c1:Nat) (a2:Option Addr) (n2 c2:Nat):List Value:=[.int .i64 x.key.kind,.string x.key.text,.bool x.running,.int .i64 x.at_,.slice a1 n1 c1,.slice a2 n2 c2]
/-! the plain meaning -/
def eb(l:List bT) (k:Key):Bool:=l.any fun f=>decide (f.key=k)
def cG(x:bZ) (l:List bT) (k:Key):Bool:=!(ax k || eb l k) && (!(ay x.ai k).isSome || decide ((aD x.ai k).ak≠x.ad))
def bD(x:bZ) (l others:List bT) (k:Key):Int:=
 if !aw k && eb l k then 3 else if !cG x l k then 0 else if !eb others k then 1 else if aw k then 0 else 2
end Go.Rc
namespace Go.Rc
open Go
variable {EA ERu:Nat}{w w':World}{a:Option Addr}{n c base:Nat}{S:List Nat}
end Go.Rc

namespace Go.Rc
open Go
def RR.key:RR Key:=RR.flat Key.cells
def RR.str:RR ByteArray:=RR.flat fun s=>[.string s]
def RR.ask:RR Ask:=RR.flat Ask.cells
def RR.aC:RR bG:=RR.flat bG.cells
def RR.AG:RR ob:=RR.flat ob.cells
def RR.int:RR Int:=RR.flat fun n=>[.int .i64 n]
def RR.eU:RR aF where
 r Z w x row:=uM Z w x row
 mono hZ h:=by obtain⟨a,n,c,h1,h2⟩:=h;exact⟨a,n,c,h1,h2.mono (fun b hb _=>hZ b hb) fun _ _ h=>h⟩
 st hs hc h:=by obtain⟨a,n,c,h1,h2⟩:=h;exact⟨a,n,c,h1,SR.st hs hc (fun _ _ h=>h) h2⟩
 cut h:=by obtain⟨a,n,c,h1,h2⟩:=h;exact⟨a,n,c,h1,h2.mono (fun b hb rD=>⟨hb,rD⟩) fun _ _ h=>h⟩
def RR.iz:RR Rec where
 r Z w x row:=∃a n c,row=x.row a n c∧Rd RR.key 2 Z w a n c x.reads∧x.reads.length≤4000
 mono hZ h:=by obtain⟨a,n,c,h1,h2,h3⟩:=h;exact⟨a,n,c,h1,h2.mono hZ,h3⟩
 st hs hc h:=by obtain⟨a,n,c,h1,h2,h3⟩:=h;exact⟨a,n,c,h1,h2.st hs hc,h3⟩
 cut h:=by grind [Rd.cut]
end Go.Rc

namespace Go.Rc
open Go
/-! ### numbers and their texts -/
theorem o7:∀(u:Nat) (n:Nat) (rest:List UInt8),decFrom (Lib.decDigits u++rest) (n:Int)=decFrom rest ((n*10 ^ Lib.nDigits u+u:Nat):Int):=by
 intro u
 induction u using Nat.strongRecOn with
 | _ u m=>
  intro n rest
  by_cases h:u<10
  ·
   rw [Lib.decDigits_one h,Lib.nDigits_small h]
   have e:(UInt8.ofNat (48+u)).toNat=48+u:=by rw [UInt8.toNat_ofNat'];omega
   simp only [List.cons_append,List.nil_append,decFrom,e]
   grind
  rw [Lib.decDigits,dif_neg h,Lib.nDigits_big h,List.append_assoc,m (u / 10) (by omega)]
  have e:(UInt8.ofNat (48+u % 10)).toNat=48+u % 10:=by rw [UInt8.toNat_ofNat'];omega
  simp only [List.cons_append,List.nil_append,decFrom,e]
  grind
theorem o8:∀u:Nat,∃d r,Lib.decDigits u=d::r∧(0<u→d≠48):=by
 intro u
 induction u using Nat.strongRecOn with
 | _ u m=>
  by_cases h:u<10
  ·
   refine⟨_,[],Lib.decDigits_one h,fun hu e=>?_⟩
   have:=congrArg UInt8.toNat e
   rw [UInt8.toNat_ofNat'] at this
   grind
  obtain⟨d,r,h1,q⟩:=m (u / 10) (by omega);exact⟨d,r++[UInt8.ofNat (48+u % 10)],by rw [Lib.decDigits,dif_neg h,h1];rfl,fun _=>q (by omega)⟩
theorem o9:∀(k u:Nat),u<10 ^ (k+1)→Lib.nDigits u≤k+1
 | 0,u,h=>by grind [Lib.nDigits_small]
 | k+1,u,h=>by
  by_cases h1:u<10
  ·
   rw [Lib.nDigits_small h1];omega
  rw [Lib.nDigits_big h1]
  have:=o9 k (u / 10) (by rw [Nat.pow_succ] at h;omega)
  omega
theorem gy{n:Nat}(h:n<1000000000):cT (itoa (n:Int))=n:=by
 have e:Lib.itoa (n:Int)=Lib.decDigits n:=by unfold Lib.itoa;rw [if_neg (by omega)];rfl
 have hl:(Lib.decDigits n).length≤9:=by rw [Lib.decDigits_length];exact o9 8 n h
 have z:1≤(Lib.decDigits n).length:=by grind [Lib.decDigits_length,Lib.nDigits_pos]
 have q:(itoa (n:Int)).size=(Lib.decDigits n).length:=by grind [itoa,ByteArray.size]
 have m:(itoa (n:Int)).data.toList=Lib.decDigits n:=by unfold itoa;rw [e]
 unfold cT
 rw [if_neg]
 ·
  rw [m,← List.append_nil (Lib.decDigits n)]
  have:=o7 n 0 []
  simp only [Nat.zero_mul,Nat.zero_add] at this;exact this
 rw [q,m];rintro(h1 | h1 | ⟨h1,A⟩)
 ·
  omega
 ·
  omega
 obtain⟨d,r,s,t⟩:=o8 n;rw [s] at h1
 simp at h1
 by_cases h0:0<n
 ·
  exact t h0 h1
 grind [Lib.decDigits_one]
theorem dc{n:Nat}(h:n≤65535):ct (itoa (n:Int))=n:=by
 unfold ct
 rw [gy (by omega),if_neg (by omega)]
 rfl
theorem Bq{m n:Nat}(hm:m<1000000000) (hn:n<1000000000) (h:itoa (m:Int)=itoa (n:Int)):m=n:=by grind [gy]
/-! ### keys -/
theorem br{aa:List aF}{i:Nat}(hi:i<aa.length) (gT:i≤99):number (aK aa (i:Int))=i:=by
 have hk:aK aa (i:Int)=⟨if az aa i then 32 else 31,itoa i⟩:=by unfold aK;rw [if_neg (by omega)];rfl
 rw [hk]
 unfold number
 simp only
 rw [gy (by omega),if_pos]
 split <;> omega
theorem cY{aa:List aF}{i:Nat}(hi:i<aa.length) (gT:i≤99):(aK aa (i:Int)).kind=if az aa i then 32 else 31:=by
 unfold aK;rw [if_neg (by omega)];rfl
theorem bQ{aa:List aF}{i:Nat}(hi:i<aa.length) (gT:i≤99):ax (aK aa (i:Int))=false:=by grind [ax,cY]
theorem aY{n:Nat}(h:n≤99):ax (bd (n:Int))=true:=by
 unfold ax bd;rw [if_neg (by omega)];simp
theorem bu{aa:List aF}{i:Nat}(hi:i<aa.length) (gT:i≤99):aw (aK aa (i:Int))=az aa i:=by grind [aw,cY]
theorem gL{n:Nat}(h:n≤99):aw (bd (n:Int))=false:=by
 unfold aw bd;rw [if_neg (by omega)];simp
inductive eV (aa:List aF):Key→Prop where
 | cell {n:Nat}(h:n≤99):eV aa (bd (n:Int))
 | eU {i:Nat}(h:i<aa.length) (gT:i≤99):eV aa (aK aa (i:Int))
/-! ### values -/
def cellOf(aC:List bG) (k:Key):ByteArray:=(aL aC k).value
def cZ(turn:List ByteArray→uR) (fk:Key→ByteArray):Nat→List Key × List ByteArray
 | 0=>([],[])
 | n+1=>((cZ turn fk n).1++[(turn (cZ turn fk n).2).ask],(cZ turn fk n).2++[fk (turn (cZ turn fk n).2).ask])
def Br(aC:List bG) (prev:List ByteArray) (k:Key):ByteArray:=if ax k then cellOf aC k else prev.getD (number k).toNat ⟨#[]⟩
def cj(aa:List aF) (i:Nat):Nat:=(aa[i]?.map (·.asks.length)).getD 0
def aX(aa:List aF) (x:Ask):Key:=if x.cell then bd x.n else aK aa x.n
def du(aa:List aF) (i j:Nat):Prop:=∃r x,aa[i]?=some r∧r.ring=true∧x∈r.asks∧x.cell=false∧x.n=(j:Int)∧az aa j=true
inductive bY (aa:List aF) (i:Nat):Nat→Prop where
 | refl:bY aa i i
 | step {j k:Nat}:bY aa i j→du aa j k→bY aa i k
def outside(aa:List aF) (x:Ask):Bool:=x.cell || !az aa x.n.toNat
def hJ(aa:List aF) (fk:Key→ByteArray) (j:Nat):Nat:=
 match aa[j]? with
 | some r=>dy r.c.toNat ((r.asks.filter (outside aa)).map fun x=>ct (fk (aX aa x)))
 | none=>0
open Classical in
noncomputable def ofBits(P:Nat→Prop):Nat→Nat
 | 0=>0
 | n+1=>ofBits P n ||| (if P n then 2 ^ n else 0)
theorem zv(P:Nat→Prop):∀n,ofBits P n<2 ^ n:=by
 intro n
 induction n with
 | zero=>simp [ofBits]
 | succ n h=>
  unfold ofBits
  refine Nat.or_lt_two_pow (Nat.lt_of_lt_of_le h (Nat.pow_le_pow_right (by omega) (by omega))) ?_
  grind
theorem xv(P:Nat→Prop):∀n b,(ofBits P n).testBit b=true↔b<n∧P b:=by
 intro n
 induction n with
 | zero=>intro b;simp [ofBits]
 | succ n h=>
  intro b
  unfold ofBits
  grind
noncomputable def lN(aa:List aF) (fk:Key→ByteArray) (i:Nat):Nat:=ofBits (fun b=>∃j,bY aa i j∧(hJ aa fk j).testBit b=true) 16
noncomputable def lO(aa:List aF) (aC:List bG) (prev:List ByteArray) (i:Nat):ByteArray:=
 if az aa i then itoa (lN aa (Br aC prev) i:Int)
 else (bP aa (aK aa (i:Int)) (cZ (bP aa (aK aa (i:Int))) (Br aC prev) (cj aa i)).2).value
noncomputable def aV(aa:List aF) (aC:List bG):Nat→List ByteArray
 | 0=>[]
 | n+1=>aV aa aC n++[lO aa aC (aV aa aC n) n]
noncomputable def oc(aa:List aF) (aC:List bG) (i:Nat):ByteArray:=lO aa aC (aV aa aC i) i
noncomputable def valOf(aa:List aF) (aC:List bG) (k:Key):ByteArray:=if ax k then cellOf aC k else oc aa aC (number k).toNat
section
variable {aa:List aF}{aC:List bG}
theorem Bs:∀n,(aV aa aC n).length=n:=by
 intro n;induction n with
 | zero=>rfl
 | succ n h=>simp [aV,h]
theorem Bt:∀n m,m<n→(aV aa aC n).getD m ⟨#[]⟩=oc aa aC m:=by
 intro n
 induction n with
 | zero=>intro m h;omega
 | succ n q=>grind [aV,Bs,oc]
theorem rF{n:Nat}{k:Key}(h:ax k=true∨(number k).toNat<n):Br aC (aV aa aC n) k=valOf aa aC k:=by
 unfold Br valOf
 by_cases hi:ax k=true
 ·
  rw [if_pos hi,if_pos hi]
 rw [if_neg hi,if_neg hi,Bt]
 grind
theorem eL(turn:List ByteArray→uR) (fk:Key→ByteArray):∀n,(cZ turn fk n).1.length=n∧(cZ turn fk n).2.length=n:=by
 intro n;induction n with
 | zero=>simp [cZ]
 | succ n h=>simp [cZ,h.1,h.2]
theorem kN{turn:List ByteArray→uR}{fk h:Key→ByteArray}:∀n,(∀m,m<n→fk (turn (cZ turn fk m).2).ask=h (turn (cZ turn fk m).2).ask)→cZ turn fk n=cZ turn h n:=by
 intro n
 induction n with
 | zero=>intro _;rfl
 | succ n q=>grind [cZ]
end
/-! ### what valid rules ask for -/
section
variable {aa:List aF}{aC:List bG}
theorem dO(l:List aF):∀k,aZ l k≤k:=by
 intro k;induction k with
 | zero=>simp [aZ]
 | succ k h=>unfold aZ;split <;> omega
theorem rG(l:List aF) {m:Nat}(h:m≤l.length):cF l m≤l.length:=by grind [cF,List.takeWhile_sublist]
theorem uZ{i:Nat}(hi:i<aa.length):block aa (i:Int)=if az aa i then ((aZ aa i:Int),(cF aa (i+1):Int)) else ((i:Int),(i:Int)+1):=by
 unfold block;rw [if_neg (by omega)];rfl
theorem kO{i j:Nat}(hi:az aa i=true) (h1:aZ aa i≤j) (r:j<cF aa (i+1)):az aa j=true:=by
 have s:∀k,aZ aa k≤j→j<k→az aa j=true:=by
  intro k
  induction k with
  | zero=>intro _ h;omega
  | succ k B=>
   intro t C
   unfold aZ at t
   grind
 rcases Nat.lt_trichotomy j i with h | h | h
 ·
  exact s i h1 h
 ·
  rw [h];exact hi
 have key:∀(l:List aF) (m j:Nat),m≤j→j<m+((l.drop m).takeWhile (·.ring)).length→az l j=true:=by
  intro l m j hm D
  have q:j - m<((l.drop m).takeWhile (·.ring)).length:=by omega
  have z:=List.getElem_mem q;have hr:=List.all_eq_true.1 (List.all_takeWhile (p:=fun x:aF=>x.ring) (l:=l.drop m)) _ z;have A:((l.drop m).takeWhile (·.ring)) <+: l.drop m:=List.takeWhile_prefix _;have G:=A.getElem q
  grind [bm]
 exact key aa (i+1) j (by omega) r
theorem iC{i:Nat}(hi:i<aa.length) (hlen:aa.length≤24) {c:Bool}{n:Int}(h:eK aa i c n=true) :
  ∃m:Nat,n=m∧if c then m≤15 else m<aa.length∧(az aa m=true∧az aa i=true∨m<i)∧(az aa i=false→m<i)∧(az aa m=false→m<i):=by
 unfold eK at h
 cases c
 ·
  simp only [Bool.false_eq_true,if_false,Bool.and_eq_true,decide_eq_true_eq] at h ⊢;obtain⟨m,rfl⟩:∃m:Nat,n=m:=⟨n.toNat,by omega⟩;refine⟨m,rfl,?_⟩;have q:=h.2
  unfold eR at q
  rw [uZ hi] at q
  by_cases hr:az aa i=true
  ·
   rw [if_pos hr] at q;simp only [hr,if_true] at q
   have s:m<cF aa (i+1):=by omega
   have t:=rG aa (show i+1≤aa.length by omega);refine⟨by omega,?_,(fun h=>by rw [hr] at h;cases h),?_⟩
   ·
    by_cases r:m<i
    ·
     exact .inr r
    grind [kO,dO]
   grind [kO,dO]
  grind
 simp only [if_true,Bool.and_eq_true,decide_eq_true_eq] at h ⊢;exact⟨n.toNat,by omega,by omega⟩
end
end Go.Rc

namespace Go.Rc
open Go
section
variable {aa:List aF}{aC:List bG}
theorem ao.len(h:ao aa):aa.length≤24:=h.1
theorem ao.at(h:ao aa) {i:Nat}(hi:i<aa.length):kL aa i aa[i]:=h.2 i _ (ah hi)
theorem dA{i:Nat}(hi:i<aa.length):cj aa i=aa[i].asks.length:=by grind [cj]
theorem xw{m lo:Nat}(h1:lo≤m) (h:∀j,lo≤j→j<m→az aa j=true):aZ aa m≤lo:=by
 induction m with
 | zero=>simp [aZ]
 | succ m q=>
  by_cases e:lo=m+1
  ·
   rw [e];exact dO _ _
  unfold aZ
  grind
theorem lP(_hR:ao aa) {i:Nat}(hi:i<aa.length) (hr:az aa i=true) {m:Nat}(h:eK aa i false (m:Int)=true) :
  m<aa.length∧(az aa m=true→aZ aa m≤aZ aa i)∧(az aa m=false→m<aZ aa i):=by
 unfold eK at h
 simp only [Bool.false_eq_true,if_false,Bool.and_eq_true,decide_eq_true_eq] at h;have q:=h.2
 unfold eR at q
 rw [uZ hi,if_pos hr] at q;simp only [hr,if_true] at q
 grind [rG,xw,kO]
def dh(aa:List aF) (i:Nat) (k:Key):Prop:=
 (∃n:Nat,n≤15∧k=bd (n:Int))∨
 (∃m:Nat,m<aa.length∧k=aK aa (m:Int)∧(az aa m=true∧az aa i=true∨m<i)∧(az aa i=false→m<i)∧(az aa m=false→m<i)∧(az aa m=false→az aa i=true→m<aZ aa i))
theorem sO(r:ao aa) {i:Nat}(hi:i<aa.length) {c:Bool}{n:Int}(h:eK aa i c n=true):dh aa i (if c then bd n else aK aa n):=by
 obtain⟨m,rfl,q⟩:=iC hi r.len h
 cases c
 ·
  exact .inr ⟨m,q.1,rfl,q.2.1,q.2.2.1,q.2.2.2,fun s t=>(lP r hi t h).2.2 s⟩
 exact .inl ⟨m,q,rfl⟩
theorem dh.LO(q:ao aa) {i:Nat}{k:Key}(h:dh aa i k):eV aa k:=by
 have:=q.len
 rcases h with⟨n,h1,rfl⟩ | ⟨m,h1,rfl,_⟩
 ·
  exact .cell (by omega)
 exact .eU h1 (by omega)
theorem HF(m:ao aa) {i n:Nat}(hi:i<aa.length) (hn:n<aa[i].asks.length) (ae:List ByteArray) (hl:ae.length=n) :
  dh aa i (if aa[i].asks[n].cell then bd (oS aa[i].asks[n] ae) else aK aa (oS aa[i].asks[n] ae)):=by
 obtain⟨_,r,_⟩:=m.at hi;have h:=r n _ (ah hn)
 unfold fG at h
 rw [Bool.and_eq_true] at h
 unfold oS
 by_cases q:fT aa[i].asks[n] ae=true
 ·
  rw [if_pos q]
  have s:aa[i].asks[n].pick=true:=by grind [fT]
  rw [s] at h;simp only [if_true,Bool.and_eq_true] at h;exact sO m hi h.2.2
 rw [if_neg q];exact sO m hi h.1
theorem dB(h:ao aa) {i:Nat}(hi:i<aa.length) {ae:List ByteArray}(hn:ae.length<cj aa i) :
  ∃a,bP aa (aK aa (i:Int)) ae=⟨false,⟨#[]⟩,a⟩∧dh aa i a∧(az aa i=true→∃x,aa[i].asks[ae.length]?=some x∧a=aX aa x):=by
 have r:=h.len;rw [dA hi] at hn;have hk:=br hi (by omega:i≤99);refine⟨_,gF hk hi (by rw [hk]) hn,HF h hi hn ae rfl,fun hr=>⟨_,ah hn,?_⟩⟩;obtain⟨_,q,_⟩:=h.at hi;have m:=q _ _ (ah hn)
 unfold fG at m
 rw [Bool.and_eq_true] at m
 grind [bm,aX,oS,fT]
theorem fW(h:ao aa) {i:Nat}(hi:i<aa.length) {ae:List ByteArray}(hn:ae.length=cj aa i) :
  bP aa (aK aa (i:Int)) ae=⟨true,itoa (cU aa[i].final aa[i].c.toNat (ae.map ct)),de⟩:=by grind [ao.len,dA,br,iq]
theorem pa(h:ao aa) {i:Nat}(hi:i<aa.length):cj aa i≤6:=by rw [dA hi];exact(h.at hi).1
theorem sP(q:ao aa) {i:Nat}{k:Key}(h:dh aa i k) (hr:az aa i=false∨aw k=false):ax k=true∨(number k).toNat<i:=by
 have r:=q.len
 rcases h with⟨n,h1,rfl⟩ | ⟨m,h1,rfl,s,t,z,_⟩
 ·
  grind [aY]
 grind [br,bu]
theorem zw(m:ao aa) {i:Nat}(hi:i<aa.length) (hr:az aa i=false) :
  bP aa (aK aa (i:Int)) (cZ (bP aa (aK aa (i:Int))) (valOf aa aC) (cj aa i)).2=⟨true,oc aa aC i,de⟩:=by
 have h:oc aa aC i=(bP aa (aK aa (i:Int)) (cZ (bP aa (aK aa (i:Int))) (valOf aa aC) (cj aa i)).2).value:=by
  unfold oc lO
  rw [if_neg (by simp [hr])]
  grind [kN,dB,eL,rF,sP]
 grind [fW,eL]
/-! rings -/
theorem fK(h:ao aa) {i:Nat}(hi:i<aa.length) (_hr:az aa i=true) {x:Ask}(m:x∈aa[i].asks):eK aa i x.cell x.n=true:=by
 obtain⟨k,hk,rfl⟩:=List.mem_iff_getElem.1 m
 have:=(h.at hi).2.1 k _ (ah hk)
 unfold fG at this
 grind
theorem du.lt{i j:Nat}(h:du aa i j):i<aa.length∧j<aa.length∧az aa i=true∧az aa j=true:=by
 obtain⟨r,x,h1,m,_,_,_,q⟩:=h
 grind [iR,bm]
theorem eW{i j:Nat}(hi:i<aa.length) (hr:az aa i=true) (h:bY aa i j):j<aa.length∧az aa j=true:=by
 induction h with
 | refl=>exact⟨hi,hr⟩
 | step _ m _=>exact⟨m.lt.2.1,m.lt.2.2.2⟩
theorem gM(q:ao aa) {i j:Nat}(h:bY aa i j):aZ aa j≤aZ aa i:=by
 induction h with
 | refl=>exact Nat.le_refl _
 | step h1 m s=>
  have hl:=m.lt;obtain⟨r,x,t,z,A,B,C,D⟩:=m
  grind [fK,lP]
theorem bY.head{i j k:Nat}(h:du aa i j) (m:bY aa j k):bY aa i k:=by
 induction m with
 | refl=>exact .step .refl h
 | step _ q r=>exact .step r q
theorem bY.cases{i k:Nat}(h:bY aa i k):k=i∨∃j,du aa i j∧bY aa j k:=by
 induction h with
 | refl=>exact .inl rfl
 | step h1 m q=>
  right
  rcases q with rfl | ⟨j,r,s⟩
  ·
   exact⟨_,m,.refl⟩
  exact⟨j,r,.step s m⟩
theorem iD:∀(l:List Nat) (c b:Nat),(dy c l).testBit b=true↔c.testBit b=true∨∃x∈l,x.testBit b=true:=by
 intro l
 induction l with
 | nil=>intro c b;simp [dy]
 | cons x r h=>
  intro c b
  have:=h (c ||| x) b
  simp only [dy,List.foldl_cons] at this ⊢
  grind
theorem sQ(m:ao aa) {i:Nat}(hi:i<aa.length) (hr:az aa i=true):aa[i].final=5∧aa[i].c.toNat≤65535:=by
 have h:=(m.at hi).2.2
 grind [oT,bm]
theorem rH{n b:Nat}(h:n≤65535) (hb:n.testBit b=true):b<16:=by
 rcases Nat.lt_or_ge b 16 with h1 | h1
 ·
  exact h1
 have:=Nat.ge_two_pow_of_testBit hb
 have m:2 ^ 16≤2 ^ b:=Nat.pow_le_pow_right (by omega) h1
 omega
theorem cQ{fk:Key→ByteArray}{i:Nat}(hi:i<aa.length) (b:Nat) :
  (hJ aa fk i).testBit b=true↔aa[i].c.toNat.testBit b=true∨∃x∈aa[i].asks,outside aa x=true∧(ct (fk (aX aa x))).testBit b=true:=by
 unfold hJ
 rw [ah hi];simp only [iD,List.mem_map,List.mem_filter]
 grind
theorem Bu(m:ao aa) {fk:Key→ByteArray}{i:Nat}(hi:i<aa.length) (hr:az aa i=true) {b:Nat}(h:(hJ aa fk i).testBit b=true):b<16:=by
 rcases(cQ hi b).1 h with h1 | ⟨x,_,_,h1⟩
 ·
  exact rH (sQ m hi hr).2 h1
 exact rH (lB _) h1
theorem cE(r:ao aa) {fk:Key→ByteArray}{i:Nat}(hi:i<aa.length) (hr:az aa i=true) (b:Nat) :
  (lN aa fk i).testBit b=true↔∃j,bY aa i j∧(hJ aa fk j).testBit b=true:=by
 unfold lN
 rw [xv]
 constructor
 ·
  exact fun h=>h.2
 rintro⟨j,h1,m⟩;have q:=eW hi hr h1;exact⟨Bu r q.1 q.2 m,j,h1,m⟩
theorem u0{fk:Key→ByteArray}(i:Nat):lN aa fk i≤65535:=by
 have:=zv (fun b=>∃j,bY aa i j∧(hJ aa fk j).testBit b=true) 16
 unfold lN;omega
noncomputable def rv(aa:List aF) (aC:List bG) (i:Nat):Nat:=lN aa (valOf aa aC) i
theorem lQ(q:ao aa) {i:Nat}(hi:i<aa.length) (hr:az aa i=true) {x:Ask}(s:x∈aa[i].asks) (r:outside aa x=true):ax (aX aa x)=true∨(number (aX aa x)).toNat<aZ aa i:=by
 have t:=q.len;have hm:=fK q hi hr s;obtain⟨m,h1,h⟩:=iC hi q.len hm
 unfold aX
 unfold outside at r
 cases hc:x.cell
 ·
  rw [hc] at hm r h
  right
  simp only [Bool.false_eq_true,if_false] at h ⊢
  grind [br,lP]
 left
 rw [hc] at h;simp only [if_true] at h ⊢
 grind [aY]
theorem fL(m:ao aa) {i:Nat}(hi:i<aa.length) (hr:az aa i=true):oc aa aC i=itoa (rv aa aC i:Int):=by
 unfold oc lO rv
 rw [if_pos hr]
 congr 2
 refine Nat.eq_of_testBit_eq fun b=>?_;rw [Bool.eq_iff_iff,cE m hi hr,cE m hi hr]
 have key:∀j,bY aa i j→((hJ aa (Br aC (aV aa aC i)) j).testBit b=true↔(hJ aa (valOf aa aC) j).testBit b=true):=by
  intro j h;have q:=eW hi hr h;have r:=gM m h;have hle:=dO aa i;rw [cQ q.1,cQ q.1];refine or_congr_right (exists_congr fun x=>and_congr_right fun s=>and_congr_right fun t=>?_);rw [rF]
  grind [lQ]
 grind
theorem fc(h:ao aa) {i:Nat}(hi:i<aa.length):valOf aa aC (aK aa (i:Int))=oc aa aC i:=by
 have m:=h.len
 unfold valOf
 rw [if_neg (by grind [bQ]),br hi (by omega)]
 rfl
theorem jE{n:Nat}(h:n≤99):valOf aa aC (bd (n:Int))=cellOf aC (bd (n:Int)):=by
 unfold valOf;rw [if_pos (aY h)]
def j5(aa:List aF) (fk:Key→ByteArray) (i:Nat):List Nat:=((aa[i]?.map (·.asks)).getD []).map fun x=>ct (fk (aX aa x))
theorem rI(h:ao aa) {i:Nat}(hi:i<aa.length) (hr:az aa i=true) (fk:Key→ByteArray):∀n,n≤aa[i].asks.length→
  cZ (bP aa (aK aa (i:Int))) fk n=((aa[i].asks.take n).map (aX aa),(aa[i].asks.take n).map fun x=>fk (aX aa x)):=by
 intro n
 induction n with
 | zero=>intro _;simp [cZ]
 | succ n m=>
  intro hn;have e:=m (by omega);simp only [cZ]
  have hlen:((aa[i].asks.take n).map fun x=>fk (aX aa x)).length=n:=by simp;omega
  obtain⟨a,h1,_,q⟩:=dB h hi (ae:=(aa[i].asks.take n).map fun x=>fk (aX aa x)) (by rw [hlen,dA hi];omega)
  grind [List.take_succ_eq_append_getElem]
theorem zx(h:ao aa) {i:Nat}(hi:i<aa.length) (hr:az aa i=true) (fk:Key→ByteArray) :
  bP aa (aK aa (i:Int)) (cZ (bP aa (aK aa (i:Int))) fk (cj aa i)).2=⟨true,itoa (dy aa[i].c.toNat (j5 aa fk i):Int),de⟩:=by
 rw [fW h hi ((eL _ _ _).2),rI h hi hr fk _ (by rw [dA hi];exact Nat.le_refl _),(sQ h hi hr).1,dA hi]
 unfold j5
 rw [ah hi];simp only [List.take_length,List.map_map,Option.map_some,Option.getD_some]
 rfl
theorem nE{fk:Key→ByteArray}{i:Nat}(hi:i<aa.length) (b:Nat) :
  (dy aa[i].c.toNat (j5 aa fk i)).testBit b=true↔(hJ aa fk i).testBit b=true∨∃x∈aa[i].asks,outside aa x=false∧(ct (fk (aX aa x))).testBit b=true:=by
 rw [iD,cQ hi]
 unfold j5
 grind
theorem fM(r:ao aa) {i:Nat}(hi:i<aa.length) (hr:az aa i=true) {x:Ask}(s:x∈aa[i].asks) (h:outside aa x=false):∃j:Nat,du aa i j∧aX aa x=aK aa (j:Int)∧j<aa.length:=by
 have hm:=fK r hi hr s
 unfold outside at h
 rw [Bool.or_eq_false_iff] at h;obtain⟨m,h1,q⟩:=iC hi r.len hm;rw [h.1] at q;simp only [Bool.false_eq_true,if_false] at q
 have t:az aa m=true:=by grind
 refine⟨m,⟨_,x,ah hi,by rw [← bm hi];exact hr,s,h.1,h1,t⟩,?_,q.1⟩
 grind [aX]
theorem iY{i j:Nat}(hi:i<aa.length) (h:du aa i j):∃x∈aa[i].asks,outside aa x=false∧aX aa x=aK aa (j:Int):=by
 obtain⟨r,x,h1,_,m,q,s,t⟩:=h
 grind [outside,aX]
theorem HG(q:ao aa) {i:Nat}(hi:i<aa.length) (hr:az aa i=true):dy aa[i].c.toNat (j5 aa (valOf aa aC) i)=rv aa aC i:=by
 refine Nat.eq_of_testBit_eq fun b=>?_;rw [Bool.eq_iff_iff,nE hi]
 unfold rv
 rw [cE q hi hr]
 have B:∀j,j<aa.length→az aa j=true→ct (valOf aa aC (aK aa (j:Int)))=lN aa (valOf aa aC) j:=fun j C D=>by
  rw [fc q C,fL q C D];exact dc (u0 j)
 constructor
 ·
  rintro(h | ⟨x,h1,s,m⟩)
  ·
   exact⟨i,.refl,h⟩
  obtain⟨j,r,z,t⟩:=fM q hi hr h1 s;rw [z,B j t r.lt.2.2.2,cE q t r.lt.2.2.2] at m;obtain⟨k,A,G⟩:=m;exact⟨k,.head r A,G⟩
 rintro⟨k,h1,s⟩
 rcases h1.cases with rfl | ⟨j,m,r⟩
 ·
  exact .inl s
 right
 obtain⟨x,z,t,A⟩:=iY hi m;refine⟨x,z,t,?_⟩;rw [A,B j m.lt.2.1 m.lt.2.2.2,cE q m.lt.2.1 m.lt.2.2.2];exact⟨k,r,s⟩
theorem Bv(r:ao aa) {i:Nat}(hi:i<aa.length) (hr:az aa i=true) (v:Nat→Nat)
  (h1:∀j b,bY aa i j→(hJ aa (valOf aa aC) j).testBit b=true→(v j).testBit b=true)
  (s:∀j k b,bY aa i j→du aa j k→(v k).testBit b=true→(v j).testBit b=true) (b:Nat) (hb:(rv aa aC i).testBit b=true):(v i).testBit b=true:=by
 unfold rv at hb
 rw [cE r hi hr] at hb;obtain⟨j,h,m⟩:=hb;have q:=h1 j b h m
 clear m
 induction h with
 | refl=>exact q
 | step t z A=>exact A (s _ _ b t z q)
theorem di(h:ao aa) {i:Nat}(hi:i<aa.length) :
  bP aa (aK aa (i:Int)) (cZ (bP aa (aK aa (i:Int))) (valOf aa aC) (cj aa i)).2=⟨true,valOf aa aC (aK aa (i:Int)),de⟩:=by grind [fc,zw,zx,HG,fL]
end
end Go.Rc

