/- Base of the proof: frames, memory, ownership, and the plain meaning of rule systems. Conditions: as each lemma says. -/
import Derived.Test.YthljjmhdkbeghaaGreatDoorIBb
import Derived.Test.YthljjmhdkbeghaaGreatDoorIBd
import Derived.Lib.IfaceEq
import Derived.Lib.BufferWrite
import Derived.Lib.UnsafeStr
import Derived.Laws.MakeOwn
import Derived.Test.YthljjmhdkbeghaaGreatDoorIBc
set_option linter.unusedVariables false
set_option linter.unusedSimpArgs false
set_option linter.unusedSectionVars false
namespace Go.Rc
open Go
section
variable {P:Program} {n:Nat} {kv:KV} {w:World} {d:Tmp} {ty:TypeId} {pos:String} {af:Array Edge} {g:Option (Nat × Bool)}
theorem WL.a {ops:Array Oper} {Q:Exit→Act→World→Prop} {rest:List Oper} {op:Op} {v:Value} (next:WL P ops Q rest n ((d,v)::kv) w)
  (hg:gd ops kv ⟨some d,op,ty,pos,af,g⟩=some true:=by rfl) (hd:Nat.blt d n=true:=by rfl)
  (h:PV P op ty kv w v:=by
   first
   | with_reducible exact PV.mv (by with_unfolding_all rfl) | with_reducible exact PV.ext (by with_unfolding_all rfl) (by with_unfolding_all rfl) | with_reducible exact PV.fa CFA.h (by with_unfolding_all rfl) | with_reducible exact PV.as (by with_unfolding_all rfl) | with_reducible exact PV.nilc (by with_unfolding_all rfl) | with_reducible exact PV.len' CSl.h (by with_unfolding_all rfl) | with_reducible exact PV.not (by with_unfolding_all rfl)
   | with_reducible exact PV.eqi (by with_unfolding_all rfl) (by with_unfolding_all rfl) | with_reducible exact PV.nei (by with_unfolding_all rfl) (by with_unfolding_all rfl) | with_reducible exact PV.lss (by with_unfolding_all rfl) (by with_unfolding_all rfl) | with_reducible exact PV.leq (by with_unfolding_all rfl) (by with_unfolding_all rfl) | with_reducible exact PV.gtr (by with_unfolding_all rfl) (by with_unfolding_all rfl) | with_reducible exact PV.geq (by with_unfolding_all rfl) (by with_unfolding_all rfl)
   | with_reducible exact PV.eqs (by with_unfolding_all rfl) (by with_unfolding_all rfl) | with_reducible exact PV.nes (by with_unfolding_all rfl) (by with_unfolding_all rfl) | with_reducible exact PV.eqK CKey.h (by with_unfolding_all rfl) (by with_unfolding_all rfl) | with_reducible exact PV.neK CKey.h (by with_unfolding_all rfl) (by with_unfolding_all rfl)
   | with_reducible exact PV.pickT (by with_unfolding_all rfl) (by with_unfolding_all rfl) (by with_unfolding_all rfl) | with_reducible exact PV.pickF (by with_unfolding_all rfl) (by with_unfolding_all rfl) (by with_unfolding_all rfl)
   | with_reducible exact PV.add (by with_unfolding_all rfl) (by with_unfolding_all rfl) (by omega) (by omega) | with_reducible exact PV.sub (by with_unfolding_all rfl) (by with_unfolding_all rfl) (by omega) (by omega) | with_reducible exact PV.mul (by with_unfolding_all rfl) (by with_unfolding_all rfl) (by omega) (by omega)
   | with_reducible exact PV.rem (by with_unfolding_all rfl) (by with_unfolding_all rfl) (by omega) | with_reducible exact PV.quo (by with_unfolding_all rfl) (by with_unfolding_all rfl) (by omega) (by omega) (by omega) | with_reducible exact PV.cat (by with_unfolding_all rfl) (by with_unfolding_all rfl) (by omega)
   | with_reducible exact PV.zero CBT.h | with_reducible exact PV.eqPN CUnd.h (by with_unfolding_all rfl) (by with_unfolding_all rfl) | with_reducible exact PV.nePN CUnd.h (by with_unfolding_all rfl) (by with_unfolding_all rfl) | with_reducible exact PV.eqSN CUnd.h (by with_unfolding_all rfl) (by with_unfolding_all rfl) | with_reducible exact PV.lenS CUnd.h (by with_unfolding_all rfl) | with_reducible exact PV.minI (by with_unfolding_all rfl) (by with_unfolding_all rfl) | with_reducible exact PV.maxI (by with_unfolding_all rfl) (by with_unfolding_all rfl)) :
  WL P ops Q (⟨some d,op,ty,pos,af,g⟩::rest) n kv w:=WL.p hg hd h next
theorem DW.a {ops:Array Oper} {i:Nat} {C:World→Prop} {T:Nat→World→World→Prop} {E:Nat→Option (Value→World→Prop)} {Fin:KV→World→Prop} {rest:List Oper} {F:Facts} {op:Op} {v:Value}
  (next:DW P ops n C T E Fin (i+1) rest ((d,v)::kv) F)
  (hg:gd ops kv ⟨some d,op,ty,pos,af,g⟩=some true:=by rfl) (hs:isSelect op=false:=by rfl) (hk:known kv op=true:=by rfl) (hd:Nat.blt d n=true:=by rfl) (hE:E i=none:=by rfl)
  (h:∀w,C w→PV P op ty kv w v:=by
   intro _ hC
   first
   | with_reducible exact PV.mv (by with_unfolding_all rfl) | with_reducible exact PV.ext (by with_unfolding_all rfl) (by with_unfolding_all rfl) | with_reducible exact PV.fa CFA.h (by with_unfolding_all rfl) | with_reducible exact PV.as (by with_unfolding_all rfl) | with_reducible exact PV.nilc (by with_unfolding_all rfl) | with_reducible exact PV.len' CSl.h (by with_unfolding_all rfl) | with_reducible exact PV.not (by with_unfolding_all rfl)
   | with_reducible exact PV.eqi (by with_unfolding_all rfl) (by with_unfolding_all rfl) | with_reducible exact PV.nei (by with_unfolding_all rfl) (by with_unfolding_all rfl) | with_reducible exact PV.lss (by with_unfolding_all rfl) (by with_unfolding_all rfl) | with_reducible exact PV.leq (by with_unfolding_all rfl) (by with_unfolding_all rfl) | with_reducible exact PV.gtr (by with_unfolding_all rfl) (by with_unfolding_all rfl) | with_reducible exact PV.geq (by with_unfolding_all rfl) (by with_unfolding_all rfl)
   | with_reducible exact PV.eqs (by with_unfolding_all rfl) (by with_unfolding_all rfl) | with_reducible exact PV.nes (by with_unfolding_all rfl) (by with_unfolding_all rfl) | with_reducible exact PV.eqK CKey.h (by with_unfolding_all rfl) (by with_unfolding_all rfl) | with_reducible exact PV.neK CKey.h (by with_unfolding_all rfl) (by with_unfolding_all rfl)
   | with_reducible exact PV.pickT (by with_unfolding_all rfl) (by with_unfolding_all rfl) (by with_unfolding_all rfl) | with_reducible exact PV.pickF (by with_unfolding_all rfl) (by with_unfolding_all rfl) (by with_unfolding_all rfl)
   | with_reducible exact PV.add (by with_unfolding_all rfl) (by with_unfolding_all rfl) (by omega) (by omega) | with_reducible exact PV.sub (by with_unfolding_all rfl) (by with_unfolding_all rfl) (by omega) (by omega) | with_reducible exact PV.mul (by with_unfolding_all rfl) (by with_unfolding_all rfl) (by omega) (by omega)
   | with_reducible exact PV.rem (by with_unfolding_all rfl) (by with_unfolding_all rfl) (by omega) | with_reducible exact PV.quo (by with_unfolding_all rfl) (by with_unfolding_all rfl) (by omega) (by omega) (by omega) | with_reducible exact PV.cat (by with_unfolding_all rfl) (by with_unfolding_all rfl) (by omega)
   | with_reducible exact PV.zero CBT.h | with_reducible exact PV.eqPN CUnd.h (by with_unfolding_all rfl) (by with_unfolding_all rfl) | with_reducible exact PV.nePN CUnd.h (by with_unfolding_all rfl) (by with_unfolding_all rfl) | with_reducible exact PV.eqSN CUnd.h (by with_unfolding_all rfl) (by with_unfolding_all rfl) | with_reducible exact PV.lenS CUnd.h (by with_unfolding_all rfl) | with_reducible exact PV.minI (by with_unfolding_all rfl) (by with_unfolding_all rfl) | with_reducible exact PV.maxI (by with_unfolding_all rfl) (by with_unfolding_all rfl)) :
  DW P ops n C T E Fin i (⟨some d,op,ty,pos,af,g⟩::rest) kv F:=DW.p hg hs hk hd hE h next
end
section
variable {P:Program} {n N:Nat} {w0:World} {M Z:Nat→Prop} {ls ls1:List As} {Fin:KV→World→Prop} {l:List Oper} {i:Nat} {σ':List Nat} {kv:KV} {sd:List (Nat × As)} {K:Nat→Kd} {d:Tmp} {op:Op} {ty:TypeId} {pos:String} {af:Array Edge} {g:Option (Nat × Bool)}
theorem DG.a {v:Value} (next:DG P l.toArray n w0 M N ls1 K Fin σ' ((d,v)::kv) sd Z ls)
  (ho:nthO l i=some ⟨some d,op,ty,pos,af,g⟩:=by rfl) (hg:gd l.toArray kv ⟨some d,op,ty,pos,af,g⟩=some true:=by rfl) (hs:isSelect op=false:=by rfl) (hk:known kv op=true:=by rfl) (hd:Nat.blt d n=true:=by rfl) (hK:(K i).isPure=true:=by rfl)
  (h:∀w Zx R,N≤w.heap.size→St w0 M Zx w R→(∀A∈ls1,A∈R)→PV P op ty kv w v:=by
   intro _ _ _ _ _ _
   first
   | with_reducible exact PV.mv (by with_unfolding_all rfl) | with_reducible exact PV.ext (by with_unfolding_all rfl) (by with_unfolding_all rfl) | with_reducible exact PV.fa CFA.h (by with_unfolding_all rfl) | with_reducible exact PV.as (by with_unfolding_all rfl) | with_reducible exact PV.nilc (by with_unfolding_all rfl) | with_reducible exact PV.len' CSl.h (by with_unfolding_all rfl) | with_reducible exact PV.not (by with_unfolding_all rfl)
   | with_reducible exact PV.eqi (by with_unfolding_all rfl) (by with_unfolding_all rfl) | with_reducible exact PV.nei (by with_unfolding_all rfl) (by with_unfolding_all rfl) | with_reducible exact PV.lss (by with_unfolding_all rfl) (by with_unfolding_all rfl) | with_reducible exact PV.leq (by with_unfolding_all rfl) (by with_unfolding_all rfl) | with_reducible exact PV.gtr (by with_unfolding_all rfl) (by with_unfolding_all rfl) | with_reducible exact PV.geq (by with_unfolding_all rfl) (by with_unfolding_all rfl)
   | with_reducible exact PV.eqs (by with_unfolding_all rfl) (by with_unfolding_all rfl) | with_reducible exact PV.nes (by with_unfolding_all rfl) (by with_unfolding_all rfl) | with_reducible exact PV.eqK CKey.h (by with_unfolding_all rfl) (by with_unfolding_all rfl) | with_reducible exact PV.neK CKey.h (by with_unfolding_all rfl) (by with_unfolding_all rfl)
   | with_reducible exact PV.pickT (by with_unfolding_all rfl) (by with_unfolding_all rfl) (by with_unfolding_all rfl) | with_reducible exact PV.pickF (by with_unfolding_all rfl) (by with_unfolding_all rfl) (by with_unfolding_all rfl)
   | with_reducible exact PV.add (by with_unfolding_all rfl) (by with_unfolding_all rfl) (by omega) (by omega) | with_reducible exact PV.sub (by with_unfolding_all rfl) (by with_unfolding_all rfl) (by omega) (by omega) | with_reducible exact PV.mul (by with_unfolding_all rfl) (by with_unfolding_all rfl) (by omega) (by omega)
   | with_reducible exact PV.rem (by with_unfolding_all rfl) (by with_unfolding_all rfl) (by omega) | with_reducible exact PV.quo (by with_unfolding_all rfl) (by with_unfolding_all rfl) (by omega) (by omega) (by omega) | with_reducible exact PV.cat (by with_unfolding_all rfl) (by with_unfolding_all rfl) (by omega)
   | with_reducible exact PV.zero CBT.h | with_reducible exact PV.eqPN CUnd.h (by with_unfolding_all rfl) (by with_unfolding_all rfl) | with_reducible exact PV.nePN CUnd.h (by with_unfolding_all rfl) (by with_unfolding_all rfl) | with_reducible exact PV.eqSN CUnd.h (by with_unfolding_all rfl) (by with_unfolding_all rfl) | with_reducible exact PV.lenS CUnd.h (by with_unfolding_all rfl) | with_reducible exact PV.minI (by with_unfolding_all rfl) (by with_unfolding_all rfl) | with_reducible exact PV.maxI (by with_unfolding_all rfl) (by with_unfolding_all rfl)) :
  DG P l.toArray n w0 M N ls1 K Fin (i::σ') kv sd Z ls:=DG.p ho hg hs hk hd hK h next
end
/-! calls that own nothing -/
section
variable {P:Program} {n:Nat} {kv:KV} {w:World} {d:Tmp} {ty:TypeId} {pos:String} {af:Array Edge} {g:Option (Nat × Bool)} {w0:World} {M Z:Nat→Prop} {ls:List As} {f:FuncId} {xs:List Operand} {ats:Array TypeId} {args:List Value} {u u':Value}
theorem WL.c1 [hf:CCF P f] {ops:Array Oper} {Q:Exit→Act→World→Prop} {rest:List Oper} (hc:Calls P f args.toArray w fun e w'=>e=.returned u'∧Chg [] w w') (hv:u'=u) (st:St w0 M Z w ls)
  (next:∀w',Chg [] w w'→St w0 M Z w' ls→WL P ops Q rest n ((d,u)::kv) w')
  (hg:gd ops kv ⟨some d,.call {callee:=.value (.func f),args:=xs.toArray,argTypes:=ats},ty,pos,af,g⟩=some true:=by rfl) (hd:Nat.blt d n=true:=by rfl) (hx:xs.map (ev kv)=args.map some:=by rfl) :
  WL P ops Q (⟨some d,.call {callee:=.value (.func f),args:=xs.toArray,argTypes:=ats},ty,pos,af,g⟩::rest) n kv w:=
 WL.go hg (OX.call hf.h hd hx (hc.mono fun _ w' ⟨he,hs⟩=>⟨u,by rw [he,hv],next w' hs (st.step hs)⟩))
theorem WL.c0 [hf:CCF P f] {ops:Array Oper} {Q:Exit→Act→World→Prop} {rest:List Oper} (hc:Calls P f args.toArray w fun e w'=>e=.returned u∧Chg [] w w') (st:St w0 M Z w ls)
  (next:∀w',Chg [] w w'→St w0 M Z w' ls→WL P ops Q rest n ((d,u)::kv) w')
  (hg:gd ops kv ⟨some d,.call {callee:=.value (.func f),args:=xs.toArray,argTypes:=ats},ty,pos,af,g⟩=some true:=by rfl) (hd:Nat.blt d n=true:=by rfl) (hx:xs.map (ev kv)=args.map some:=by rfl) :
  WL P ops Q (⟨some d,.call {callee:=.value (.func f),args:=xs.toArray,argTypes:=ats},ty,pos,af,g⟩::rest) n kv w:=WL.c1 hc rfl st next hg hd hx
theorem DW.c1 [hf:CCF P f] {ops:Array Oper} {i N:Nat} {T:Nat→World→World→Prop} {E:Nat→Option (Value→World→Prop)} {Fin:KV→World→Prop} {rest:List Oper} {F:Facts}
  (hc:∀wx,(N≤wx.heap.size∧St w0 M Z wx ls)→depF (deps ⟨some d,.call {callee:=.value (.func f),args:=xs.toArray,argTypes:=ats},ty,pos,af,g⟩) F wx→Calls P f args.toArray wx fun e w'=>e=.returned u'∧Chg [] wx w') (hv:u'=u)
  (next:DW P ops n (fun wx=>N≤wx.heap.size∧St w0 M Z wx ls) T E Fin (i+1) rest ((d,u)::kv) ((i,fun _=>u=u)::F))
  (hg:gd ops kv ⟨some d,.call {callee:=.value (.func f),args:=xs.toArray,argTypes:=ats},ty,pos,af,g⟩=some true:=by rfl) (hk:known kv (.call {callee:=.value (.func f),args:=xs.toArray,argTypes:=ats})=true:=by rfl) (hd:Nat.blt d n=true:=by rfl)
  (hE:E i=some (fun v _=>v=u):=by rfl) (hT:∀w w',Chg [] w w'→T i w w':=by exact fun _ _ h=>h.p0) (hx:xs.map (ev kv)=args.map some:=by rfl) :
  DW P ops n (fun wx=>N≤wx.heap.size∧St w0 M Z wx ls) T E Fin i (⟨some d,.call {callee:=.value (.func f),args:=xs.toArray,argTypes:=ats},ty,pos,af,g⟩::rest) kv F:=
 DW.e hg rfl hk hd hE (fun wx hC hF=>OX.call hf.h hd hx ((hc wx hC hF).mono fun _ w' ⟨he,hs⟩=>⟨u,by rw [he,hv],⟨Nat.le_trans hC.1 hs.size,hC.2.step hs⟩,hT _ _ hs,u,rfl,rfl⟩)) (by rintro _ _ _ rfl;exact next)
theorem DW.c0 [hf:CCF P f] {ops:Array Oper} {i N:Nat} {T:Nat→World→World→Prop} {E:Nat→Option (Value→World→Prop)} {Fin:KV→World→Prop} {rest:List Oper} {F:Facts}
  (hc:∀wx,(N≤wx.heap.size∧St w0 M Z wx ls)→depF (deps ⟨some d,.call {callee:=.value (.func f),args:=xs.toArray,argTypes:=ats},ty,pos,af,g⟩) F wx→Calls P f args.toArray wx fun e w'=>e=.returned u∧Chg [] wx w')
  (next:DW P ops n (fun wx=>N≤wx.heap.size∧St w0 M Z wx ls) T E Fin (i+1) rest ((d,u)::kv) ((i,fun _=>u=u)::F))
  (hg:gd ops kv ⟨some d,.call {callee:=.value (.func f),args:=xs.toArray,argTypes:=ats},ty,pos,af,g⟩=some true:=by rfl) (hk:known kv (.call {callee:=.value (.func f),args:=xs.toArray,argTypes:=ats})=true:=by rfl) (hd:Nat.blt d n=true:=by rfl)
  (hE:E i=some (fun v _=>v=u):=by rfl) (hT:∀w w',Chg [] w w'→T i w w':=by exact fun _ _ h=>h.p0) (hx:xs.map (ev kv)=args.map some:=by rfl) :
  DW P ops n (fun wx=>N≤wx.heap.size∧St w0 M Z wx ls) T E Fin i (⟨some d,.call {callee:=.value (.func f),args:=xs.toArray,argTypes:=ats},ty,pos,af,g⟩::rest) kv F:=DW.c1 hc rfl next hg hk hd hE hT hx
end
/-! operations with effects, and what is owned behind them -/
section
variable {P:Program} {n:Nat} {kv:KV} {w:World} {d:Tmp} {ty:TypeId} {pos:String} {af:Array Edge} {g:Option (Nat × Bool)} {w0:World} {M Z:Nat→Prop} {ls:List As} {ops:Array Oper} {Q:Exit→Act→World→Prop} {rest:List Oper}
theorem WL.al {T:TypeId} {l:List Value} [hT:CZV P T l] (st:St w0 M Z w ls) (next:∀b w',New w w' b→Blk w' b T l→St w0 M Z w' (As.blk b T l::ls)→WL P ops Q rest n ((d,.pointer (some ⟨b,0,none⟩))::kv) w')
  (hg:gd ops kv ⟨some d,.alloc T,ty,pos,af,g⟩=some true:=by rfl) (hd:Nat.blt d n=true:=by rfl):WL P ops Q (⟨some d,.alloc T,ty,pos,af,g⟩::rest) n kv w:=
 WL.go hg (OX.alloc hT.h hd fun b w' nw hb=>next b w' nw hb (st.newB nw hb))
theorem WL.mm {κ:Type} [DecidableEq κ] (enc:κ→Value) {T:TypeId} (st:St w0 M Z w ls) (next:∀b w',New w w' b→KM enc w' b []→St w0 M Z w' (As.map enc b []::ls)→WL P ops Q rest n ((d,.map (some b))::kv) w')
  (hg:gd ops kv ⟨some d,.makeMap T none,ty,pos,af,g⟩=some true:=by rfl) (hd:Nat.blt d n=true:=by rfl):WL P ops Q (⟨some d,.makeMap T none,ty,pos,af,g⟩::rest) n kv w:=
 WL.go hg (OX.makeMap enc hd fun b w' nw hb=>next b w' nw hb (st.newM nw hb))
theorem WL.s1 {x y:Operand} {j b e U:Nat} {cs cs':List Value} {v:Value} [hT:CSz P U 1] (fr:St w0 M Z w (As.blk b e cs::ls)) (next:∀w',Chg [b] w w'→St w0 M Z w' (As.blk b e cs'::ls)→WL P ops Q rest n kv w')
  (hg:gd ops kv ⟨none,.store U x y,ty,pos,af,g⟩=some true:=by rfl) (hx:ev kv x=some (.pointer (some ⟨b,0+j,none⟩)):=by rfl) (hy:ev kv y=some v:=by rfl)
  (hj:nth cs j≠none:=by first | (simp [nth];done) | exact nns rfl) (h1:v.oneCell'=true:=by rfl) (hl:setN cs j v=cs':=by rfl):WL P ops Q (⟨none,.store U x y,ty,pos,af,g⟩::rest) n kv w:=
 WL.go hg (OX.st hT.h (As.gb fr.g0) hx hy hj h1 hl fun w' s _ hb=>next w' s (fr.updB s hb))
theorem WL.s0 {x y:Operand} {b e U:Nat} {cs cs':List Value} {v:Value} [hT:CSz P U 1] (fr:St w0 M Z w (As.blk b e cs::ls)) (next:∀w',Chg [b] w w'→St w0 M Z w' (As.blk b e cs'::ls)→WL P ops Q rest n kv w')
  (hg:gd ops kv ⟨none,.store U x y,ty,pos,af,g⟩=some true:=by rfl) (hx:ev kv x=some (.pointer (some ⟨b,0,none⟩)):=by rfl) (hy:ev kv y=some v:=by rfl)
  (hj:nth cs 0≠none:=by first | (simp [nth];done) | exact nns rfl) (h1:v.oneCell'=true:=by rfl) (hl:setN cs 0 v=cs':=by rfl):WL P ops Q (⟨none,.store U x y,ty,pos,af,g⟩::rest) n kv w:=
 WL.go hg (OX.st0 hT.h (As.gb fr.g0) hx hy hj h1 hl fun w' s _ hb=>next w' s (fr.updB s hb))
theorem WL.ap {α:Type} {R:RR α} {x y:Operand} {E k nn c m c2 bytes U:Nat} {a a2:Option Addr} {xs ys:List α} {A:Nat→Prop} [hT:CAP P U E k bytes] (hs:ev kv x=some (.slice a nn c)) (hx:ev kv y=some (.slice a2 m c2)) (fr:St w0 M Z w (As.os R E k a nn c xs::ls)) (hsrc:SR A w k (R.r Z w) a2 m c2 ys)
  (next:∀a' c' w',(∀x∈oblk a',x∈oblk a∨w.heap.size≤x)→(a'=none→a=none∧m=0)→St w0 M Z w' (As.os R E k a' (nn+m) c' (xs++ys)::ls)→WL P ops Q rest n ((d,.slice a' (nn+m) c')::kv) w')
  (hb1:(nn+m)*bytes≤140737488355328:=by omega) (hb2:nn+m≤140737488355328:=by omega)
  (hg:gd ops kv ⟨some d,.call {callee:=.builtin .append,args:=#[x,y],argTypes:=#[U,U]},ty,pos,af,g⟩=some true:=by rfl) (hd:Nat.blt d n=true:=by rfl) :
  WL P ops Q (⟨some d,.call {callee:=.builtin .append,args:=#[x,y],argTypes:=#[U,U]},ty,pos,af,g⟩::rest) n kv w:=
 WL.go hg (OX.appR hT.h hd hs hx (As.gs fr.g0) hsrc hb1 hb2 (Nat.zero_le _) fun a' c' w' h s hf hn=>next a' c' w' hf hn (fr.updS s h hf))
end
end Go.Rc

namespace Go.Rc
open Go
theorem nope {p q:Prop} (g:p) (h:¬p:=by first | (simp;done) | (simp;omega) | (simp_all;done) | (simp_all;omega)):q:=absurd g h
section
variable {P:Program} {n:Nat} {kv:KV} {w:World} {d:Tmp} {ty:TypeId} {pos:String} {af:Array Edge} {g:Option (Nat × Bool)}
theorem WL.q {ops:Array Oper} {Q:Exit→Act→World→Prop} {rest:List Oper} {op:Op} {v:Value} (h:PV P op ty kv w v) (next:WL P ops Q rest n ((d,v)::kv) w)
  (hg:gd ops kv ⟨some d,op,ty,pos,af,g⟩=some true:=by rfl) (hd:Nat.blt d n=true:=by rfl):WL P ops Q (⟨some d,op,ty,pos,af,g⟩::rest) n kv w:=WL.p hg hd h next
theorem WL.z {ops:Array Oper} {Q:Exit→Act→World→Prop} {rest:List Oper} {o:Oper} (next:WL P ops Q rest n (upd kv o.dst undef) w)
  (hg:gd ops kv o=some false:=by rfl) (hd:dstOk n o.dst=true:=by rfl):WL P ops Q (o::rest) n kv w:=WL.no hg hd next
theorem DW.q {ops:Array Oper} {i:Nat} {C:World→Prop} {T:Nat→World→World→Prop} {E:Nat→Option (Value→World→Prop)} {Fin:KV→World→Prop} {rest:List Oper} {F:Facts} {op:Op} {v:Value}
  (h:∀w,C w→PV P op ty kv w v) (next:DW P ops n C T E Fin (i+1) rest ((d,v)::kv) F)
  (hg:gd ops kv ⟨some d,op,ty,pos,af,g⟩=some true:=by rfl) (hs:isSelect op=false:=by rfl) (hk:known kv op=true:=by rfl) (hd:Nat.blt d n=true:=by rfl) (hE:E i=none:=by rfl) :
  DW P ops n C T E Fin i (⟨some d,op,ty,pos,af,g⟩::rest) kv F:=DW.p hg hs hk hd hE h next
theorem DW.z {ops:Array Oper} {i:Nat} {C:World→Prop} {T:Nat→World→World→Prop} {E:Nat→Option (Value→World→Prop)} {Fin:KV→World→Prop} {rest:List Oper} {F:Facts} {op:Op}
  (next:DW P ops n C T E Fin (i+1) rest ((d,undef)::kv) F)
  (hg:gd ops kv ⟨some d,op,ty,pos,af,g⟩=some false:=by rfl) (hs:isSelect op=false:=by rfl) (hd:Nat.blt d n=true:=by rfl) :
  DW P ops n C T E Fin i (⟨some d,op,ty,pos,af,g⟩::rest) kv F:=DW.no hg hs hd next
end
section
variable {P:Program} {n N:Nat} {w0:World} {M Z:Nat→Prop} {ls ls1:List As} {Fin:KV→World→Prop} {l:List Oper} {i:Nat} {σ':List Nat} {kv:KV} {sd:List (Nat × As)} {K:Nat→Kd} {d:Tmp} {op:Op} {ty:TypeId} {pos:String} {af:Array Edge} {g:Option (Nat × Bool)}
theorem DG.q {v:Value} (ho:nthO l i=some ⟨some d,op,ty,pos,af,g⟩) (h:∀w Zx R,N≤w.heap.size→St w0 M Zx w R→(∀A∈ls1,A∈R)→PV P op ty kv w v) (next:DG P l.toArray n w0 M N ls1 K Fin σ' ((d,v)::kv) sd Z ls)
  (hg:gd l.toArray kv ⟨some d,op,ty,pos,af,g⟩=some true:=by rfl) (hs:isSelect op=false:=by rfl) (hk:known kv op=true:=by rfl) (hd:Nat.blt d n=true:=by rfl) (hK:(K i).isPure=true:=by rfl) :
  DG P l.toArray n w0 M N ls1 K Fin (i::σ') kv sd Z ls:=DG.p ho hg hs hk hd hK h next
theorem DG.z (ho:nthO l i=some ⟨some d,op,ty,pos,af,g⟩) (next:DG P l.toArray n w0 M N ls1 K Fin σ' ((d,undef)::kv) sd Z ls)
  (hg:gd l.toArray kv ⟨some d,op,ty,pos,af,g⟩=some false:=by rfl) (hs:isSelect op=false:=by rfl) (hd:Nat.blt d n=true:=by rfl) :
  DG P l.toArray n w0 M N ls1 K Fin (i::σ') kv sd Z ls:=DG.no ho hg hs hd next
end
section
variable {w0 w:World} {M Z:Nat→Prop} {l:List As} {b T:Nat} {cs:List Value}
theorem St.b0 (h:St w0 M Z w (As.blk b T cs::l)):w.rangeAt b 0 cs:=Blk.range (As.gb h.g0)
theorem St.b1 {A0:As} (h:St w0 M Z w (A0::As.blk b T cs::l)):w.rangeAt b 0 cs:=Blk.range (As.gb h.g1)
theorem St.b2 {A0 A1:As} (h:St w0 M Z w (A0::A1::As.blk b T cs::l)):w.rangeAt b 0 cs:=Blk.range (As.gb h.g2)
theorem St.b3 {A0 A1 A2:As} (h:St w0 M Z w (A0::A1::A2::As.blk b T cs::l)):w.rangeAt b 0 cs:=Blk.range (As.gb h.g3)
theorem St.b4 {A0 A1 A2 A3:As} (h:St w0 M Z w (A0::A1::A2::A3::As.blk b T cs::l)):w.rangeAt b 0 cs:=Blk.range (As.gb h.g4)
theorem St.b5 {A0 A1 A2 A3 A4:As} (h:St w0 M Z w (A0::A1::A2::A3::A4::As.blk b T cs::l)):w.rangeAt b 0 cs:=Blk.range (As.gb h.g5)
end
structure Box (q:Prop):Prop where
 out:q
theorem nx {p q:Prop} (next:q) (h:Box q→p:=by
  intro h
  first
   | with_reducible refine WL.nil ?_
   | with_reducible refine EX.seqN ?_
   | with_reducible refine WC.seq ?_
   | with_reducible refine WC.region ?_
   | with_reducible refine WC.block ?_
   | with_reducible refine WC.skip ?_
   | with_reducible refine WC.exit ?_
   | with_reducible refine WC.ret ?_
   | with_reducible refine EX.thenX ?_
   | with_reducible refine EX.thenR ?_
   | with_reducible refine EX.blkN ?_
   | with_reducible refine EX.blkR ?_
   | with_reducible refine EX.blkX ?_
   | refine WL.a ?_
   | refine WL.z ?_
   | refine DW.a ?_
   | refine DW.z ?_
  exact h.out):p:=h ⟨next⟩
theorem nx2 {p q:Prop} (next:q) (h:Box q→p:=by
  intro h
  iterate 2 (first | with_reducible refine WL.nil ?_ | with_reducible refine EX.seqN ?_ | with_reducible refine WC.seq ?_ | with_reducible refine WC.region ?_ | with_reducible refine WC.block ?_ | with_reducible refine WC.skip ?_ | with_reducible refine WC.exit ?_ | with_reducible refine WC.ret ?_ | with_reducible refine EX.thenX ?_ | with_reducible refine EX.thenR ?_ | with_reducible refine EX.blkN ?_ | with_reducible refine EX.blkR ?_ | with_reducible refine EX.blkX ?_ | refine WL.a ?_ | refine WL.z ?_ | refine DW.a ?_ | refine DW.z ?_)
  exact h.out):p:=h ⟨next⟩
theorem nx3 {p q:Prop} (next:q) (h:Box q→p:=by
  intro h
  iterate 3 (first | with_reducible refine WL.nil ?_ | with_reducible refine EX.seqN ?_ | with_reducible refine WC.seq ?_ | with_reducible refine WC.region ?_ | with_reducible refine WC.block ?_ | with_reducible refine WC.skip ?_ | with_reducible refine WC.exit ?_ | with_reducible refine WC.ret ?_ | with_reducible refine EX.thenX ?_ | with_reducible refine EX.thenR ?_ | with_reducible refine EX.blkN ?_ | with_reducible refine EX.blkR ?_ | with_reducible refine EX.blkX ?_ | refine WL.a ?_ | refine WL.z ?_ | refine DW.a ?_ | refine DW.z ?_)
  exact h.out):p:=h ⟨next⟩
theorem nx4 {p q:Prop} (next:q) (h:Box q→p:=by
  intro h
  iterate 4 (first | with_reducible refine WL.nil ?_ | with_reducible refine EX.seqN ?_ | with_reducible refine WC.seq ?_ | with_reducible refine WC.region ?_ | with_reducible refine WC.block ?_ | with_reducible refine WC.skip ?_ | with_reducible refine WC.exit ?_ | with_reducible refine WC.ret ?_ | with_reducible refine EX.thenX ?_ | with_reducible refine EX.thenR ?_ | with_reducible refine EX.blkN ?_ | with_reducible refine EX.blkR ?_ | with_reducible refine EX.blkX ?_ | refine WL.a ?_ | refine WL.z ?_ | refine DW.a ?_ | refine DW.z ?_)
  exact h.out):p:=h ⟨next⟩
theorem nx5 {p q:Prop} (next:q) (h:Box q→p:=by
  intro h
  iterate 5 (first | with_reducible refine WL.nil ?_ | with_reducible refine EX.seqN ?_ | with_reducible refine WC.seq ?_ | with_reducible refine WC.region ?_ | with_reducible refine WC.block ?_ | with_reducible refine WC.skip ?_ | with_reducible refine WC.exit ?_ | with_reducible refine WC.ret ?_ | with_reducible refine EX.thenX ?_ | with_reducible refine EX.thenR ?_ | with_reducible refine EX.blkN ?_ | with_reducible refine EX.blkR ?_ | with_reducible refine EX.blkX ?_ | refine WL.a ?_ | refine WL.z ?_ | refine DW.a ?_ | refine DW.z ?_)
  exact h.out):p:=h ⟨next⟩
theorem nx6 {p q:Prop} (next:q) (h:Box q→p:=by
  intro h
  iterate 6 (first | with_reducible refine WL.nil ?_ | with_reducible refine EX.seqN ?_ | with_reducible refine WC.seq ?_ | with_reducible refine WC.region ?_ | with_reducible refine WC.block ?_ | with_reducible refine WC.skip ?_ | with_reducible refine WC.exit ?_ | with_reducible refine WC.ret ?_ | with_reducible refine EX.thenX ?_ | with_reducible refine EX.thenR ?_ | with_reducible refine EX.blkN ?_ | with_reducible refine EX.blkR ?_ | with_reducible refine EX.blkX ?_ | refine WL.a ?_ | refine WL.z ?_ | refine DW.a ?_ | refine DW.z ?_)
  exact h.out):p:=h ⟨next⟩
theorem nx7 {p q:Prop} (next:q) (h:Box q→p:=by
  intro h
  iterate 7 (first | with_reducible refine WL.nil ?_ | with_reducible refine EX.seqN ?_ | with_reducible refine WC.seq ?_ | with_reducible refine WC.region ?_ | with_reducible refine WC.block ?_ | with_reducible refine WC.skip ?_ | with_reducible refine WC.exit ?_ | with_reducible refine WC.ret ?_ | with_reducible refine EX.thenX ?_ | with_reducible refine EX.thenR ?_ | with_reducible refine EX.blkN ?_ | with_reducible refine EX.blkR ?_ | with_reducible refine EX.blkX ?_ | refine WL.a ?_ | refine WL.z ?_ | refine DW.a ?_ | refine DW.z ?_)
  exact h.out):p:=h ⟨next⟩
theorem nx8 {p q:Prop} (next:q) (h:Box q→p:=by
  intro h
  iterate 8 (first | with_reducible refine WL.nil ?_ | with_reducible refine EX.seqN ?_ | with_reducible refine WC.seq ?_ | with_reducible refine WC.region ?_ | with_reducible refine WC.block ?_ | with_reducible refine WC.skip ?_ | with_reducible refine WC.exit ?_ | with_reducible refine WC.ret ?_ | with_reducible refine EX.thenX ?_ | with_reducible refine EX.thenR ?_ | with_reducible refine EX.blkN ?_ | with_reducible refine EX.blkR ?_ | with_reducible refine EX.blkX ?_ | refine WL.a ?_ | refine WL.z ?_ | refine DW.a ?_ | refine DW.z ?_)
  exact h.out):p:=h ⟨next⟩
theorem nx9 {p q:Prop} (next:q) (h:Box q→p:=by
  intro h
  iterate 9 (first | with_reducible refine WL.nil ?_ | with_reducible refine EX.seqN ?_ | with_reducible refine WC.seq ?_ | with_reducible refine WC.region ?_ | with_reducible refine WC.block ?_ | with_reducible refine WC.skip ?_ | with_reducible refine WC.exit ?_ | with_reducible refine WC.ret ?_ | with_reducible refine EX.thenX ?_ | with_reducible refine EX.thenR ?_ | with_reducible refine EX.blkN ?_ | with_reducible refine EX.blkR ?_ | with_reducible refine EX.blkX ?_ | refine WL.a ?_ | refine WL.z ?_ | refine DW.a ?_ | refine DW.z ?_)
  exact h.out):p:=h ⟨next⟩
theorem nx10 {p q:Prop} (next:q) (h:Box q→p:=by
  intro h
  iterate 10 (first | with_reducible refine WL.nil ?_ | with_reducible refine EX.seqN ?_ | with_reducible refine WC.seq ?_ | with_reducible refine WC.region ?_ | with_reducible refine WC.block ?_ | with_reducible refine WC.skip ?_ | with_reducible refine WC.exit ?_ | with_reducible refine WC.ret ?_ | with_reducible refine EX.thenX ?_ | with_reducible refine EX.thenR ?_ | with_reducible refine EX.blkN ?_ | with_reducible refine EX.blkR ?_ | with_reducible refine EX.blkX ?_ | refine WL.a ?_ | refine WL.z ?_ | refine DW.a ?_ | refine DW.z ?_)
  exact h.out):p:=h ⟨next⟩
theorem nx11 {p q:Prop} (next:q) (h:Box q→p:=by
  intro h
  iterate 11 (first | with_reducible refine WL.nil ?_ | with_reducible refine EX.seqN ?_ | with_reducible refine WC.seq ?_ | with_reducible refine WC.region ?_ | with_reducible refine WC.block ?_ | with_reducible refine WC.skip ?_ | with_reducible refine WC.exit ?_ | with_reducible refine WC.ret ?_ | with_reducible refine EX.thenX ?_ | with_reducible refine EX.thenR ?_ | with_reducible refine EX.blkN ?_ | with_reducible refine EX.blkR ?_ | with_reducible refine EX.blkX ?_ | refine WL.a ?_ | refine WL.z ?_ | refine DW.a ?_ | refine DW.z ?_)
  exact h.out):p:=h ⟨next⟩
theorem nx12 {p q:Prop} (next:q) (h:Box q→p:=by
  intro h
  iterate 12 (first | with_reducible refine WL.nil ?_ | with_reducible refine EX.seqN ?_ | with_reducible refine WC.seq ?_ | with_reducible refine WC.region ?_ | with_reducible refine WC.block ?_ | with_reducible refine WC.skip ?_ | with_reducible refine WC.exit ?_ | with_reducible refine WC.ret ?_ | with_reducible refine EX.thenX ?_ | with_reducible refine EX.thenR ?_ | with_reducible refine EX.blkN ?_ | with_reducible refine EX.blkR ?_ | with_reducible refine EX.blkX ?_ | refine WL.a ?_ | refine WL.z ?_ | refine DW.a ?_ | refine DW.z ?_)
  exact h.out):p:=h ⟨next⟩
theorem CA {α:Type _} {a:α} {l m:List α}:(a::l)++m=a::(l++m):=rfl
theorem NA {α:Type _} {l:List α}:[]++l=l:=rfl
theorem CM {α β:Type _} {f:α→β} {a:α} {l:List α}:List.map f (a::l)=f a::List.map f l:=rfl
theorem NM {α β:Type _} {f:α→β}:List.map f []=[]:=rfl
theorem tG {g q:Prop} (h:g) (t:g→q:=by
  intro h
  first | rfl | (simp only [h];done) | (simp only [h];rfl) | (simp [h];done) | (simp;done) | (simp at h ⊢ <;> omega) | (simp <;> omega) | (simp [h] <;> omega) | (simp at h <;> omega)):q:=t h
theorem Sub.k2 {kv r:KV} {t1 t2:Nat} {v1 v2:Value} (h1:Rc.look kv t1=some v1) (h2:Rc.look kv t2=some v2) (hr:Sub kv r):Sub kv ((t1,v1)::(t2,v2)::r):=⟨h1,h2,hr⟩
theorem Sub.k4 {kv r:KV} {t1 t2 t3 t4:Nat} {v1 v2 v3 v4:Value} (h1:Rc.look kv t1=some v1) (h2:Rc.look kv t2=some v2) (h3:Rc.look kv t3=some v3) (h4:Rc.look kv t4=some v4) (hr:Sub kv r):Sub kv ((t1,v1)::(t2,v2)::(t3,v3)::(t4,v4)::r):=⟨h1,h2,h3,h4,hr⟩
section
variable {R L l ls:List As} {A0 A1 A2 A3:As}
theorem AppE.k2 (h:L=l++R):A0::A1::L=(A0::A1::l)++R:=AppE.cons (AppE.cons h)
theorem AppE.k4 (h:L=l++R):A0::A1::A2::A3::L=(A0::A1::A2::A3::l)++R:=AppE.k2 (AppE.k2 h)
theorem Sub1.k4 (h0:A0∈ls) (h1:A1∈ls) (h2:A2∈ls) (h3:A3∈ls) (t:∀A∈l,A∈ls):∀A∈A0::A1::A2::A3::l,A∈ls:=Sub1.cons h0 (Sub1.cons h1 (Sub1.cons h2 (Sub1.cons h3 t)))
end
inductive E2 {α β:Type}:α→α→β→β→Prop where
 | r {a:α} {b:β}:E2 a a b b
inductive E5 {α β γ δ ε:Type}:α→α→β→β→γ→γ→δ→δ→ε→ε→Prop where
 | r {a:α} {b:β} {c:γ} {d:δ} {e:ε}:E5 a a b b c c d d e e
inductive E6 {α β γ δ ε ζ:Type}:α→α→β→β→γ→γ→δ→δ→ε→ε→ζ→ζ→Prop where
 | r {a:α} {b:β} {c:γ} {d:δ} {e:ε} {f:ζ}:E6 a a b b c c d d e e f f
theorem E2.p1 {α β:Type} {a a':α} {b b':β} (e:E2 a a' b b'):a=a':=by cases e;rfl
theorem E2.p2 {α β:Type} {a a':α} {b b':β} (e:E2 a a' b b'):b=b':=by cases e;rfl
section
variable {α β γ δ ε ζ:Type} {a a':α} {b b':β} {c c':γ} {d d':δ} {e e':ε} {f f':ζ}
theorem E5.p (h:E5 a a' b b' c c' d d' e e'):a=a'∧b=b'∧c=c'∧d=d'∧e=e':=by cases h;exact ⟨rfl,rfl,rfl,rfl,rfl⟩
theorem E6.p (h:E6 a a' b b' c c' d d' e e' f f'):a=a'∧b=b'∧c=c'∧d=d'∧e=e'∧f=f':=by cases h;exact ⟨rfl,rfl,rfl,rfl,rfl,rfl⟩
end
section
variable {P:Program} {n N:Nat} {kv:KV} {w w0:World} {d:Tmp} {ty:TypeId} {pos:String} {af:Array Edge} {g:Option (Nat × Bool)}
theorem WP {ops:Array Oper} {Q:Exit→Act→World→Prop} {rest:List Oper} {op:Op} {v:Value} (e:E2 (gd ops kv ⟨some d,op,ty,pos,af,g⟩) (some true) (Nat.blt d n) true) (h:PV P op ty kv w v) (next:WL P ops Q rest n ((d,v)::kv) w):WL P ops Q (⟨some d,op,ty,pos,af,g⟩::rest) n kv w:=
 WL.p e.p1 e.p2 h next
theorem DP {ops:Array Oper} {i:Nat} {C:World→Prop} {T:Nat→World→World→Prop} {E:Nat→Option (Value→World→Prop)} {Fin:KV→World→Prop} {rest:List Oper} {F:Facts} {op:Op} {v:Value}
  (e:E5 (gd ops kv ⟨some d,op,ty,pos,af,g⟩) (some true) (isSelect op) false (known kv op) true (Nat.blt d n) true (E i) none) (h:∀w,C w→PV P op ty kv w v) (next:DW P ops n C T E Fin (i+1) rest ((d,v)::kv) F) :
  DW P ops n C T E Fin i (⟨some d,op,ty,pos,af,g⟩::rest) kv F:=DW.p e.p.1 e.p.2.1 e.p.2.2.1 e.p.2.2.2.1 e.p.2.2.2.2 h next
theorem DQ {M Z:Nat→Prop} {ls ls1:List As} {Fin:KV→World→Prop} {l:List Oper} {i:Nat} {σ':List Nat} {sd:List (Nat × As)} {K:Nat→Kd} {op:Op} {v:Value}
  (e:E6 (nthO l i) (some ⟨some d,op,ty,pos,af,g⟩) (gd l.toArray kv ⟨some d,op,ty,pos,af,g⟩) (some true) (isSelect op) false (known kv op) true (Nat.blt d n) true ((K i).isPure) true) (h:∀w Zx R,N≤w.heap.size→St w0 M Zx w R→(∀A∈ls1,A∈R)→PV P op ty kv w v)
  (next:DG P l.toArray n w0 M N ls1 K Fin σ' ((d,v)::kv) sd Z ls):DG P l.toArray n w0 M N ls1 K Fin (i::σ') kv sd Z ls:=
 DG.p e.p.1 e.p.2.1 e.p.2.2.1 e.p.2.2.2.1 e.p.2.2.2.2.1 e.p.2.2.2.2.2 h next
end
theorem aj {a b:Prop} (x:a) (y:b):a∧b:=⟨x,y⟩
theorem V1 {P:Program} {T ty:TypeId} {kv:KV} {w:World} (hT:One P T) {x:Operand} {b o j:Nat} {vs:List Value} {v:Value} (hc:w.rangeAt b o vs) (e:E2 (ev kv x) (some (.pointer (some ⟨b,o+j,none⟩))) (nth vs j) (some v)):PV P (.load T x) ty kv w v:=PV.ld1 hT hc e.p1 e.p2
theorem VA {P:Program} {T ty:TypeId} {kv:KV} {w:World} {k:Nat} (hT:Agg P T k) {x:Operand} {b o:Nat} {vs:List Value} (hc:w.rangeAt b o vs) (e:E2 vs.length k (ev kv x) (some (.pointer (some ⟨b,o,none⟩)))):PV P (.load T x) ty kv w (.agg vs.toArray):=PV.ldA hT hc e.p1 e.p2
theorem Sub.v {kv r:KV} {t:Nat} {v v':Value} (hr:Sub kv r) (h:Rc.look kv t=some v:=by rfl) (hz:v=v':=by first | rfl | (simp;done) | (congr 1;omega) | (simp only [];congr 1;omega)):Sub kv ((t,v')::r):=Sub.consV h hz hr
theorem WC.cd {P:Program} {Q:Exit→Act→World→Prop} {n:Nat} {kv:KV} {w:World} {c:Operand} {x y:Code} {b:Bool} (ht:b=true→WC P x Q n kv w) (hf:b=false→WC P y Q n kv w) (hc:ev kv c=some (.bool b):=by rfl):WC P (.cond c x y) Q n kv w:=WC.cond hc ht hf
end Go.Rc

namespace Go.Rc
open Go
section
variable {P:Program} {kv:KV} {w:World} {T U ty:TypeId} {x y:Operand}
theorem run_eqIfSome {t:TypeId} {v:Value} (hT:∃ms,P.underlying T=some (.interface ms)):(Op.equalIn 10000 T (.iface t v) .nilIface).run P w=.ok false w:=by
 obtain ⟨ms,hT⟩:=hT;rw [show (10000:Nat)=9999+1 from rfl]
 unfold Op.equalIn
 simp [run_underlying hT]
theorem PV.neIV {v:Value} {ok:Bool} (hT:∃ms,P.underlying T=some (.interface ms)) (hx:ev kv x=some v) (h:(ok=true∧v=.nilIface)∨(ok=false∧∃t y,v=.iface t y)):PV P (.binOp .neq T x (.const .nilIface) U) ty kv w (.bool (!ok)):=by
 rcases h with ⟨rfl,rfl⟩ | ⟨rfl,t,y,rfl⟩
 ·
  exact PV.neIN hT hx
 have hy:ev kv (.const .nilIface)=some .nilIface:=rfl;refine ⟨rfl,by simp [known,opers,hx,hy],fun _ _ _ _=>?_⟩;simp only [execOp,lkO_of hx,lkO_of hy]
 simp [eqGuard,binOp,Op.equal,Op.maxDepth,run_eqIfSome hT]
end
theorem WC.cutS {P:Program} {Q:Exit→Act→World→Prop} {n:Nat} {kv:KV} {w0 w:World} {M Z:Nat→Prop} {σ:Type} {c:Code} {rest:List As} (l0:List As) (kvs:σ→KV) (F:σ→List As) (I:σ→Prop) (Zf:σ→Nat→Prop) (_hst:St w0 M Z w (l0++rest))
  (h:WC P c (fun e a w'=>e=.normal∧∃s,Fr n a (kvs s)∧(St w0 M (Zf s) w' (F s++rest)∧I s)) n kv w)
  (hJ:∀s w',St w0 M (Zf s) w' (F s++rest)→I s→EX Q .normal n (kvs s) w'):WC P c Q n kv w:=
 WC.cutG kvs (fun s w'=>St w0 M (Zf s) w' (F s++rest)∧I s) h fun s w' ⟨a,b⟩=>hJ s w' a b
theorem WC.cutS1 {P:Program} {Q:Exit→Act→World→Prop} {n:Nat} {kv:KV} {w0 w:World} {M Z:Nat→Prop} {σ:Type} {c:Code} {rest:List As} (l0:List As) (kvs:σ→KV) (F:σ→List As) (I:σ→Prop) (hst:St w0 M Z w (l0++rest))
  (h:WC P c (fun e a w'=>e=.normal∧∃s,Fr n a (kvs s)∧(St w0 M Z w' (F s++rest)∧I s)) n kv w)
  (hJ:∀s w',St w0 M Z w' (F s++rest)→I s→EX Q .normal n (kvs s) w'):WC P c Q n kv w:=
 WC.cutS l0 kvs F I (fun _=>Z) hst h hJ
section
variable {w0 w:World} {M Z:Nat→Prop} {l:List As}
theorem St.e9 {A0 A1 A2 A3 A4 A5 A6 A7 A8:As} (h:St w0 M Z w (A0::A1::A2::A3::A4::A5::A6::A7::A8::l)):St w (fps [A0,A1,A2,A3,A4,A5,A6,A7,A8]) Z w [A0,A1,A2,A3,A4,A5,A6,A7,A8]:=St.enter (l0:=[A0,A1,A2,A3,A4,A5,A6,A7,A8]) h
end
theorem Calls.cap5 {P:Program} {f:FuncId} {r c1 c2 c3 c4 c5:Value} {w:World} {Q:Ending→World→Prop} (h:Calls P f #[r,c1,c2,c3,c4,c5] w Q):Calls P f (#[]++[r].toArray++#[c1,c2,c3,c4,c5]) w Q:=by
 have e:(#[]++[r].toArray++#[c1,c2,c3,c4,c5]:Array Value)=#[r,c1,c2,c3,c4,c5]:=by simp
 rw [e];exact h
theorem Calls.cap0 {P:Program} {f:FuncId} {r:Value} {w:World} {Q:Ending→World→Prop} (h:Calls P f #[r] w Q):Calls P f (#[]++[r].toArray++#[]) w Q:=by
 have e:(#[]++[r].toArray++#[]:Array Value)=#[r]:=by simp
 rw [e];exact h
end Go.Rc

namespace Go.Rc
open Go
theorem Chg.of_below {w w':World} (h:RowKit.Below w.heap.size w w') (hd:w.drawn≤w'.drawn):Chg [] w w':=⟨h.os,h.tape,h.output,h.size,hd,fun k hk _=>h.block k hk⟩
theorem freeze_drawn (w:World) (p:Addr) (n:Nat):(w.freeze p n).drawn=w.drawn:=by
 unfold World.freeze
 split <;> rfl
section
variable {P:Program} {n:Nat} {kv:KV} {w w':World} {K:KV→World→Prop} {d:Tmp} {ty:TypeId} {pos:String} {af:Array Edge} {g:Option (Nat × Bool)} {T U:TypeId} {op:Op} {v:Value} {x y:Operand}
theorem OX.val (hs:isSelect op=false) (hd:Nat.blt d n=true) (hk:known kv op=true) (hr:(execOp (lkO kv) ⟨some d,op,ty,pos,af,g⟩).run P w=.ok (.value v) w') (h:K ((d,v)::kv) w'):OX P ⟨some d,op,ty,pos,af,g⟩ n kv w K:=⟨hs,hd,hk,by rw [hr];exact h⟩
theorem PV.mkif {de:TypeDesc} (hT:P.underlying T=some de) (hd:∀ms,de≠.interface ms) (hx:ev kv x=some v):PV P (.makeInterface T x) ty kv w (.iface T v):=
 ⟨rfl,by simp [known,opers,hx],fun _ _ _ _=>by
  simp only [execOp,lkO_of hx,Instr.makeInterface,Sem.run_bind,run_underlying hT,Result.andThen_ok]
  cases de <;> first | rfl | exact absurd rfl (hd _)⟩
theorem PV.eqIF {ms:Array (String × TypeId)} {tx:TypeId} {q:IntKind} {a b:Int} (hT:P.underlying T=some (.interface ms)) (hc:(P.info? tx).map (·.comparable)=some true) (htx:P.underlying tx=some (.int q)) (hx:ev kv x=some (.iface tx (.int .i64 a))) (hy:ev kv y=some (.iface tx (.int .i64 b))):PV P (.binOp .eql T x y U) ty kv w (.bool (a == b)):=
 ⟨rfl,by simp [known,opers,hx,hy],fun _ _ _ _=>by
  have h:=Lib.run_eql_iface_int w (k:=.i64) a b hT hc htx;simp only [execOp,lkO_of hx,lkO_of hy]
  simp [eqGuard,h]⟩
theorem OX.mkRow {r:Value} (hd:Nat.blt d n=true) {u v:Value} (hx:ev kv x=some u) (hy:ev kv y=some v) (hr:(Instr.makeSlice T u v).run P w=.ok r w') (h:K ((d,r)::kv) w'):OX P ⟨some d,.makeSlice T x y,ty,pos,af,g⟩ n kv w K:=
 OX.val rfl hd (by simp [known,opers,hx,hy]) (by simp only [execOp,lkO_of hx,lkO_of hy,Sem.run_bind,hr,Result.andThen_ok];rfl) h
theorem OX.copyS {r u v:Value} (hd:Nat.blt d n=true) (hx:ev kv x=some u) (hy:ev kv y=some v) (hr:(Builtin.copy_ #[T,U] ty #[u,v]).run P w=.ok r w') (h:K ((d,r)::kv) w'):OX P ⟨some d,.call {callee:=.builtin .copy,args:=#[x,y],argTypes:=#[T,U]},ty,pos,af,g⟩ n kv w K:=
 OX.val rfl hd (by simp [known,opers,hx,hy]) (by simp [execOp,lkO_of hx,lkO_of hy,resolve,invoke,builtin,hr]) h
theorem OX.unsS {r u v:Value} (hd:Nat.blt d n=true) (hx:ev kv x=some u) (hy:ev kv y=some v) (hr:(Builtin.unsafeString_ #[T,U] ty #[u,v]).run P w=.ok r w') (h:K ((d,r)::kv) w'):OX P ⟨some d,.call {callee:=.builtin .unsafeString,args:=#[x,y],argTypes:=#[T,U]},ty,pos,af,g⟩ n kv w K:=
 OX.val rfl hd (by simp [known,opers,hx,hy]) (by simp [execOp,lkO_of hx,lkO_of hy,resolve,invoke,builtin,hr]) h
end
theorem clone_worlds {P:Program} {T S e pt it ty1 ty2:TypeId} {i:TypeInfo} (hT:P.underlying T=some (.slice e)) (hi:P.info? e=some i) (hz:i.zero=some (.int .u8 0)) (h1:i.size=1) (hb:i.bytes=1) (hp:P.underlying pt=some (.pointer e)) {s:ByteArray} (h0:s.size≠0) (hs:s.size≤1000) (w:World) :
  ∃w1 w2 w3:World,(Instr.makeSlice T (.int .i64 (s.size:Int)) (.int .i64 (s.size:Int))).run P w=.ok (.slice (some ⟨w.heap.size,0,none⟩) s.size s.size) w1∧
   (Builtin.copy_ #[T,S] ty1 #[.slice (some ⟨w.heap.size,0,none⟩) s.size s.size,.string s]).run P w1=.ok (goInt s.size) w2∧
   (Builtin.unsafeString_ #[pt,it] ty2 #[.pointer (some ⟨w.heap.size,0,none⟩),.int .i64 (s.size:Int)]).run P w2=.ok (.string s) w3∧Chg [] w w3:=by
 have hinfo:(P.info? e).map (·.size)=some 1:=by rw [hi];simp [h1]
 have hco:P.cellsOf e=1:=by simp [Program.cellsOf,hi,h1]
 have hbl:(Lib.byteCells s.data.toList).length=s.size:=by rw [Lib.byteCells_length,← Lib.size_eq]
 have hmk:=run_make (P:=P) w T e i (.int .u8 0) hT hi hz .i64 .i64 (s.size:Int) (s.size:Int) (by omega) (by omega) (by rw [hb];omega) (by omega)
 have hMs:(madeCells (Value.int .u8 0).cells (((s.size:Nat):Int).toNat*i.size)).size=s.size:=by rw [size_madeCells,h1];simp
 generalize madeCells (Value.int .u8 0).cells (((s.size:Nat):Int).toNat*i.size)=M at hmk hMs
 rw [Int.toNat_natCast] at hmk;have hcp:=Lib.run_copy_row_string (P:=P) (w.alloc (.cells M e)) T S ty1 e w.heap.size 0 s.size s.size s M e hT hinfo (heap_alloc_new w _) (Nat.le_refl _) (by omega)
 have hY:(M.toList.take 0++Lib.byteCells s.data.toList++M.toList.drop (0+s.size)).toArray=(Lib.byteCells s.data.toList).toArray:=by
  rw [List.take_zero,List.nil_append,List.drop_of_length_le (by rw [Array.length_toList];omega),List.append_nil]
 rw [hY] at hcp;have hg:((w.alloc (.cells M e)).setRow w.heap.size (Lib.byteCells s.data.toList).toArray).heap[w.heap.size]?=some (.cells (Lib.byteCells s.data.toList).toArray e (0,0)):=setRow_heap _ _ M _ e (0,0) (heap_alloc_new w _);have hne:s.data.toList≠[]:=fun h=>h0 (by rw [Lib.size_eq,h];rfl);have hus:=Lib.run_unsafeString_row (P:=P) ((w.alloc (.cells M e)).setRow w.heap.size (Lib.byteCells s.data.toList).toArray) pt it ty2 e hp hco w.heap.size s.size (by unfold World.shape?;rw [hg];simp [hbl]) s.data.toList hne (by rw [← Lib.size_eq];omega) (by rw [← Lib.size_eq];omega)
  (fun j z hz=>Lib.cells_of_row hg s.size j _ (by rw [List.take_of_length_le (by simp [hbl])];simp [Lib.byteCells,hz]))
 rw [← Lib.size_eq] at hus;have hB:RowKit.Below w.heap.size (w.alloc (.cells M e)) ((w.alloc (.cells M e)).setRow w.heap.size (Lib.byteCells s.data.toList).toArray):=⟨rfl,rfl,rfl,by simp [World.setRow],fun k hk=>setRow_other _ _ _ _ (by omega)⟩;refine ⟨_,_,_,hmk,hcp,hus,Chg.of_below (Lib.below_freeze (((RowKit.Below.refl _ w).alloc (Nat.le_refl _) _).trans hB) (p:=⟨w.heap.size,0,none⟩) (Nat.le_refl _) _) ?_⟩;rw [freeze_drawn];exact Nat.le_refl _
end Go.Rc

namespace Go.Rc
open Go
instance:Inhabited Inp:=⟨⟨noKey,⟨#[]⟩,0⟩⟩
def Bas.row (x:Bas) (a1:Option Addr) (n1 c1:Nat) (a2:Option Addr) (n2 c2:Nat):List Value:=[.int .i64 x.revision,.slice a1 n1 c1,.slice a2 n2 c2]
def inpBad (rev:Int) (l:List Inp) (i:Nat):Bool:=
 !validK l[i]!.key || (!isInput l[i]!.key || ((decide (0<(i:Int)) && decide (0≤cmpK l[i - 1]!.key l[i]!.key)) || (decide (1073741824<(l[i]!.value.size:Int)) || (decide (l[i]!.changed<0) || decide (rev<l[i]!.changed)))))
def inpsOk (rev:Int) (l:List Inp):Prop:=∀i y,l[i]?=some y→inpBad rev l i=false
open Classical in
noncomputable def recsOkB (l:List Rec):Bool:=decide (recsOk l)
theorem recsOkB_of {l:List Rec} {b:Bool} (h:b=true↔recsOk l):b=recsOkB l:=by
 unfold recsOkB
 rw [Bool.eq_iff_iff]
 simpa using h
def basOk (x:Bas):Prop:=inpsOk x.revision x.inputs∧(∀(i:Nat) (r:Rec),x.recs[i]?=some r→r.verified≤x.revision)∧0≤x.revision∧x.revision≤1073741824∧x.inputs.length≤64∧recsOk x.recs
noncomputable def basTail (x:Bas):Bool:=decide (0≤x.revision) && (decide (x.revision≤1073741824) && (decide ((x.inputs.length:Int)≤64) && recsOkB x.recs))
theorem basTail_iff (x:Bas):basTail x=true↔0≤x.revision∧x.revision≤1073741824∧x.inputs.length≤64∧recsOk x.recs:=by
 simp only [basTail,recsOkB,Bool.and_eq_true,decide_eq_true_eq];rw [show ((x.inputs.length:Int)≤64)=(x.inputs.length≤64) from propext (by omega)]
theorem PV.fieldL {P:Program} {kv:KV} {w:World} {T ty:TypeId} {f off:Nat} {fs:List Field} {fd:Field} (hu:P.underlying T=some (.struct fs.toArray)) (hf:fs[f]?=some fd) (ho:fd.offset=off) (h1:∀w,(isAgg fd.type).run P w=.ok false w)
  {x:Operand} {us:List Value} {v:Value} (hx:ev kv x=some (.agg us.toArray)) (hv:nth us off=some v):PV P (.field T x f) ty kv w v:=
 PV.fieldOf hu (by simpa using hf) ho h1 hx (by rw [← nth_eq];exact hv)
end Go.Rc
namespace Go.Rc
open Go
def notLang (k:Key):Prop:=k.kind<1∨22<k.kind
def turn28 (rules:List Rule) (k:Key) (answers:List ByteArray):Turn:=if k.kind=31∨k.kind=32 then turnV rules k answers else ⟨true,⟨#[]⟩,noKey⟩
def least22 (n:Int):ByteArray:=if n=14 then ⟨#[48]⟩ else ⟨#[]⟩
def leastK (k:Key):ByteArray:=if k.kind=32 then ⟨#[48]⟩ else if isCyclic k then least22 k.kind else ⟨#[]⟩
def rightK (rules:List Rule) (k:Key):Bool:=validK k && ((decide (k.kind≠31) && decide (k.kind≠32)) || decide (ofK rules (number k)=k))
def recOf (l:List Rec) (k:Key):Rec:=(findR l k).getD noRec
def openR (l:List Rec) (rev:Int) (k:Key):Bool:=(findR l k).isSome && (isCyclic k && (decide ((recOf l k).verified<rev) && !(recOf l k).dirty))
def keptOk (x:Bas) (k:Key):Bool:=isInput k || ((findR x.recs k).isSome && decide ((recOf x.recs k).verified=x.revision))
def keptV (x:Bas) (k:Key):ByteArray:=if isInput k then (findI x.inputs k).value else if keptOk x k then (recOf x.recs k).value else ⟨#[]⟩
def madeV (x:Bas) (k:Key) (v:ByteArray) (reads:List Key):Rec:=
 ⟨k,v,reads,if (findR x.recs k).isSome && decide ((recOf x.recs k).value=v) then (recOf x.recs k).changed else x.revision,x.revision,1+(reads.length:Int),false⟩
end Go.Rc
namespace Go.Rc
open Go
open Classical in
noncomputable def checkE (rules:List Rule) (x:Bas) (goals:List Key):Int:=
 if ¬rulesOk rules then 41 else if ¬basOk x then 42 else if 32<goals.length then 3 else if goals.all (rightK rules) then 0 else 40
end Go.Rc
namespace Go.Rc
open Go
structure Chk where
 member:Key
 read:Key
 deriving DecidableEq
def Chk.cells (x:Chk):List Value:=[.int .i64 x.member.kind,.string x.member.text,.int .i64 x.read.kind,.string x.read.text]
def checksOf (group:List Key) (m:Key) (l:List Key):List Chk:=(l.filter fun x=>!decide (x∈group)).map fun x=>⟨m,x⟩
def checksV (l:List Rec) (group:List Key):List Chk:=group.flatMap fun m=>checksOf group m (recOf l m).reads
theorem checksOf_take {group:List Key} {m:Key} {l:List Key} {j:Nat} (h:j<l.length):checksOf group m (l.take (j+1))=if l[j]∈group then checksOf group m (l.take j) else checksOf group m (l.take j)++[⟨m,l[j]⟩]:=by
 rw [List.take_succ_eq_append_getElem h];simp only [checksOf,List.filter_append,List.map_append]
 by_cases e:l[j]∈group <;> simp [e]
theorem checksOf_len (group:List Key) (m:Key) (l:List Key):(checksOf group m l).length≤l.length:=by simp only [checksOf,List.length_map];exact List.length_filter_le _ _
end Go.Rc
namespace Go.Rc
end Go.Rc

namespace Go.Rc
open Go
variable {E EK ER EI ES EF base:Nat} {w w':World} {a:Option Addr} {n c:Nat} {S:List Nat}
structure Frm where
 key:Key
 running:Bool
 at_:Int
 reads:List Key
 answers:List ByteArray
 deriving DecidableEq
def Frm.row (x:Frm) (a1:Option Addr) (n1 c1:Nat) (a2:Option Addr) (n2 c2:Nat):List Value:=[.int .i64 x.key.kind,.string x.key.text,.bool x.running,.int .i64 x.at_,.slice a1 n1 c1,.slice a2 n2 c2]
/-! the plain meaning -/
def onF (l:List Frm) (k:Key):Bool:=l.any fun f=>decide (f.key=k)
def neededV (x:Bas) (l:List Frm) (k:Key):Bool:=!(isInput k || onF l k) && (!(findR x.recs k).isSome || decide ((recOf x.recs k).verified≠x.revision))
def lookV (x:Bas) (l others:List Frm) (k:Key):Int:=
 if !isCyclic k && onF l k then 3 else if !neededV x l k then 0 else if !onF others k then 1 else if isCyclic k then 0 else 2
end Go.Rc
namespace Go.Rc
open Go
variable {EA ERu:Nat} {w w':World} {a:Option Addr} {n c base:Nat} {S:List Nat}
def Rule.row (x:Rule) (a:Option Addr) (n c:Nat):List Value:=[.bool x.ring,.slice a n c,.int .i64 x.final,.int .i64 x.c]
theorem Rule.one (x:Rule) (a:Option Addr) (n c:Nat):∀u∈x.row a n c,u.oneCell'=true:=by simp [Rule.row,Value.oneCell']
end Go.Rc

namespace Go.Rc
open Go
def RR.key:RR Key:=RR.flat Key.cells
def RR.str:RR ByteArray:=RR.flat fun s=>[.string s]
def RR.ask:RR Ask:=RR.flat Ask.cells
def RR.inp:RR Inp:=RR.flat Inp.cells
def RR.chk:RR Chk:=RR.flat Chk.cells
def RR.int:RR Int:=RR.flat fun n=>[.int .i64 n]
def RR.rule:RR Rule where
 r Z w x row:=RuleR Z w x row
 mono hZ h:=by obtain ⟨a,n,c,h1,h2⟩:=h;exact ⟨a,n,c,h1,h2.mono (fun b hb _=>hZ b hb) fun _ _ h=>h⟩
 st hs hc h:=by obtain ⟨a,n,c,h1,h2⟩:=h;exact ⟨a,n,c,h1,SR.st hs hc (fun _ _ h=>h) h2⟩
 cut h:=by obtain ⟨a,n,c,h1,h2⟩:=h;exact ⟨a,n,c,h1,h2.mono (fun b hb hlt=>⟨hb,hlt⟩) fun _ _ h=>h⟩
def RR.rcd:RR Rec where
 r Z w x row:=∃a n c,row=x.row a n c∧Rd RR.key 2 Z w a n c x.reads∧x.reads.length≤4000
 mono hZ h:=by obtain ⟨a,n,c,h1,h2,h3⟩:=h;exact ⟨a,n,c,h1,h2.mono hZ,h3⟩
 st hs hc h:=by obtain ⟨a,n,c,h1,h2,h3⟩:=h;exact ⟨a,n,c,h1,h2.st hs hc,h3⟩
 cut h:=by obtain ⟨a,n,c,h1,h2,h3⟩:=h;exact ⟨a,n,c,h1,h2.cut,h3⟩
def RR.frm:RR Frm where
 r Z w x row:=∃a1 n1 c1 a2 n2 c2,row=x.row a1 n1 c1 a2 n2 c2∧Rd RR.key 2 Z w a1 n1 c1 x.reads∧Rd RR.str 1 Z w a2 n2 c2 x.answers∧x.reads.length≤4000∧x.answers.length≤4000
 mono hZ h:=by obtain ⟨a,n,c,a2,n2,c2,h1,h2,h3,h4⟩:=h;exact ⟨a,n,c,a2,n2,c2,h1,h2.mono hZ,h3.mono hZ,h4⟩
 st hs hc h:=by obtain ⟨a,n,c,a2,n2,c2,h1,h2,h3,h4⟩:=h;exact ⟨a,n,c,a2,n2,c2,h1,h2.st hs hc,h3.st hs hc,h4⟩
 cut h:=by obtain ⟨a,n,c,a2,n2,c2,h1,h2,h3,h4⟩:=h;exact ⟨a,n,c,a2,n2,c2,h1,h2.cut,h3.cut,h4⟩
end Go.Rc

namespace Go.Rc
open Go
/-! ### numbers and their texts -/
theorem decFrom_digits:∀(u:Nat) (n:Nat) (rest:List UInt8),decFrom (Lib.decDigits u++rest) (n:Int)=decFrom rest ((n*10 ^ Lib.nDigits u+u:Nat):Int):=by
 intro u
 induction u using Nat.strongRecOn with
 | _ u ih=>
  intro n rest
  by_cases h:u<10
  ·
   rw [Lib.decDigits_one h,Lib.nDigits_small h]
   have e:(UInt8.ofNat (48+u)).toNat=48+u:=by rw [UInt8.toNat_ofNat'];omega
   simp only [List.cons_append,List.nil_append,decFrom,e];rw [if_neg (by omega)]
   congr 1
   omega
  rw [Lib.decDigits,dif_neg h,Lib.nDigits_big h,List.append_assoc,ih (u / 10) (by omega)]
  have e:(UInt8.ofNat (48+u % 10)).toNat=48+u % 10:=by rw [UInt8.toNat_ofNat'];omega
  simp only [List.cons_append,List.nil_append,decFrom,e];rw [if_neg (by omega),Nat.pow_succ]
  congr 1
  have:n*(10 ^ Lib.nDigits (u / 10)*10)=10*(n*10 ^ Lib.nDigits (u / 10)):=by rw [← Nat.mul_assoc,Nat.mul_comm]
  rw [this]
  omega
theorem decDigits_head:∀u:Nat,∃d r,Lib.decDigits u=d::r∧(0<u→d≠48):=by
 intro u
 induction u using Nat.strongRecOn with
 | _ u ih=>
  by_cases h:u<10
  ·
   refine ⟨_,[],Lib.decDigits_one h,fun hu e=>?_⟩
   have:=congrArg UInt8.toNat e
   rw [UInt8.toNat_ofNat'] at this;have h2:(48:UInt8).toNat=48:=rfl
   omega
  obtain ⟨d,r,h1,h2⟩:=ih (u / 10) (by omega);exact ⟨d,r++[UInt8.ofNat (48+u % 10)],by rw [Lib.decDigits,dif_neg h,h1];rfl,fun _=>h2 (by omega)⟩
theorem nDigits_le:∀(k u:Nat),u<10 ^ (k+1)→Lib.nDigits u≤k+1
 | 0,u,h=>by rw [Lib.nDigits_small (by simpa using h)];omega
 | k+1,u,h=>by
  by_cases h1:u<10
  ·
   rw [Lib.nDigits_small h1];omega
  rw [Lib.nDigits_big h1]
  have:=nDigits_le k (u / 10) (by rw [Nat.pow_succ] at h;omega)
  omega
theorem decimal_itoa {n:Nat} (h:n<1000000000):decimal (itoa (n:Int))=n:=by
 have e:Lib.itoa (n:Int)=Lib.decDigits n:=by unfold Lib.itoa;rw [if_neg (by omega)];rfl
 have hl:(Lib.decDigits n).length≤9:=by rw [Lib.decDigits_length];exact nDigits_le 8 n h
 have hp:1≤(Lib.decDigits n).length:=by rw [Lib.decDigits_length];exact Lib.nDigits_pos n
 have hs:(itoa (n:Int)).size=(Lib.decDigits n).length:=by unfold itoa ByteArray.size;rw [e];simp
 have hd:(itoa (n:Int)).data.toList=Lib.decDigits n:=by unfold itoa;rw [e]
 unfold decimal
 rw [if_neg]
 ·
  rw [hd,← List.append_nil (Lib.decDigits n)]
  have:=decFrom_digits n 0 []
  simp only [Nat.zero_mul,Nat.zero_add] at this;exact this
 rw [hs,hd];rintro (h1 | h1 | ⟨h1,h2⟩)
 ·
  omega
 ·
  omega
 obtain ⟨d,r,h3,h4⟩:=decDigits_head n;rw [h3] at h1
 simp at h1
 by_cases h0:0<n
 ·
  exact h4 h0 h1
 have h5:n=0:=by omega
 subst h5;exact h2 (by rw [Lib.decDigits_one (by omega)];rfl)
theorem valS_itoa {n:Nat} (h:n≤65535):valS (itoa (n:Int))=n:=by
 unfold valS
 rw [decimal_itoa (by omega),if_neg (by omega)]
 rfl
theorem itoa_inj {m n:Nat} (hm:m<1000000000) (hn:n<1000000000) (h:itoa (m:Int)=itoa (n:Int)):m=n:=by
 have h1:=decimal_itoa hm;rw [h,decimal_itoa hn] at h1
 omega
/-! ### keys -/
theorem number_ofK {rules:List Rule} {i:Nat} (hi:i<rules.length) (h99:i≤99):number (ofK rules (i:Int))=i:=by
 have hk:ofK rules (i:Int)=⟨if ringAt rules i then 32 else 31,itoa i⟩:=by unfold ofK;rw [if_neg (by omega)];rfl
 rw [hk]
 unfold number
 simp only
 rw [decimal_itoa (by omega),if_pos]
 split <;> omega
theorem ofK_kind {rules:List Rule} {i:Nat} (hi:i<rules.length) (h99:i≤99):(ofK rules (i:Int)).kind=if ringAt rules i then 32 else 31:=by
 unfold ofK;rw [if_neg (by omega)];rfl
theorem isInput_ofK {rules:List Rule} {i:Nat} (hi:i<rules.length) (h99:i≤99):isInput (ofK rules (i:Int))=false:=by
 unfold isInput;rw [ofK_kind hi h99];split <;> simp
theorem isInput_cellK {n:Nat} (h:n≤99):isInput (cellK (n:Int))=true:=by
 unfold isInput cellK;rw [if_neg (by omega)];simp
theorem isCyclic_ofK {rules:List Rule} {i:Nat} (hi:i<rules.length) (h99:i≤99):isCyclic (ofK rules (i:Int))=ringAt rules i:=by
 unfold isCyclic;rw [ofK_kind hi h99];cases ringAt rules i <;> simp
theorem isCyclic_cellK {n:Nat} (h:n≤99):isCyclic (cellK (n:Int))=false:=by
 unfold isCyclic cellK;rw [if_neg (by omega)];simp
inductive Knd (rules:List Rule):Key→Prop where
 | cell {n:Nat} (h:n≤99):Knd rules (cellK (n:Int))
 | rule {i:Nat} (h:i<rules.length) (h99:i≤99):Knd rules (ofK rules (i:Int))
/-! ### values -/
def cellOf (inp:List Inp) (k:Key):ByteArray:=(findI inp k).value
def runA (turn:List ByteArray→Turn) (ans:Key→ByteArray):Nat→List Key × List ByteArray
 | 0=>([],[])
 | n+1=>((runA turn ans n).1++[(turn (runA turn ans n).2).ask],(runA turn ans n).2++[ans (turn (runA turn ans n).2).ask])
def ansP (inp:List Inp) (prev:List ByteArray) (k:Key):ByteArray:=if isInput k then cellOf inp k else prev.getD (number k).toNat ⟨#[]⟩
def asksN (rules:List Rule) (i:Nat):Nat:=(rules[i]?.map (·.asks.length)).getD 0
def askKey (rules:List Rule) (x:Ask):Key:=if x.cell then cellK x.n else ofK rules x.n
def ringAsk (rules:List Rule) (i j:Nat):Prop:=∃r x,rules[i]?=some r∧r.ring=true∧x∈r.asks∧x.cell=false∧x.n=(j:Int)∧ringAt rules j=true
inductive RReach (rules:List Rule) (i:Nat):Nat→Prop where
 | refl:RReach rules i i
 | step {j k:Nat}:RReach rules i j→ringAsk rules j k→RReach rules i k
def outside (rules:List Rule) (x:Ask):Bool:=x.cell || !ringAt rules x.n.toNat
def baseV (rules:List Rule) (ans:Key→ByteArray) (j:Nat):Nat:=
 match rules[j]? with
 | some r=>bitsV r.c.toNat ((r.asks.filter (outside rules)).map fun x=>valS (ans (askKey rules x)))
 | none=>0
open Classical in
noncomputable def ofBits (P:Nat→Prop):Nat→Nat
 | 0=>0
 | n+1=>ofBits P n ||| (if P n then 2 ^ n else 0)
theorem ofBits_lt (P:Nat→Prop):∀n,ofBits P n<2 ^ n:=by
 intro n
 induction n with
 | zero=>simp [ofBits]
 | succ n ih=>
  unfold ofBits
  refine Nat.or_lt_two_pow (Nat.lt_of_lt_of_le ih (Nat.pow_le_pow_right (by omega) (by omega))) ?_
  split
  ·
   exact Nat.pow_lt_pow_right (by omega) (by omega)
  exact Nat.two_pow_pos _
theorem ofBits_bit (P:Nat→Prop):∀n b,(ofBits P n).testBit b=true↔b<n∧P b:=by
 intro n
 induction n with
 | zero=>intro b;simp [ofBits]
 | succ n ih=>
  intro b
  unfold ofBits
  rw [Nat.testBit_or,Bool.or_eq_true,ih]
  by_cases h:P n
  ·
   rw [if_pos h,Nat.testBit_two_pow]
   constructor
   ·
    rintro (⟨h1,h2⟩ | h1)
    ·
     exact ⟨by omega,h2⟩
    simp at h1;subst h1;exact ⟨by omega,h⟩
   rintro ⟨h1,h2⟩
   by_cases e:n=b
   ·
    right;simp [e]
   left;exact ⟨by omega,h2⟩
  rw [if_neg h];simp only [Nat.zero_testBit,Bool.false_eq_true,or_false]
  constructor
  ·
   rintro ⟨h1,h2⟩;exact ⟨by omega,h2⟩
  rintro ⟨h1,h2⟩;refine ⟨?_,h2⟩
  rcases Nat.lt_or_ge b n with h3 | h3
  ·
   exact h3
  have:b=n:=by omega
  subst this;exact absurd h2 h
noncomputable def ringB (rules:List Rule) (ans:Key→ByteArray) (i:Nat):Nat:=ofBits (fun b=>∃j,RReach rules i j∧(baseV rules ans j).testBit b=true) 16
noncomputable def valueAt (rules:List Rule) (inp:List Inp) (prev:List ByteArray) (i:Nat):ByteArray:=
 if ringAt rules i then itoa (ringB rules (ansP inp prev) i:Int)
 else (turnV rules (ofK rules (i:Int)) (runA (turnV rules (ofK rules (i:Int))) (ansP inp prev) (asksN rules i)).2).value
noncomputable def vals (rules:List Rule) (inp:List Inp):Nat→List ByteArray
 | 0=>[]
 | n+1=>vals rules inp n++[valueAt rules inp (vals rules inp n) n]
noncomputable def valI (rules:List Rule) (inp:List Inp) (i:Nat):ByteArray:=valueAt rules inp (vals rules inp i) i
noncomputable def valOf (rules:List Rule) (inp:List Inp) (k:Key):ByteArray:=if isInput k then cellOf inp k else valI rules inp (number k).toNat
section
variable {rules:List Rule} {inp:List Inp}
theorem vals_len:∀n,(vals rules inp n).length=n:=by
 intro n;induction n with
 | zero=>rfl
 | succ n ih=>simp [vals,ih]
theorem vals_get:∀n m,m<n→(vals rules inp n).getD m ⟨#[]⟩=valI rules inp m:=by
 intro n
 induction n with
 | zero=>intro m h;omega
 | succ n ih=>
  intro m h
  unfold vals
  rcases Nat.lt_or_ge m n with h1 | h1
  ·
   rw [← ih m h1];simp only [List.getD_eq_getElem?_getD];rw [List.getElem?_append_left (by rw [vals_len];exact h1)]
  have:m=n:=by omega
  subst this;simp only [List.getD_eq_getElem?_getD];rw [List.getElem?_append_right (by rw [vals_len];omega),vals_len]
  simp [valI]
theorem ansP_vals {n:Nat} {k:Key} (h:isInput k=true∨(number k).toNat<n):ansP inp (vals rules inp n) k=valOf rules inp k:=by
 unfold ansP valOf
 by_cases hi:isInput k=true
 ·
  rw [if_pos hi,if_pos hi]
 rw [if_neg hi,if_neg hi,vals_get]
 rcases h with h | h
 ·
  exact absurd h hi
 exact h
theorem runA_len (turn:List ByteArray→Turn) (ans:Key→ByteArray):∀n,(runA turn ans n).1.length=n∧(runA turn ans n).2.length=n:=by
 intro n;induction n with
 | zero=>simp [runA]
 | succ n ih=>simp [runA,ih.1,ih.2]
theorem runA_congr {turn:List ByteArray→Turn} {ans ans':Key→ByteArray}:∀n,(∀m,m<n→ans (turn (runA turn ans m).2).ask=ans' (turn (runA turn ans m).2).ask)→runA turn ans n=runA turn ans' n:=by
 intro n
 induction n with
 | zero=>intro _;rfl
 | succ n ih=>
  intro h
  have e:=ih fun m hm=>h m (by omega)
  have:=h n (by omega)
  simp only [runA];rw [e] at this ⊢;rw [this]
end
/-! ### what valid rules ask for -/
section
variable {rules:List Rule} {inp:List Inp}
theorem blockLo_le (l:List Rule):∀k,blockLo l k≤k:=by
 intro k;induction k with
 | zero=>simp [blockLo]
 | succ k ih=>unfold blockLo;split <;> omega
theorem hiFrom_le (l:List Rule) {m:Nat} (h:m≤l.length):hiFrom l m≤l.length:=by
 unfold hiFrom
 have h1:((l.drop m).takeWhile (·.ring)).length≤(l.drop m).length:=(List.takeWhile_sublist _).length_le;rw [List.length_drop] at h1
 omega
theorem block_in {i:Nat} (hi:i<rules.length):block rules (i:Int)=if ringAt rules i then ((blockLo rules i:Int),(hiFrom rules (i+1):Int)) else ((i:Int),(i:Int)+1):=by
 unfold block;rw [if_neg (by omega)];rfl
theorem block_ring {i j:Nat} (hi:ringAt rules i=true) (h1:blockLo rules i≤j) (h2:j<hiFrom rules (i+1)):ringAt rules j=true:=by
 have hlo:∀k,blockLo rules k≤j→j<k→ringAt rules j=true:=by
  intro k
  induction k with
  | zero=>intro _ h;omega
  | succ k ih=>
   intro h3 h4
   unfold blockLo at h3
   by_cases hk:ringAt rules k=true
   ·
    rw [if_pos hk] at h3
    by_cases e:j=k
    ·
     rw [e];exact hk
    exact ih h3 (by omega)
   rw [if_neg hk] at h3;omega
 rcases Nat.lt_trichotomy j i with h | h | h
 ·
  exact hlo i h1 h
 ·
  rw [h];exact hi
 have key:∀(l:List Rule) (m j:Nat),m≤j→j<m+((l.drop m).takeWhile (·.ring)).length→ringAt l j=true:=by
  intro l m j hm hj
  have hlt:j - m<((l.drop m).takeWhile (·.ring)).length:=by omega
  have hmem:=List.getElem_mem hlt;have hr:=List.all_eq_true.1 (List.all_takeWhile (p:=fun x:Rule=>x.ring) (l:=l.drop m)) _ hmem;have hpre:((l.drop m).takeWhile (·.ring)) <+: l.drop m:=List.takeWhile_prefix _;have hget:=hpre.getElem hlt;rw [hget] at hr
  have hjl:j<l.length:=by
   have:=hpre.length_le
   rw [List.length_drop] at this
   omega
  rw [ringAt_get hjl];rw [List.getElem_drop] at hr
  simpa [show m+(j - m)=j by omega] using hr
 exact key rules (i+1) j (by omega) h2
theorem mayOk_key {i:Nat} (hi:i<rules.length) (hlen:rules.length≤24) {c:Bool} {n:Int} (h:mayOk rules i c n=true) :
  ∃m:Nat,n=m∧if c then m≤15 else m<rules.length∧(ringAt rules m=true∧ringAt rules i=true∨m<i)∧(ringAt rules i=false→m<i)∧(ringAt rules m=false→m<i):=by
 unfold mayOk at h
 cases c
 ·
  simp only [Bool.false_eq_true,if_false,Bool.and_eq_true,decide_eq_true_eq] at h ⊢;obtain ⟨m,rfl⟩:∃m:Nat,n=m:=⟨n.toNat,by omega⟩;refine ⟨m,rfl,?_⟩;have h2:=h.2
  unfold mayTop at h2
  rw [block_in hi] at h2
  by_cases hr:ringAt rules i=true
  ·
   rw [if_pos hr] at h2;simp only [hr,if_true] at h2
   have hml:m<hiFrom rules (i+1):=by omega
   have hhi:=hiFrom_le rules (show i+1≤rules.length by omega);refine ⟨by omega,?_,(fun h=>by rw [hr] at h;cases h),?_⟩
   ·
    by_cases hmi:m<i
    ·
     exact .inr hmi
    exact .inl ⟨block_ring hr (by have:=blockLo_le rules i;omega) hml,hr⟩
   intro hm
   rcases Nat.lt_or_ge m i with h3 | h3
   ·
    exact h3
   rw [block_ring hr (by have:=blockLo_le rules i;omega) hml] at hm;cases hm
  rw [if_neg hr] at h2;simp only [hr,if_false,Bool.false_eq_true] at h2
  have:m<i:=by omega
  exact ⟨by omega,.inr this,fun _=>this,fun _=>this⟩
 simp only [if_true,Bool.and_eq_true,decide_eq_true_eq] at h ⊢;exact ⟨n.toNat,by omega,by omega⟩
end
end Go.Rc

namespace Go.Rc
open Go
section
variable {rules:List Rule} {inp:List Inp}
theorem rulesOk.len (h:rulesOk rules):rules.length≤24:=h.1
theorem rulesOk.at (h:rulesOk rules) {i:Nat} (hi:i<rules.length):ruleOk rules i rules[i]:=h.2 i _ (getElem_some hi)
theorem asksN_eq {i:Nat} (hi:i<rules.length):asksN rules i=rules[i].asks.length:=by unfold asksN;rw [getElem_some hi];rfl
theorem blockLo_in {m lo:Nat} (h1:lo≤m) (h:∀j,lo≤j→j<m→ringAt rules j=true):blockLo rules m≤lo:=by
 induction m with
 | zero=>simp [blockLo]
 | succ m ih=>
  by_cases e:lo=m+1
  ·
   rw [e];exact blockLo_le _ _
  unfold blockLo
  rw [if_pos (h m (by omega) (by omega))]
  exact ih (by omega) fun j h2 h3=>h j h2 (by omega)
theorem ring_may (_hR:rulesOk rules) {i:Nat} (hi:i<rules.length) (hr:ringAt rules i=true) {m:Nat} (h:mayOk rules i false (m:Int)=true) :
  m<rules.length∧(ringAt rules m=true→blockLo rules m≤blockLo rules i)∧(ringAt rules m=false→m<blockLo rules i):=by
 unfold mayOk at h
 simp only [Bool.false_eq_true,if_false,Bool.and_eq_true,decide_eq_true_eq] at h;have h2:=h.2
 unfold mayTop at h2
 rw [block_in hi,if_pos hr] at h2;simp only [hr,if_true] at h2;have hhi:=hiFrom_le rules (show i+1≤rules.length by omega);refine ⟨by omega,fun _=>?_,fun hm=>?_⟩
 ·
  rcases Nat.lt_or_ge m (blockLo rules i) with h3 | h3
  ·
   have:=blockLo_le rules m;omega
  exact blockLo_in h3 fun j h4 h5=>block_ring hr h4 (by omega)
 rcases Nat.lt_or_ge m (blockLo rules i) with h3 | h3
 ·
  exact h3
 rw [block_ring hr h3 (by omega)] at hm;cases hm
def MayAsk (rules:List Rule) (i:Nat) (k:Key):Prop:=
 (∃n:Nat,n≤15∧k=cellK (n:Int))∨
 (∃m:Nat,m<rules.length∧k=ofK rules (m:Int)∧(ringAt rules m=true∧ringAt rules i=true∨m<i)∧(ringAt rules i=false→m<i)∧(ringAt rules m=false→m<i)∧(ringAt rules m=false→ringAt rules i=true→m<blockLo rules i))
theorem may_key (hR:rulesOk rules) {i:Nat} (hi:i<rules.length) {c:Bool} {n:Int} (h:mayOk rules i c n=true):MayAsk rules i (if c then cellK n else ofK rules n):=by
 obtain ⟨m,rfl,h2⟩:=mayOk_key hi hR.len h
 cases c
 ·
  exact .inr ⟨m,h2.1,rfl,h2.2.1,h2.2.2.1,h2.2.2.2,fun h3 h4=>(ring_may hR hi h4 h).2.2 h3⟩
 exact .inl ⟨m,h2,rfl⟩
theorem MayAsk.knd (hR:rulesOk rules) {i:Nat} {k:Key} (h:MayAsk rules i k):Knd rules k:=by
 have:=hR.len
 rcases h with ⟨n,h1,rfl⟩ | ⟨m,h1,rfl,_⟩
 ·
  exact .cell (by omega)
 exact .rule h1 (by omega)
theorem ask_in (hR:rulesOk rules) {i n:Nat} (hi:i<rules.length) (hn:n<rules[i].asks.length) (answers:List ByteArray) (hl:answers.length=n) :
  MayAsk rules i (if rules[i].asks[n].cell then cellK (toOf rules[i].asks[n] answers) else ofK rules (toOf rules[i].asks[n] answers)):=by
 obtain ⟨_,h2,_⟩:=hR.at hi;have h3:=h2 n _ (getElem_some hn)
 unfold askOk at h3
 rw [Bool.and_eq_true] at h3
 unfold toOf
 by_cases hp:pickNow rules[i].asks[n] answers=true
 ·
  rw [if_pos hp]
  have hpk:rules[i].asks[n].pick=true:=by unfold pickNow at hp;simp at hp;exact hp.1
  rw [hpk] at h3;simp only [if_true,Bool.and_eq_true] at h3;exact may_key hR hi h3.2.2
 rw [if_neg hp];exact may_key hR hi h3.1
theorem turn_ask (hR:rulesOk rules) {i:Nat} (hi:i<rules.length) {answers:List ByteArray} (hn:answers.length<asksN rules i) :
  ∃a,turnV rules (ofK rules (i:Int)) answers=⟨false,⟨#[]⟩,a⟩∧MayAsk rules i a∧(ringAt rules i=true→∃x,rules[i].asks[answers.length]?=some x∧a=askKey rules x):=by
 have h24:=hR.len;rw [asksN_eq hi] at hn;have hk:=number_ofK hi (by omega:i≤99);refine ⟨_,turnV_ask hk hi (by rw [hk]) hn,ask_in hR hi hn answers rfl,fun hr=>⟨_,getElem_some hn,?_⟩⟩;obtain ⟨_,h2,_⟩:=hR.at hi;have h3:=h2 _ _ (getElem_some hn)
 unfold askOk at h3
 rw [Bool.and_eq_true] at h3
 have hring:rules[i].ring=true:=by rw [← ringAt_get hi];exact hr
 have hp:rules[i].asks[answers.length].pick=false:=by
  cases h:rules[i].asks[answers.length].pick
  ·
   rfl
  rw [h,hring] at h3;simp at h3
 unfold askKey toOf pickNow
 rw [hp];rfl
theorem turn_end (hR:rulesOk rules) {i:Nat} (hi:i<rules.length) {answers:List ByteArray} (hn:answers.length=asksN rules i) :
  turnV rules (ofK rules (i:Int)) answers=⟨true,itoa (finalV rules[i].final rules[i].c.toNat (answers.map valS)),noKey⟩:=by
 have h24:=hR.len;rw [asksN_eq hi] at hn;have hk:=number_ofK hi (by omega:i≤99);rw [turnV_end hk hi (by rw [hk]) (by omega),List.take_of_length_le (by omega)]
theorem asksN_le (hR:rulesOk rules) {i:Nat} (hi:i<rules.length):asksN rules i≤6:=by rw [asksN_eq hi];exact (hR.at hi).1
theorem lower_number (hR:rulesOk rules) {i:Nat} {k:Key} (h:MayAsk rules i k) (hr:ringAt rules i=false∨isCyclic k=false):isInput k=true∨(number k).toNat<i:=by
 have h24:=hR.len
 rcases h with ⟨n,h1,rfl⟩ | ⟨m,h1,rfl,h2,h3,h4,_⟩
 ·
  exact .inl (isInput_cellK (by omega))
 right
 rw [number_ofK h1 (by omega)]
 rcases hr with hr | hr
 ·
  exact h3 hr
 rw [isCyclic_ofK h1 (by omega)] at hr;exact h4 hr
theorem valI_rule (hR:rulesOk rules) {i:Nat} (hi:i<rules.length) (hr:ringAt rules i=false) :
  turnV rules (ofK rules (i:Int)) (runA (turnV rules (ofK rules (i:Int))) (valOf rules inp) (asksN rules i)).2=⟨true,valI rules inp i,noKey⟩:=by
 have h:valI rules inp i=(turnV rules (ofK rules (i:Int)) (runA (turnV rules (ofK rules (i:Int))) (valOf rules inp) (asksN rules i)).2).value:=by
  unfold valI valueAt
  rw [if_neg (by simp [hr])];rw [runA_congr (ans:=ansP inp (vals rules inp i)) (ans':=valOf rules inp) (asksN rules i)];intro m hm;obtain ⟨a,h1,h2,_⟩:=turn_ask hR hi (answers:=(runA (turnV rules (ofK rules (i:Int))) (ansP inp (vals rules inp i)) m).2) (by rw [(runA_len _ _ m).2];exact hm);rw [h1];exact ansP_vals (lower_number hR h2 (.inl hr))
 rw [h];rw [turn_end hR hi ((runA_len _ _ _).2)]
/-! rings -/
theorem ring_asks (hR:rulesOk rules) {i:Nat} (hi:i<rules.length) (_hr:ringAt rules i=true) {x:Ask} (hx:x∈rules[i].asks):mayOk rules i x.cell x.n=true:=by
 obtain ⟨k,hk,rfl⟩:=List.mem_iff_getElem.1 hx
 have:=(hR.at hi).2.1 k _ (getElem_some hk)
 unfold askOk at this
 rw [Bool.and_eq_true] at this;exact this.1
theorem ringAsk.lt {i j:Nat} (h:ringAsk rules i j):i<rules.length∧j<rules.length∧ringAt rules i=true∧ringAt rules j=true:=by
 obtain ⟨r,x,h1,h2,_,_,_,h6⟩:=h;have hi:=(List.getElem?_eq_some_iff.1 h1).1;refine ⟨hi,?_,?_,h6⟩
 ·
  rcases Nat.lt_or_ge j rules.length with h | h
  ·
   exact h
  rw [ringAt_out h] at h6;cases h6
 rw [ringAt_get hi];rw [getElem_some hi] at h1
 simp at h1;rw [h1];exact h2
theorem reach_ring {i j:Nat} (hi:i<rules.length) (hr:ringAt rules i=true) (h:RReach rules i j):j<rules.length∧ringAt rules j=true:=by
 induction h with
 | refl=>exact ⟨hi,hr⟩
 | step _ h2 _=>exact ⟨h2.lt.2.1,h2.lt.2.2.2⟩
theorem reach_lo (hR:rulesOk rules) {i j:Nat} (h:RReach rules i j):blockLo rules j≤blockLo rules i:=by
 induction h with
 | refl=>exact Nat.le_refl _
 | step h1 h2 ih=>
  have hl:=h2.lt;obtain ⟨r,x,h3,h4,h5,h6,h7,h8⟩:=h2;rw [getElem_some hl.1] at h3
  simp at h3
  subst h3;have hm:=ring_asks hR hl.1 hl.2.2.1 h5;rw [h6,h7] at hm
  have:=(ring_may hR hl.1 hl.2.2.1 hm).2.1 h8
  omega
theorem RReach.head {i j k:Nat} (h:ringAsk rules i j) (h2:RReach rules j k):RReach rules i k:=by
 induction h2 with
 | refl=>exact .step .refl h
 | step _ h4 ih=>exact .step ih h4
theorem RReach.cases {i k:Nat} (h:RReach rules i k):k=i∨∃j,ringAsk rules i j∧RReach rules j k:=by
 induction h with
 | refl=>exact .inl rfl
 | step h1 h2 ih=>
  right
  rcases ih with rfl | ⟨j,h3,h4⟩
  ·
   exact ⟨_,h2,.refl⟩
  exact ⟨j,h3,.step h4 h2⟩
theorem bitsV_bit:∀(l:List Nat) (c b:Nat),(bitsV c l).testBit b=true↔c.testBit b=true∨∃x∈l,x.testBit b=true:=by
 intro l
 induction l with
 | nil=>intro c b;simp [bitsV]
 | cons x r ih=>
  intro c b
  have:=ih (c ||| x) b
  simp only [bitsV,List.foldl_cons] at this ⊢;rw [this,Nat.testBit_or,Bool.or_eq_true];simp only [List.mem_cons]
  constructor
  ·
   rintro ((h | h) | ⟨y,h1,h2⟩)
   ·
    exact .inl h
   ·
    exact .inr ⟨x,.inl rfl,h⟩
   exact .inr ⟨y,.inr h1,h2⟩
  rintro (h | ⟨y,rfl | h1,h2⟩)
  ·
   exact .inl (.inl h)
  ·
   exact .inl (.inr h2)
  exact .inr ⟨y,h1,h2⟩
theorem ring_c (hR:rulesOk rules) {i:Nat} (hi:i<rules.length) (hr:ringAt rules i=true):rules[i].final=5∧rules[i].c.toNat≤65535:=by
 have h:=(hR.at hi).2.2
 unfold endOk at h
 rw [ringAt_get hi] at hr;rw [hr] at h
 simp at h
 exact ⟨h.1.1,by omega⟩
theorem lt_of_bit {n b:Nat} (h:n≤65535) (hb:n.testBit b=true):b<16:=by
 rcases Nat.lt_or_ge b 16 with h1 | h1
 ·
  exact h1
 have:=Nat.ge_two_pow_of_testBit hb
 have h2:2 ^ 16≤2 ^ b:=Nat.pow_le_pow_right (by omega) h1
 omega
theorem baseV_bit {ans:Key→ByteArray} {i:Nat} (hi:i<rules.length) (b:Nat) :
  (baseV rules ans i).testBit b=true↔rules[i].c.toNat.testBit b=true∨∃x∈rules[i].asks,outside rules x=true∧(valS (ans (askKey rules x))).testBit b=true:=by
 unfold baseV
 rw [getElem_some hi];simp only [bitsV_bit,List.mem_map,List.mem_filter]
 constructor
 ·
  rintro (h | ⟨_,⟨x,⟨h1,h2⟩,rfl⟩,h3⟩)
  ·
   exact .inl h
  exact .inr ⟨x,h1,h2,h3⟩
 rintro (h | ⟨x,h1,h2,h3⟩)
 ·
  exact .inl h
 exact .inr ⟨_,⟨x,⟨h1,h2⟩,rfl⟩,h3⟩
theorem baseV_lt (hR:rulesOk rules) {ans:Key→ByteArray} {i:Nat} (hi:i<rules.length) (hr:ringAt rules i=true) {b:Nat} (h:(baseV rules ans i).testBit b=true):b<16:=by
 rcases (baseV_bit hi b).1 h with h1 | ⟨x,_,_,h1⟩
 ·
  exact lt_of_bit (ring_c hR hi hr).2 h1
 exact lt_of_bit (valS_le _) h1
theorem ringB_bit (hR:rulesOk rules) {ans:Key→ByteArray} {i:Nat} (hi:i<rules.length) (hr:ringAt rules i=true) (b:Nat) :
  (ringB rules ans i).testBit b=true↔∃j,RReach rules i j∧(baseV rules ans j).testBit b=true:=by
 unfold ringB
 rw [ofBits_bit]
 constructor
 ·
  exact fun h=>h.2
 rintro ⟨j,h1,h2⟩;have hj:=reach_ring hi hr h1;exact ⟨baseV_lt hR hj.1 hj.2 h2,j,h1,h2⟩
theorem ringB_le {ans:Key→ByteArray} (i:Nat):ringB rules ans i≤65535:=by
 have:=ofBits_lt (fun b=>∃j,RReach rules i j∧(baseV rules ans j).testBit b=true) 16
 unfold ringB;omega
noncomputable def rv (rules:List Rule) (inp:List Inp) (i:Nat):Nat:=ringB rules (valOf rules inp) i
theorem askKey_lower (hR:rulesOk rules) {i:Nat} (hi:i<rules.length) (hr:ringAt rules i=true) {x:Ask} (hx:x∈rules[i].asks) (ho:outside rules x=true):isInput (askKey rules x)=true∨(number (askKey rules x)).toNat<blockLo rules i:=by
 have h24:=hR.len;have hm:=ring_asks hR hi hr hx;obtain ⟨m,h1,h2⟩:=mayOk_key hi hR.len hm
 unfold askKey
 unfold outside at ho
 cases hc:x.cell
 ·
  rw [hc] at hm ho h2
  right
  simp only [Bool.false_eq_true,if_false] at h2 ⊢;rw [h1] at hm ho ⊢;rw [number_ofK h2.1 (by omega)];refine (ring_may hR hi hr hm).2.2 ?_
  simpa using ho
 left
 rw [hc] at h2;simp only [if_true] at h2 ⊢;rw [h1];exact isInput_cellK (by omega)
theorem valI_ring (hR:rulesOk rules) {i:Nat} (hi:i<rules.length) (hr:ringAt rules i=true):valI rules inp i=itoa (rv rules inp i:Int):=by
 unfold valI valueAt rv
 rw [if_pos hr]
 congr 2
 refine Nat.eq_of_testBit_eq fun b=>?_;rw [Bool.eq_iff_iff,ringB_bit hR hi hr,ringB_bit hR hi hr]
 have key:∀j,RReach rules i j→((baseV rules (ansP inp (vals rules inp i)) j).testBit b=true↔(baseV rules (valOf rules inp) j).testBit b=true):=by
  intro j h;have hj:=reach_ring hi hr h;have hlo:=reach_lo hR h;have hle:=blockLo_le rules i;rw [baseV_bit hj.1,baseV_bit hj.1];refine or_congr_right (exists_congr fun x=>and_congr_right fun hx=>and_congr_right fun ho=>?_);rw [ansP_vals]
  rcases askKey_lower hR hj.1 hj.2 hx ho with h1 | h1
  ·
   exact .inl h1
  exact .inr (by omega)
 exact exists_congr fun j=>and_congr_right fun h=>key j h
theorem valOf_ofK (hR:rulesOk rules) {i:Nat} (hi:i<rules.length):valOf rules inp (ofK rules (i:Int))=valI rules inp i:=by
 have h24:=hR.len
 unfold valOf
 rw [if_neg (by rw [isInput_ofK hi (by omega)];simp),number_ofK hi (by omega)]
 rfl
def ringAns (rules:List Rule) (ans:Key→ByteArray) (i:Nat):List Nat:=((rules[i]?.map (·.asks)).getD []).map fun x=>valS (ans (askKey rules x))
theorem ring_runA (hR:rulesOk rules) {i:Nat} (hi:i<rules.length) (hr:ringAt rules i=true) (ans:Key→ByteArray):∀n,n≤rules[i].asks.length→
  runA (turnV rules (ofK rules (i:Int))) ans n=((rules[i].asks.take n).map (askKey rules),(rules[i].asks.take n).map fun x=>ans (askKey rules x)):=by
 intro n
 induction n with
 | zero=>intro _;simp [runA]
 | succ n ih=>
  intro hn;have e:=ih (by omega);simp only [runA]
  have hlen:((rules[i].asks.take n).map fun x=>ans (askKey rules x)).length=n:=by simp;omega
  obtain ⟨a,h1,_,h3⟩:=turn_ask hR hi (answers:=(rules[i].asks.take n).map fun x=>ans (askKey rules x)) (by rw [hlen,asksN_eq hi];omega);obtain ⟨x,h4,h5⟩:=h3 hr;rw [hlen,getElem_some (by omega:n<rules[i].asks.length)] at h4
  simp at h4
  rw [e,h1];simp only [List.take_succ_eq_append_getElem (by omega:n<rules[i].asks.length),List.map_append,List.map_cons,List.map_nil];rw [h5,← h4]
theorem ring_turn (hR:rulesOk rules) {i:Nat} (hi:i<rules.length) (hr:ringAt rules i=true) (ans:Key→ByteArray) :
  turnV rules (ofK rules (i:Int)) (runA (turnV rules (ofK rules (i:Int))) ans (asksN rules i)).2=⟨true,itoa (bitsV rules[i].c.toNat (ringAns rules ans i):Int),noKey⟩:=by
 rw [turn_end hR hi ((runA_len _ _ _).2),ring_runA hR hi hr ans _ (by rw [asksN_eq hi];exact Nat.le_refl _),(ring_c hR hi hr).1,asksN_eq hi]
 unfold ringAns
 rw [getElem_some hi];simp only [List.take_length,List.map_map,Option.map_some,Option.getD_some]
 rfl
theorem ringAns_bit {ans:Key→ByteArray} {i:Nat} (hi:i<rules.length) (b:Nat) :
  (bitsV rules[i].c.toNat (ringAns rules ans i)).testBit b=true↔(baseV rules ans i).testBit b=true∨∃x∈rules[i].asks,outside rules x=false∧(valS (ans (askKey rules x))).testBit b=true:=by
 rw [bitsV_bit,baseV_bit hi]
 unfold ringAns
 rw [getElem_some hi];simp only [Option.map_some,Option.getD_some,List.mem_map]
 constructor
 ·
  rintro (h | ⟨_,⟨x,h1,rfl⟩,h2⟩)
  ·
   exact .inl (.inl h)
  cases ho:outside rules x
  ·
   exact .inr ⟨x,h1,ho,h2⟩
  exact .inl (.inr ⟨x,h1,ho,h2⟩)
 rintro ((h | ⟨x,h1,_,h2⟩) | ⟨x,h1,_,h2⟩)
 ·
  exact .inl h
 ·
  exact .inr ⟨_,⟨x,h1,rfl⟩,h2⟩
 exact .inr ⟨_,⟨x,h1,rfl⟩,h2⟩
theorem inside_ask (hR:rulesOk rules) {i:Nat} (hi:i<rules.length) (hr:ringAt rules i=true) {x:Ask} (hx:x∈rules[i].asks) (ho:outside rules x=false):∃j:Nat,ringAsk rules i j∧askKey rules x=ofK rules (j:Int)∧j<rules.length:=by
 have hm:=ring_asks hR hi hr hx
 unfold outside at ho
 rw [Bool.or_eq_false_iff] at ho;obtain ⟨m,h1,h2⟩:=mayOk_key hi hR.len hm;rw [ho.1] at h2;simp only [Bool.false_eq_true,if_false] at h2
 have hmr:ringAt rules m=true:=by have:=ho.2;rw [h1] at this;simpa using this
 refine ⟨m,⟨_,x,getElem_some hi,by rw [← ringAt_get hi];exact hr,hx,ho.1,h1,hmr⟩,?_,h2.1⟩
 unfold askKey
 rw [ho.1,h1];rfl
theorem ask_inside {i j:Nat} (hi:i<rules.length) (h:ringAsk rules i j):∃x∈rules[i].asks,outside rules x=false∧askKey rules x=ofK rules (j:Int):=by
 obtain ⟨r,x,h1,_,h3,h4,h5,h6⟩:=h;rw [getElem_some hi] at h1
 simp at h1
 subst h1;refine ⟨x,h3,?_,?_⟩
 ·
  unfold outside;rw [h4,h5];simp [h6]
 unfold askKey;rw [h4,h5];rfl
theorem rv_fix (hR:rulesOk rules) {i:Nat} (hi:i<rules.length) (hr:ringAt rules i=true):bitsV rules[i].c.toNat (ringAns rules (valOf rules inp) i)=rv rules inp i:=by
 refine Nat.eq_of_testBit_eq fun b=>?_;rw [Bool.eq_iff_iff,ringAns_bit hi]
 unfold rv
 rw [ringB_bit hR hi hr]
 have hval:∀j,j<rules.length→ringAt rules j=true→valS (valOf rules inp (ofK rules (j:Int)))=ringB rules (valOf rules inp) j:=fun j hj hrj=>by
  rw [valOf_ofK hR hj,valI_ring hR hj hrj];exact valS_itoa (ringB_le j)
 constructor
 ·
  rintro (h | ⟨x,h1,h2,h3⟩)
  ·
   exact ⟨i,.refl,h⟩
  obtain ⟨j,h4,h5,h6⟩:=inside_ask hR hi hr h1 h2;rw [h5,hval j h6 h4.lt.2.2.2,ringB_bit hR h6 h4.lt.2.2.2] at h3;obtain ⟨k,h7,h8⟩:=h3;exact ⟨k,.head h4 h7,h8⟩
 rintro ⟨k,h1,h2⟩
 rcases h1.cases with rfl | ⟨j,h3,h4⟩
 ·
  exact .inl h2
 right
 obtain ⟨x,h5,h6,h7⟩:=ask_inside hi h3;refine ⟨x,h5,h6,?_⟩;rw [h7,hval j h3.lt.2.1 h3.lt.2.2.2,ringB_bit hR h3.lt.2.1 h3.lt.2.2.2];exact ⟨k,h4,h2⟩
theorem rv_least (hR:rulesOk rules) {i:Nat} (hi:i<rules.length) (hr:ringAt rules i=true) (v:Nat→Nat)
  (h1:∀j b,RReach rules i j→(baseV rules (valOf rules inp) j).testBit b=true→(v j).testBit b=true)
  (h2:∀j k b,RReach rules i j→ringAsk rules j k→(v k).testBit b=true→(v j).testBit b=true) (b:Nat) (hb:(rv rules inp i).testBit b=true):(v i).testBit b=true:=by
 unfold rv at hb
 rw [ringB_bit hR hi hr] at hb;obtain ⟨j,h3,h4⟩:=hb;have h5:=h1 j b h3 h4
 clear h4
 induction h3 with
 | refl=>exact h5
 | step h6 h7 ih=>exact ih (h2 _ _ b h6 h7 h5)
theorem valOf_turn (hR:rulesOk rules) {i:Nat} (hi:i<rules.length) :
  turnV rules (ofK rules (i:Int)) (runA (turnV rules (ofK rules (i:Int))) (valOf rules inp) (asksN rules i)).2=⟨true,valOf rules inp (ofK rules (i:Int)),noKey⟩:=by
 rw [valOf_ofK hR hi]
 cases hr:ringAt rules i
 ·
  exact valI_rule hR hi hr
 rw [ring_turn hR hi hr,rv_fix hR hi hr,valI_ring hR hi hr]
end
end Go.Rc

