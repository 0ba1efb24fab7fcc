/- Base of the proof: frames, memory, ownership, and the plain meaning of rule systems. Conditions: as each lemma says. -/
import Derived.Test.YtpoiojafnnaccaaGreatDoorTBc
import Derived.Lib.SliceRun
import Derived.Test.YtpoiojafnnaccaaGreatDoorTBb
set_option linter.all false
namespace Go.Rc
open Go
inductive Kd where
 | pure
 | side (sh:Value→Prop) (it:Value→As)
 | chain
def Kd.E:Kd→Option (Value→World→Prop)
 | .pure=>none
 | .side sh _=>some fun v _=>sh v
 | .chain=>some fun _ _=>True
def u7(ops:Array Oper) (cm:Nat→Value):List Nat→KV→KV
 | [],kv=>kv
 | j::r,kv=>u7 ops cm r (oL kv (iW ops j) (cm j))
theorem zF(ops:Array Oper) (cm:Nat→Value):∀(a b:List Nat) (kv:KV),u7 ops cm (a++b) kv=u7 ops cm b (u7 ops cm a kv)
 | [],_,_=>rfl
 | _::r,b,_=>zF ops cm r b _
theorem px{ops:Array Oper}{cm dw:Nat→Value}:∀{l:List Nat}{kv:KV},(∀j∈l,cm j=dw j)→u7 ops cm l kv=u7 ops dw l kv
 | [],_,_=>rfl
 | j::r,kv,h=>by simp only [u7];rw [h j (by simp),px fun x hx=>h x (by simp [hx])]
theorem An{ops:Array Oper}{cm:Nat→Value}{t:Nat}{u:Value}:∀{l:List Nat}{kv:KV},look (u7 ops cm l kv) t=some u→
  (∃j∈l,iW ops j=some t∧u=cm j)∨((∀j∈l,iW ops j≠some t)∧look kv t=some u)
 | [],_,h=>.inr ⟨by simp,h⟩
 | j::r,kv,h=>by
  rcases An (l:=r) h with⟨x,hx,h1,h2⟩ | ⟨h1,h2⟩
  ·
   exact .inl ⟨x,by simp [hx],h1,h2⟩
  rcases G7 h2 with⟨h3,h4⟩ | ⟨h3,h4⟩
  ·
   exact .inl ⟨j,by simp,h3,h4⟩
  refine .inr ⟨fun x hx=>?_,h4⟩
  rcases List.mem_cons.1 hx with rfl | hx
  ·
   exact h3
  exact h1 x hx
def CG(w0:World) (M:Nat→Prop) (N:Nat) (iz:List As) (w:World):Prop:=N≤w.heap.size∧∃Z R,St w0 M Z w R∧∀A∈iz,A∈R
section
variable (P:Program) (ops:Array Oper) (n:Nat) (w0:World) (M:Nat→Prop) (N:Nat) (iz:List As) (K:Nat→Kd) (Fin:KV→World→Prop)
def DG:List Nat→KV→List (Nat × As)→(Nat→Prop)→List As→Prop
 | [],kv,sd,Z,ls=>∀w,N≤w.heap.size→St w0 M Z w (sd.map (·.2)++ls)→Fin kv w
 | i::l,kv,sd,Z,ls=>∃o,ops[i]?=some o∧bW o.op=false∧vd n o.dst=true∧
  ((gd ops kv o=some false∧DG l (oL kv o.dst undef) sd Z ls)∨
   (gd ops kv o=some true∧known kv o.op=true∧
   ((K i=.pure∧∃e,(∀w,CG w0 M N iz w→(execOp (mw kv) o).run P w=.ok (.value e) w)∧DG l (oL kv o.dst e) sd Z ls)∨
    (∃sh it,K i=.side sh it∧(∀w Zx R,N≤w.heap.size→St w0 M Zx w R→ve P ((execOp (mw kv) o).run P w) fun v w'=>w.heap.size≤w'.heap.size∧sh v∧St w0 M Zx w' (it v::R))∧
    (∀v,sh v→DG l (oL kv o.dst v) ((i,it v)::sd) Z ls))∨
    (K i=.chain∧∀w R,N≤w.heap.size→St w0 M Z w (ls++R)→(∀p∈sd,p.2∈R)→ve P ((execOp (mw kv) o).run P w) fun v w'=>w.heap.size≤w'.heap.size∧∃Z' re,St w0 M Z' w' (re++R)∧(∀A∈iz,A∈re)∧
    DG l (oL kv o.dst v) sd Z' re))))
end
structure Py (ops:Array Oper) (m:Nat) (K:Nat→Kd) (σ:List Nat):Prop where
 lt:∀i∈σ,i<m
 all:∀i,i<m→i∈σ
 nd:σ.Nodup
 Xg:∀a i b,σ=a++i::b→∀o,ops[i]?=some o→∀d∈eT o,d∈a
 clo:∀a i b,σ=a++i::b→K i=.chain→∀(D:Nat→Prop),(∀(j:Nat) o,D j→ops[j]?=some o→∀d∈eT o,D d)→(∀o,ops[i]?=some o→∀d∈eT o,D d)→∀j∈a,D j
theorem Hp:∀{l SL:List (Nat × As)},(SL.map (·.1)).Nodup→(l.map (·.1)).Nodup→(∀q∈l,q∈SL)→∃ex,List.Perm SL (l++ex)
 | [],SL,_,_,_=>⟨SL,.refl _⟩
 | q::l,SL,h1,h2,h3=>by
  obtain⟨s,t,rfl⟩:=List.append_of_mem (h3 q (by simp));have hp:List.Perm (s++q::t) (q::(s++t)):=List.perm_middle;have h4:=(hp.map (·.1)).nodup_iff.1 h1;simp only [List.map_cons,List.nodup_cons] at h2 h4
  obtain⟨ex,he⟩:=Hp h4.2 h2.2 fun x hx=>by
   have:=h3 x (by simp [hx])
   rcases List.mem_append.1 this with h | h
   ·
    exact List.mem_append_left _ h
   rcases List.mem_cons.1 h with rfl | h
   ·
    exact absurd (List.mem_map.2 ⟨x,hx,rfl⟩) h2.1
   exact List.mem_append_right _ h
  exact⟨ex,hp.trans (.cons q he)⟩
theorem St.jK{w0 w:World}{M Z:Nat→Prop}:∀{ex l:List As},St w0 M Z w (l++ex)→St w0 M Z w l
 | [],l,h=>by simpa using h
 | A::ex,l,h=>by
  have h1:St w0 M Z w (A::(l++ex)):=h.perm (List.perm_middle.symm);exact St.jK h1.drop
section
variable {P:Program}{ops:Array Oper}{Q:Exit→Act→World→Prop}{n m N:Nat}{X σ:List Nat}{w0:World}{M:Nat→Prop}{iz:List As}{K:Nat→Kd}{Fin:KV→World→Prop}
theorem E4{a0 a:Act}{nB:KV}{C:World→Prop}{E:Nat→Option (Value→World→Prop)}(eL:RegB ops m) (h0:Fr n a0 nB) {L:Nat→Bool}{cm dw:Nat→Value}{w:World}(hI:Inv P ops n m C E a0 L cm a w)
  (hv:∀j,L j=true→dw j=cm j) {i:Nat}{o:Oper}{τ:List Nat}(hτ:∀j∈τ,j<m) (hi:i<m) (ho:ops[i]?=some o) (hd:∀k∈eT o,L k=true) (OY:∀k∈eT o,k∈τ):vf ops o a (u7 ops dw τ nB):=by
 intro t v ht hl
 rcases An hl with⟨j,hj,yX,rfl⟩ | ⟨gh,MV⟩
 ·
  have hjd:=eL.waits i o hi ho t ht j (hτ j hj) yX;have jt:=hd j hjd;rw [hv j jt];exact hI.here j (hτ j hj) jt t yX
 rw [hI.wT t fun j hj jt yX=>?_]
 ·
  exact h0.val t v MV
 exact gh j (OY j (eL.waits i o hi ho t ht j hj yX)) yX
abbrev IG(P:Program) (ops:Array Oper) (n m N:Nat) (w0:World) (M:Nat→Prop) (iz:List As) (K:Nat→Kd):=Inv P ops n m (CG w0 M N iz) (fun j=>(K j).E)
structure FG (P:Program) (ops:Array Oper) (n m N:Nat) (w0:World) (M:Nat→Prop) (iz:List As) (K:Nat→Kd) (Fin:KV→World→Prop) (nB:KV) (L:Nat→Bool) (cm:Nat→Value) (w:World) (τ ρ:List Nat) (sd SL:List (Nat × As)) (Z:Nat→Prop) (ls:List As):Prop where
 tau:∀j∈τ,L j=true
 rho:∀j∈ρ,K j=.chain→L j=false
 node:DG P ops n w0 M N iz K Fin ρ (u7 ops cm τ nB) sd Z ls
 st:St w0 M Z w (SL.map (·.2)++ls)
 sub:∀A∈iz,A∈ls
 nd:(SL.map (·.1)).Nodup
 key:∀q∈SL,L q.1=true
 sds:∀q∈sd,q∈SL
 sdn:(sd.map (·.1)).Nodup
 sdt:∀q∈sd,q.1∈τ
 own:∀j sh it,j<m→L j=true→K j=.side sh it→sh (cm j)→(j,it (cm j))∈SL
theorem acm{a0 a:Act}{nB:KV}(eL:RegB ops m) (h0:Fr n a0 nB) {L:Nat→Bool}{cm:Nat→Value}{w:World}(hI:IG P ops n m N w0 M iz K a0 L cm a w)
  {SL:List As}(nE:∀j sh it,j<m→L j=true→K j=.side sh it→sh (cm j)→it (cm j)∈SL) :
  ∀(ρ1:List Nat) (τ:List Nat) (ρ:List Nat) (dw:Nat→Value) (sd:List (Nat × As)) (Z:Nat→Prop) (ls R:List As) (wh:World),(∀j,L j=true→dw j=cm j)→(∀j∈τ++ρ1,j<m)→(τ++ρ1).Nodup→
   (∀x i y,ρ1=x++i::y→∀o,ops[i]?=some o→∀d∈eT o,d∈τ++x)→(∀j∈ρ1,K j=.chain→L j=false)→
   DG P ops n w0 M N iz K Fin (ρ1++ρ) (u7 ops dw τ nB) sd Z ls→N≤wh.heap.size→St w0 M Z wh (ls++R)→(∀A∈SL,A∈R)→(∀p∈sd,p.2∈R)→
   ∃dw sd Z ls,(∀j,L j=true→dw j=cm j)∧DG P ops n w0 M N iz K Fin ρ (u7 ops dw (τ++ρ1) nB) sd Z ls:=by
 intro ρ1
 induction ρ1 with
 | nil=>intro τ ρ dw sd Z ls R wh hv _ _ _ _ hD _ _ _ _;exact⟨dw,sd,Z,ls,hv,by simpa using hD⟩
 | cons i ρ1 ih=>
  intro τ ρ dw sd Z ls R wh hv ee rB Hq rD hD hN bF Vd Ve;obtain⟨o,ho,wU,wV,nC⟩:=hD;have rC:i<m:=ee i (by simp)
  have ti:iW ops i=o.dst:=by simp [iW,ho]
  have OY:∀d∈eT o,d∈τ:=fun d hd=>by simpa using Hq [] i ρ1 rfl o ho d hd
  have rG:i∉τ:=fun h=>by
   have:=(List.nodup_append.1 rB).2.2 i h i (by simp)
   exact this rfl
  have ai3:∀j∈(τ++[i])++ρ1,j<m:=fun j hj=>ee j (by simpa using hj)
  have ai4:((τ++[i])++ρ1).Nodup:=by simpa using rB
  have Xh:∀x k y,ρ1=x++k::y→∀o,ops[k]?=some o→∀d∈eT o,d∈(τ++[i])++x:=fun x k y e o ho d hd=>by
   have:=Hq (i::x) k y (by rw [e];rfl) o ho d hd
   simpa using this
  have next:∀u,u7 ops (fun j=>if j=i then u else dw j) (τ++[i]) nB=oL (u7 ops dw τ nB) o.dst u:=fun u=>by
   rw [zF,px (dw:=dw) (l:=τ) fun j hj=>by rw [if_neg fun e=>rG (by rw [← e];exact hj)]];simp only [u7,ti,if_true]
  have U5:∀u,(L i=true→u=cm i)→∀j,L j=true→(if j=i then u else dw j)=cm j:=fun u hu j hj=>by
   by_cases e:j=i
   ·
    subst e;rw [if_pos rfl];exact hu hj
   rw [if_neg e];exact hv j hj
  have fin:∀u wP Z' re R' MW,(L i=true→u=cm i)→DG P ops n w0 M N iz K Fin (ρ1++ρ) (oL (u7 ops dw τ nB) o.dst u) wP Z' re→N≤MW.heap.size→St w0 M Z' MW (re++R')→(∀A∈SL,A∈R')→(∀p∈wP,p.2∈R')→
    ∃dw sd Z ls,(∀j,L j=true→dw j=cm j)∧DG P ops n w0 M N iz K Fin ρ (u7 ops dw (τ++i::ρ1) nB) sd Z ls:=fun u wP Z' re R' MW hu hD hN bF Vd Ve=>by
   have:=ih (τ++[i]) ρ (fun j=>if j=i then u else dw j) wP Z' re R' MW (U5 u hu) ai3 ai4 Xh (fun j hj=>rD j (by simp [hj])) (by rw [next];exact hD) hN bF Vd Ve
   simpa using this
  have tD:L i=true→vf ops o a (u7 ops dw τ nB):=fun ll=>E4 eL h0 hI hv (fun j hj=>ee j (by simp [hj])) rC ho (hI.closed i o rC ll ho) OY
  rcases nC with⟨hg,jW⟩ | ⟨hg,hk,nC⟩
  ·
   exact fin undef sd Z ls R wh (fun ll=>(hI.no i o rC ll ho ((tD ll).wanted hg)).symm) jW hN bF Vd Ve
  rcases nC with⟨hK,e,l6,jW⟩ | ⟨sh,it,hK,gX,jW⟩ | ⟨hK,gX⟩
  ·
   refine fin e sd Z ls R wh (fun ll=>?_) jW hN bF Vd Ve;obtain⟨wj,hCj,JQ⟩:=hI.det i o rC ll ho ((tD ll).wanted hg) (by show(K i).E=none;rw [hK];rfl);rw [(tD ll).exec wU hk,l6 wj hCj] at JQ
   simpa using JQ
  ·
   by_cases ll:L i=true
   ·
    have hs:sh (cm i):=hI.EM i o (fun v _=>sh v) rC ll ho ((tD ll).wanted hg) (by show(K i).E=_;rw [hK];rfl)
    exact fin (cm i) _ Z ls R wh (fun _=>rfl) (jW _ hs) hN bF Vd (fun p hp=>by
     rcases List.mem_cons.1 hp with rfl | hp
     ·
      exact Vd _ (nE i sh it rC ll hK hs)
     exact Ve p hp)
   obtain⟨v,MW,nc,hs,tj⟩:=(gX wh Z _ hN bF).exists
   exact fin v _ Z ls (it v::R) MW (fun h=>absurd h ll) (jW v hs) (Nat.le_trans hN nc) (tj.perm List.perm_middle) (fun A hA=>by simp [Vd A hA]) (fun p hp=>by
    rcases List.mem_cons.1 hp with rfl | hp
    ·
     simp
    simp [Ve p hp])
  obtain⟨v,MW,nc,Z',re,tj,_,Hr⟩:=(gX wh R hN bF Ve).exists;exact fin v sd Z' re R MW (fun h=>by rw [rD i (by simp) hK] at h;cases h) Hr (Nat.le_trans hN nc) tj Vd Ve
theorem Vf{a0 a:Act}{nB:KV}(eL:RegB ops m) (h0:Fr n a0 nB) {L:Nat→Bool}{cm:Nat→Value}{w:World}(hI:IG P ops n m N w0 M iz K a0 L cm a w)
  {SL:List (Nat × As)}(nE:∀j sh it,j<m→L j=true→K j=.side sh it→sh (cm j)→(j,it (cm j))∈SL) {Z:Nat→Prop}{ls:List As} :
  ∀(ρ1:List Nat) (τ:List Nat) (ρ:List Nat) (sd:List (Nat × As)),(∀j∈τ++ρ1,j<m)→(τ++ρ1).Nodup→
   (∀x i y,ρ1=x++i::y→∀o,ops[i]?=some o→∀d∈eT o,d∈τ++x)→(∀j∈ρ1,L j=true)→(∀j∈ρ1,K j=.chain→L j=false)→
   DG P ops n w0 M N iz K Fin (ρ1++ρ) (u7 ops cm τ nB) sd Z ls→(∀q∈sd,q∈SL)→(sd.map (·.1)).Nodup→(∀q∈sd,q.1∈τ)→
   ∃wP,DG P ops n w0 M N iz K Fin ρ (u7 ops cm (τ++ρ1) nB) wP Z ls∧(∀q∈wP,q∈SL)∧(wP.map (·.1)).Nodup∧(∀q∈wP,q.1∈τ++ρ1):=by
 intro ρ1
 induction ρ1 with
 | nil=>intro τ ρ sd _ _ _ _ _ hD h1 h2 h3;exact⟨sd,by simpa using hD,h1,h2,by simpa using h3⟩
 | cons i ρ1 ih=>
  intro τ ρ sd ee rB Hq cx rD hD h1 h2 h3;obtain⟨o,ho,wU,wV,nC⟩:=hD;have rC:i<m:=ee i (by simp)
  have ti:iW ops i=o.dst:=by simp [iW,ho]
  have OY:∀d∈eT o,d∈τ:=fun d hd=>by simpa using Hq [] i ρ1 rfl o ho d hd
  have rG:i∉τ:=fun h=>by
   have:=(List.nodup_append.1 rB).2.2 i h i (by simp)
   exact this rfl
  have ll:=cx i (by simp)
  have next:u7 ops cm (τ++[i]) nB=oL (u7 ops cm τ nB) o.dst (cm i):=by rw [zF];simp only [u7,ti]
  have fin:∀wP,DG P ops n w0 M N iz K Fin (ρ1++ρ) (oL (u7 ops cm τ nB) o.dst (cm i)) wP Z ls→(∀q∈wP,q∈SL)→(wP.map (·.1)).Nodup→(∀q∈wP,q.1∈τ++[i])→
    ∃wP,DG P ops n w0 M N iz K Fin ρ (u7 ops cm (τ++i::ρ1) nB) wP Z ls∧(∀q∈wP,q∈SL)∧(wP.map (·.1)).Nodup∧(∀q∈wP,q.1∈τ++i::ρ1):=fun wP hD g1 g2 g3=>by
   have:=ih (τ++[i]) ρ wP (fun j hj=>ee j (by simpa using hj)) (by simpa using rB) (fun x k y e o ho d hd=>by
    have:=Hq (i::x) k y (by rw [e];rfl) o ho d hd
    simpa using this) (fun j hj=>cx j (by simp [hj])) (fun j hj=>rD j (by simp [hj])) (by rw [next];exact hD) g1 g2 g3
   simpa using this
  have tD:vf ops o a (u7 ops cm τ nB):=E4 eL h0 hI (fun _ _=>rfl) (fun j hj=>ee j (by simp [hj])) rC ho (hI.closed i o rC ll ho) OY
  rcases nC with⟨hg,jW⟩ | ⟨hg,hk,nC⟩
  ·
   have:=hI.no i o rC ll ho (tD.wanted hg)
   exact fin sd (by rw [this];exact jW) h1 h2 (fun q hq=>by simp [h3 q hq])
  rcases nC with⟨hK,e,l6,jW⟩ | ⟨sh,it,hK,gX,jW⟩ | ⟨hK,gX⟩
  ·
   obtain⟨wj,hCj,JQ⟩:=hI.det i o rC ll ho (tD.wanted hg) (by show(K i).E=none;rw [hK];rfl);rw [tD.exec wU hk,l6 wj hCj] at JQ
   have he:e=cm i:=by simpa using JQ
   exact fin sd (by rw [← he];exact jW) h1 h2 (fun q hq=>by simp [h3 q hq])
  ·
   have hs:sh (cm i):=hI.EM i o (fun v _=>sh v) rC ll ho (tD.wanted hg) (by show(K i).E=_;rw [hK];rfl);refine fin _ (jW _ hs) (fun q hq=>?_) ?_ (fun q hq=>?_)
   ·
    rcases List.mem_cons.1 hq with rfl | hq
    ·
     exact nE i sh it rC ll hK hs
    exact h1 q hq
   ·
    simp only [List.map_cons,List.nodup_cons];exact⟨fun h=>by obtain⟨q,hq,e⟩:=List.mem_map.1 h;exact rG (by rw [← e];exact h3 q hq),h2⟩
   rcases List.mem_cons.1 hq with rfl | hq
   ·
    simp
   simp [h3 q hq]
  rw [rD i (by simp) hK] at ll;cases ll
theorem FG.pass{nB:KV}{L:Nat→Bool}{cm:Nat→Value}{w:World}{τ ρ:List Nat}{sd SL:List (Nat × As)}{Z:Nat→Prop}{ls:List As}(h:FG P ops n m N w0 M iz K Fin nB L cm w τ ρ sd SL Z ls) {i:Nat}{v:Value}(hL:L i=false) (hK:K i≠.chain) (hv:∀sh it,K i=.side sh it→¬sh v) :
  FG P ops n m N w0 M iz K Fin nB (fun j=>if j=i then true else L j) (fun j=>if j=i then v else cm j) w τ ρ sd SL Z ls:=by
 have hit:i∉τ:=fun h1=>by have:=h.tau i h1;rw [hL] at this;cases this
 refine⟨fun j hj=>?_,fun j hj hc=>?_,?_,h.st,h.sub,h.nd,fun q hq=>?_,h.sds,h.sdn,h.sdt,fun j sh it hj jt E7 hs=>?_⟩
 ·
  by_cases e:j=i <;> simp [e];exact h.tau j hj
 ·
  rw [if_neg fun e=>hK (by rw [← e];exact hc)];exact h.rho j hj hc
 ·
  rw [px (dw:=cm) fun j hj=>by rw [if_neg fun e=>hit (by rw [← e];exact hj)]];exact h.node
 ·
  by_cases e:q.1=i <;> simp [e];exact h.key q hq
 by_cases e:j=i
 ·
  subst e;simp only [if_true] at hs;exact absurd hs (hv sh it E7)
 simp only [if_neg e] at jt hs ⊢;exact h.own j sh it hj jt E7 hs
theorem FG.side{nB:KV}{L:Nat→Bool}{cm:Nat→Value}{w w':World}{τ ρ:List Nat}{sd SL:List (Nat × As)}{Z:Nat→Prop}{ls:List As}(h:FG P ops n m N w0 M iz K Fin nB L cm w τ ρ sd SL Z ls) {i:Nat}{v:Value}{sh:Value→Prop}{it:Value→As}(hL:L i=false) (hK:K i=.side sh it)
  (bF:St w0 M Z w' (it v::(SL.map (·.2)++ls))) :
  FG P ops n m N w0 M iz K Fin nB (fun j=>if j=i then true else L j) (fun j=>if j=i then v else cm j) w' τ ρ sd ((i,it v)::SL) Z ls:=by
 have hit:i∉τ:=fun h1=>by have:=h.tau i h1;rw [hL] at this;cases this
 refine⟨fun j hj=>?_,fun j hj hc=>?_,?_,bF,h.sub,?_,fun q hq=>?_,fun q hq=>by simp [h.sds q hq],h.sdn,h.sdt,fun j sh' it' hj jt E7 hs=>?_⟩
 ·
  by_cases e:j=i <;> simp [e];exact h.tau j hj
 ·
  rw [if_neg fun e=>by rw [← e,hc] at hK;cases hK];exact h.rho j hj hc
 ·
  rw [px (dw:=cm) fun j hj=>by rw [if_neg fun e=>hit (by rw [← e];exact hj)]];exact h.node
 ·
  simp only [List.map_cons,List.nodup_cons];exact⟨fun hm=>by(obtain⟨q,hq,e⟩:=List.mem_map.1 hm;have:=h.key q hq;rw [e,hL] at this;exact Bool.noConfusion this),h.nd⟩
 ·
  rcases List.mem_cons.1 hq with rfl | hq
  ·
   simp
  by_cases e:q.1=i <;> simp [e];exact h.key q hq
 by_cases e:j=i
 ·
  subst e;rw [hK] at E7;simp only [Kd.side.injEq] at E7;obtain⟨rfl,rfl⟩:=E7
  simp
 simp only [if_neg e] at jt hs ⊢;exact List.mem_cons_of_mem _ (h.own j sh' it' hj jt E7 hs)
theorem agG{a0 a:Act}{nB:KV}(eL:RegB ops m) (tk:Py ops m K σ) (h0:Fr n a0 nB) {L:Nat→Bool}{cm:Nat→Value}{w:World}{τ ρ:List Nat}{sd SL:List (Nat × As)}{Z:Nat→Prop}{ls:List As}(hs:σ=τ++ρ) (hI:IG P ops n m N w0 M iz K a0 L cm a w) (hF:FG P ops n m N w0 M iz K Fin nB L cm w τ ρ sd SL Z ls)
  {i:Nat}{o:Oper}(rC:i<m) (ho:ops[i]?=some o) (ll:L i=false):∃ρ1 ρ2,ρ=ρ1++i::ρ2∧(∀j∈τ++ρ1,j<m)∧((τ++ρ1)++i::ρ2).Nodup∧(∀k∈eT o,k∈τ++ρ1):=by
 have ly:i∈τ++ρ:=by rw [← hs];exact tk.all i rC
 have hir:i∈ρ:=by
  rcases List.mem_append.1 ly with h | h
  ·
   have:=hF.tau i h;rw [ll] at this;cases this
  exact h
 obtain⟨ρ1,ρ2,hr⟩:=List.append_of_mem hir
 have e:σ=(τ++ρ1)++i::ρ2:=by rw [hs,hr,List.append_assoc]
 exact⟨ρ1,ρ2,hr,fun j hj=>tk.lt j (by rw [e];exact List.mem_append_left _ hj),by rw [← e];exact tk.nd,tk.Xg (τ++ρ1) i ρ2 e o ho⟩
theorem stepG{a0:Act}{nB:KV}{Q':Exit→Act→World→Prop}(hXp:∀x∈X,K x=.pure) (eL:Sw ops m X) (tk:Py ops m K σ) (hsh:∀j sh it,K j=.side sh it→¬sh undef) (h0:Fr n a0 nB) (hQ:X=[]∨∀c a w,¬Q' (.panic c) a w) :
  ∀(fuel:Nat) (listed:Array Bool) (a:Act) (w:World),listed.size=ops.size→left (fun j=>listed.getD j false) ops.size≤fuel→(∀j,m≤j→listed.getD j false=false)→
  (∃cm τ ρ sd SL Z ls,σ=τ++ρ∧IG P ops n m N w0 M iz K a0 (fun j=>listed.getD j false) cm a w∧FG P ops n m N w0 M iz K (fun kv w=>WL P ops Q' (ops.toList.drop m) n kv w) nB (fun j=>listed.getD j false) cm w τ ρ sd SL Z ls)→wpAny P .any ops Q' fuel listed a w:=by
 have acn:∀{τ ρ:List Nat},σ=τ++ρ→∀j∈τ++ρ,j<m:=fun e j hj=>tk.lt j (by rw [e];exact hj);refine Pc (J:=fun L a w=>∃cm τ ρ sd SL Z ls,σ=τ++ρ∧IG P ops n m N w0 M iz K a0 L cm a w∧FG P ops n m N w0 M iz K (fun kv w=>WL P ops Q' (ops.toList.drop m) n kv w) nB L cm w τ ρ sd SL Z ls) eL hQ (fun L a w ⟨cm,_,_,_,_,_,_,_,hI,_⟩ j p hj hL hp=>hI.closed j p hj hL hp) ?_ ?_
 ·
  intro L a w ⟨cm,τ,ρ,sd,SL,Z,ls,hs,hI,hF⟩ cx;obtain⟨wP,hD,h1,h2,_⟩:=Vf (ρ:=[]) eL.toRegB h0 hI (fun j sh it hj jt E7 hs=>hF.own j sh it hj jt E7 hs) ρ τ sd (acn hs) (by rw [← hs];exact tk.nd) (fun x i y e=>tk.Xg (τ++x) i y (by rw [hs,e,List.append_assoc])) (fun j hj=>cx j (acn hs j (List.mem_append_right _ hj))) hF.rho (by simpa using hF.node) hF.sds hF.sdn hF.sdt;obtain⟨ex,hp⟩:=Hp hF.nd h2 h1
  have qZ:List.Perm ((wP.map (·.2)++ls)++ex.map (·.2)) (SL.map (·.2)++ls):=by
   have h3:List.Perm (SL.map (·.2)) (wP.map (·.2)++ex.map (·.2)):=by simpa using hp.map (·.2)
   refine List.Perm.trans ?_ (h3.symm.append_right ls);rw [List.append_assoc,List.append_assoc];exact List.Perm.append_left _ List.perm_append_comm
  refine hD w hI.c.1 ((hF.st.perm qZ).jK) a ⟨hI.size,hI.ou,fun t v hl=>?_⟩;rw [← hs] at hl
  rcases An hl with⟨j,hj,yX,rfl⟩ | ⟨gh,MV⟩
  ·
   exact hI.here j (tk.lt j hj) (cx j (tk.lt j hj)) t yX
  rw [hI.wT t fun j hj _=>gh j (tk.all j hj)];exact h0.val t v MV
 intro L a w i o ⟨cm,τ,ρ,sd,SL,Z,ls,hs,hI,hF⟩ ov rC ho ll hd;obtain⟨ρ1,ρ2,hr,SQ,py,OY⟩:=agG eL.toRegB tk h0 hs hI hF rC ho ll;have aco:=(List.nodup_append.1 py).1;have SM:=fun x j y (e:ρ1=x++j::y)=>tk.Xg (τ++x) j (y++i::ρ2) (by rw [hs,hr,e];simp);have acp:=fun j (hj:j∈ρ1)=>hF.rho j (by rw [hr];simp [hj]);have qK:=hF.node;rw [hr] at qK;have put:=fun(v:Value) w'=>hI.put (v:=v) (w':=w') eL.toRegB rC ho ll hd
 have lz:∀w' j S u,j<m→L j=true→(K j).E=some S→S u w→S u w':=fun w' j S u _ _ EN h=>by
  cases E7:K j with
  | pure=>simp only [E7,Kd.E] at EN;cases EN
  | side sh it=>simp only [E7,Kd.E,Option.some.injEq] at EN;subst EN;exact h
  | chain=>simp only [E7,Kd.E,Option.some.injEq] at EN;subst EN;trivial
 by_cases Pz:K i=.chain
 ·
  have hX:i∉X:=fun h=>by rw [hXp i h] at Pz;cases Pz
  have Vg:∀j∈τ++ρ1,L j=true:=tk.clo (τ++ρ1) i ρ2 (by rw [hs,hr,List.append_assoc]) Pz (fun j=>L j=true) (fun j p hj hp=>hI.closed j p (by
   rcases Nat.lt_or_ge j m with h | h
   ·
    exact h
   rw [ov j h] at hj;cases hj) hj hp) (fun p hp=>by rw [ho] at hp;simp at hp;subst hp;exact hd)
  have rG:i∉τ++ρ1:=fun h=>(List.nodup_append.1 py).2.2 i h i (by simp) rfl
  have ai5:i∉ρ2:=by have:=(List.nodup_append.1 py).2.1;simp only [List.nodup_cons] at this;exact this.1
  obtain⟨wP,⟨o',JC,wU,wV,nC⟩,h1,h2,h3⟩:=Vf (ρ:=i::ρ2) eL.toRegB h0 hI hF.own ρ1 τ sd SQ aco SM (fun j hj=>Vg j (by simp [hj])) acp qK hF.sds hF.sdn hF.sdt;have tD:vf ops o a (u7 ops cm (τ++ρ1) nB):=E4 eL.toRegB h0 hI (fun _ _=>rfl) SQ rC ho hd OY
  have eo:o'=o:=by rw [ho] at JC;exact(Option.some.inj JC).symm
  subst eo
  have ti:iW ops i=o'.dst:=by simp [iW,ho]
  have adv:∀v w' Z' re,IG P ops n m N w0 M iz K a0 (fun j=>if j=i then true else L j) (fun j=>if j=i then v else cm j) (a.put o'.dst v) w'→St w0 M Z' w' (re++SL.map (·.2))→(∀A∈iz,A∈re)→DG P ops n w0 M N iz K (fun kv w=>WL P ops Q' (ops.toList.drop m) n kv w) ρ2 (oL (u7 ops cm (τ++ρ1) nB) o'.dst v) wP Z' re→
    ∃cm τ ρ sd SL Z ls,σ=τ++ρ∧IG P ops n m N w0 M iz K a0 (fun j=>if j=i then true else L j) cm (a.put o'.dst v) w'∧FG P ops n m N w0 M iz K (fun kv w=>WL P ops Q' (ops.toList.drop m) n kv w) nB (fun j=>if j=i then true else L j) cm w' τ ρ sd SL Z ls:=fun v w' Z' re hI' bF jQ hD=>by
   refine⟨_,(τ++ρ1)++[i],ρ2,wP,SL,Z',re,by rw [hs,hr];simp,hI',fun j hj=>?_,fun j hj hc=>?_,?_,bF.perm List.perm_append_comm,jQ,hF.nd,fun q hq=>?_,h1,h2,fun q hq=>by simp only [List.mem_append];exact .inl (List.mem_append.1 (h3 q hq)),fun j sh it hj jt E7 hs=>?_⟩
   ·
    rcases List.mem_append.1 hj with hj | hj
    ·
     show(if j=i then true else L j)=true
     split
     ·
      rfl
     exact Vg j hj
    simp at hj;simp [hj]
   ·
    rw [if_neg fun e=>ai5 (by rw [← e];exact hj)];exact hF.rho j (by rw [hr];simp [hj]) hc
   ·
    rw [zF,px (dw:=cm) (l:=τ++ρ1) fun j hj=>by rw [if_neg fun e=>rG (by rw [← e];exact hj)]];simp only [u7,ti,if_true];exact hD
   ·
    show(if q.1=i then true else L q.1)=true
    split
    ·
     rfl
    exact hF.key q hq
   by_cases e:j=i
   ·
    subst e;rw [Pz] at E7;cases E7
   simp only [if_neg e] at jt hs ⊢;exact hF.own j sh it hj jt E7 hs
  rcases nC with⟨hg,jW⟩ | ⟨hg,hk,⟨hK,_⟩ | ⟨sh,it,hK,_⟩ | ⟨_,gX⟩⟩
  ·
   have hw:=tD.wanted hg;exact .inl ⟨hw,adv undef w Z ls (put _ _ wV hI.c (fun _ _ _ _ _ _ h=>h) (fun _=>rfl) (fun h=>by rw [hw] at h;cases h) (fun S h=>by rw [hw] at h;cases h)) (hF.st.perm List.perm_append_comm) hF.sub jW⟩
  ·
   rw [Pz] at hK;cases hK
  ·
   rw [Pz] at hK;cases hK
  have hw:=tD.wanted hg;refine .inr ⟨hw,?_,fun h=>absurd h hX⟩;rw [tD.exec wU hk];refine(gX w (SL.map (·.2)) hI.c.1 (hF.st.perm List.perm_append_comm) (fun p hp=>List.mem_map.2 ⟨p,h1 p hp,rfl⟩)).mono fun v w' ⟨Xi,Z',re,bF,jQ,hD⟩=>?_;exact adv v w' Z' re (put _ _ wV ⟨Nat.le_trans hI.c.1 Xi,Z',_,bF,fun A hA=>List.mem_append_left _ (jQ A hA)⟩ (lz _) (fun h=>by rw [hw] at h;cases h) (fun _ h=>by simp only [Pz,Kd.E] at h;cases h) (fun S' _ h=>by simp only [Pz,Kd.E,Option.some.injEq] at h;subst h;trivial)) bF jQ hD
 obtain⟨dw,wP,Z',re,hv,o',JC,wU,wV,nC⟩:=acm eL.toRegB h0 hI (SL:=SL.map (·.2)) (fun j sh it hj jt E7 hs=>List.mem_map.2 ⟨_,hF.own j sh it hj jt E7 hs,rfl⟩) ρ1 τ (i::ρ2) cm sd Z ls (SL.map (·.2)) w (fun _ _=>rfl) SQ aco SM acp qK hI.c.1 (hF.st.perm List.perm_append_comm) (fun A h=>h) (fun p hp=>List.mem_map.2 ⟨p,hF.sds p hp,rfl⟩);have tD:=E4 eL.toRegB h0 hI hv SQ rC ho hd OY
 have eo:o'=o:=by rw [ho] at JC;exact(Option.some.inj JC).symm
 subst eo
 rcases nC with⟨hg,_⟩ | ⟨hg,hk,⟨hK,e,l6,_⟩ | ⟨sh,it,hK,gX,_⟩ | ⟨hK,_⟩⟩
 ·
  have hw:=tD.wanted hg;exact .inl ⟨hw,_,τ,ρ,sd,SL,Z,ls,hs,put _ _ wV hI.c (fun _ _ _ _ _ _ h=>h) (fun _=>rfl) (fun h=>by rw [hw] at h;cases h) (fun S h=>by rw [hw] at h;cases h),hF.pass ll Pz (fun sh it h=>hsh i sh it h)⟩
 ·
  have hw:=tD.wanted hg;have hr:=l6 w hI.c;rw [← tD.exec wU hk] at hr;refine .inr ⟨hw,?_,fun _=>⟨e,hr⟩⟩;rw [hr];exact⟨_,τ,ρ,sd,SL,Z,ls,hs,put _ _ wV hI.c (fun _ _ _ _ _ _ h=>h) (fun h=>by rw [hw] at h;cases h) (fun _ _=>⟨w,hI.c,hr⟩) (fun S _ h=>by simp only [hK,Kd.E] at h;cases h),hF.pass ll Pz (fun sh it h=>by rw [hK] at h;cases h)⟩
 ·
  have hw:=tD.wanted hg;refine .inr ⟨hw,?_,fun h=>by rw [hXp i h] at hK;cases hK⟩;rw [tD.exec wU hk];refine(gX w Z _ hI.c.1 hF.st).mono fun v w' ⟨Xi,LW,bF⟩=>?_;exact⟨_,τ,ρ,sd,_,Z,ls,hs,put _ _ wV ⟨Nat.le_trans hI.c.1 Xi,Z,_,bF,fun A hA=>by simp [hF.sub A hA]⟩ (lz _) (fun h=>by rw [hw] at h;cases h) (fun _ h=>by simp only [hK,Kd.E] at h;cases h) (fun S' _ h=>by simp only [hK,Kd.E,Option.some.injEq] at h;subst h;exact LW),hF.side ll hK bF⟩
 exact absurd hK Pz
end
/-! ### the checks, and the walk -/
def rf:List Oper→Nat→Option Oper
 | [],_=>none
 | o::_,0=>some o
 | _::r,i+1=>rf r i
theorem qc:∀(l:List Oper) (i:Nat),rf l i=l[i]?
 | [],_=>rfl
 | _::_,0=>rfl
 | _::r,i+1=>by simp [rf,qc r i]
def LX(l:List Oper) (ms Hs:List Nat):Nat→List Nat→Bool
 | _,[]=>true
 | k,i::r=>(match rf l i with | some o=>Nat.beq (Nat.land (pj (eT o)) k) (pj (eT o)) | none=>true) &&
  (match mI i Hs with | true=>Nat.beq (Nat.land k (ms.getD i 0)) k | false=>true) && LX l ms Hs (k ||| 2 ^ i) r
def Vh(l:List Oper) (m:Nat) (Hs σ:List Nat):Bool:=
 σ.all (fun i=>Nat.blt i m) && (List.range m).all (fun i=>mI i σ) && decide σ.Nodup && LX l (tC l []) Hs 0 σ
theorem Ao{l:List Oper}{ms Hs:List Nat}:∀{σ:List Nat}{k:Nat}{a:List Nat},(∀d,k.testBit d=true↔d∈a)→LX l ms Hs k σ=true→∀x i y,σ=x++i::y→
  (∀o,l[i]?=some o→∀d∈eT o,d∈a++x)∧(mI i Hs=true→∀j∈a++x,(ms.getD i 0).testBit j=true)
 | [],_,_,_,_,x,i,y,e=>by simp at e
 | i0::r,k,a,hk,h,x,i,y,e=>by
  simp only [LX,Bool.and_eq_true] at h
  cases x with
  | nil=>
   simp only [List.nil_append,List.cons.injEq] at e;obtain⟨rfl,rfl⟩:=e;refine⟨fun o ho d hd=>?_,fun hc j hj=>?_⟩
   ·
    have h1:=h.1.1;rw [qc,ho] at h1;have he:(pj (eT o)) &&& k=pj (eT o):=Nat.eq_of_beq_eq_true h1;have h2:=wS hd;rw [← he,Nat.testBit_and] at h2;simp only [Bool.and_eq_true] at h2
    simpa using (hk d).1 h2.2
   have h1:=h.1.2;rw [hc] at h1;have he:k &&& (ms.getD i0 0)=k:=Nat.eq_of_beq_eq_true h1;have h2:=(hk j).2 (by simpa using hj);rw [← he,Nat.testBit_and] at h2;simp only [Bool.and_eq_true] at h2;exact h2.2
  | cons z x=>
   simp only [List.cons_append,List.cons.injEq] at e;obtain⟨rfl,e⟩:=e
   have:=Ao (a:=a++[i0]) (fun d=>by
    simp only [Nat.testBit_or,Bool.or_eq_true,hk,Nat.testBit_two_pow,decide_eq_true_eq,List.mem_append,List.mem_singleton];exact or_congr_right eq_comm) h.2 x i y e
   simpa using this
inductive kL where
 | blk (T:TypeId) (cs:List Value)
 | map
 | sl (T:TypeId) (len:Nat) (cs:List Value)
 | val (p:Value→Prop)
def As.nil:As where
 fp _:=False
 ok _ _:=True
 lt _ _ hx:=hx.elim
 mono _ h:=h
 st _ _ h:=h
def kL.sh:kL→Value→Prop
 | .blk _ _,v=>∃b,v=.pointer (some ⟨b,0,none⟩)
 | .map,v=>∃b,v=.map (some b)
 | .sl _ len _,v=>∃b,v=.slice (some ⟨b,0,none⟩) len len
 | .val p,v=>v≠undef∧p v
def kL.it:kL→Value→As
 | .blk T cs,.pointer (some ⟨b,_,_⟩)=>As.blk b T cs
 | .map,.map (some b)=>As.map Key.val b []
 | .sl T _ cs,.slice (some ⟨b,_,_⟩) _ _=>As.blk b T cs
 | _,_=>As.nil
def yf:List (Nat × kL)→Nat→Kd
 | [],_=>.pure
 | (j,s)::r,i=>match Nat.beq j i with
  | true=>.side s.sh s.it
  | false=>yf r i
def Nh(Hs:List Nat) (DT:List (Nat × kL)) (i:Nat):Kd:=match mI i Hs with
 | true=>.chain
 | false=>yf DT i
def Kd.qd:Kd→Bool
 | .pure=>true
 | _=>false
theorem Kd.LY:∀{k:Kd},k.qd=true→k=.pure
 | .pure,_=>rfl
 | .side _ _,h=>by cases h
 | .chain,h=>by cases h
theorem Ap{i:Nat}{sh:Value→Prop}{it:Value→As}:∀{l:List (Nat × kL)},yf l i=.side sh it→∃s:kL,sh=s.sh
 | [],h=>by simp [yf] at h
 | (j,s)::r,h=>by
  simp only [yf] at h
  split at h
  ·
   simp only [Kd.side.injEq] at h;exact⟨s,h.1.symm⟩
  exact Ap h
theorem yg{i:Nat}:∀{l:List (Nat × kL)},yf l i≠.chain
 | [],h=>by simp [yf] at h
 | (j,s)::r,h=>by
  simp only [yf] at h
  split at h
  ·
   cases h
  exact yg h
section
variable {P:Program}{Q:Exit→Act→World→Prop}{n m N:Nat}{w0 w:World}{M Z:Nat→Prop}{ls iz:List As}{Fin:KV→World→Prop}
theorem WC.df{id:Nat}{kv:KV}{l:List Oper}(X Hs σ:List Nat) (DT:List (Nat × kL)) (bF:St w0 M Z w ls) (h1:∀A∈iz,A∈ls) (hm:P.follows .mixedOrders=true) (eL:zX l m X=true) (hsg:Vh l m Hs σ=true) (hX:(X.all fun x=>(Nh Hs DT x).qd)=true)
  (hdg:DG P l.toArray n w0 M w.heap.size iz (Nh Hs DT) (fun kv w=>WL P l.toArray (NP Q) (l.drop m) n kv w) σ kv [] Z ls):WC P (.region id l.toArray true) Q n kv w:=by
 intro a hF
 refine wp_mono (Q:=NP Q) ?_ fun _ _ _ h=>h.2
 refine wp_region_any hm ?_;have acr:=DJ eL;simp only [Vh,Bool.and_eq_true] at hsg
 have tk:Py l.toArray m (Nh Hs DT) σ:=by
  have yh:=Ao (a:=[]) (fun d=>by simp) hsg.2;refine⟨fun i hi=>?_,fun i hi=>lI.1 (List.all_eq_true.1 hsg.1.1.2 i (by simpa using hi)),by simpa using hsg.1.2,fun x i y e o ho d hd=>by simpa using (yh x i y e).1 o (by simpa using ho) d hd,fun x i y e hc D hD hk j hj=>?_⟩
  ·
   have:=List.all_eq_true.1 hsg.1.1.1 i hi
   simp only [Nat.blt] at this
   have:=Nat.le_of_ble_eq_true this
   omega
  have Xj:mI i Hs=true:=by
   unfold Nh at hc
   cases he:mI i Hs with
   | true=>rfl
   | false=>rw [he] at hc;exact absurd hc yg
  have hb:=(yh x i y e).2 Xj j (by simpa using hj)
  cases hoi:l[i]? with
  | none=>
   exfalso
   have h3:∀(l:List Oper) (acc:List Nat),(tC l acc).length=acc.length+l.length:=by
    intro l
    induction l with
    | nil=>intro acc;rfl
    | cons p r ih=>intro acc;simp only [tC];rw [ih];simp;omega
   have h2:(tC l [])[i]?=none:=List.getElem?_eq_none (by rw [h3];simpa using List.getElem?_eq_none_iff.1 hoi);rw [List.getD_eq_getElem?_getD,h2] at hb
   simp at hb
  | some o=>
   exact zW D l [] [] rfl (fun j o hj ho=>hD j o hj (by simpa using ho)) (fun k o ho=>by simp at ho) (fun k o ho=>acr.back k o (by simpa using ho)) i o (by simpa using hoi) (hk o (by simpa using hoi)) j hb
 have E8:=EP l;have acs:St w0 M Z {w with drawn:=w.drawn+1} ls:=bF.step (bm.drew [] w);refine stepG (X:=X) (K:=Nh Hs DT) (fun x hx=>Kd.LY (List.all_eq_true.1 hX x hx)) acr tk (fun j sh it h=>?_) hF (.inr fun c _ _ h=>h.1 c rfl) l.toArray.size _ a _ (by simp) (EO _ _) (fun j _=>E8 j) ⟨fun _=>undef,[],σ,[],[],Z,ls,rfl,⟨⟨Nat.le_refl _,Z,ls,acs,h1⟩,hF.size,hF.ou,?_,fun _ _=>rfl,?_,?_,?_,?_⟩,
  ⟨by simp,fun j _ _=>E8 j,by simpa [u7] using hdg,by simpa using acs,h1,by simp,by simp,by simp,by simp,by simp,fun j _ _ _ h=>by rw [E8 j] at h;cases h⟩⟩
 ·
  unfold Nh at h
  split at h
  ·
   cases h
  obtain⟨s,rfl⟩:=Ap h;intro hu
  cases s <;> (simp only [kL.sh] at hu;first | (obtain⟨b,hb⟩:=hu;cases hb;done) | exact hu.1 rfl)
 all_goals (intro j;intros;rename_i h _ ;first | (have:=E8 j;simp_all;done) | skip)
variable {l:List Oper}{i:Nat}{σ':List Nat}{kv:KV}{sd:List (Nat × As)}{K:Nat→Kd}{d:Tmp}{op:Op}{ty:TypeId}{pos:String}{af:Array Edge}{g:Option (Nat × Bool)}
theorem DG.no(ho:rf l i=some ⟨some d,op,ty,pos,af,g⟩) (hg:gd l.toArray kv ⟨some d,op,ty,pos,af,g⟩=some false) (hs:bW op=false) (hd:Nat.blt d n=true)
  (next:DG P l.toArray n w0 M N iz K Fin σ' ((d,undef)::kv) sd Z ls):DG P l.toArray n w0 M N iz K Fin (i::σ') kv sd Z ls:=
 ⟨⟨some d,op,ty,pos,af,g⟩,by(rw [qc] at ho;simpa using ho),hs,hd,.inl ⟨hg,next⟩⟩
theorem DG.p{v:Value}(ho:rf l i=some ⟨some d,op,ty,pos,af,g⟩) (hg:gd l.toArray kv ⟨some d,op,ty,pos,af,g⟩=some true) (hs:bW op=false) (hk:known kv op=true) (hd:Nat.blt d n=true) (hK:(K i).qd=true)
  (h:∀w Zx R,N≤w.heap.size→St w0 M Zx w R→(∀A∈iz,A∈R)→PV P op ty kv w v)
  (next:DG P l.toArray n w0 M N iz K Fin σ' ((d,v)::kv) sd Z ls):DG P l.toArray n w0 M N iz K Fin (i::σ') kv sd Z ls:=
 ⟨⟨some d,op,ty,pos,af,g⟩,by(rw [qc] at ho;simpa using ho),hs,hd,.inr ⟨hg,hk,.inl ⟨Kd.LY hK,v,fun w ⟨h1,Zx,R,h2,h3⟩=>(h w Zx R h1 h2 h3).2.2 _ _ _ _,next⟩⟩⟩
theorem DG.side(s:kL) (ho:rf l i=some ⟨some d,op,ty,pos,af,g⟩) (hg:gd l.toArray kv ⟨some d,op,ty,pos,af,g⟩=some true) (hs:bW op=false) (hk:known kv op=true) (hd:Nat.blt d n=true) (hK:K i=.side s.sh s.it)
  (h:∀w Zx R,N≤w.heap.size→St w0 M Zx w R→OX P ⟨some d,op,ty,pos,af,g⟩ n kv w fun kJ w'=>w.heap.size≤w'.heap.size∧∃v,kJ=(d,v)::kv∧s.sh v∧St w0 M Zx w' (s.it v::R))
  (next:∀v,s.sh v→DG P l.toArray n w0 M N iz K Fin σ' ((d,v)::kv) ((i,s.it v)::sd) Z ls):DG P l.toArray n w0 M N iz K Fin (i::σ') kv sd Z ls:=
 ⟨⟨some d,op,ty,pos,af,g⟩,by(rw [qc] at ho;simpa using ho),hs,hd,.inr ⟨hg,hk,.inr (.inl ⟨s.sh,s.it,hK,fun w Zx R h1 h2=>(h w Zx R h1 h2).2.2.2.mono fun v w' ⟨a,u,e,b,c⟩=>by
  simp only [oL,List.cons.injEq,Prod.mk.injEq,true_and,and_true] at e;subst e;exact⟨a,b,c⟩,next⟩)⟩⟩
theorem DG.c(ho:rf l i=some ⟨some d,op,ty,pos,af,g⟩) (hg:gd l.toArray kv ⟨some d,op,ty,pos,af,g⟩=some true) (hs:bW op=false) (hk:known kv op=true) (hd:Nat.blt d n=true) (hK:K i=.chain)
  (h:∀w R,N≤w.heap.size→St w0 M Z w (ls++R)→(∀p∈sd,p.2∈R)→OX P ⟨some d,op,ty,pos,af,g⟩ n kv w fun kJ w'=>w.heap.size≤w'.heap.size∧∃v,kJ=(d,v)::kv∧∃Z' re,St w0 M Z' w' (re++R)∧(∀A∈iz,A∈re)∧
   DG P l.toArray n w0 M N iz K Fin σ' ((d,v)::kv) sd Z' re):DG P l.toArray n w0 M N iz K Fin (i::σ') kv sd Z ls:=
 ⟨⟨some d,op,ty,pos,af,g⟩,by(rw [qc] at ho;simpa using ho),hs,hd,.inr ⟨hg,hk,.inr (.inr ⟨hK,fun w R h1 h2 h3=>(h w R h1 h2 h3).2.2.2.mono fun v w' ⟨a,u,e,b⟩=>by
  simp only [oL,List.cons.injEq,Prod.mk.injEq,true_and,and_true] at e;subst e;exact⟨a,b⟩⟩)⟩⟩
theorem DG.nil(h:∀w,N≤w.heap.size→St w0 M Z w (sd.map (·.2)++ls)→Fin kv w):DG P l.toArray n w0 M N iz K Fin [] kv sd Z ls:=h
end
end Go.Rc

namespace Go.Rc
open Go
structure SV (w0:World) (M Z:Nat→Prop) (w:World) (l:List As):Prop where
 cT:je M w0 w
 mx:∀x,Z x→x<w.heap.size
 ok:∀A∈l,A.ok Z w
section
variable {w0 w:World}{M Z:Nat→Prop}{l R ls:List As}{A0 A1 A2 A3 A4 A5 A6 A7 A8 A9 lD mR pw:As}
theorem St.sv(h:St w0 M Z w R) (hi:∀A∈l,A∈R):SV w0 M Z w l:=⟨h.cT,h.mx,fun A hA=>h.ok A (hi A hA)⟩
theorem SV.g0(h:SV w0 M Z w (A0::l)):A0.ok Z w:=h.ok _ M0
theorem SV.tl(h:SV w0 M Z w (A0::l)):SV w0 M Z w l:=⟨h.cT,h.mx,fun A hA=>h.ok A (.tail _ hA)⟩
theorem SV.g1(h:SV w0 M Z w (A0::A1::l)):A1.ok Z w:=h.tl.g0
theorem SV.g2(h:SV w0 M Z w (A0::A1::A2::l)):A2.ok Z w:=h.tl.g1
theorem SV.g3(h:SV w0 M Z w (A0::A1::A2::A3::l)):A3.ok Z w:=h.tl.g2
theorem SV.g4(h:SV w0 M Z w (A0::A1::A2::A3::A4::l)):A4.ok Z w:=h.tl.g3
theorem SV.g5(h:SV w0 M Z w (A0::A1::A2::A3::A4::A5::l)):A5.ok Z w:=h.tl.g4
theorem SV.g6(h:SV w0 M Z w (A0::A1::A2::A3::A4::A5::A6::l)):A6.ok Z w:=h.tl.g5
theorem SV.g7(h:SV w0 M Z w (A0::A1::A2::A3::A4::A5::A6::A7::l)):A7.ok Z w:=h.tl.g6
theorem SV.g8(h:SV w0 M Z w (A0::A1::A2::A3::A4::A5::A6::A7::A8::l)):A8.ok Z w:=h.tl.g7
theorem SV.g9(h:SV w0 M Z w (A0::A1::A2::A3::A4::A5::A6::A7::A8::A9::l)):A9.ok Z w:=h.tl.g8
theorem SV.g10(h:SV w0 M Z w (A0::A1::A2::A3::A4::A5::A6::A7::A8::A9::lD::l)):lD.ok Z w:=h.tl.g9
theorem SV.g11(h:SV w0 M Z w (A0::A1::A2::A3::A4::A5::A6::A7::A8::A9::lD::mR::l)):mR.ok Z w:=h.tl.g10
theorem ax.nil:∀A∈([]:List As),A∈ls:=by simp
theorem ax.cons(h:A0∈ls) (t:∀A∈l,A∈ls):∀A∈A0::l,A∈ls:=List.forall_mem_cons.2 ⟨h,t⟩
theorem aA.nil:R=[]++R:=rfl
theorem aA.cons{L:List As}(h:L=l++R):A0::L=(A0::l)++R:=by rw [h];rfl
end
section
variable {P:Program}{n m N:Nat}{w0 w:World}{M Z:Nat→Prop}{ls iz:List As}{Fin:KV→World→Prop}
variable {l:List Oper}{i:Nat}{σ':List Nat}{kv:KV}{sd:List (Nat × As)}{K:Nat→Kd}{d:Tmp}{op:Op}{ty:TypeId}{pos:String}{af:Array Edge}{g:Option (Nat × Bool)}
theorem DG.ch(ho:rf l i=some ⟨some d,op,ty,pos,af,g⟩) (hg:gd l.toArray kv ⟨some d,op,ty,pos,af,g⟩=some true) (hs:bW op=false) (hk:known kv op=true) (hd:Nat.blt d n=true) (hK:K i=.chain)
  (h:∀w R,N≤w.heap.size→St w0 M Z w (ls++R)→(∀p∈sd,p.2∈R)→OX P ⟨some d,op,ty,pos,af,g⟩ n kv w fun kJ w'=>w.heap.size≤w'.heap.size∧∃v,kJ=(d,v)::kv∧∃Z' L re,St w0 M Z' w' L∧L=re++R∧(∀A∈iz,A∈re)∧
   DG P l.toArray n w0 M N iz K Fin σ' ((d,v)::kv) sd Z' re):DG P l.toArray n w0 M N iz K Fin (i::σ') kv sd Z ls:=
 DG.c ho hg hs hk hd hK fun w R h1 h2 h3=>by grind
theorem DG.cs(ho:rf l i=some ⟨none,op,ty,pos,af,g⟩) (hg:gd l.toArray kv ⟨none,op,ty,pos,af,g⟩=some true) (hs:bW op=false) (hk:known kv op=true) (hK:K i=.chain)
  (h:∀w R,N≤w.heap.size→St w0 M Z w (ls++R)→(∀p∈sd,p.2∈R)→OX P ⟨none,op,ty,pos,af,g⟩ n kv w fun kJ w'=>w.heap.size≤w'.heap.size∧kJ=kv∧∃Z' L re,St w0 M Z' w' L∧L=re++R∧(∀A∈iz,A∈re)∧
   DG P l.toArray n w0 M N iz K Fin σ' kv sd Z' re):DG P l.toArray n w0 M N iz K Fin (i::σ') kv sd Z ls:=
 ⟨⟨none,op,ty,pos,af,g⟩,by grind [qc],hs,rfl,.inr ⟨hg,hk,.inr (.inr ⟨hK,fun w R h1 h2 h3=>(h w R h1 h2 h3).2.2.2.mono fun v w' ⟨a,_,Z',L,re,x3,x4,x5,x6⟩=>⟨a,Z',re,by rw [← x4];exact x3,x5,x6⟩⟩)⟩⟩
end
/-! ### loops of a known number of rounds -/
section
variable {P:Program}{c:Code}{Q:Exit→Act→World→Prop}{n m:Nat}{kv:KV}{w:World}
end
end Go.Rc

namespace Go.Rc
open Go
section
variable {P:Program}{kv:KV}{w:World}{T U ty:TypeId}{x y:Operand}
theorem vp{e:TypeId}(hT:P.underlying T=some (.pointer e)) (a:Option Addr):(Op.equalIn 10000 T (.pointer a) (.pointer none)).run P w=.ok (decide (a=none)) w:=by
 rw [show(10000:Nat)=9999+1 from rfl]
 unfold Op.equalIn
 cases a <;> simp [run_underlying hT]
theorem Ht{e:TypeId}(hT:P.underlying T=some (.slice e)) (a:Option Addr) (n c:Nat):(Op.equalIn 10000 T (.slice a n c) (.slice none 0 0)).run P w=.ok (decide (a=none)) w:=by
 rw [show(10000:Nat)=9999+1 from rfl]
 unfold Op.equalIn
 cases a <;> simp [run_underlying hT]
theorem Hu{e:Array String}(hT:∃ms,P.underlying T=some (.interface ms)):(Op.equalIn 10000 T .nilIface .nilIface).run P w=.ok true w:=by
 obtain⟨ms,hT⟩:=hT;rw [show(10000:Nat)=9999+1 from rfl]
 unfold Op.equalIn
 simp [run_underlying hT]
theorem PV.Xk{e:TypeId}{a:Option Addr}(hT:P.underlying T=some (.pointer e)) (hx:ev kv x=some (.pointer a)) (hy:ev kv y=some (.pointer none)):PV P (.binOp .eql T x y U) ty kv w (.bool (decide (a=none))):=
 ⟨rfl,by simp [known,opers,hx,hy],fun _ _ _ _=>by
  simp only [execOp,aN hx,aN hy]
  simp [eqGuard,binOp,Op.equal,Op.maxDepth,vp hT]⟩
theorem PV.Xl{e:TypeId}{a:Option Addr}(hT:P.underlying T=some (.pointer e)) (hx:ev kv x=some (.pointer a)) (hy:ev kv y=some (.pointer none)):PV P (.binOp .neq T x y U) ty kv w (.bool (decide (a≠none))):=
 ⟨rfl,by simp [known,opers,hx,hy],fun _ _ _ _=>by
  simp only [execOp,aN hx,aN hy]
  simp [eqGuard,binOp,Op.equal,Op.maxDepth,vp hT]⟩
theorem PV.Xm{e:TypeId}{a:Option Addr}{n c:Nat}(hT:P.underlying T=some (.slice e)) (hx:ev kv x=some (.slice a n c)) (hy:ev kv y=some (.slice none 0 0)):PV P (.binOp .eql T x y U) ty kv w (.bool (decide (a=none))):=
 ⟨rfl,by simp [known,opers,hx,hy],fun _ _ _ _=>by
  simp only [execOp,aN hx,aN hy]
  simp [eqGuard,binOp,Op.equal,Op.maxDepth,Ht hT]⟩
theorem PV.Xn(hT:∃ms,P.underlying T=some (.interface ms)) (hx:ev kv x=some .nilIface):PV P (.binOp .neq T x (.const .nilIface) U) ty kv w (.bool false):=by
 have hy:ev kv (.const .nilIface)=some .nilIface:=rfl;refine⟨rfl,by simp [known,opers,hx,hy],fun _ _ _ _=>?_⟩;simp only [execOp,aN hx,aN hy]
 simp [eqGuard,binOp,Op.equal,Op.maxDepth,Hu (e:=#[]) hT]
theorem PV.ai6{len e:Nat}{cs:List Value}{i:Nat}{v:Value}(hT:P.underlying T=some (.array len e)) (hs:∀w,(sizeOf e).run P w=.ok 1 w) (ha:∀w,(isAgg e).run P w=.ok false w)
  (hx:ev kv x=some (.agg cs.toArray)) (hy:ev kv y=some (.int .i64 (i:Int))) (hi:i<len) (hv:cs[i]?=some v):PV P (.index T x y) ty kv w v:=
 ⟨rfl,by simp [known,opers,hx,hy],fun _ _ _ _=>by
  simp only [execOp,aN hx,aN hy]
  simp [Instr.index,asIntOf,run_underlying hT,hs w,part,ha w,hi,hv]⟩
theorem Aq{f g:Nat→Option (Nat × Nat)}:∀(ps:List (Nat × Value)) (cs:Array Value),(∀p∈ps,f p.1=g p.1)→Instr.fill f cs ps=Instr.fill g cs ps
 | [],_,_=>rfl
 | (i,v)::r,cs,h=>by
  simp only [Instr.fill];rw [h (i,v) (by simp)]
  cases g i with
  | none=>rfl
  | some q=>
   simp only
   split
   ·
    rfl
   exact Aq r _ fun p hp=>h p (by simp [hp])
theorem PV.Xo{len e k:Nat}{z us:List Value}{vz:Value}{places:List (Nat × Nat)}{ps:List (Nat × Operand)}{vs:List (Nat × Value)}(hz:∀w,(zeroValue T).run P w=.ok vz w) (hzc:vz.cells=z.toArray) (hT:P.underlying T=some (.array len e)) (hs:∀w,(sizeOf e).run P w=.ok k w)
  (hv:mQ kv ps=some vs) (hp:∀p∈vs,places[p.1]?=some (p.1*k,k)) (eL:wW places z.length vs=true) (hu:Ac places z vs=us):PV P (.build T ps.toArray) ty kv w (.agg us.toArray):=by
 subst hu;obtain⟨h1,h2⟩:=pV hv;refine⟨rfl,by simpa [known,opers] using h2,fun _ _ _ _=>?_⟩;have hf:=fill_eq places vs z.toArray (by simpa using eL)
 have e:(ps.toArray.map fun(i,x)=>(i,mw kv x)).toList=vs:=by rw [← h1];simp
 simp only [execOp,Instr.build,Sem.run_bind,hz w,Result.andThen_ok,run_underlying hT,hs w,e];rw [hzc,Aq (g:=fun i:Nat=>places[i]?) vs _ fun p hp'=>(hp p hp').symm,hf]
 rfl
end
section
variable {α:Type}{R:RR α}{P:Program}{E k c b:Nat}{a:Option Addr}{u u':α}{Z:Nat→Prop}{w:World}
variable {N:Nat}{kv:KV}{K:KV→World→Prop}{ty:TypeId}{pos:String}{af:Array Edge}{g:Option (Nat × Bool)}{T:TypeId}
theorem OX.E9{d:Tmp}{n:Nat}{E k:Nat}(hT:P.underlying T=some (.slice E)) (hs:∀w,(sizeOf E).run P w=.ok k w) (hd:Nat.blt d n=true)
  (h:∀b w',G5 w w' b→cI w' b E []→K ((d,.slice (some ⟨b,0,none⟩) 0 0)::kv) w'):OX P ⟨some d,.buildSlice T 0 #[],ty,pos,af,g⟩ n kv w K:=by
 refine⟨rfl,hd,rfl,?_⟩
 have hr:(execOp (mw kv) ⟨some d,.buildSlice T 0 #[],ty,pos,af,g⟩).run P w=.ok (.value (.slice (some ⟨w.heap.size,0,none⟩) 0 0)) (w.alloc (.cells #[] E)):=by
  simp only [execOp,Instr.buildSlice,Sem.run_bind,run_underlying hT,Result.andThen_ok,hs w,Nat.zero_mul];rw [if_neg (by omega)];simp only [if_true,Sem.run_bind,Sem.run_pure,Result.andThen_ok]
  have hf:Instr.fill (fun i=>some (i*k,k)) (Array.map (fun x=>(#[]:Array Value)[x % (#[]:Array Value).size]!) (Array.range 0)) (Array.map (fun x:Nat × Operand=>(x.fst,mw kv x.snd)) #[]).toList=some #[]:=by simp [Instr.fill]
  rw [hf]
  rfl
 rw [hr];exact h _ _ ⟨nb _ _,Nat.le_refl _,by simp⟩ (ph _ _)
theorem OR.Xp{α:Type}{R:α→List Value→Prop}{base b E k:Nat}{w:World}(h:cI w b E []) (hb:base≤b):OR base w E k R (some ⟨b,0,none⟩) 0 0 []:=
 ⟨rfl,[],rfl,by simp,by grind [OL.blk],fun i y r h1 h2=>by simp at h1⟩
theorem Rd.Ar{α:Type}{R:RR α}{k n c:Nat}{Z:Nat→Prop}{w:World}{xs:List α}(h:Rd R k Z w none n c xs):xs=[]:=by
 obtain⟨hn,rows,hl,hk,h1,hx⟩:=h
 rcases h1.at_ with⟨_,h2,_⟩ | ⟨b,o,h2,_⟩
 ·
  grind
 cases h2
end
theorem Calls.cap{P:Program}{f:FuncId}{r c:Value}{w:World}{Q:Ending→World→Prop}(h:Calls P f #[r,c] w Q):Calls P f (#[]++[r].toArray++#[c]) w Q:=by grind
theorem Calls.recv{P:Program}{f:FuncId}{v r:Value}{w:World}{Q:Ending→World→Prop}(h:Calls P f #[v,r] w Q):Calls P f (#[v]++[r].toArray++#[]) w Q:=by grind
end Go.Rc

namespace Go.Rc
open Go
section
variable {P:Program}{n:Nat}{kv:KV}{w:World}{d:Tmp}{ty:TypeId}{pos:String}{af:Array Edge}{g:Option (Nat × Bool)}
theorem WL.a{ops:Array Oper}{Q:Exit→Act→World→Prop}{rest:List Oper}{op:Op}{v:Value}(next:WL P ops Q rest n ((d,v)::kv) w)
  (hg:gd ops kv ⟨some d,op,ty,pos,af,g⟩=some true:=by rfl) (hd:Nat.blt d n=true:=by rfl)
  (h:PV P op ty kv w v:=by
   first
   | with_reducible exact PV.mv (by with_unfolding_all rfl) | with_reducible exact PV.ext (by with_unfolding_all rfl) (by with_unfolding_all rfl) | with_reducible exact PV.fa kD.h (by with_unfolding_all rfl) | with_reducible exact PV.as (by with_unfolding_all rfl) | with_reducible exact PV.WN (by with_unfolding_all rfl) | with_reducible exact PV.j9 J2.h (by with_unfolding_all rfl) | with_reducible exact PV.not (by with_unfolding_all rfl)
   | with_reducible exact PV.eqi (by with_unfolding_all rfl) (by with_unfolding_all rfl) | with_reducible exact PV.nei (by with_unfolding_all rfl) (by with_unfolding_all rfl) | with_reducible exact PV.lss (by with_unfolding_all rfl) (by with_unfolding_all rfl) | with_reducible exact PV.leq (by with_unfolding_all rfl) (by with_unfolding_all rfl) | with_reducible exact PV.gtr (by with_unfolding_all rfl) (by with_unfolding_all rfl) | with_reducible exact PV.geq (by with_unfolding_all rfl) (by with_unfolding_all rfl)
   | with_reducible exact PV.eqs (by with_unfolding_all rfl) (by with_unfolding_all rfl) | with_reducible exact PV.nes (by with_unfolding_all rfl) (by with_unfolding_all rfl) | with_reducible exact PV.JD Nc.h (by with_unfolding_all rfl) (by with_unfolding_all rfl) | with_reducible exact PV.R0 Nc.h (by with_unfolding_all rfl) (by with_unfolding_all rfl)
   | with_reducible exact PV.O0 (by with_unfolding_all rfl) (by with_unfolding_all rfl) (by with_unfolding_all rfl) | with_reducible exact PV.O1 (by with_unfolding_all rfl) (by with_unfolding_all rfl) (by with_unfolding_all rfl)
   | with_reducible exact PV.add (by with_unfolding_all rfl) (by with_unfolding_all rfl) (by omega) (by omega) | with_reducible exact PV.sub (by with_unfolding_all rfl) (by with_unfolding_all rfl) (by omega) (by omega) | with_reducible exact PV.mul (by with_unfolding_all rfl) (by with_unfolding_all rfl) (by omega) (by omega)
   | with_reducible exact PV.rem (by with_unfolding_all rfl) (by with_unfolding_all rfl) (by omega) | with_reducible exact PV.quo (by with_unfolding_all rfl) (by with_unfolding_all rfl) (by omega) (by omega) (by omega) | with_reducible exact PV.cat (by with_unfolding_all rfl) (by with_unfolding_all rfl) (by omega)
   | with_reducible exact PV.zero W9.h | with_reducible exact PV.Xk rO.h (by with_unfolding_all rfl) (by with_unfolding_all rfl) | with_reducible exact PV.Xl rO.h (by with_unfolding_all rfl) (by with_unfolding_all rfl) | with_reducible exact PV.Xm rO.h (by with_unfolding_all rfl) (by with_unfolding_all rfl) | with_reducible exact PV.zS rO.h (by with_unfolding_all rfl) | with_reducible exact PV.SJ (by with_unfolding_all rfl) (by with_unfolding_all rfl) | with_reducible exact PV.Pm (by with_unfolding_all rfl) (by with_unfolding_all rfl)) :
  WL P ops Q (⟨some d,op,ty,pos,af,g⟩::rest) n kv w:=WL.p hg hd h next
theorem DW.a{ops:Array Oper}{i:Nat}{C:World→Prop}{T:Nat→World→World→Prop}{E:Nat→Option (Value→World→Prop)}{Fin:KV→World→Prop}{rest:List Oper}{F:nA}{op:Op}{v:Value}
  (next:DW P ops n C T E Fin (i+1) rest ((d,v)::kv) F)
  (hg:gd ops kv ⟨some d,op,ty,pos,af,g⟩=some true:=by rfl) (hs:bW op=false:=by rfl) (hk:known kv op=true:=by rfl) (hd:Nat.blt d n=true:=by rfl) (hE:E i=none:=by rfl)
  (h:∀w,C w→PV P op ty kv w v:=by
   intro _ hC
   first
   | with_reducible exact PV.mv (by with_unfolding_all rfl) | with_reducible exact PV.ext (by with_unfolding_all rfl) (by with_unfolding_all rfl) | with_reducible exact PV.fa kD.h (by with_unfolding_all rfl) | with_reducible exact PV.as (by with_unfolding_all rfl) | with_reducible exact PV.WN (by with_unfolding_all rfl) | with_reducible exact PV.j9 J2.h (by with_unfolding_all rfl) | with_reducible exact PV.not (by with_unfolding_all rfl)
   | with_reducible exact PV.eqi (by with_unfolding_all rfl) (by with_unfolding_all rfl) | with_reducible exact PV.nei (by with_unfolding_all rfl) (by with_unfolding_all rfl) | with_reducible exact PV.lss (by with_unfolding_all rfl) (by with_unfolding_all rfl) | with_reducible exact PV.leq (by with_unfolding_all rfl) (by with_unfolding_all rfl) | with_reducible exact PV.gtr (by with_unfolding_all rfl) (by with_unfolding_all rfl) | with_reducible exact PV.geq (by with_unfolding_all rfl) (by with_unfolding_all rfl)
   | with_reducible exact PV.eqs (by with_unfolding_all rfl) (by with_unfolding_all rfl) | with_reducible exact PV.nes (by with_unfolding_all rfl) (by with_unfolding_all rfl) | with_reducible exact PV.JD Nc.h (by with_unfolding_all rfl) (by with_unfolding_all rfl) | with_reducible exact PV.R0 Nc.h (by with_unfolding_all rfl) (by with_unfolding_all rfl)
   | with_reducible exact PV.O0 (by with_unfolding_all rfl) (by with_unfolding_all rfl) (by with_unfolding_all rfl) | with_reducible exact PV.O1 (by with_unfolding_all rfl) (by with_unfolding_all rfl) (by with_unfolding_all rfl)
   | with_reducible exact PV.add (by with_unfolding_all rfl) (by with_unfolding_all rfl) (by omega) (by omega) | with_reducible exact PV.sub (by with_unfolding_all rfl) (by with_unfolding_all rfl) (by omega) (by omega) | with_reducible exact PV.mul (by with_unfolding_all rfl) (by with_unfolding_all rfl) (by omega) (by omega)
   | with_reducible exact PV.rem (by with_unfolding_all rfl) (by with_unfolding_all rfl) (by omega) | with_reducible exact PV.quo (by with_unfolding_all rfl) (by with_unfolding_all rfl) (by omega) (by omega) (by omega) | with_reducible exact PV.cat (by with_unfolding_all rfl) (by with_unfolding_all rfl) (by omega)
   | with_reducible exact PV.zero W9.h | with_reducible exact PV.Xk rO.h (by with_unfolding_all rfl) (by with_unfolding_all rfl) | with_reducible exact PV.Xl rO.h (by with_unfolding_all rfl) (by with_unfolding_all rfl) | with_reducible exact PV.Xm rO.h (by with_unfolding_all rfl) (by with_unfolding_all rfl) | with_reducible exact PV.zS rO.h (by with_unfolding_all rfl) | with_reducible exact PV.SJ (by with_unfolding_all rfl) (by with_unfolding_all rfl) | with_reducible exact PV.Pm (by with_unfolding_all rfl) (by with_unfolding_all rfl)) :
  DW P ops n C T E Fin i (⟨some d,op,ty,pos,af,g⟩::rest) kv F:=DW.p hg hs hk hd hE h next
end
section
variable {P:Program}{n N:Nat}{w0:World}{M Z:Nat→Prop}{ls iz:List As}{Fin:KV→World→Prop}{l:List Oper}{i:Nat}{σ':List Nat}{kv:KV}{sd:List (Nat × As)}{K:Nat→Kd}{d:Tmp}{op:Op}{ty:TypeId}{pos:String}{af:Array Edge}{g:Option (Nat × Bool)}
theorem DG.a{v:Value}(next:DG P l.toArray n w0 M N iz K Fin σ' ((d,v)::kv) sd Z ls)
  (ho:rf l i=some ⟨some d,op,ty,pos,af,g⟩:=by rfl) (hg:gd l.toArray kv ⟨some d,op,ty,pos,af,g⟩=some true:=by rfl) (hs:bW op=false:=by rfl) (hk:known kv op=true:=by rfl) (hd:Nat.blt d n=true:=by rfl) (hK:(K i).qd=true:=by rfl)
  (h:∀w Zx R,N≤w.heap.size→St w0 M Zx w R→(∀A∈iz,A∈R)→PV P op ty kv w v:=by
   intro _ _ _ _ _ _
   first
   | with_reducible exact PV.mv (by with_unfolding_all rfl) | with_reducible exact PV.ext (by with_unfolding_all rfl) (by with_unfolding_all rfl) | with_reducible exact PV.fa kD.h (by with_unfolding_all rfl) | with_reducible exact PV.as (by with_unfolding_all rfl) | with_reducible exact PV.WN (by with_unfolding_all rfl) | with_reducible exact PV.j9 J2.h (by with_unfolding_all rfl) | with_reducible exact PV.not (by with_unfolding_all rfl)
   | with_reducible exact PV.eqi (by with_unfolding_all rfl) (by with_unfolding_all rfl) | with_reducible exact PV.nei (by with_unfolding_all rfl) (by with_unfolding_all rfl) | with_reducible exact PV.lss (by with_unfolding_all rfl) (by with_unfolding_all rfl) | with_reducible exact PV.leq (by with_unfolding_all rfl) (by with_unfolding_all rfl) | with_reducible exact PV.gtr (by with_unfolding_all rfl) (by with_unfolding_all rfl) | with_reducible exact PV.geq (by with_unfolding_all rfl) (by with_unfolding_all rfl)
   | with_reducible exact PV.eqs (by with_unfolding_all rfl) (by with_unfolding_all rfl) | with_reducible exact PV.nes (by with_unfolding_all rfl) (by with_unfolding_all rfl) | with_reducible exact PV.JD Nc.h (by with_unfolding_all rfl) (by with_unfolding_all rfl) | with_reducible exact PV.R0 Nc.h (by with_unfolding_all rfl) (by with_unfolding_all rfl)
   | with_reducible exact PV.O0 (by with_unfolding_all rfl) (by with_unfolding_all rfl) (by with_unfolding_all rfl) | with_reducible exact PV.O1 (by with_unfolding_all rfl) (by with_unfolding_all rfl) (by with_unfolding_all rfl)
   | with_reducible exact PV.add (by with_unfolding_all rfl) (by with_unfolding_all rfl) (by omega) (by omega) | with_reducible exact PV.sub (by with_unfolding_all rfl) (by with_unfolding_all rfl) (by omega) (by omega) | with_reducible exact PV.mul (by with_unfolding_all rfl) (by with_unfolding_all rfl) (by omega) (by omega)
   | with_reducible exact PV.rem (by with_unfolding_all rfl) (by with_unfolding_all rfl) (by omega) | with_reducible exact PV.quo (by with_unfolding_all rfl) (by with_unfolding_all rfl) (by omega) (by omega) (by omega) | with_reducible exact PV.cat (by with_unfolding_all rfl) (by with_unfolding_all rfl) (by omega)
   | with_reducible exact PV.zero W9.h | with_reducible exact PV.Xk rO.h (by with_unfolding_all rfl) (by with_unfolding_all rfl) | with_reducible exact PV.Xl rO.h (by with_unfolding_all rfl) (by with_unfolding_all rfl) | with_reducible exact PV.Xm rO.h (by with_unfolding_all rfl) (by with_unfolding_all rfl) | with_reducible exact PV.zS rO.h (by with_unfolding_all rfl) | with_reducible exact PV.SJ (by with_unfolding_all rfl) (by with_unfolding_all rfl) | with_reducible exact PV.Pm (by with_unfolding_all rfl) (by with_unfolding_all rfl)) :
  DG P l.toArray n w0 M N iz K Fin (i::σ') kv sd Z ls:=DG.p ho hg hs hk hd hK h next
end
/-! calls that own nothing -/
section
variable {P:Program}{n:Nat}{kv:KV}{w:World}{d:Tmp}{ty:TypeId}{pos:String}{af:Array Edge}{g:Option (Nat × Bool)}{w0:World}{M Z:Nat→Prop}{ls:List As}{f:FuncId}{xs:List Operand}{ue:Array TypeId}{args:List Value}{u u':Value}
theorem WL.c1 [hf:jo P f] {ops:Array Oper}{Q:Exit→Act→World→Prop}{rest:List Oper}(hc:Calls P f args.toArray w fun e w'=>e=.returned u'∧bm [] w w') (hv:u'=u) (st:St w0 M Z w ls)
  (next:∀w',bm [] w w'→St w0 M Z w' ls→WL P ops Q rest n ((d,u)::kv) w')
  (hg:gd ops kv ⟨some d,.call {callee:=.value (.func f),args:=xs.toArray,argTypes:=ue},ty,pos,af,g⟩=some true:=by rfl) (hd:Nat.blt d n=true:=by rfl) (hx:xs.map (ev kv)=args.map some:=by rfl) :
  WL P ops Q (⟨some d,.call {callee:=.value (.func f),args:=xs.toArray,argTypes:=ue},ty,pos,af,g⟩::rest) n kv w:=
 WL.go hg (OX.call hf.h hd hx (hc.mono fun _ w' ⟨he,hs⟩=>⟨u,by rw [he,hv],next w' hs (st.step hs)⟩))
theorem WL.c0 [hf:jo P f] {ops:Array Oper}{Q:Exit→Act→World→Prop}{rest:List Oper}(hc:Calls P f args.toArray w fun e w'=>e=.returned u∧bm [] w w') (st:St w0 M Z w ls)
  (next:∀w',bm [] w w'→St w0 M Z w' ls→WL P ops Q rest n ((d,u)::kv) w')
  (hg:gd ops kv ⟨some d,.call {callee:=.value (.func f),args:=xs.toArray,argTypes:=ue},ty,pos,af,g⟩=some true:=by rfl) (hd:Nat.blt d n=true:=by rfl) (hx:xs.map (ev kv)=args.map some:=by rfl) :
  WL P ops Q (⟨some d,.call {callee:=.value (.func f),args:=xs.toArray,argTypes:=ue},ty,pos,af,g⟩::rest) n kv w:=WL.c1 hc rfl st next hg hd hx
theorem DW.c1 [hf:jo P f] {ops:Array Oper}{i N:Nat}{T:Nat→World→World→Prop}{E:Nat→Option (Value→World→Prop)}{Fin:KV→World→Prop}{rest:List Oper}{F:nA}
  (hc:∀wx,(N≤wx.heap.size∧St w0 M Z wx ls)→G6 (eT ⟨some d,.call {callee:=.value (.func f),args:=xs.toArray,argTypes:=ue},ty,pos,af,g⟩) F wx→Calls P f args.toArray wx fun e w'=>e=.returned u'∧bm [] wx w') (hv:u'=u)
  (next:DW P ops n (fun wx=>N≤wx.heap.size∧St w0 M Z wx ls) T E Fin (i+1) rest ((d,u)::kv) ((i,fun _=>u=u)::F))
  (hg:gd ops kv ⟨some d,.call {callee:=.value (.func f),args:=xs.toArray,argTypes:=ue},ty,pos,af,g⟩=some true:=by rfl) (hk:known kv (.call {callee:=.value (.func f),args:=xs.toArray,argTypes:=ue})=true:=by rfl) (hd:Nat.blt d n=true:=by rfl)
  (hE:E i=some (fun v _=>v=u):=by rfl) (hT:∀w w',bm [] w w'→T i w w':=by exact fun _ _ h=>h.p0) (hx:xs.map (ev kv)=args.map some:=by rfl) :
  DW P ops n (fun wx=>N≤wx.heap.size∧St w0 M Z wx ls) T E Fin i (⟨some d,.call {callee:=.value (.func f),args:=xs.toArray,argTypes:=ue},ty,pos,af,g⟩::rest) kv F:=
 DW.e hg rfl hk hd hE (fun wx hC hF=>OX.call hf.h hd hx ((hc wx hC hF).mono fun _ w' ⟨he,hs⟩=>⟨u,by rw [he,hv],⟨Nat.le_trans hC.1 hs.size,hC.2.step hs⟩,hT _ _ hs,u,rfl,rfl⟩)) (by rintro _ _ _ rfl;exact next)
theorem DW.c0 [hf:jo P f] {ops:Array Oper}{i N:Nat}{T:Nat→World→World→Prop}{E:Nat→Option (Value→World→Prop)}{Fin:KV→World→Prop}{rest:List Oper}{F:nA}
  (hc:∀wx,(N≤wx.heap.size∧St w0 M Z wx ls)→G6 (eT ⟨some d,.call {callee:=.value (.func f),args:=xs.toArray,argTypes:=ue},ty,pos,af,g⟩) F wx→Calls P f args.toArray wx fun e w'=>e=.returned u∧bm [] wx w')
  (next:DW P ops n (fun wx=>N≤wx.heap.size∧St w0 M Z wx ls) T E Fin (i+1) rest ((d,u)::kv) ((i,fun _=>u=u)::F))
  (hg:gd ops kv ⟨some d,.call {callee:=.value (.func f),args:=xs.toArray,argTypes:=ue},ty,pos,af,g⟩=some true:=by rfl) (hk:known kv (.call {callee:=.value (.func f),args:=xs.toArray,argTypes:=ue})=true:=by rfl) (hd:Nat.blt d n=true:=by rfl)
  (hE:E i=some (fun v _=>v=u):=by rfl) (hT:∀w w',bm [] w w'→T i w w':=by exact fun _ _ h=>h.p0) (hx:xs.map (ev kv)=args.map some:=by rfl) :
  DW P ops n (fun wx=>N≤wx.heap.size∧St w0 M Z wx ls) T E Fin i (⟨some d,.call {callee:=.value (.func f),args:=xs.toArray,argTypes:=ue},ty,pos,af,g⟩::rest) kv F:=DW.c1 hc rfl next hg hk hd hE hT hx
end
/-! operations with effects, and what is owned behind them -/
section
variable {P:Program}{n:Nat}{kv:KV}{w:World}{d:Tmp}{ty:TypeId}{pos:String}{af:Array Edge}{g:Option (Nat × Bool)}{w0:World}{M Z:Nat→Prop}{ls:List As}{ops:Array Oper}{Q:Exit→Act→World→Prop}{rest:List Oper}
theorem WL.al{T:TypeId}{l:List Value} [hT:JE P T l] (st:St w0 M Z w ls) (next:∀b w',G5 w w' b→cI w' b T l→St w0 M Z w' (As.blk b T l::ls)→WL P ops Q rest n ((d,.pointer (some ⟨b,0,none⟩))::kv) w')
  (hg:gd ops kv ⟨some d,.alloc T,ty,pos,af,g⟩=some true:=by rfl) (hd:Nat.blt d n=true:=by rfl):WL P ops Q (⟨some d,.alloc T,ty,pos,af,g⟩::rest) n kv w:=
 WL.go hg (OX.alloc hT.h hd fun b w' nw hb=>next b w' nw hb (st.fb nw hb))
theorem WL.mm{κ:Type} [DecidableEq κ] (enc:κ→Value) {T:TypeId}(st:St w0 M Z w ls) (next:∀b w',G5 w w' b→KM enc w' b []→St w0 M Z w' (As.map enc b []::ls)→WL P ops Q rest n ((d,.map (some b))::kv) w')
  (hg:gd ops kv ⟨some d,.makeMap T none,ty,pos,af,g⟩=some true:=by rfl) (hd:Nat.blt d n=true:=by rfl):WL P ops Q (⟨some d,.makeMap T none,ty,pos,af,g⟩::rest) n kv w:=
 WL.go hg (OX.makeMap enc hd fun b w' nw hb=>next b w' nw hb (st.Pq nw hb))
theorem WL.s1{x y:Operand}{j b e U:Nat}{cs Ng:List Value}{v:Value} [hT:OC P U 1] (fr:St w0 M Z w (As.blk b e cs::ls)) (next:∀w',bm [b] w w'→St w0 M Z w' (As.blk b e Ng::ls)→WL P ops Q rest n kv w')
  (hg:gd ops kv ⟨none,.store U x y,ty,pos,af,g⟩=some true:=by rfl) (hx:ev kv x=some (.pointer (some ⟨b,0+j,none⟩)):=by rfl) (hy:ev kv y=some v:=by rfl)
  (hj:nth cs j≠none:=by first | (simp [nth];done) | exact nns rfl) (h1:v.oneCell'=true:=by rfl) (hl:G2 cs j v=Ng:=by rfl):WL P ops Q (⟨none,.store U x y,ty,pos,af,g⟩::rest) n kv w:=
 WL.go hg (OX.st hT.h (As.gb fr.g0) hx hy hj h1 hl fun w' s _ hb=>next w' s (fr.Ho s hb))
theorem WL.s0{x y:Operand}{b e U:Nat}{cs Ng:List Value}{v:Value} [hT:OC P U 1] (fr:St w0 M Z w (As.blk b e cs::ls)) (next:∀w',bm [b] w w'→St w0 M Z w' (As.blk b e Ng::ls)→WL P ops Q rest n kv w')
  (hg:gd ops kv ⟨none,.store U x y,ty,pos,af,g⟩=some true:=by rfl) (hx:ev kv x=some (.pointer (some ⟨b,0,none⟩)):=by rfl) (hy:ev kv y=some v:=by rfl)
  (hj:nth cs 0≠none:=by first | (simp [nth];done) | exact nns rfl) (h1:v.oneCell'=true:=by rfl) (hl:G2 cs 0 v=Ng:=by rfl):WL P ops Q (⟨none,.store U x y,ty,pos,af,g⟩::rest) n kv w:=
 WL.go hg (OX.aW hT.h (As.gb fr.g0) hx hy hj h1 hl fun w' s _ hb=>next w' s (fr.Ho s hb))
theorem WL.ap{α:Type}{R:RR α}{x y:Operand}{E k nn c m c2 bytes U:Nat}{a a2:Option Addr}{xs ys:List α}{A:Nat→Prop} [hT:OD P U E k bytes] (hs:ev kv x=some (.slice a nn c)) (hx:ev kv y=some (.slice a2 m c2)) (fr:St w0 M Z w (As.os R E k a nn c xs::ls)) (EY:SR A w k (R.r Z w) a2 m c2 ys)
  (next:∀a' c' w',(∀x∈aO a',x∈aO a∨w.heap.size≤x)→(a'=none→a=none∧m=0)→St w0 M Z w' (As.os R E k a' (nn+m) c' (xs++ys)::ls)→WL P ops Q rest n ((d,.slice a' (nn+m) c')::kv) w')
  (dO:(nn+m)*bytes≤140737488355328:=by omega) (eZ:nn+m≤140737488355328:=by omega)
  (hg:gd ops kv ⟨some d,.call {callee:=.builtin .append,args:=#[x,y],argTypes:=#[U,U]},ty,pos,af,g⟩=some true:=by rfl) (hd:Nat.blt d n=true:=by rfl) :
  WL P ops Q (⟨some d,.call {callee:=.builtin .append,args:=#[x,y],argTypes:=#[U,U]},ty,pos,af,g⟩::rest) n kv w:=
 WL.go hg (OX.oM hT.h hd hs hx (As.gs fr.g0) EY dO eZ (Nat.zero_le _) fun a' c' w' h s hf hn=>next a' c' w' hf hn (fr.iY s h hf))
end
end Go.Rc

namespace Go.Rc
open Go
theorem gw{p q:Prop}(g:p) (h:¬p:=by first | (simp;done) | (simp;omega) | (simp_all;done) | (simp_all;omega)):q:=absurd g h
section
variable {P:Program}{n:Nat}{kv:KV}{w:World}{d:Tmp}{ty:TypeId}{pos:String}{af:Array Edge}{g:Option (Nat × Bool)}
theorem WL.q{ops:Array Oper}{Q:Exit→Act→World→Prop}{rest:List Oper}{op:Op}{v:Value}(h:PV P op ty kv w v) (next:WL P ops Q rest n ((d,v)::kv) w)
  (hg:gd ops kv ⟨some d,op,ty,pos,af,g⟩=some true:=by rfl) (hd:Nat.blt d n=true:=by rfl):WL P ops Q (⟨some d,op,ty,pos,af,g⟩::rest) n kv w:=WL.p hg hd h next
theorem WL.z{ops:Array Oper}{Q:Exit→Act→World→Prop}{rest:List Oper}{o:Oper}(next:WL P ops Q rest n (oL kv o.dst undef) w)
  (hg:gd ops kv o=some false:=by rfl) (hd:vd n o.dst=true:=by rfl):WL P ops Q (o::rest) n kv w:=WL.no hg hd next
theorem DW.q{ops:Array Oper}{i:Nat}{C:World→Prop}{T:Nat→World→World→Prop}{E:Nat→Option (Value→World→Prop)}{Fin:KV→World→Prop}{rest:List Oper}{F:nA}{op:Op}{v:Value}
  (h:∀w,C w→PV P op ty kv w v) (next:DW P ops n C T E Fin (i+1) rest ((d,v)::kv) F)
  (hg:gd ops kv ⟨some d,op,ty,pos,af,g⟩=some true:=by rfl) (hs:bW op=false:=by rfl) (hk:known kv op=true:=by rfl) (hd:Nat.blt d n=true:=by rfl) (hE:E i=none:=by rfl) :
  DW P ops n C T E Fin i (⟨some d,op,ty,pos,af,g⟩::rest) kv F:=DW.p hg hs hk hd hE h next
theorem DW.z{ops:Array Oper}{i:Nat}{C:World→Prop}{T:Nat→World→World→Prop}{E:Nat→Option (Value→World→Prop)}{Fin:KV→World→Prop}{rest:List Oper}{F:nA}{op:Op}
  (next:DW P ops n C T E Fin (i+1) rest ((d,undef)::kv) F)
  (hg:gd ops kv ⟨some d,op,ty,pos,af,g⟩=some false:=by rfl) (hs:bW op=false:=by rfl) (hd:Nat.blt d n=true:=by rfl) :
  DW P ops n C T E Fin i (⟨some d,op,ty,pos,af,g⟩::rest) kv F:=DW.no hg hs hd next
end
section
variable {P:Program}{n N:Nat}{w0:World}{M Z:Nat→Prop}{ls iz:List As}{Fin:KV→World→Prop}{l:List Oper}{i:Nat}{σ':List Nat}{kv:KV}{sd:List (Nat × As)}{K:Nat→Kd}{d:Tmp}{op:Op}{ty:TypeId}{pos:String}{af:Array Edge}{g:Option (Nat × Bool)}
theorem DG.q{v:Value}(ho:rf l i=some ⟨some d,op,ty,pos,af,g⟩) (h:∀w Zx R,N≤w.heap.size→St w0 M Zx w R→(∀A∈iz,A∈R)→PV P op ty kv w v) (next:DG P l.toArray n w0 M N iz K Fin σ' ((d,v)::kv) sd Z ls)
  (hg:gd l.toArray kv ⟨some d,op,ty,pos,af,g⟩=some true:=by rfl) (hs:bW op=false:=by rfl) (hk:known kv op=true:=by rfl) (hd:Nat.blt d n=true:=by rfl) (hK:(K i).qd=true:=by rfl) :
  DG P l.toArray n w0 M N iz K Fin (i::σ') kv sd Z ls:=DG.p ho hg hs hk hd hK h next
theorem DG.z(ho:rf l i=some ⟨some d,op,ty,pos,af,g⟩) (next:DG P l.toArray n w0 M N iz K Fin σ' ((d,undef)::kv) sd Z ls)
  (hg:gd l.toArray kv ⟨some d,op,ty,pos,af,g⟩=some false:=by rfl) (hs:bW op=false:=by rfl) (hd:Nat.blt d n=true:=by rfl) :
  DG P l.toArray n w0 M N iz K Fin (i::σ') kv sd Z ls:=DG.no ho hg hs hd next
end
section
variable {w0 w:World}{M Z:Nat→Prop}{l:List As}{b T:Nat}{cs:List Value}
theorem St.b0(h:St w0 M Z w (As.blk b T cs::l)):w.rangeAt b 0 cs:=cI.range (As.gb h.g0)
theorem St.b1{A0:As}(h:St w0 M Z w (A0::As.blk b T cs::l)):w.rangeAt b 0 cs:=cI.range (As.gb h.g1)
theorem St.b2{A0 A1:As}(h:St w0 M Z w (A0::A1::As.blk b T cs::l)):w.rangeAt b 0 cs:=cI.range (As.gb h.g2)
theorem St.b3{A0 A1 A2:As}(h:St w0 M Z w (A0::A1::A2::As.blk b T cs::l)):w.rangeAt b 0 cs:=cI.range (As.gb h.g3)
theorem St.b4{A0 A1 A2 A3:As}(h:St w0 M Z w (A0::A1::A2::A3::As.blk b T cs::l)):w.rangeAt b 0 cs:=cI.range (As.gb h.g4)
theorem St.b5{A0 A1 A2 A3 A4:As}(h:St w0 M Z w (A0::A1::A2::A3::A4::As.blk b T cs::l)):w.rangeAt b 0 cs:=cI.range (As.gb h.g5)
end
structure qO (q:Prop):Prop where
 out:q
theorem nx{p q:Prop}(next:q) (h:qO q→p:=by
  intro h
  first
   | with_reducible refine WL.nil ?_
   | with_reducible refine EX.aiq ?_
   | with_reducible refine WC.seq ?_
   | with_reducible refine WC.region ?_
   | with_reducible refine WC.block ?_
   | with_reducible refine WC.skip ?_
   | with_reducible refine WC.exit ?_
   | with_reducible refine WC.ret ?_
   | with_reducible refine EX.abL ?_
   | with_reducible refine EX.abM ?_
   | with_reducible refine EX.air ?_
   | with_reducible refine EX.Ss ?_
   | with_reducible refine EX.ais ?_
   | refine WL.a ?_
   | refine WL.z ?_
   | refine DW.a ?_
   | refine DW.z ?_
   | refine DG.a ?_
  exact h.out):p:=h ⟨next⟩
theorem au{p q:Prop}(next:q) (h:qO q→p:=by intro h;(repeat (refine nx ?_));exact h.out):p:=h ⟨next⟩
theorem cV{p q:Prop}(next:q) (h:qO q→p:=by intro h;refine nx ?_;refine nx ?_;exact h.out):p:=h ⟨next⟩
theorem dy{p q:Prop}(next:q) (h:qO q→p:=by intro h;refine cV ?_;refine nx ?_;exact h.out):p:=h ⟨next⟩
theorem dC{p q:Prop}(next:q) (h:qO q→p:=by intro h;refine cV ?_;refine cV ?_;exact h.out):p:=h ⟨next⟩
theorem ew{p q:Prop}(next:q) (h:qO q→p:=by intro h;refine cV ?_;refine dy ?_;exact h.out):p:=h ⟨next⟩
theorem jx{p q:Prop}(next:q) (h:qO q→p:=by intro h;refine dy ?_;refine dy ?_;exact h.out):p:=h ⟨next⟩
theorem gp{p q:Prop}(next:q) (h:qO q→p:=by intro h;refine dy ?_;refine dC ?_;exact h.out):p:=h ⟨next⟩
theorem kE{p q:Prop}(next:q) (h:qO q→p:=by intro h;refine dC ?_;refine dC ?_;exact h.out):p:=h ⟨next⟩
theorem pQ{p q:Prop}(next:q) (h:qO q→p:=by intro h;refine dC ?_;refine ew ?_;exact h.out):p:=h ⟨next⟩
theorem mT{p q:Prop}(next:q) (h:qO q→p:=by intro h;refine ew ?_;refine ew ?_;exact h.out):p:=h ⟨next⟩
theorem rT{p q:Prop}(next:q) (h:qO q→p:=by intro h;refine ew ?_;refine jx ?_;exact h.out):p:=h ⟨next⟩
theorem bC{p q:Prop}(next:q) (h:qO q→p:=by intro h;refine jx ?_;refine jx ?_;exact h.out):p:=h ⟨next⟩
theorem CA{α:Type _}{a:α}{l m:List α}:(a::l)++m=a::(l++m):=rfl
theorem NA{α:Type _}{l:List α}:[]++l=l:=rfl
theorem CM{α β:Type _}{f:α→β}{a:α}{l:List α}:List.map f (a::l)=f a::List.map f l:=rfl
theorem NM{α β:Type _}{f:α→β}:List.map f []=[]:=rfl
theorem tG{g q:Prop}(h:g) (t:g→q:=by
  intro h
  first | rfl | (simp only [h];done) | (simp only [h];rfl) | (simp [h];done) | (simp;done) | (simp at h ⊢ <;> omega) | (simp <;> omega) | (simp [h] <;> omega) | (simp at h <;> omega)):q:=t h
theorem Sub.k2{kv r:KV}{t1 t2:Nat}{v1 v2:Value}(h1:Rc.look kv t1=some v1) (h2:Rc.look kv t2=some v2) (hr:Sub kv r):Sub kv ((t1,v1)::(t2,v2)::r):=⟨h1,h2,hr⟩
theorem Sub.k4{kv r:KV}{t1 t2 t3 t4:Nat}{v1 v2 v3 v4:Value}(h1:Rc.look kv t1=some v1) (h2:Rc.look kv t2=some v2) (h3:Rc.look kv t3=some v3) (h4:Rc.look kv t4=some v4) (hr:Sub kv r):Sub kv ((t1,v1)::(t2,v2)::(t3,v3)::(t4,v4)::r):=⟨h1,h2,h3,h4,hr⟩
section
variable {R L l ls:List As}{A0 A1 A2 A3:As}
theorem aA.k2(h:L=l++R):A0::A1::L=(A0::A1::l)++R:=aA.cons (aA.cons h)
theorem aA.k4(h:L=l++R):A0::A1::A2::A3::L=(A0::A1::A2::A3::l)++R:=aA.k2 (aA.k2 h)
theorem ax.k4(h0:A0∈ls) (h1:A1∈ls) (h2:A2∈ls) (h3:A3∈ls) (t:∀A∈l,A∈ls):∀A∈A0::A1::A2::A3::l,A∈ls:=ax.cons h0 (ax.cons h1 (ax.cons h2 (ax.cons h3 t)))
end
inductive E2 {α β:Type}:α→α→β→β→Prop where
 | r {a:α}{b:β}:E2 a a b b
inductive E5 {α β γ δ ε:Type}:α→α→β→β→γ→γ→δ→δ→ε→ε→Prop where
 | r {a:α}{b:β}{c:γ}{d:δ}{e:ε}:E5 a a b b c c d d e e
inductive E6 {α β γ δ ε ζ:Type}:α→α→β→β→γ→γ→δ→δ→ε→ε→ζ→ζ→Prop where
 | r {a:α}{b:β}{c:γ}{d:δ}{e:ε}{f:ζ}:E6 a a b b c c d d e e f f
theorem E2.p1{α β:Type}{a a':α}{b b':β}(e:E2 a a' b b'):a=a':=by cases e;rfl
theorem E2.p2{α β:Type}{a a':α}{b b':β}(e:E2 a a' b b'):b=b':=by cases e;rfl
section
variable {α β γ δ ε ζ:Type}{a a':α}{b b':β}{c c':γ}{d d':δ}{e e':ε}{f f':ζ}
theorem E5.p(h:E5 a a' b b' c c' d d' e e'):a=a'∧b=b'∧c=c'∧d=d'∧e=e':=by cases h;exact⟨rfl,rfl,rfl,rfl,rfl⟩
theorem E6.p(h:E6 a a' b b' c c' d d' e e' f f'):a=a'∧b=b'∧c=c'∧d=d'∧e=e'∧f=f':=by cases h;exact⟨rfl,rfl,rfl,rfl,rfl,rfl⟩
end
section
variable {P:Program}{n N:Nat}{kv:KV}{w w0:World}{d:Tmp}{ty:TypeId}{pos:String}{af:Array Edge}{g:Option (Nat × Bool)}
theorem WP{ops:Array Oper}{Q:Exit→Act→World→Prop}{rest:List Oper}{op:Op}{v:Value}(e:E2 (gd ops kv ⟨some d,op,ty,pos,af,g⟩) (some true) (Nat.blt d n) true) (h:PV P op ty kv w v) (next:WL P ops Q rest n ((d,v)::kv) w):WL P ops Q (⟨some d,op,ty,pos,af,g⟩::rest) n kv w:=
 WL.p e.p1 e.p2 h next
theorem DP{ops:Array Oper}{i:Nat}{C:World→Prop}{T:Nat→World→World→Prop}{E:Nat→Option (Value→World→Prop)}{Fin:KV→World→Prop}{rest:List Oper}{F:nA}{op:Op}{v:Value}
  (e:E5 (gd ops kv ⟨some d,op,ty,pos,af,g⟩) (some true) (bW op) false (known kv op) true (Nat.blt d n) true (E i) none) (h:∀w,C w→PV P op ty kv w v) (next:DW P ops n C T E Fin (i+1) rest ((d,v)::kv) F) :
  DW P ops n C T E Fin i (⟨some d,op,ty,pos,af,g⟩::rest) kv F:=DW.p e.p.1 e.p.2.1 e.p.2.2.1 e.p.2.2.2.1 e.p.2.2.2.2 h next
theorem DQ{M Z:Nat→Prop}{ls iz:List As}{Fin:KV→World→Prop}{l:List Oper}{i:Nat}{σ':List Nat}{sd:List (Nat × As)}{K:Nat→Kd}{op:Op}{v:Value}
  (e:E6 (rf l i) (some ⟨some d,op,ty,pos,af,g⟩) (gd l.toArray kv ⟨some d,op,ty,pos,af,g⟩) (some true) (bW op) false (known kv op) true (Nat.blt d n) true ((K i).qd) true) (h:∀w Zx R,N≤w.heap.size→St w0 M Zx w R→(∀A∈iz,A∈R)→PV P op ty kv w v)
  (next:DG P l.toArray n w0 M N iz K Fin σ' ((d,v)::kv) sd Z ls):DG P l.toArray n w0 M N iz K Fin (i::σ') kv sd Z ls:=
 DG.p e.p.1 e.p.2.1 e.p.2.2.1 e.p.2.2.2.1 e.p.2.2.2.2.1 e.p.2.2.2.2.2 h next
end
theorem aj{a b:Prop}(x:a) (y:b):a∧b:=⟨x,y⟩
theorem V1{P:Program}{T ty:TypeId}{kv:KV}{w:World}(hT:One P T) {x:Operand}{b o j:Nat}{vs:List Value}{v:Value}(hc:w.rangeAt b o vs) (e:E2 (ev kv x) (some (.pointer (some ⟨b,o+j,none⟩))) (nth vs j) (some v)):PV P (.load T x) ty kv w v:=PV.ld1 hT hc e.p1 e.p2
theorem VA{P:Program}{T ty:TypeId}{kv:KV}{w:World}{k:Nat}(hT:wR P T k) {x:Operand}{b o:Nat}{vs:List Value}(hc:w.rangeAt b o vs) (e:E2 vs.length k (ev kv x) (some (.pointer (some ⟨b,o,none⟩)))):PV P (.load T x) ty kv w (.agg vs.toArray):=PV.MS hT hc e.p1 e.p2
theorem Sub.v{kv r:KV}{t:Nat}{v v':Value}(hr:Sub kv r) (h:Rc.look kv t=some v:=by rfl) (hz:v=v':=by first | rfl | (simp;done) | (congr 1;omega) | (simp only [];congr 1;omega)):Sub kv ((t,v')::r):=Sub.abZ h hz hr
theorem WC.cd{P:Program}{Q:Exit→Act→World→Prop}{n:Nat}{kv:KV}{w:World}{c:Operand}{x y:Code}{b:Bool}(ht:b=true→WC P x Q n kv w) (hf:b=false→WC P y Q n kv w) (hc:ev kv c=some (.bool b):=by rfl):WC P (.cond c x y) Q n kv w:=WC.cond hc ht hf
section
variable {P:Program}{n:Nat}{kv:KV}{w w0:World}{M Z:Nat→Prop}{ls:List As}{d:Tmp}{ty:TypeId}{pos:String}{af:Array Edge}{g:Option (Nat × Bool)}{ops:Array Oper}{Q:Exit→Act→World→Prop}{rest:List Oper}{T:TypeId}{x y:Operand}
theorem WL.bx{v:Value}{l:List Value}(st:St w0 M Z w ls) (next:∀b w',G5 w w' b→cI w' b T l→St w0 M Z w' (As.blk b T l::ls)→WL P ops Q rest n ((d,.pointer (some ⟨b,0,none⟩))::kv) w')
  (hg:gd ops kv ⟨some d,.box T x,ty,pos,af,g⟩=some true:=by rfl) (hd:Nat.blt d n=true:=by rfl) (hx:ev kv x=some v:=by rfl) (hl:v.cells=l.toArray:=by rfl):WL P ops Q (⟨some d,.box T x,ty,pos,af,g⟩::rest) n kv w:=
 WL.go hg (OX.box hd hx hl fun b w' nw hb=>next b w' nw hb (st.fb nw hb))
theorem WL.sW{k b:Nat}{e:TypeId}{l us:List Value}(hT:(P.info? T).map (·.size)=some k) (st:St w0 M Z w (As.blk b e l::ls)) (next:∀w',bm [b] w w'→cI w' b e us→St w0 M Z w' (As.blk b e us::ls)→WL P ops Q rest n kv w')
  (hg:gd ops kv ⟨none,.store T x y,ty,pos,af,g⟩=some true:=by rfl) (hx:ev kv x=some (.pointer (some ⟨b,0,none⟩)):=by rfl) (hy:ev kv y=some (.agg us.toArray):=by rfl) (hk:us.length=k:=by rfl) (hlen:l.length=k:=by rfl) (h1:us.all (·.oneCell')=true:=by rfl):WL P ops Q (⟨none,.store T x y,ty,pos,af,g⟩::rest) n kv w:=
 WL.go hg (OX.qJ hT (As.gb st.g0) hx hy hk hlen h1 fun w' s _ hb=>next w' s hb (st.Ho s hb))
theorem St.lv{Z':Nat→Prop}{w':World}{l0 r l1 l2:List As}(h:St w0 M Z w (l0++r)) (h':St w (rF l0) Z' w' l1) (hz:cQ w.heap.size Z Z') (hl:l1++r=l2:=by simp only [List.cons_append,List.nil_append] <;> rfl):St w0 M Z' w' l2:=hl ▸ St.leave h h' hz
end
@[reducible] def RT:Ending→(Value→Prop)→Prop
 | .returned v,K=>K v
 | _,_=>False
theorem RT.out{e:Ending}{K:Value→Prop}(h:RT e K):∃v,e=.returned v∧K v:=by
 cases e <;> first | exact⟨_,rfl,h⟩ | exact h.elim
theorem WL.cl{P:Program}{n:Nat}{kv:KV}{w:World}{d:Tmp}{ty:TypeId}{pos:String}{af:Array Edge}{g:Option (Nat × Bool)}{ops:Array Oper}{Q:Exit→Act→World→Prop}{rest:List Oper}{f:FuncId}(zG:CF P f) {xs:List Operand}{ue:Array TypeId}{args:List Value}{R:Ending→World→Prop}(hx:xs.map (ev kv)=args.map some) (h:Calls P f args.toArray w R)
  (next:∀e w',R e w'→RT e fun v=>WL P ops Q rest n ((d,v)::kv) w') (hg:gd ops kv ⟨some d,.call {callee:=.value (.func f),args:=xs.toArray,argTypes:=ue},ty,pos,af,g⟩=some true:=by rfl) (hd:Nat.blt d n=true:=by rfl):WL P ops Q (⟨some d,.call {callee:=.value (.func f),args:=xs.toArray,argTypes:=ue},ty,pos,af,g⟩::rest) n kv w:=
 WL.go hg (OX.call zG hd hx (h.mono fun e w' hr=>(next e w' hr).out))
abbrev CR(P:Program) (f:FuncId) (a:Array Value) (w:World) (v:Value):Prop:=Calls P f a w fun e w'=>e=.returned v∧bm [] w w'
section
variable {w w0:World}{M Z:Nat→Prop}{l:List As}
theorem St.fr{α:Type}{R:RR α}{k n c:Nat}{a:Option Addr}{xs:List α}(st:St w0 M Z w l) (h:Rd R k Z w a n c xs):St w0 M Z w (As.ro R k a n c xs::l):=st.fact (As.aiT h) (fun _ hx=>hx)
theorem St.fg{b o:Nat}{r:List Value}(st:St w0 M Z w l) (h:Z b) (hr:w.rangeAt b o r):St w0 M Z w (As.rg b o r::l):=st.fact (As.acd h (st.mx _ h) hr) (fun _ hx=>hx)
theorem St.s0(w:World):St w (fun _=>False) (fun _=>False) w []:=St.start (by simp)
theorem St.lr{w':World}{l0 r l1 l2:List As}(h:St w0 M Z w (l0++r)) (h':St w (rF l0) Z w' l1) (hl:l1++r=l2:=by simp only [List.cons_append,List.nil_append] <;> rfl):St w0 M Z w' l2:=hl ▸ St.leave h h' (cQ.refl _ _)
theorem EX.r1{P:Program}{fn:Func}{R:Ending→World→Prop}{n:Nat}{kv:KV}{t:Tmp}{v:Value}(h:R (.returned v) w) (hr:fn.results=#[.tmp t]:=by rfl) (hv:look kv t=some v:=by rfl):EX (bodyPost P fn R) .ret n kv w:=EX.abP hr hv h
theorem EX.r2{P:Program}{fn:Func}{R:Ending→World→Prop}{n:Nat}{kv:KV}{t u:Tmp}{v x:Value}(h:R (.returned (.tuple #[v,x])) w) (hr:fn.results=#[.tmp t,.tmp u]:=by rfl) (hv:look kv t=some v:=by rfl) (hx:look kv u=some x:=by rfl):EX (bodyPost P fn R) .ret n kv w:=EX.abQ hr hv hx h
theorem WC.dS{P:Program}{Q:Exit→Act→World→Prop}{n:Nat}{kv:KV}{id m:Nat}{l:List Oper}{ls:List As}(st:St w0 M Z w ls) (hm:P.follows .mixedOrders=true)
  (GP:DW P l.toArray n (fun wx=>w.heap.size≤wx.heap.size∧St w0 M Z wx ls) (fun _=>je (rF ls)) (dx []) (fun kv w=>WL P l.toArray Q (l.drop m) n kv w) 0 (l.take m) kv []) (eL:zX l m []=true:=by kernel_rfl):WC P (.region id l.toArray true) Q n kv w:=
 WC.eU st (bS (show StE _ _ [] from trivial)) hm eL GP
end
section
variable {p:Prop}{P:Program}{n:Nat}{kv:KV}{w w0:World}{M Z:Nat→Prop}{ls:List As}{d:Tmp}{ty:TypeId}{pos:String}{af:Array Edge}{g:Option (Nat × Bool)}{ops:Array Oper}{Q:Exit→Act→World→Prop}{rest:List Oper}{T:TypeId}{x y:Operand}{b o j k:Nat}{vs:List Value}{v:Value}
theorem bO(s:qO (WL P ops Q (⟨some d,.load T x,ty,pos,af,g⟩::rest) n kv w)→p:=by intro h;exact au h.out) (hg:gd ops kv ⟨some d,.load T x,ty,pos,af,g⟩=some true:=by rfl) (hd:Nat.blt d n=true:=by rfl) (hx:ev kv x=some (.pointer (some ⟨b,o+j,none⟩)):=by rfl) (hv:nth vs j=some v:=by rfl) (hT:One P T) (hc:w.rangeAt b o vs) (next:WL P ops Q rest n ((d,v)::kv) w):p:=s ⟨WL.p hg hd (PV.ld1 hT hc hx hv) next⟩
theorem bA(s:qO (WL P ops Q (⟨some d,.load T x,ty,pos,af,g⟩::rest) n kv w)→p:=by intro h;exact au h.out) (hg:gd ops kv ⟨some d,.load T x,ty,pos,af,g⟩=some true:=by rfl) (hd:Nat.blt d n=true:=by rfl) (hx:ev kv x=some (.pointer (some ⟨b,o,none⟩)):=by rfl) (hv:vs.length=k:=by rfl) (hT:wR P T k) (hc:w.rangeAt b o vs) (next:WL P ops Q rest n ((d,.agg vs.toArray)::kv) w):p:=s ⟨WL.p hg hd (PV.MS hT hc hv hx) next⟩
theorem kF{us:List Value}(s:qO (WL P ops Q (⟨some d,.load T x,ty,pos,af,g⟩::rest) n kv w)→p:=by intro h;exact au h.out) (hg:gd ops kv ⟨some d,.load T x,ty,pos,af,g⟩=some true:=by rfl) (hd:Nat.blt d n=true:=by rfl) (hx:ev kv x=some (.pointer (some ⟨b,o+j,none⟩)):=by rfl) (hs:U1 vs j k=some us:=by rfl) (hT:wR P T k) (hc:w.rangeAt b o vs) (next:WL P ops Q rest n ((d,.agg us.toArray)::kv) w):p:=s ⟨WL.p hg hd (PV.G4 hT hc hx hs) next⟩
theorem br{c:Operand}{X Y:Code}{t:Bool}(s:qO (WC P (.cond c X Y) Q n kv w)→p:=by intro h;exact au h.out) (hc:ev kv c=some (.bool t):=by rfl) (ht:t=true→WC P X Q n kv w) (hf:t=false→WC P Y Q n kv w):p:=s ⟨WC.cond hc ht hf⟩
theorem dW{t m:Nat}{q c:Bool}{dd:Option Tmp}{op:Op}(s:qO (WL P ops Q (⟨dd,op,ty,pos,af,some (m,q)⟩::rest) n kv w)→p:=by intro h;exact au h.out) (hm:iW ops m=some t:=by rfl) (ht:look kv t=some (.bool c):=by rfl) (hT:c=true→WL P ops Q (⟨dd,op,ty,pos,af,some (m,q)⟩::rest) n ((t,.bool true)::kv) w) (hF:c=false→WL P ops Q (⟨dd,op,ty,pos,af,some (m,q)⟩::rest) n ((t,.bool false)::kv) w):p:=s ⟨WL.gi ht hT hF⟩
theorem cj{fn:Func}{R:Ending→World→Prop}{t:Tmp}(s:qO (EX (bodyPost P fn R) .ret n kv w)→p:=by intro h;exact au h.out) (hr:fn.results=#[.tmp t]:=by rfl) (hv:look kv t=some v:=by rfl) (h:R (.returned v) w):p:=s ⟨EX.abP hr hv h⟩
theorem CH{fn:Func}{R:Ending→World→Prop}{t u:Tmp}{z:Value}(s:qO (EX (bodyPost P fn R) .ret n kv w)→p:=by intro h;exact au h.out) (hr:fn.results=#[.tmp t,.tmp u]:=by rfl) (hv:look kv t=some v:=by rfl) (hx:look kv u=some z:=by rfl) (h:R (.returned (.tuple #[v,z])) w):p:=s ⟨EX.abQ hr hv hx h⟩
theorem mU{fn:Func}{R:Ending→World→Prop}{t:Nat}(s:qO (EX (bodyPost P fn R) .ret n kv w)→p:=by intro h;exact au h.out) (hr:fn.results=#[.cell t T]:=by rfl) (ht:look kv t=some (.pointer (some ⟨b,0,none⟩)):=by rfl) (hl:vs.length=k:=by rfl) (hT:wR P T k) (hc:w.rangeAt b 0 vs) (h:R (.returned (.agg vs.toArray)) w):p:=s ⟨EX.aiK hT hr ht hc hl h⟩
theorem dq{pn:KV}{t:Nat}{v':Value}{J:World→Prop}(s:qO (EX (x7 n t v kv J) .normal n pn w)→p:=by intro h;exact au h.out) (hd:ox (pn.length - kv.length) pn=kv:=by rfl) (hj:tE (pn.length - kv.length) pn kv=true:=by rfl) (hv:look pn t=some v':=by rfl) (he:v'=v) (hJ:J w):p:=s ⟨EX.ab0 _ hd hj hv he hJ⟩
theorem iu{pn:KV}{t:Nat}{v':Value}{J:World→Prop}(s:qO (EX (x7 n t v (kP t kv) J) .normal n pn w)→p:=by intro h;exact au h.out) (hd:ox (pn.length - kv.length) pn=kv:=by rfl) (hj:tE (pn.length - kv.length) pn (kP t kv)=true:=by rfl) (hv:look pn t=some v':=by rfl) (he:v'=v) (hJ:J w):p:=s ⟨EX.W1 _ hd hj hv he hJ⟩
theorem ef(s:qO (WL P ops Q (⟨some d,.box T x,ty,pos,af,g⟩::rest) n kv w)→p:=by intro h;exact au h.out) (hg:gd ops kv ⟨some d,.box T x,ty,pos,af,g⟩=some true:=by rfl) (hd:Nat.blt d n=true:=by rfl) (hx:ev kv x=some v:=by rfl) (hl:v.cells=vs.toArray:=by rfl) (st:St w0 M Z w ls) (next:∀b w',G5 w w' b→cI w' b T vs→St w0 M Z w' (As.blk b T vs::ls)→WL P ops Q rest n ((d,.pointer (some ⟨b,0,none⟩))::kv) w'):p:=s ⟨WL.bx st next hg hd hx hl⟩
theorem dA{e:TypeId}{l:List Value}(s:qO (WL P ops Q (⟨none,.store T x y,ty,pos,af,g⟩::rest) n kv w)→p:=by intro h;exact au h.out) (hg:gd ops kv ⟨none,.store T x y,ty,pos,af,g⟩=some true:=by rfl) (hx:ev kv x=some (.pointer (some ⟨b,0,none⟩)):=by rfl) (hy:ev kv y=some (.agg vs.toArray):=by rfl) (hk:vs.length=k:=by rfl) (hlen:l.length=k:=by rfl) (h1:vs.all (·.oneCell')=true:=by rfl) (hT:(P.info? T).map (·.size)=some k) (st:St w0 M Z w (As.blk b e l::ls)) (next:∀w',bm [b] w w'→cI w' b e vs→St w0 M Z w' (As.blk b e vs::ls)→WL P ops Q rest n kv w'):p:=s ⟨WL.sW hT st next hg hx hy hk hlen h1⟩
theorem fU{l:List Value}(s:qO (WL P ops Q (⟨some d,.alloc T,ty,pos,af,g⟩::rest) n kv w)→p:=by intro h;exact au h.out) (hg:gd ops kv ⟨some d,.alloc T,ty,pos,af,g⟩=some true:=by rfl) (hd:Nat.blt d n=true:=by rfl) [hT:JE P T l] (st:St w0 M Z w ls) (next:∀b w',G5 w w' b→cI w' b T l→St w0 M Z w' (As.blk b T l::ls)→WL P ops Q rest n ((d,.pointer (some ⟨b,0,none⟩))::kv) w'):p:=s ⟨WL.al st next hg hd⟩
theorem gg{f:FuncId}{xs:List Operand}{ue:Array TypeId}{args:List Value}{u:Value}(s:qO (WL P ops Q (⟨some d,.call {callee:=.value (.func f),args:=xs.toArray,argTypes:=ue},ty,pos,af,g⟩::rest) n kv w)→p:=by intro h;exact au h.out) (hg:gd ops kv ⟨some d,.call {callee:=.value (.func f),args:=xs.toArray,argTypes:=ue},ty,pos,af,g⟩=some true:=by rfl) (hd:Nat.blt d n=true:=by rfl) (hx:xs.map (ev kv)=args.map some:=by rfl) [hf:jo P f] (hc:CR P f args.toArray w u) (st:St w0 M Z w ls) (next:∀w',bm [] w w'→St w0 M Z w' ls→WL P ops Q rest n ((d,u)::kv) w'):p:=s ⟨WL.c0 hc st next hg hd hx⟩
theorem cW{f:FuncId}{xs:List Operand}{ue:Array TypeId}{args:List Value}{R:Ending→World→Prop}(s:qO (WL P ops Q (⟨some d,.call {callee:=.value (.func f),args:=xs.toArray,argTypes:=ue},ty,pos,af,g⟩::rest) n kv w)→p:=by intro h;exact au h.out) (hg:gd ops kv ⟨some d,.call {callee:=.value (.func f),args:=xs.toArray,argTypes:=ue},ty,pos,af,g⟩=some true:=by rfl) (hd:Nat.blt d n=true:=by rfl) (hx:xs.map (ev kv)=args.map some:=by rfl) (zG:CF P f) (h:Calls P f args.toArray w R) (next:∀e w',R e w'→RT e fun v=>WL P ops Q rest n ((d,v)::kv) w'):p:=s ⟨WL.cl zG hx h next hg hd⟩
section
variable {i N e:Nat}{U:Nat→World→World→Prop}{E:Nat→Option (Value→World→Prop)}{Fin:KV→World→Prop}{F:nA}
theorem lX(s:qO (DW P ops n (fun wx=>N≤wx.heap.size∧St w0 M Z wx ls) U E Fin i (⟨some d,.load T x,ty,pos,af,g⟩::rest) kv F)→p:=by intro h;exact au h.out) (hg:gd ops kv ⟨some d,.load T x,ty,pos,af,g⟩=some true:=by rfl) (hs:bW (.load T x)=false:=by rfl) (hk:known kv (.load T x)=true:=by rfl) (hd:Nat.blt d n=true:=by rfl) (hE:E i=none:=by rfl) (hx:ev kv x=some (.pointer (some ⟨b,0+j,none⟩)):=by rfl) (hv:nth vs j=some v:=by rfl) (hT:One P T) (hb:∀{wx},St w0 M Z wx ls→(As.blk b e vs).ok Z wx) (next:DW P ops n (fun wx=>N≤wx.heap.size∧St w0 M Z wx ls) U E Fin (i+1) rest ((d,v)::kv) F):p:=s ⟨DW.p hg hs hk hd hE (fun _ h=>PV.ld1 hT (cI.range (As.gb (hb h.2))) hx hv) next⟩
theorem ju(s:qO (DW P ops n (fun wx=>N≤wx.heap.size∧St w0 M Z wx ls) U E Fin i (⟨some d,.load T x,ty,pos,af,g⟩::rest) kv F)→p:=by intro h;exact au h.out) (hg:gd ops kv ⟨some d,.load T x,ty,pos,af,g⟩=some true:=by rfl) (hs:bW (.load T x)=false:=by rfl) (hk:known kv (.load T x)=true:=by rfl) (hd:Nat.blt d n=true:=by rfl) (hE:E i=none:=by rfl) (hx:ev kv x=some (.pointer (some ⟨b,0,none⟩)):=by rfl) (hv:vs.length=k:=by rfl) (hT:wR P T k) (hb:∀{wx},St w0 M Z wx ls→(As.blk b e vs).ok Z wx) (next:DW P ops n (fun wx=>N≤wx.heap.size∧St w0 M Z wx ls) U E Fin (i+1) rest ((d,.agg vs.toArray)::kv) F):p:=s ⟨DW.p hg hs hk hd hE (fun _ h=>PV.MS hT (cI.range (As.gb (hb h.2))) hv hx) next⟩
theorem CS{us:List Value}(s:qO (DW P ops n (fun wx=>N≤wx.heap.size∧St w0 M Z wx ls) U E Fin i (⟨some d,.load T x,ty,pos,af,g⟩::rest) kv F)→p:=by intro h;exact au h.out) (hg:gd ops kv ⟨some d,.load T x,ty,pos,af,g⟩=some true:=by rfl) (hs:bW (.load T x)=false:=by rfl) (hk:known kv (.load T x)=true:=by rfl) (hd:Nat.blt d n=true:=by rfl) (hE:E i=none:=by rfl) (hx:ev kv x=some (.pointer (some ⟨b,0+j,none⟩)):=by rfl) (LW:U1 vs j k=some us:=by rfl) (hT:wR P T k) (hb:∀{wx},St w0 M Z wx ls→(As.blk b e vs).ok Z wx) (next:DW P ops n (fun wx=>N≤wx.heap.size∧St w0 M Z wx ls) U E Fin (i+1) rest ((d,.agg us.toArray)::kv) F):p:=s ⟨DW.p hg hs hk hd hE (fun _ h=>PV.G4 hT (cI.range (As.gb (hb h.2))) hx LW) next⟩
theorem tm{t m n':Nat}{q c:Bool}{dd:Option Tmp}{op:Op}{EU:Array Oper}{l':List Oper}{C:World→Prop}(s:qO (DW P ops n' C U E (fun kv w=>WL P EU Q l' n kv w) i (⟨dd,op,ty,pos,af,some (m,q)⟩::rest) kv F)→p:=by intro h;exact au h.out) (hm:iW ops m=some t:=by rfl) (ht:look kv t=some (.bool c):=by rfl) (hT:c=true→DW P ops n' C U E (fun kv w=>WL P EU Q l' n kv w) i (⟨dd,op,ty,pos,af,some (m,q)⟩::rest) ((t,.bool true)::kv) F) (hF:c=false→DW P ops n' C U E (fun kv w=>WL P EU Q l' n kv w) i (⟨dd,op,ty,pos,af,some (m,q)⟩::rest) ((t,.bool false)::kv) F):p:=s ⟨DW.gi ht hT hF⟩
theorem eu{C:World→Prop}(s:qO (DW P ops n C U E Fin i [] kv F)→p:=by intro h;exact au h.out) (h:∀w,C w→JN F w→Fin kv w):p:=s ⟨DW.nil h⟩
section
variable {l:List Oper}{σ:List Nat}{sd:List (Nat × As)}{K:Nat→Kd}{iz:List As}
theorem xh(s:qO (DG P l.toArray n w0 M N iz K Fin (i::σ) kv sd Z ls)→p:=by intro h;exact au h.out) (ho:rf l i=some ⟨some d,.load T x,ty,pos,af,g⟩:=by rfl) (hg:gd l.toArray kv ⟨some d,.load T x,ty,pos,af,g⟩=some true:=by rfl) (hs:bW (.load T x)=false:=by rfl) (hk:known kv (.load T x)=true:=by rfl) (hd:Nat.blt d n=true:=by rfl) (hK:(K i).qd=true:=by rfl) (hx:ev kv x=some (.pointer (some ⟨b,0+j,none⟩)):=by rfl) (hv:nth vs j=some v:=by rfl) (hT:One P T) (hb:∀{wx Zx},SV w0 M Zx wx iz→(As.blk b e vs).ok Zx wx) (next:DG P l.toArray n w0 M N iz K Fin σ ((d,v)::kv) sd Z ls):p:=s ⟨DG.p ho hg hs hk hd hK (fun _ _ _ _ h e=>PV.ld1 hT (cI.range (As.gb (hb (h.sv e)))) hx hv) next⟩
theorem nj(s:qO (DG P l.toArray n w0 M N iz K Fin (i::σ) kv sd Z ls)→p:=by intro h;exact au h.out) (ho:rf l i=some ⟨some d,.load T x,ty,pos,af,g⟩:=by rfl) (hg:gd l.toArray kv ⟨some d,.load T x,ty,pos,af,g⟩=some true:=by rfl) (hs:bW (.load T x)=false:=by rfl) (hk:known kv (.load T x)=true:=by rfl) (hd:Nat.blt d n=true:=by rfl) (hK:(K i).qd=true:=by rfl) (hx:ev kv x=some (.pointer (some ⟨b,0,none⟩)):=by rfl) (hv:vs.length=k:=by rfl) (hT:wR P T k) (hb:∀{wx Zx},SV w0 M Zx wx iz→(As.blk b e vs).ok Zx wx) (next:DG P l.toArray n w0 M N iz K Fin σ ((d,.agg vs.toArray)::kv) sd Z ls):p:=s ⟨DG.p ho hg hs hk hd hK (fun _ _ _ _ h e=>PV.MS hT (cI.range (As.gb (hb (h.sv e)))) hv hx) next⟩
theorem J7{us:List Value}(s:qO (DG P l.toArray n w0 M N iz K Fin (i::σ) kv sd Z ls)→p:=by intro h;exact au h.out) (ho:rf l i=some ⟨some d,.load T x,ty,pos,af,g⟩:=by rfl) (hg:gd l.toArray kv ⟨some d,.load T x,ty,pos,af,g⟩=some true:=by rfl) (hs:bW (.load T x)=false:=by rfl) (hk:known kv (.load T x)=true:=by rfl) (hd:Nat.blt d n=true:=by rfl) (hK:(K i).qd=true:=by rfl) (hx:ev kv x=some (.pointer (some ⟨b,0+j,none⟩)):=by rfl) (LW:U1 vs j k=some us:=by rfl) (hT:wR P T k) (hb:∀{wx Zx},SV w0 M Zx wx iz→(As.blk b e vs).ok Zx wx) (next:DG P l.toArray n w0 M N iz K Fin σ ((d,.agg us.toArray)::kv) sd Z ls):p:=s ⟨DG.p ho hg hs hk hd hK (fun _ _ _ _ h e=>PV.G4 hT (cI.range (As.gb (hb (h.sv e)))) hx LW) next⟩
theorem jg{op:Op}(s:qO (DG P l.toArray n w0 M N iz K Fin (i::σ) kv sd Z ls)→p:=by intro h;exact au h.out) (ho:rf l i=some ⟨some d,op,ty,pos,af,g⟩:=by rfl) (hg:gd l.toArray kv ⟨some d,op,ty,pos,af,g⟩=some true:=by rfl) (hs:bW op=false:=by rfl) (hk:known kv op=true:=by rfl) (hd:Nat.blt d n=true:=by rfl) (hK:K i=.chain:=by rfl) (h:∀w R,N≤w.heap.size→St w0 M Z w (ls++R)→(∀p∈sd,p.2∈R)→OX P ⟨some d,op,ty,pos,af,g⟩ n kv w fun kJ w'=>w.heap.size≤w'.heap.size∧∃v,kJ=(d,v)::kv∧∃Z' L re,St w0 M Z' w' L∧L=re++R∧(∀A∈iz,A∈re)∧DG P l.toArray n w0 M N iz K Fin σ ((d,v)::kv) sd Z' re):p:=s ⟨DG.ch ho hg hs hk hd hK h⟩
theorem nk(s:qO (DG P l.toArray n w0 M N iz K Fin [] kv sd Z ls)→p:=by intro h;exact au h.out) (h:∀w,N≤w.heap.size→St w0 M Z w (sd.map (·.2)++ls)→Fin kv w):p:=s ⟨DG.nil h⟩
end
end
theorem Sub.t{kv kJ:KV}(h:Sub kv kJ:=by repeat (first | exact Sub.nil | refine Sub.cons rfl ?_ | refine Sub.v ?_)):Sub kv kJ:=h
section
variable {σ:Type}{eI:σ→KV}
theorem fx{I:σ→World→Prop}{μ:σ→Nat}{m:Nat}(s':σ) (hi:I s' w) (hm:μ s'<m:=by first | (simp only [];omega) | omega) (hs:Sub kv (eI s'):=by exact Sub.t):EX (Exit.then (fun a' w'=>∃s',Fr n a' (eI s')∧I s' w'∧μ s'<m) Q) .normal n kv w:=EX.again s' hs hi hm
theorem tH{J:σ→World→Prop}(s':σ) (hj:J s' w) (hs:Sub kv (eI s'):=by exact Sub.t):EX (fun e a w'=>e=.normal∧∃s,Fr n a (eI s)∧J s w') .normal n kv w:=EX.abN s' hs hj
end
end
end Go.Rc

namespace Go.Rc
open Go
section
variable {P:Program}{kv:KV}{w:World}{T U ty:TypeId}{x y:Operand}
theorem Fa{t:TypeId}{v:Value}(hT:∃ms,P.underlying T=some (.interface ms)):(Op.equalIn 10000 T (.iface t v) .nilIface).run P w=.ok false w:=by
 obtain⟨ms,hT⟩:=hT;rw [show(10000:Nat)=9999+1 from rfl]
 unfold Op.equalIn
 simp [run_underlying hT]
theorem PV.acv{v:Value}{ok:Bool}(hT:∃ms,P.underlying T=some (.interface ms)) (hx:ev kv x=some v) (h:(ok=true∧v=.nilIface)∨(ok=false∧∃t y,v=.iface t y)):PV P (.binOp .neq T x (.const .nilIface) U) ty kv w (.bool (!ok)):=by
 rcases h with⟨rfl,rfl⟩ | ⟨rfl,t,y,rfl⟩
 ·
  exact PV.Xn hT hx
 have hy:ev kv (.const .nilIface)=some .nilIface:=rfl;refine⟨rfl,by simp [known,opers,hx,hy],fun _ _ _ _=>?_⟩;simp only [execOp,aN hx,aN hy]
 simp [eqGuard,binOp,Op.equal,Op.maxDepth,Fa hT]
end
theorem WC.ai7{P:Program}{Q:Exit→Act→World→Prop}{n:Nat}{kv:KV}{w0 w:World}{M Z:Nat→Prop}{σ:Type}{c:Code}{rest:List As}(l0:List As) (eI:σ→KV) (F:σ→List As) (I:σ→Prop) (Zf:σ→Nat→Prop) (_hst:St w0 M Z w (l0++rest))
  (h:WC P c (fun e a w'=>e=.normal∧∃s,Fr n a (eI s)∧(St w0 M (Zf s) w' (F s++rest)∧I s)) n kv w)
  (hJ:∀s w',St w0 M (Zf s) w' (F s++rest)→I s→EX Q .normal n (eI s) w'):WC P c Q n kv w:=
 WC.aiu eI (fun s w'=>St w0 M (Zf s) w' (F s++rest)∧I s) h fun s w' ⟨a,b⟩=>hJ s w' a b
theorem WC.nF{P:Program}{Q:Exit→Act→World→Prop}{n:Nat}{kv:KV}{w0 w:World}{M Z:Nat→Prop}{σ:Type}{c:Code}{rest:List As}(l0:List As) (eI:σ→KV) (F:σ→List As) (I:σ→Prop) (bF:St w0 M Z w (l0++rest))
  (h:WC P c (fun e a w'=>e=.normal∧∃s,Fr n a (eI s)∧(St w0 M Z w' (F s++rest)∧I s)) n kv w)
  (hJ:∀s w',St w0 M Z w' (F s++rest)→I s→EX Q .normal n (eI s) w'):WC P c Q n kv w:=
 WC.ai7 l0 eI F I (fun _=>Z) bF h hJ
section
variable {w0 w:World}{M Z:Nat→Prop}{l:List As}
theorem St.e9{A0 A1 A2 A3 A4 A5 A6 A7 A8:As}(h:St w0 M Z w (A0::A1::A2::A3::A4::A5::A6::A7::A8::l)):St w (rF [A0,A1,A2,A3,A4,A5,A6,A7,A8]) Z w [A0,A1,A2,A3,A4,A5,A6,A7,A8]:=St.enter (l0:=[A0,A1,A2,A3,A4,A5,A6,A7,A8]) h
end
theorem Calls.ai8{P:Program}{f:FuncId}{r c1 c2 c3 c4 c5:Value}{w:World}{Q:Ending→World→Prop}(h:Calls P f #[r,c1,c2,c3,c4,c5] w Q):Calls P f (#[]++[r].toArray++#[c1,c2,c3,c4,c5]) w Q:=by grind
theorem Calls.ai9{P:Program}{f:FuncId}{r:Value}{w:World}{Q:Ending→World→Prop}(h:Calls P f #[r] w Q):Calls P f (#[]++[r].toArray++#[]) w Q:=by grind
end Go.Rc

