/- Base of the proof: frames, memory, ownership, and the plain meaning of rule systems. Conditions: as each lemma says. -/
import Derived.Test.YtjpagoacbadijaaGreatDoorNBc
import Derived.Lib.SliceRun
import Derived.Test.YtjpagoacbadijaaGreatDoorNBb
set_option linter.all false
namespace Go.Rc
open Go
inductive Kd where
 | pure
 | side (sh:Value→Prop) (it:Value→As)
 | chain
def Kd.E:Kd→Option (Value→World→Prop)
 | .pure=>none
 | .side sh _=>some fun v _=>sh v
 | .chain=>some fun _ _=>True
def ua(ops:Array Oper) (bS:Nat→Value):List Nat→KV→KV
 | [],kv=>kv
 | j::r,kv=>ua ops bS r (nP kv (iA ops j) (bS j))
theorem yw(ops:Array Oper) (bS:Nat→Value):∀(a b:List Nat) (kv:KV),ua ops bS (a++b) kv=ua ops bS b (ua ops bS a kv)
 | [],_,_=>rfl
 | _::r,b,_=>yw ops bS r b _
theorem oG{ops:Array Oper}{bS dn:Nat→Value}:∀{l:List Nat}{kv:KV},(∀j∈l,bS j=dn j)→ua ops bS l kv=ua ops dn l kv
 | [],_,_=>rfl
 | j::r,kv,h=>by simp only [ua];rw [h j (by simp),oG fun x hx=>h x (by simp [hx])]
theorem yY{ops:Array Oper}{bS:Nat→Value}{t:Nat}{u:Value}:∀{l:List Nat}{kv:KV},look (ua ops bS l kv) t=some u→
  (∃j∈l,iA ops j=some t∧u=bS j)∨((∀j∈l,iA ops j≠some t)∧look kv t=some u)
 | [],_,h=>.inr ⟨by simp,h⟩
 | j::r,kv,h=>by
  rcases yY (l:=r) h with⟨x,hx,h1,h2⟩ | ⟨h1,h2⟩
  ·
   exact .inl ⟨x,by simp [hx],h1,h2⟩
  rcases FY h2 with⟨h3,h4⟩ | ⟨h3,h4⟩
  ·
   exact .inl ⟨j,by simp,h3,h4⟩
  refine .inr ⟨fun x hx=>?_,h4⟩
  rcases List.mem_cons.1 hx with rfl | hx
  ·
   exact h3
  exact h1 x hx
def CG(w0:World) (M:Nat→Prop) (N:Nat) (gX:List As) (w:World):Prop:=N≤w.heap.size∧∃Z R,St w0 M Z w R∧∀A∈gX,A∈R
section
variable (P:Program) (ops:Array Oper) (n:Nat) (w0:World) (M:Nat→Prop) (N:Nat) (gX:List As) (K:Nat→Kd) (Fin:KV→World→Prop)
def DG:List Nat→KV→List (Nat × As)→(Nat→Prop)→List As→Prop
 | [],kv,sd,Z,ls=>∀w,N≤w.heap.size→St w0 M Z w (sd.map (·.2)++ls)→Fin kv w
 | i::l,kv,sd,Z,ls=>∃o,ops[i]?=some o∧bO o.op=false∧ub n o.dst=true∧
  ((gd ops kv o=some false∧DG l (nP kv o.dst undef) sd Z ls)∨
   (gd ops kv o=some true∧known kv o.op=true∧
   ((K i=.pure∧∃e,(∀w,CG w0 M N gX w→(execOp (lX kv) o).run P w=.ok (.value e) w)∧DG l (nP kv o.dst e) sd Z ls)∨
    (∃sh it,K i=.side sh it∧(∀w Zx R,N≤w.heap.size→St w0 M Zx w R→uc P ((execOp (lX kv) o).run P w) fun v w'=>w.heap.size≤w'.heap.size∧sh v∧St w0 M Zx w' (it v::R))∧
    (∀v,sh v→DG l (nP kv o.dst v) ((i,it v)::sd) Z ls))∨
    (K i=.chain∧∀w R,N≤w.heap.size→St w0 M Z w (ls++R)→(∀p∈sd,p.2∈R)→uc P ((execOp (lX kv) o).run P w) fun v w'=>w.heap.size≤w'.heap.size∧∃Z' pV,St w0 M Z' w' (pV++R)∧(∀A∈gX,A∈pV)∧
    DG l (nP kv o.dst v) sd Z' pV))))
end
structure Og (ops:Array Oper) (m:Nat) (K:Nat→Kd) (σ:List Nat):Prop where
 lt:∀i∈σ,i<m
 all:∀i,i<m→i∈σ
 nd:σ.Nodup
 VY:∀a i b,σ=a++i::b→∀o,ops[i]?=some o→∀d∈eK o,d∈a
 clo:∀a i b,σ=a++i::b→K i=.chain→∀(D:Nat→Prop),(∀(j:Nat) o,D j→ops[j]?=some o→∀d∈eK o,D d)→(∀o,ops[i]?=some o→∀d∈eK o,D d)→∀j∈a,D j
theorem Gi:∀{l SL:List (Nat × As)},(SL.map (·.1)).Nodup→(l.map (·.1)).Nodup→(∀q∈l,q∈SL)→∃ex,List.Perm SL (l++ex)
 | [],SL,_,_,_=>⟨SL,.refl _⟩
 | q::l,SL,h1,h2,h3=>by
  obtain⟨s,t,rfl⟩:=List.append_of_mem (h3 q (by simp));have hp:List.Perm (s++q::t) (q::(s++t)):=List.perm_middle;have h4:=(hp.map (·.1)).nodup_iff.1 h1;simp only [List.map_cons,List.nodup_cons] at h2 h4
  obtain⟨ex,he⟩:=Gi h4.2 h2.2 fun x hx=>by
   have:=h3 x (by simp [hx])
   rcases List.mem_append.1 this with h | h
   ·
    exact List.mem_append_left _ h
   rcases List.mem_cons.1 h with rfl | h
   ·
    exact absurd (List.mem_map.2 ⟨x,hx,rfl⟩) h2.1
   exact List.mem_append_right _ h
  exact⟨ex,hp.trans (.cons q he)⟩
theorem St.jq{w0 w:World}{M Z:Nat→Prop}:∀{ex l:List As},St w0 M Z w (l++ex)→St w0 M Z w l
 | [],l,h=>by simpa using h
 | A::ex,l,h=>by
  have h1:St w0 M Z w (A::(l++ex)):=h.perm (List.perm_middle.symm);exact St.jq h1.drop
section
variable {P:Program}{ops:Array Oper}{Q:Exit→Act→World→Prop}{n m N:Nat}{X σ:List Nat}{w0:World}{M:Nat→Prop}{gX:List As}{K:Nat→Kd}{Fin:KV→World→Prop}
theorem DE{a0 a:Act}{mH:KV}{C:World→Prop}{E:Nat→Option (Value→World→Prop)}(eX:RegB ops m) (h0:Fr n a0 mH) {L:Nat→Bool}{bS dn:Nat→Value}{w:World}(hI:Inv P ops n m C E a0 L bS a w)
  (hv:∀j,L j=true→dn j=bS j) {i:Nat}{o:Oper}{τ:List Nat}(hτ:∀j∈τ,j<m) (hi:i<m) (ho:ops[i]?=some o) (hd:∀k∈eK o,L k=true) (NG:∀k∈eK o,k∈τ):ud ops o a (ua ops dn τ mH):=by
 intro t v ht hl
 rcases yY hl with⟨j,hj,xS,rfl⟩ | ⟨gV,Lt⟩
 ·
  have hjd:=eX.waits i o hi ho t ht j (hτ j hj) xS;have iZ:=hd j hjd;rw [hv j iZ];exact hI.here j (hτ j hj) iZ t xS
 rw [hI.vw t fun j hj iZ xS=>?_]
 ·
  exact h0.val t v Lt
 exact gV j (NG j (eX.waits i o hi ho t ht j hj xS)) xS
abbrev IG(P:Program) (ops:Array Oper) (n m N:Nat) (w0:World) (M:Nat→Prop) (gX:List As) (K:Nat→Kd):=Inv P ops n m (CG w0 M N gX) (fun j=>(K j).E)
structure FG (P:Program) (ops:Array Oper) (n m N:Nat) (w0:World) (M:Nat→Prop) (gX:List As) (K:Nat→Kd) (Fin:KV→World→Prop) (mH:KV) (L:Nat→Bool) (bS:Nat→Value) (w:World) (τ ρ:List Nat) (sd SL:List (Nat × As)) (Z:Nat→Prop) (ls:List As):Prop where
 tau:∀j∈τ,L j=true
 rho:∀j∈ρ,K j=.chain→L j=false
 node:DG P ops n w0 M N gX K Fin ρ (ua ops bS τ mH) sd Z ls
 st:St w0 M Z w (SL.map (·.2)++ls)
 sub:∀A∈gX,A∈ls
 nd:(SL.map (·.1)).Nodup
 key:∀q∈SL,L q.1=true
 sds:∀q∈sd,q∈SL
 sdn:(sd.map (·.1)).Nodup
 sdt:∀q∈sd,q.1∈τ
 own:∀j sh it,j<m→L j=true→K j=.side sh it→sh (bS j)→(j,it (bS j))∈SL
theorem abk{a0 a:Act}{mH:KV}(eX:RegB ops m) (h0:Fr n a0 mH) {L:Nat→Bool}{bS:Nat→Value}{w:World}(hI:IG P ops n m N w0 M gX K a0 L bS a w)
  {SL:List As}(mK:∀j sh it,j<m→L j=true→K j=.side sh it→sh (bS j)→it (bS j)∈SL) :
  ∀(ρ1:List Nat) (τ:List Nat) (ρ:List Nat) (dn:Nat→Value) (sd:List (Nat × As)) (Z:Nat→Prop) (ls R:List As) (wh:World),(∀j,L j=true→dn j=bS j)→(∀j∈τ++ρ1,j<m)→(τ++ρ1).Nodup→
   (∀x i y,ρ1=x++i::y→∀o,ops[i]?=some o→∀d∈eK o,d∈τ++x)→(∀j∈ρ1,K j=.chain→L j=false)→
   DG P ops n w0 M N gX K Fin (ρ1++ρ) (ua ops dn τ mH) sd Z ls→N≤wh.heap.size→St w0 M Z wh (ls++R)→(∀A∈SL,A∈R)→(∀p∈sd,p.2∈R)→
   ∃dn sd Z ls,(∀j,L j=true→dn j=bS j)∧DG P ops n w0 M N gX K Fin ρ (ua ops dn (τ++ρ1) mH) sd Z ls:=by
 intro ρ1
 induction ρ1 with
 | nil=>intro τ ρ dn sd Z ls R wh hv _ _ _ _ hD _ _ _ _;exact⟨dn,sd,Z,ls,hv,by simpa using hD⟩
 | cons i ρ1 ih=>
  intro τ ρ dn sd Z ls R wh hv ee wL Gj pU hD hN bJ Uc Ud;obtain⟨o,ho,vx,vy,mI⟩:=hD;have qg:i<m:=ee i (by simp)
  have rL:iA ops i=o.dst:=by simp [iA,ho]
  have NG:∀d∈eK o,d∈τ:=fun d hd=>by simpa using Gj [] i ρ1 rfl o ho d hd
  have qv:i∉τ:=fun h=>by
   have:=(List.nodup_append.1 wL).2.2 i h i (by simp)
   exact this rfl
  have ahw:∀j∈(τ++[i])++ρ1,j<m:=fun j hj=>ee j (by simpa using hj)
  have ahx:((τ++[i])++ρ1).Nodup:=by simpa using wL
  have VZ:∀x k y,ρ1=x++k::y→∀o,ops[k]?=some o→∀d∈eK o,d∈(τ++[i])++x:=fun x k y e o ho d hd=>by
   have:=Gj (i::x) k y (by rw [e];rfl) o ho d hd
   simpa using this
  have next:∀u,ua ops (fun j=>if j=i then u else dn j) (τ++[i]) mH=nP (ua ops dn τ mH) o.dst u:=fun u=>by
   rw [yw,oG (dn:=dn) (l:=τ) fun j hj=>by rw [if_neg fun e=>qv (by rw [← e];exact hj)]];simp only [ua,rL,if_true]
  have T3:∀u,(L i=true→u=bS i)→∀j,L j=true→(if j=i then u else dn j)=bS j:=fun u hu j hj=>by
   by_cases e:j=i
   ·
    subst e;rw [if_pos rfl];exact hu hj
   rw [if_neg e];exact hv j hj
  have fin:∀u vo Z' pV R' Lu,(L i=true→u=bS i)→DG P ops n w0 M N gX K Fin (ρ1++ρ) (nP (ua ops dn τ mH) o.dst u) vo Z' pV→N≤Lu.heap.size→St w0 M Z' Lu (pV++R')→(∀A∈SL,A∈R')→(∀p∈vo,p.2∈R')→
    ∃dn sd Z ls,(∀j,L j=true→dn j=bS j)∧DG P ops n w0 M N gX K Fin ρ (ua ops dn (τ++i::ρ1) mH) sd Z ls:=fun u vo Z' pV R' Lu hu hD hN bJ Uc Ud=>by
   have:=ih (τ++[i]) ρ (fun j=>if j=i then u else dn j) vo Z' pV R' Lu (T3 u hu) ahw ahx VZ (fun j hj=>pU j (by simp [hj])) (by rw [next];exact hD) hN bJ Uc Ud
   simpa using this
  have r9:L i=true→ud ops o a (ua ops dn τ mH):=fun kH=>DE eX h0 hI hv (fun j hj=>ee j (by simp [hj])) qg ho (hI.closed i o qg kH ho) NG
  rcases mI with⟨hg,jA⟩ | ⟨hg,hk,mI⟩
  ·
   exact fin undef sd Z ls R wh (fun kH=>(hI.no i o qg kH ho ((r9 kH).wanted hg)).symm) jA hN bJ Uc Ud
  rcases mI with⟨hK,e,lF,jA⟩ | ⟨sh,it,hK,gH,jA⟩ | ⟨hK,gH⟩
  ·
   refine fin e sd Z ls R wh (fun kH=>?_) jA hN bJ Uc Ud;obtain⟨wj,hCj,Ir⟩:=hI.det i o qg kH ho ((r9 kH).wanted hg) (by show(K i).E=none;rw [hK];rfl);rw [(r9 kH).exec vx hk,lF wj hCj] at Ir
   simpa using Ir
  ·
   by_cases kH:L i=true
   ·
    have hs:sh (bS i):=hI.Dr i o (fun v _=>sh v) qg kH ho ((r9 kH).wanted hg) (by show(K i).E=_;rw [hK];rfl)
    exact fin (bS i) _ Z ls R wh (fun _=>rfl) (jA _ hs) hN bJ Uc (fun p hp=>by
     rcases List.mem_cons.1 hp with rfl | hp
     ·
      exact Uc _ (mK i sh it qg kH hK hs)
     exact Ud p hp)
   obtain⟨v,Lu,nt,hs,ry⟩:=(gH wh Z _ hN bJ).exists
   exact fin v _ Z ls (it v::R) Lu (fun h=>absurd h kH) (jA v hs) (Nat.le_trans hN nt) (ry.perm List.perm_middle) (fun A hA=>by simp [Uc A hA]) (fun p hp=>by
    rcases List.mem_cons.1 hp with rfl | hp
    ·
     simp
    simp [Ud p hp])
  obtain⟨v,Lu,nt,Z',pV,ry,_,Gk⟩:=(gH wh R hN bJ Ud).exists;exact fin v sd Z' pV R Lu (fun h=>by rw [pU i (by simp) hK] at h;cases h) Gk (Nat.le_trans hN nt) ry Uc Ud
theorem Ue{a0 a:Act}{mH:KV}(eX:RegB ops m) (h0:Fr n a0 mH) {L:Nat→Bool}{bS:Nat→Value}{w:World}(hI:IG P ops n m N w0 M gX K a0 L bS a w)
  {SL:List (Nat × As)}(mK:∀j sh it,j<m→L j=true→K j=.side sh it→sh (bS j)→(j,it (bS j))∈SL) {Z:Nat→Prop}{ls:List As} :
  ∀(ρ1:List Nat) (τ:List Nat) (ρ:List Nat) (sd:List (Nat × As)),(∀j∈τ++ρ1,j<m)→(τ++ρ1).Nodup→
   (∀x i y,ρ1=x++i::y→∀o,ops[i]?=some o→∀d∈eK o,d∈τ++x)→(∀j∈ρ1,L j=true)→(∀j∈ρ1,K j=.chain→L j=false)→
   DG P ops n w0 M N gX K Fin (ρ1++ρ) (ua ops bS τ mH) sd Z ls→(∀q∈sd,q∈SL)→(sd.map (·.1)).Nodup→(∀q∈sd,q.1∈τ)→
   ∃vo,DG P ops n w0 M N gX K Fin ρ (ua ops bS (τ++ρ1) mH) vo Z ls∧(∀q∈vo,q∈SL)∧(vo.map (·.1)).Nodup∧(∀q∈vo,q.1∈τ++ρ1):=by
 intro ρ1
 induction ρ1 with
 | nil=>intro τ ρ sd _ _ _ _ _ hD h1 h2 h3;exact⟨sd,by simpa using hD,h1,h2,by simpa using h3⟩
 | cons i ρ1 ih=>
  intro τ ρ sd ee wL Gj cZ pU hD h1 h2 h3;obtain⟨o,ho,vx,vy,mI⟩:=hD;have qg:i<m:=ee i (by simp)
  have rL:iA ops i=o.dst:=by simp [iA,ho]
  have NG:∀d∈eK o,d∈τ:=fun d hd=>by simpa using Gj [] i ρ1 rfl o ho d hd
  have qv:i∉τ:=fun h=>by
   have:=(List.nodup_append.1 wL).2.2 i h i (by simp)
   exact this rfl
  have kH:=cZ i (by simp)
  have next:ua ops bS (τ++[i]) mH=nP (ua ops bS τ mH) o.dst (bS i):=by rw [yw];simp only [ua,rL]
  have fin:∀vo,DG P ops n w0 M N gX K Fin (ρ1++ρ) (nP (ua ops bS τ mH) o.dst (bS i)) vo Z ls→(∀q∈vo,q∈SL)→(vo.map (·.1)).Nodup→(∀q∈vo,q.1∈τ++[i])→
    ∃vo,DG P ops n w0 M N gX K Fin ρ (ua ops bS (τ++i::ρ1) mH) vo Z ls∧(∀q∈vo,q∈SL)∧(vo.map (·.1)).Nodup∧(∀q∈vo,q.1∈τ++i::ρ1):=fun vo hD g1 g2 g3=>by
   have:=ih (τ++[i]) ρ vo (fun j hj=>ee j (by simpa using hj)) (by simpa using wL) (fun x k y e o ho d hd=>by
    have:=Gj (i::x) k y (by rw [e];rfl) o ho d hd
    simpa using this) (fun j hj=>cZ j (by simp [hj])) (fun j hj=>pU j (by simp [hj])) (by rw [next];exact hD) g1 g2 g3
   simpa using this
  have r9:ud ops o a (ua ops bS τ mH):=DE eX h0 hI (fun _ _=>rfl) (fun j hj=>ee j (by simp [hj])) qg ho (hI.closed i o qg kH ho) NG
  rcases mI with⟨hg,jA⟩ | ⟨hg,hk,mI⟩
  ·
   have:=hI.no i o qg kH ho (r9.wanted hg)
   exact fin sd (by rw [this];exact jA) h1 h2 (fun q hq=>by simp [h3 q hq])
  rcases mI with⟨hK,e,lF,jA⟩ | ⟨sh,it,hK,gH,jA⟩ | ⟨hK,gH⟩
  ·
   obtain⟨wj,hCj,Ir⟩:=hI.det i o qg kH ho (r9.wanted hg) (by show(K i).E=none;rw [hK];rfl);rw [r9.exec vx hk,lF wj hCj] at Ir
   have he:e=bS i:=by simpa using Ir
   exact fin sd (by rw [← he];exact jA) h1 h2 (fun q hq=>by simp [h3 q hq])
  ·
   have hs:sh (bS i):=hI.Dr i o (fun v _=>sh v) qg kH ho (r9.wanted hg) (by show(K i).E=_;rw [hK];rfl);refine fin _ (jA _ hs) (fun q hq=>?_) ?_ (fun q hq=>?_)
   ·
    rcases List.mem_cons.1 hq with rfl | hq
    ·
     exact mK i sh it qg kH hK hs
    exact h1 q hq
   ·
    simp only [List.map_cons,List.nodup_cons];exact⟨fun h=>by obtain⟨q,hq,e⟩:=List.mem_map.1 h;exact qv (by rw [← e];exact h3 q hq),h2⟩
   rcases List.mem_cons.1 hq with rfl | hq
   ·
    simp
   simp [h3 q hq]
  rw [pU i (by simp) hK] at kH;cases kH
theorem FG.pass{mH:KV}{L:Nat→Bool}{bS:Nat→Value}{w:World}{τ ρ:List Nat}{sd SL:List (Nat × As)}{Z:Nat→Prop}{ls:List As}(h:FG P ops n m N w0 M gX K Fin mH L bS w τ ρ sd SL Z ls) {i:Nat}{v:Value}(hL:L i=false) (hK:K i≠.chain) (hv:∀sh it,K i=.side sh it→¬sh v) :
  FG P ops n m N w0 M gX K Fin mH (fun j=>if j=i then true else L j) (fun j=>if j=i then v else bS j) w τ ρ sd SL Z ls:=by
 have hit:i∉τ:=fun h1=>by have:=h.tau i h1;rw [hL] at this;cases this
 refine⟨fun j hj=>?_,fun j hj hc=>?_,?_,h.st,h.sub,h.nd,fun q hq=>?_,h.sds,h.sdn,h.sdt,fun j sh it hj iZ DF hs=>?_⟩
 ·
  by_cases e:j=i <;> simp [e];exact h.tau j hj
 ·
  rw [if_neg fun e=>hK (by rw [← e];exact hc)];exact h.rho j hj hc
 ·
  rw [oG (dn:=bS) fun j hj=>by rw [if_neg fun e=>hit (by rw [← e];exact hj)]];exact h.node
 ·
  by_cases e:q.1=i <;> simp [e];exact h.key q hq
 by_cases e:j=i
 ·
  subst e;simp only [if_true] at hs;exact absurd hs (hv sh it DF)
 simp only [if_neg e] at iZ hs ⊢;exact h.own j sh it hj iZ DF hs
theorem FG.side{mH:KV}{L:Nat→Bool}{bS:Nat→Value}{w w':World}{τ ρ:List Nat}{sd SL:List (Nat × As)}{Z:Nat→Prop}{ls:List As}(h:FG P ops n m N w0 M gX K Fin mH L bS w τ ρ sd SL Z ls) {i:Nat}{v:Value}{sh:Value→Prop}{it:Value→As}(hL:L i=false) (hK:K i=.side sh it)
  (bJ:St w0 M Z w' (it v::(SL.map (·.2)++ls))) :
  FG P ops n m N w0 M gX K Fin mH (fun j=>if j=i then true else L j) (fun j=>if j=i then v else bS j) w' τ ρ sd ((i,it v)::SL) Z ls:=by
 have hit:i∉τ:=fun h1=>by have:=h.tau i h1;rw [hL] at this;cases this
 refine⟨fun j hj=>?_,fun j hj hc=>?_,?_,bJ,h.sub,?_,fun q hq=>?_,fun q hq=>by simp [h.sds q hq],h.sdn,h.sdt,fun j sh' it' hj iZ DF hs=>?_⟩
 ·
  by_cases e:j=i <;> simp [e];exact h.tau j hj
 ·
  rw [if_neg fun e=>by rw [← e,hc] at hK;cases hK];exact h.rho j hj hc
 ·
  rw [oG (dn:=bS) fun j hj=>by rw [if_neg fun e=>hit (by rw [← e];exact hj)]];exact h.node
 ·
  simp only [List.map_cons,List.nodup_cons];exact⟨fun hm=>by(obtain⟨q,hq,e⟩:=List.mem_map.1 hm;have:=h.key q hq;rw [e,hL] at this;exact Bool.noConfusion this),h.nd⟩
 ·
  rcases List.mem_cons.1 hq with rfl | hq
  ·
   simp
  by_cases e:q.1=i <;> simp [e];exact h.key q hq
 by_cases e:j=i
 ·
  subst e;rw [hK] at DF;simp only [Kd.side.injEq] at DF;obtain⟨rfl,rfl⟩:=DF
  simp
 simp only [if_neg e] at iZ hs ⊢;exact List.mem_cons_of_mem _ (h.own j sh' it' hj iZ DF hs)
theorem agG{a0 a:Act}{mH:KV}(eX:RegB ops m) (rQ:Og ops m K σ) (h0:Fr n a0 mH) {L:Nat→Bool}{bS:Nat→Value}{w:World}{τ ρ:List Nat}{sd SL:List (Nat × As)}{Z:Nat→Prop}{ls:List As}(hs:σ=τ++ρ) (hI:IG P ops n m N w0 M gX K a0 L bS a w) (hF:FG P ops n m N w0 M gX K Fin mH L bS w τ ρ sd SL Z ls)
  {i:Nat}{o:Oper}(qg:i<m) (ho:ops[i]?=some o) (kH:L i=false):∃ρ1 ρ2,ρ=ρ1++i::ρ2∧(∀j∈τ++ρ1,j<m)∧((τ++ρ1)++i::ρ2).Nodup∧(∀k∈eK o,k∈τ++ρ1):=by
 have kL:i∈τ++ρ:=by rw [← hs];exact rQ.all i qg
 have hir:i∈ρ:=by
  rcases List.mem_append.1 kL with h | h
  ·
   have:=hF.tau i h;rw [kH] at this;cases this
  exact h
 obtain⟨ρ1,ρ2,hr⟩:=List.append_of_mem hir
 have e:σ=(τ++ρ1)++i::ρ2:=by rw [hs,hr,List.append_assoc]
 exact⟨ρ1,ρ2,hr,fun j hj=>rQ.lt j (by rw [e];exact List.mem_append_left _ hj),by rw [← e];exact rQ.nd,rQ.VY (τ++ρ1) i ρ2 e o ho⟩
theorem stepG{a0:Act}{mH:KV}{Q':Exit→Act→World→Prop}(hXp:∀x∈X,K x=.pure) (eX:Rj ops m X) (rQ:Og ops m K σ) (hsh:∀j sh it,K j=.side sh it→¬sh undef) (h0:Fr n a0 mH) (hQ:X=[]∨∀c a w,¬Q' (.panic c) a w) :
  ∀(fuel:Nat) (listed:Array Bool) (a:Act) (w:World),listed.size=ops.size→left (fun j=>listed.getD j false) ops.size≤fuel→(∀j,m≤j→listed.getD j false=false)→
  (∃bS τ ρ sd SL Z ls,σ=τ++ρ∧IG P ops n m N w0 M gX K a0 (fun j=>listed.getD j false) bS a w∧FG P ops n m N w0 M gX K (fun kv w=>WL P ops Q' (ops.toList.drop m) n kv w) mH (fun j=>listed.getD j false) bS w τ ρ sd SL Z ls)→wpAny P .any ops Q' fuel listed a w:=by
 have abl:∀{τ ρ:List Nat},σ=τ++ρ→∀j∈τ++ρ,j<m:=fun e j hj=>rQ.lt j (by rw [e];exact hj);refine NX (J:=fun L a w=>∃bS τ ρ sd SL Z ls,σ=τ++ρ∧IG P ops n m N w0 M gX K a0 L bS a w∧FG P ops n m N w0 M gX K (fun kv w=>WL P ops Q' (ops.toList.drop m) n kv w) mH L bS w τ ρ sd SL Z ls) eX hQ (fun L a w ⟨bS,_,_,_,_,_,_,_,hI,_⟩ j p hj hL hp=>hI.closed j p hj hL hp) ?_ ?_
 ·
  intro L a w ⟨bS,τ,ρ,sd,SL,Z,ls,hs,hI,hF⟩ cZ;obtain⟨vo,hD,h1,h2,_⟩:=Ue (ρ:=[]) eX.toRegB h0 hI (fun j sh it hj iZ DF hs=>hF.own j sh it hj iZ DF hs) ρ τ sd (abl hs) (by rw [← hs];exact rQ.nd) (fun x i y e=>rQ.VY (τ++x) i y (by rw [hs,e,List.append_assoc])) (fun j hj=>cZ j (abl hs j (List.mem_append_right _ hj))) hF.rho (by simpa using hF.node) hF.sds hF.sdn hF.sdt;obtain⟨ex,hp⟩:=Gi hF.nd h2 h1
  have pT:List.Perm ((vo.map (·.2)++ls)++ex.map (·.2)) (SL.map (·.2)++ls):=by
   have h3:List.Perm (SL.map (·.2)) (vo.map (·.2)++ex.map (·.2)):=by simpa using hp.map (·.2)
   refine List.Perm.trans ?_ (h3.symm.append_right ls);rw [List.append_assoc,List.append_assoc];exact List.Perm.append_left _ List.perm_append_comm
  refine hD w hI.c.1 ((hF.st.perm pT).jq) a ⟨hI.size,hI.mF,fun t v hl=>?_⟩;rw [← hs] at hl
  rcases yY hl with⟨j,hj,xS,rfl⟩ | ⟨gV,Lt⟩
  ·
   exact hI.here j (rQ.lt j hj) (cZ j (rQ.lt j hj)) t xS
  rw [hI.vw t fun j hj _=>gV j (rQ.all j hj)];exact h0.val t v Lt
 intro L a w i o ⟨bS,τ,ρ,sd,SL,Z,ls,hs,hI,hF⟩ nC qg ho kH hd;obtain⟨ρ1,ρ2,hr,RC,rR,NG⟩:=agG eX.toRegB rQ h0 hs hI hF qg ho kH;have abm:=(List.nodup_append.1 rR).1;have Ry:=fun x j y (e:ρ1=x++j::y)=>rQ.VY (τ++x) j (y++i::ρ2) (by rw [hs,hr,e];simp);have abn:=fun j (hj:j∈ρ1)=>hF.rho j (by rw [hr];simp [hj]);have pH:=hF.node;rw [hr] at pH;have put:=fun(v:Value) w'=>hI.put (v:=v) (w':=w') eX.toRegB qg ho kH hd
 have lH:∀w' j S u,j<m→L j=true→(K j).E=some S→S u w→S u w':=fun w' j S u _ _ Ds h=>by
  cases DF:K j with
  | pure=>simp only [DF,Kd.E] at Ds;cases Ds
  | side sh it=>simp only [DF,Kd.E,Option.some.injEq] at Ds;subst Ds;exact h
  | chain=>simp only [DF,Kd.E,Option.some.injEq] at Ds;subst Ds;trivial
 by_cases Oh:K i=.chain
 ·
  have hX:i∉X:=fun h=>by rw [hXp i h] at Oh;cases Oh
  have Uf:∀j∈τ++ρ1,L j=true:=rQ.clo (τ++ρ1) i ρ2 (by rw [hs,hr,List.append_assoc]) Oh (fun j=>L j=true) (fun j p hj hp=>hI.closed j p (by
   rcases Nat.lt_or_ge j m with h | h
   ·
    exact h
   rw [nC j h] at hj;cases hj) hj hp) (fun p hp=>by rw [ho] at hp;simp at hp;subst hp;exact hd)
  have qv:i∉τ++ρ1:=fun h=>(List.nodup_append.1 rR).2.2 i h i (by simp) rfl
  have ahy:i∉ρ2:=by have:=(List.nodup_append.1 rR).2.1;simp only [List.nodup_cons] at this;exact this.1
  obtain⟨vo,⟨o',H9,vx,vy,mI⟩,h1,h2,h3⟩:=Ue (ρ:=i::ρ2) eX.toRegB h0 hI hF.own ρ1 τ sd RC abm Ry (fun j hj=>Uf j (by simp [hj])) abn pH hF.sds hF.sdn hF.sdt;have r9:ud ops o a (ua ops bS (τ++ρ1) mH):=DE eX.toRegB h0 hI (fun _ _=>rfl) RC qg ho hd NG
  have eo:o'=o:=by rw [ho] at H9;exact(Option.some.inj H9).symm
  subst eo
  have rL:iA ops i=o'.dst:=by simp [iA,ho]
  have adv:∀v w' Z' pV,IG P ops n m N w0 M gX K a0 (fun j=>if j=i then true else L j) (fun j=>if j=i then v else bS j) (a.put o'.dst v) w'→St w0 M Z' w' (pV++SL.map (·.2))→(∀A∈gX,A∈pV)→DG P ops n w0 M N gX K (fun kv w=>WL P ops Q' (ops.toList.drop m) n kv w) ρ2 (nP (ua ops bS (τ++ρ1) mH) o'.dst v) vo Z' pV→
    ∃bS τ ρ sd SL Z ls,σ=τ++ρ∧IG P ops n m N w0 M gX K a0 (fun j=>if j=i then true else L j) bS (a.put o'.dst v) w'∧FG P ops n m N w0 M gX K (fun kv w=>WL P ops Q' (ops.toList.drop m) n kv w) mH (fun j=>if j=i then true else L j) bS w' τ ρ sd SL Z ls:=fun v w' Z' pV hI' bJ j9 hD=>by
   refine⟨_,(τ++ρ1)++[i],ρ2,vo,SL,Z',pV,by rw [hs,hr];simp,hI',fun j hj=>?_,fun j hj hc=>?_,?_,bJ.perm List.perm_append_comm,j9,hF.nd,fun q hq=>?_,h1,h2,fun q hq=>by simp only [List.mem_append];exact .inl (List.mem_append.1 (h3 q hq)),fun j sh it hj iZ DF hs=>?_⟩
   ·
    rcases List.mem_append.1 hj with hj | hj
    ·
     show(if j=i then true else L j)=true
     split
     ·
      rfl
     exact Uf j hj
    simp at hj;simp [hj]
   ·
    rw [if_neg fun e=>ahy (by rw [← e];exact hj)];exact hF.rho j (by rw [hr];simp [hj]) hc
   ·
    rw [yw,oG (dn:=bS) (l:=τ++ρ1) fun j hj=>by rw [if_neg fun e=>qv (by rw [← e];exact hj)]];simp only [ua,rL,if_true];exact hD
   ·
    show(if q.1=i then true else L q.1)=true
    split
    ·
     rfl
    exact hF.key q hq
   by_cases e:j=i
   ·
    subst e;rw [Oh] at DF;cases DF
   simp only [if_neg e] at iZ hs ⊢;exact hF.own j sh it hj iZ DF hs
  rcases mI with⟨hg,jA⟩ | ⟨hg,hk,⟨hK,_⟩ | ⟨sh,it,hK,_⟩ | ⟨_,gH⟩⟩
  ·
   have hw:=r9.wanted hg;exact .inl ⟨hw,adv undef w Z ls (put _ _ vy hI.c (fun _ _ _ _ _ _ h=>h) (fun _=>rfl) (fun h=>by rw [hw] at h;cases h) (fun S h=>by rw [hw] at h;cases h)) (hF.st.perm List.perm_append_comm) hF.sub jA⟩
  ·
   rw [Oh] at hK;cases hK
  ·
   rw [Oh] at hK;cases hK
  have hw:=r9.wanted hg;refine .inr ⟨hw,?_,fun h=>absurd h hX⟩;rw [r9.exec vx hk];refine(gH w (SL.map (·.2)) hI.c.1 (hF.st.perm List.perm_append_comm) (fun p hp=>List.mem_map.2 ⟨p,h1 p hp,rfl⟩)).mono fun v w' ⟨V0,Z',pV,bJ,j9,hD⟩=>?_;exact adv v w' Z' pV (put _ _ vy ⟨Nat.le_trans hI.c.1 V0,Z',_,bJ,fun A hA=>List.mem_append_left _ (j9 A hA)⟩ (lH _) (fun h=>by rw [hw] at h;cases h) (fun _ h=>by simp only [Oh,Kd.E] at h;cases h) (fun S' _ h=>by simp only [Oh,Kd.E,Option.some.injEq] at h;subst h;trivial)) bJ j9 hD
 obtain⟨dn,vo,Z',pV,hv,o',H9,vx,vy,mI⟩:=abk eX.toRegB h0 hI (SL:=SL.map (·.2)) (fun j sh it hj iZ DF hs=>List.mem_map.2 ⟨_,hF.own j sh it hj iZ DF hs,rfl⟩) ρ1 τ (i::ρ2) bS sd Z ls (SL.map (·.2)) w (fun _ _=>rfl) RC abm Ry abn pH hI.c.1 (hF.st.perm List.perm_append_comm) (fun A h=>h) (fun p hp=>List.mem_map.2 ⟨p,hF.sds p hp,rfl⟩);have r9:=DE eX.toRegB h0 hI hv RC qg ho hd NG
 have eo:o'=o:=by rw [ho] at H9;exact(Option.some.inj H9).symm
 subst eo
 rcases mI with⟨hg,_⟩ | ⟨hg,hk,⟨hK,e,lF,_⟩ | ⟨sh,it,hK,gH,_⟩ | ⟨hK,_⟩⟩
 ·
  have hw:=r9.wanted hg;exact .inl ⟨hw,_,τ,ρ,sd,SL,Z,ls,hs,put _ _ vy hI.c (fun _ _ _ _ _ _ h=>h) (fun _=>rfl) (fun h=>by rw [hw] at h;cases h) (fun S h=>by rw [hw] at h;cases h),hF.pass kH Oh (fun sh it h=>hsh i sh it h)⟩
 ·
  have hw:=r9.wanted hg;have hr:=lF w hI.c;rw [← r9.exec vx hk] at hr;refine .inr ⟨hw,?_,fun _=>⟨e,hr⟩⟩;rw [hr];exact⟨_,τ,ρ,sd,SL,Z,ls,hs,put _ _ vy hI.c (fun _ _ _ _ _ _ h=>h) (fun h=>by rw [hw] at h;cases h) (fun _ _=>⟨w,hI.c,hr⟩) (fun S _ h=>by simp only [hK,Kd.E] at h;cases h),hF.pass kH Oh (fun sh it h=>by rw [hK] at h;cases h)⟩
 ·
  have hw:=r9.wanted hg;refine .inr ⟨hw,?_,fun h=>by rw [hXp i h] at hK;cases hK⟩;rw [r9.exec vx hk];refine(gH w Z _ hI.c.1 hF.st).mono fun v w' ⟨V0,QP,bJ⟩=>?_;exact⟨_,τ,ρ,sd,_,Z,ls,hs,put _ _ vy ⟨Nat.le_trans hI.c.1 V0,Z,_,bJ,fun A hA=>by simp [hF.sub A hA]⟩ (lH _) (fun h=>by rw [hw] at h;cases h) (fun _ h=>by simp only [hK,Kd.E] at h;cases h) (fun S' _ h=>by simp only [hK,Kd.E,Option.some.injEq] at h;subst h;exact QP),hF.side kH hK bJ⟩
 exact absurd hK Oh
end
/-! ### the checks, and the walk -/
def pW:List Oper→Nat→Option Oper
 | [],_=>none
 | o::_,0=>some o
 | _::r,i+1=>pW r i
theorem pa:∀(l:List Oper) (i:Nat),pW l i=l[i]?
 | [],_=>rfl
 | _::_,0=>rfl
 | _::r,i+1=>by simp [pW,pa r i]
def Ku(l:List Oper) (ms Gl:List Nat):Nat→List Nat→Bool
 | _,[]=>true
 | k,i::r=>(match pW l i with | some o=>Nat.beq (Nat.land (oy (eK o)) k) (oy (eK o)) | none=>true) &&
  (match l9 i Gl with | true=>Nat.beq (Nat.land k (ms.getD i 0)) k | false=>true) && Ku l ms Gl (k ||| 2 ^ i) r
def Ug(l:List Oper) (m:Nat) (Gl σ:List Nat):Bool:=
 σ.all (fun i=>Nat.blt i m) && (List.range m).all (fun i=>l9 i σ) && decide σ.Nodup && Ku l (r8 l []) Gl 0 σ
theorem yZ{l:List Oper}{ms Gl:List Nat}:∀{σ:List Nat}{k:Nat}{a:List Nat},(∀d,k.testBit d=true↔d∈a)→Ku l ms Gl k σ=true→∀x i y,σ=x++i::y→
  (∀o,l[i]?=some o→∀d∈eK o,d∈a++x)∧(l9 i Gl=true→∀j∈a++x,(ms.getD i 0).testBit j=true)
 | [],_,_,_,_,x,i,y,e=>by simp at e
 | i0::r,k,a,hk,h,x,i,y,e=>by
  simp only [Ku,Bool.and_eq_true] at h
  cases x with
  | nil=>
   simp only [List.nil_append,List.cons.injEq] at e;obtain⟨rfl,rfl⟩:=e;refine⟨fun o ho d hd=>?_,fun hc j hj=>?_⟩
   ·
    have h1:=h.1.1;rw [pa,ho] at h1;have he:(oy (eK o)) &&& k=oy (eK o):=Nat.eq_of_beq_eq_true h1;have h2:=vu hd;rw [← he,Nat.testBit_and] at h2;simp only [Bool.and_eq_true] at h2
    simpa using (hk d).1 h2.2
   have h1:=h.1.2;rw [hc] at h1;have he:k &&& (ms.getD i0 0)=k:=Nat.eq_of_beq_eq_true h1;have h2:=(hk j).2 (by simpa using hj);rw [← he,Nat.testBit_and] at h2;simp only [Bool.and_eq_true] at h2;exact h2.2
  | cons z x=>
   simp only [List.cons_append,List.cons.injEq] at e;obtain⟨rfl,e⟩:=e
   have:=yZ (a:=a++[i0]) (fun d=>by
    simp only [Nat.testBit_or,Bool.or_eq_true,hk,Nat.testBit_two_pow,decide_eq_true_eq,List.mem_append,List.mem_singleton];exact or_congr_right eq_comm) h.2 x i y e
   simpa using this
inductive kY where
 | blk (T:TypeId) (cs:List Value)
 | map
 | sl (T:TypeId) (len:Nat) (cs:List Value)
 | val (p:Value→Prop)
def As.nil:As where
 fp _:=False
 ok _ _:=True
 lt _ _ hx:=hx.elim
 mono _ h:=h
 st _ _ h:=h
def kY.sh:kY→Value→Prop
 | .blk _ _,v=>∃b,v=.pointer (some ⟨b,0,none⟩)
 | .map,v=>∃b,v=.map (some b)
 | .sl _ len _,v=>∃b,v=.slice (some ⟨b,0,none⟩) len len
 | .val p,v=>v≠undef∧p v
def kY.it:kY→Value→As
 | .blk T cs,.pointer (some ⟨b,_,_⟩)=>As.blk b T cs
 | .map,.map (some b)=>As.map Key.val b []
 | .sl T _ cs,.slice (some ⟨b,_,_⟩) _ _=>As.blk b T cs
 | _,_=>As.nil
def wT:List (Nat × kY)→Nat→Kd
 | [],_=>.pure
 | (j,s)::r,i=>match Nat.beq j i with
  | true=>.side s.sh s.it
  | false=>wT r i
def LL(Gl:List Nat) (Cx:List (Nat × kY)) (i:Nat):Kd:=match l9 i Gl with
 | true=>.chain
 | false=>wT Cx i
def Kd.pc:Kd→Bool
 | .pure=>true
 | _=>false
theorem Kd.Kv:∀{k:Kd},k.pc=true→k=.pure
 | .pure,_=>rfl
 | .side _ _,h=>by cases h
 | .chain,h=>by cases h
theorem y5{i:Nat}{sh:Value→Prop}{it:Value→As}:∀{l:List (Nat × kY)},wT l i=.side sh it→∃s:kY,sh=s.sh
 | [],h=>by simp [wT] at h
 | (j,s)::r,h=>by
  simp only [wT] at h
  split at h
  ·
   simp only [Kd.side.injEq] at h;exact⟨s,h.1.symm⟩
  exact y5 h
theorem wU{i:Nat}:∀{l:List (Nat × kY)},wT l i≠.chain
 | [],h=>by simp [wT] at h
 | (j,s)::r,h=>by
  simp only [wT] at h
  split at h
  ·
   cases h
  exact wU h
section
variable {P:Program}{Q:Exit→Act→World→Prop}{n m N:Nat}{w0 w:World}{M Z:Nat→Prop}{ls gX:List As}{Fin:KV→World→Prop}
theorem WC.dp{id:Nat}{kv:KV}{l:List Oper}(X Gl σ:List Nat) (Cx:List (Nat × kY)) (bJ:St w0 M Z w ls) (h1:∀A∈gX,A∈ls) (hm:P.follows .mixedOrders=true) (eX:yL l m X=true) (hsg:Ug l m Gl σ=true) (hX:(X.all fun x=>(LL Gl Cx x).pc)=true)
  (hdg:DG P l.toArray n w0 M w.heap.size gX (LL Gl Cx) (fun kv w=>WL P l.toArray (NP Q) (l.drop m) n kv w) σ kv [] Z ls):WC P (.region id l.toArray true) Q n kv w:=by
 intro a hF
 refine wp_mono (Q:=NP Q) ?_ fun _ _ _ h=>h.2
 refine wp_region_any hm ?_;have abp:=Cp eX;simp only [Ug,Bool.and_eq_true] at hsg
 have rQ:Og l.toArray m (LL Gl Cx) σ:=by
  have wV:=yZ (a:=[]) (fun d=>by simp) hsg.2;refine⟨fun i hi=>?_,fun i hi=>kV.1 (List.all_eq_true.1 hsg.1.1.2 i (by simpa using hi)),by simpa using hsg.1.2,fun x i y e o ho d hd=>by simpa using (wV x i y e).1 o (by simpa using ho) d hd,fun x i y e hc D hD hk j hj=>?_⟩
  ·
   have:=List.all_eq_true.1 hsg.1.1.1 i hi
   simp only [Nat.blt] at this
   have:=Nat.le_of_ble_eq_true this
   omega
  have V2:l9 i Gl=true:=by
   unfold LL at hc
   cases he:l9 i Gl with
   | true=>rfl
   | false=>rw [he] at hc;exact absurd hc wU
  have hb:=(wV x i y e).2 V2 j (by simpa using hj)
  cases V3:l[i]? with
  | none=>
   exfalso
   have h3:∀(l:List Oper) (acc:List Nat),(r8 l acc).length=acc.length+l.length:=by
    intro l
    induction l with
    | nil=>intro acc;rfl
    | cons p r ih=>intro acc;simp only [r8];rw [ih];simp;omega
   have h2:(r8 l [])[i]?=none:=List.getElem?_eq_none (by rw [h3];simpa using List.getElem?_eq_none_iff.1 V3);rw [List.getD_eq_getElem?_getD,h2] at hb
   simp at hb
  | some o=>
   exact yK D l [] [] rfl (fun j o hj ho=>hD j o hj (by simpa using ho)) (fun k o ho=>by simp at ho) (fun k o ho=>abp.back k o (by simpa using ho)) i o (by simpa using V3) (hk o (by simpa using V3)) j hb
 have DH:=Du l;have abq:St w0 M Z {w with drawn:=w.drawn+1} ls:=bJ.step (aV.drew [] w);refine stepG (X:=X) (K:=LL Gl Cx) (fun x hx=>Kd.Kv (List.all_eq_true.1 hX x hx)) abp rQ (fun j sh it h=>?_) hF (.inr fun c _ _ h=>h.1 c rfl) l.toArray.size _ a _ (by simp) (Dt _ _) (fun j _=>DH j) ⟨fun _=>undef,[],σ,[],[],Z,ls,rfl,⟨⟨Nat.le_refl _,Z,ls,abq,h1⟩,hF.size,hF.mF,?_,fun _ _=>rfl,?_,?_,?_,?_⟩,
  ⟨by simp,fun j _ _=>DH j,by simpa [ua] using hdg,by simpa using abq,h1,by simp,by simp,by simp,by simp,by simp,fun j _ _ _ h=>by rw [DH j] at h;cases h⟩⟩
 ·
  unfold LL at h
  split at h
  ·
   cases h
  obtain⟨s,rfl⟩:=y5 h;intro hu
  cases s <;> (simp only [kY.sh] at hu;first | (obtain⟨b,hb⟩:=hu;cases hb;done) | exact hu.1 rfl)
 all_goals (intro j;intros;rename_i h _ ;first | (have:=DH j;simp_all;done) | skip)
variable {l:List Oper}{i:Nat}{σ':List Nat}{kv:KV}{sd:List (Nat × As)}{K:Nat→Kd}{d:Tmp}{op:Op}{ty:TypeId}{pos:String}{af:Array Edge}{g:Option (Nat × Bool)}
theorem DG.no(ho:pW l i=some ⟨some d,op,ty,pos,af,g⟩) (hg:gd l.toArray kv ⟨some d,op,ty,pos,af,g⟩=some false) (hs:bO op=false) (hd:Nat.blt d n=true)
  (next:DG P l.toArray n w0 M N gX K Fin σ' ((d,undef)::kv) sd Z ls):DG P l.toArray n w0 M N gX K Fin (i::σ') kv sd Z ls:=
 ⟨⟨some d,op,ty,pos,af,g⟩,by(rw [pa] at ho;simpa using ho),hs,hd,.inl ⟨hg,next⟩⟩
theorem DG.p{v:Value}(ho:pW l i=some ⟨some d,op,ty,pos,af,g⟩) (hg:gd l.toArray kv ⟨some d,op,ty,pos,af,g⟩=some true) (hs:bO op=false) (hk:known kv op=true) (hd:Nat.blt d n=true) (hK:(K i).pc=true)
  (h:∀w Zx R,N≤w.heap.size→St w0 M Zx w R→(∀A∈gX,A∈R)→PV P op ty kv w v)
  (next:DG P l.toArray n w0 M N gX K Fin σ' ((d,v)::kv) sd Z ls):DG P l.toArray n w0 M N gX K Fin (i::σ') kv sd Z ls:=
 ⟨⟨some d,op,ty,pos,af,g⟩,by(rw [pa] at ho;simpa using ho),hs,hd,.inr ⟨hg,hk,.inl ⟨Kd.Kv hK,v,fun w ⟨h1,Zx,R,h2,h3⟩=>(h w Zx R h1 h2 h3).2.2 _ _ _ _,next⟩⟩⟩
theorem DG.side(s:kY) (ho:pW l i=some ⟨some d,op,ty,pos,af,g⟩) (hg:gd l.toArray kv ⟨some d,op,ty,pos,af,g⟩=some true) (hs:bO op=false) (hk:known kv op=true) (hd:Nat.blt d n=true) (hK:K i=.side s.sh s.it)
  (h:∀w Zx R,N≤w.heap.size→St w0 M Zx w R→OX P ⟨some d,op,ty,pos,af,g⟩ n kv w fun kh w'=>w.heap.size≤w'.heap.size∧∃v,kh=(d,v)::kv∧s.sh v∧St w0 M Zx w' (s.it v::R))
  (next:∀v,s.sh v→DG P l.toArray n w0 M N gX K Fin σ' ((d,v)::kv) ((i,s.it v)::sd) Z ls):DG P l.toArray n w0 M N gX K Fin (i::σ') kv sd Z ls:=
 ⟨⟨some d,op,ty,pos,af,g⟩,by(rw [pa] at ho;simpa using ho),hs,hd,.inr ⟨hg,hk,.inr (.inl ⟨s.sh,s.it,hK,fun w Zx R h1 h2=>(h w Zx R h1 h2).2.2.2.mono fun v w' ⟨a,u,e,b,c⟩=>by
  simp only [nP,List.cons.injEq,Prod.mk.injEq,true_and,and_true] at e;subst e;exact⟨a,b,c⟩,next⟩)⟩⟩
theorem DG.c(ho:pW l i=some ⟨some d,op,ty,pos,af,g⟩) (hg:gd l.toArray kv ⟨some d,op,ty,pos,af,g⟩=some true) (hs:bO op=false) (hk:known kv op=true) (hd:Nat.blt d n=true) (hK:K i=.chain)
  (h:∀w R,N≤w.heap.size→St w0 M Z w (ls++R)→(∀p∈sd,p.2∈R)→OX P ⟨some d,op,ty,pos,af,g⟩ n kv w fun kh w'=>w.heap.size≤w'.heap.size∧∃v,kh=(d,v)::kv∧∃Z' pV,St w0 M Z' w' (pV++R)∧(∀A∈gX,A∈pV)∧
   DG P l.toArray n w0 M N gX K Fin σ' ((d,v)::kv) sd Z' pV):DG P l.toArray n w0 M N gX K Fin (i::σ') kv sd Z ls:=
 ⟨⟨some d,op,ty,pos,af,g⟩,by(rw [pa] at ho;simpa using ho),hs,hd,.inr ⟨hg,hk,.inr (.inr ⟨hK,fun w R h1 h2 h3=>(h w R h1 h2 h3).2.2.2.mono fun v w' ⟨a,u,e,b⟩=>by
  simp only [nP,List.cons.injEq,Prod.mk.injEq,true_and,and_true] at e;subst e;exact⟨a,b⟩⟩)⟩⟩
theorem DG.nil(h:∀w,N≤w.heap.size→St w0 M Z w (sd.map (·.2)++ls)→Fin kv w):DG P l.toArray n w0 M N gX K Fin [] kv sd Z ls:=h
end
end Go.Rc

namespace Go.Rc
open Go
structure SV (w0:World) (M Z:Nat→Prop) (w:World) (l:List As):Prop where
 cT:jb M w0 w
 ma:∀x,Z x→x<w.heap.size
 ok:∀A∈l,A.ok Z w
section
variable {w0 w:World}{M Z:Nat→Prop}{l R ls:List As}{A0 A1 A2 A3 A4 A5 A6 A7 A8 A9 oV rP xU:As}
theorem St.sv(h:St w0 M Z w R) (hi:∀A∈l,A∈R):SV w0 M Z w l:=⟨h.cT,h.ma,fun A hA=>h.ok A (hi A hA)⟩
theorem SV.g0(h:SV w0 M Z w (A0::l)):A0.ok Z w:=h.ok _ M0
theorem SV.tl(h:SV w0 M Z w (A0::l)):SV w0 M Z w l:=⟨h.cT,h.ma,fun A hA=>h.ok A (.tail _ hA)⟩
theorem SV.g1(h:SV w0 M Z w (A0::A1::l)):A1.ok Z w:=h.tl.g0
theorem SV.g2(h:SV w0 M Z w (A0::A1::A2::l)):A2.ok Z w:=h.tl.g1
theorem SV.g3(h:SV w0 M Z w (A0::A1::A2::A3::l)):A3.ok Z w:=h.tl.g2
theorem SV.g4(h:SV w0 M Z w (A0::A1::A2::A3::A4::l)):A4.ok Z w:=h.tl.g3
theorem SV.g5(h:SV w0 M Z w (A0::A1::A2::A3::A4::A5::l)):A5.ok Z w:=h.tl.g4
theorem SV.g6(h:SV w0 M Z w (A0::A1::A2::A3::A4::A5::A6::l)):A6.ok Z w:=h.tl.g5
theorem SV.g7(h:SV w0 M Z w (A0::A1::A2::A3::A4::A5::A6::A7::l)):A7.ok Z w:=h.tl.g6
theorem SV.g8(h:SV w0 M Z w (A0::A1::A2::A3::A4::A5::A6::A7::A8::l)):A8.ok Z w:=h.tl.g7
theorem SV.g9(h:SV w0 M Z w (A0::A1::A2::A3::A4::A5::A6::A7::A8::A9::l)):A9.ok Z w:=h.tl.g8
theorem SV.g10(h:SV w0 M Z w (A0::A1::A2::A3::A4::A5::A6::A7::A8::A9::oV::l)):oV.ok Z w:=h.tl.g9
theorem SV.g11(h:SV w0 M Z w (A0::A1::A2::A3::A4::A5::A6::A7::A8::A9::oV::rP::l)):rP.ok Z w:=h.tl.g10
theorem av.nil:∀A∈([]:List As),A∈ls:=by simp
theorem av.cons(h:A0∈ls) (t:∀A∈l,A∈ls):∀A∈A0::l,A∈ls:=List.forall_mem_cons.2 ⟨h,t⟩
theorem ay.nil:R=[]++R:=rfl
theorem ay.cons{L:List As}(h:L=l++R):A0::L=(A0::l)++R:=by rw [h];rfl
end
section
variable {P:Program}{n m N:Nat}{w0 w:World}{M Z:Nat→Prop}{ls gX:List As}{Fin:KV→World→Prop}
variable {l:List Oper}{i:Nat}{σ':List Nat}{kv:KV}{sd:List (Nat × As)}{K:Nat→Kd}{d:Tmp}{op:Op}{ty:TypeId}{pos:String}{af:Array Edge}{g:Option (Nat × Bool)}
theorem DG.ch(ho:pW l i=some ⟨some d,op,ty,pos,af,g⟩) (hg:gd l.toArray kv ⟨some d,op,ty,pos,af,g⟩=some true) (hs:bO op=false) (hk:known kv op=true) (hd:Nat.blt d n=true) (hK:K i=.chain)
  (h:∀w R,N≤w.heap.size→St w0 M Z w (ls++R)→(∀p∈sd,p.2∈R)→OX P ⟨some d,op,ty,pos,af,g⟩ n kv w fun kh w'=>w.heap.size≤w'.heap.size∧∃v,kh=(d,v)::kv∧∃Z' L pV,St w0 M Z' w' L∧L=pV++R∧(∀A∈gX,A∈pV)∧
   DG P l.toArray n w0 M N gX K Fin σ' ((d,v)::kv) sd Z' pV):DG P l.toArray n w0 M N gX K Fin (i::σ') kv sd Z ls:=
 DG.c ho hg hs hk hd hK fun w R h1 h2 h3=>by grind
theorem DG.cs(ho:pW l i=some ⟨none,op,ty,pos,af,g⟩) (hg:gd l.toArray kv ⟨none,op,ty,pos,af,g⟩=some true) (hs:bO op=false) (hk:known kv op=true) (hK:K i=.chain)
  (h:∀w R,N≤w.heap.size→St w0 M Z w (ls++R)→(∀p∈sd,p.2∈R)→OX P ⟨none,op,ty,pos,af,g⟩ n kv w fun kh w'=>w.heap.size≤w'.heap.size∧kh=kv∧∃Z' L pV,St w0 M Z' w' L∧L=pV++R∧(∀A∈gX,A∈pV)∧
   DG P l.toArray n w0 M N gX K Fin σ' kv sd Z' pV):DG P l.toArray n w0 M N gX K Fin (i::σ') kv sd Z ls:=
 ⟨⟨none,op,ty,pos,af,g⟩,by grind [pa],hs,rfl,.inr ⟨hg,hk,.inr (.inr ⟨hK,fun w R h1 h2 h3=>(h w R h1 h2 h3).2.2.2.mono fun v w' ⟨a,_,Z',L,pV,x3,x4,x5,x6⟩=>⟨a,Z',pV,by rw [← x4];exact x3,x5,x6⟩⟩)⟩⟩
end
/-! ### loops of a known number of rounds -/
section
variable {P:Program}{c:Code}{Q:Exit→Act→World→Prop}{n m:Nat}{kv:KV}{w:World}
end
end Go.Rc

namespace Go.Rc
open Go
section
variable {P:Program}{kv:KV}{w:World}{T U ty:TypeId}{x y:Operand}
theorem ur{e:TypeId}(hT:P.underlying T=some (.pointer e)) (a:Option Addr):(Op.equalIn 10000 T (.pointer a) (.pointer none)).run P w=.ok (decide (a=none)) w:=by
 rw [show(10000:Nat)=9999+1 from rfl]
 unfold Op.equalIn
 cases a <;> simp [run_underlying hT]
theorem Gm{e:TypeId}(hT:P.underlying T=some (.slice e)) (a:Option Addr) (n c:Nat):(Op.equalIn 10000 T (.slice a n c) (.slice none 0 0)).run P w=.ok (decide (a=none)) w:=by
 rw [show(10000:Nat)=9999+1 from rfl]
 unfold Op.equalIn
 cases a <;> simp [run_underlying hT]
theorem Gn{e:Array String}(hT:∃ms,P.underlying T=some (.interface ms)):(Op.equalIn 10000 T .nilIface .nilIface).run P w=.ok true w:=by
 obtain⟨ms,hT⟩:=hT;rw [show(10000:Nat)=9999+1 from rfl]
 unfold Op.equalIn
 simp [run_underlying hT]
theorem PV.V4{e:TypeId}{a:Option Addr}(hT:P.underlying T=some (.pointer e)) (hx:ev kv x=some (.pointer a)) (hy:ev kv y=some (.pointer none)):PV P (.binOp .eql T x y U) ty kv w (.bool (decide (a=none))):=
 ⟨rfl,by simp [known,opers,hx,hy],fun _ _ _ _=>by
  simp only [execOp,aJ hx,aJ hy]
  simp [eqGuard,binOp,Op.equal,Op.maxDepth,ur hT]⟩
theorem PV.V5{e:TypeId}{a:Option Addr}(hT:P.underlying T=some (.pointer e)) (hx:ev kv x=some (.pointer a)) (hy:ev kv y=some (.pointer none)):PV P (.binOp .neq T x y U) ty kv w (.bool (decide (a≠none))):=
 ⟨rfl,by simp [known,opers,hx,hy],fun _ _ _ _=>by
  simp only [execOp,aJ hx,aJ hy]
  simp [eqGuard,binOp,Op.equal,Op.maxDepth,ur hT]⟩
theorem PV.V6{e:TypeId}{a:Option Addr}{n c:Nat}(hT:P.underlying T=some (.slice e)) (hx:ev kv x=some (.slice a n c)) (hy:ev kv y=some (.slice none 0 0)):PV P (.binOp .eql T x y U) ty kv w (.bool (decide (a=none))):=
 ⟨rfl,by simp [known,opers,hx,hy],fun _ _ _ _=>by
  simp only [execOp,aJ hx,aJ hy]
  simp [eqGuard,binOp,Op.equal,Op.maxDepth,Gm hT]⟩
theorem PV.V7(hT:∃ms,P.underlying T=some (.interface ms)) (hx:ev kv x=some .nilIface):PV P (.binOp .neq T x (.const .nilIface) U) ty kv w (.bool false):=by
 have hy:ev kv (.const .nilIface)=some .nilIface:=rfl;refine⟨rfl,by simp [known,opers,hx,hy],fun _ _ _ _=>?_⟩;simp only [execOp,aJ hx,aJ hy]
 simp [eqGuard,binOp,Op.equal,Op.maxDepth,Gn (e:=#[]) hT]
end
section
variable {α:Type}{R:RR α}{P:Program}{E k c b:Nat}{a:Option Addr}{u u':α}{Z:Nat→Prop}{w:World}
variable {N:Nat}{kv:KV}{K:KV→World→Prop}{ty:TypeId}{pos:String}{af:Array Edge}{g:Option (Nat × Bool)}{T:TypeId}
theorem OX.DI{d:Tmp}{n:Nat}{E k:Nat}(hT:P.underlying T=some (.slice E)) (hs:∀w,(sizeOf E).run P w=.ok k w) (hd:Nat.blt d n=true)
  (h:∀b w',FW w w' b→cW w' b E []→K ((d,.slice (some ⟨b,0,none⟩) 0 0)::kv) w'):OX P ⟨some d,.buildSlice T 0 #[],ty,pos,af,g⟩ n kv w K:=by
 refine⟨rfl,hd,rfl,?_⟩
 have hr:(execOp (lX kv) ⟨some d,.buildSlice T 0 #[],ty,pos,af,g⟩).run P w=.ok (.value (.slice (some ⟨w.heap.size,0,none⟩) 0 0)) (w.alloc (.cells #[] E)):=by
  simp only [execOp,Instr.buildSlice,Sem.run_bind,run_underlying hT,Result.andThen_ok,hs w,Nat.zero_mul];rw [if_neg (by omega)];simp only [if_true,Sem.run_bind,Sem.run_pure,Result.andThen_ok]
  have hf:Instr.fill (fun i=>some (i*k,k)) (Array.map (fun x=>(#[]:Array Value)[x % (#[]:Array Value).size]!) (Array.range 0)) (Array.map (fun x:Nat × Operand=>(x.fst,lX kv x.snd)) #[]).toList=some #[]:=by simp [Instr.fill]
  rw [hf]
  rfl
 rw [hr];exact h _ _ ⟨mx _ _,Nat.le_refl _,by simp⟩ (ox _ _)
theorem OR.V8{α:Type}{R:α→List Value→Prop}{base b E k:Nat}{w:World}(h:cW w b E []) (hb:base≤b):OR base w E k R (some ⟨b,0,none⟩) 0 0 []:=
 ⟨rfl,[],rfl,by simp,by grind [OL.blk],fun i y r h1 h2=>by simp at h1⟩
theorem Rd.y7{α:Type}{R:RR α}{k n c:Nat}{Z:Nat→Prop}{w:World}{xs:List α}(h:Rd R k Z w none n c xs):xs=[]:=by
 obtain⟨hn,rows,hl,hk,h1,hx⟩:=h
 rcases h1.at_ with⟨_,h2,_⟩ | ⟨b,o,h2,_⟩
 ·
  grind
 cases h2
end
theorem Calls.cap{P:Program}{f:FuncId}{r c:Value}{w:World}{Q:Ending→World→Prop}(h:Calls P f #[r,c] w Q):Calls P f (#[]++[r].toArray++#[c]) w Q:=by grind
theorem Calls.recv{P:Program}{f:FuncId}{v r:Value}{w:World}{Q:Ending→World→Prop}(h:Calls P f #[v,r] w Q):Calls P f (#[v]++[r].toArray++#[]) w Q:=by grind
end Go.Rc

namespace Go.Rc
open Go
section
variable {P:Program}{n:Nat}{kv:KV}{w:World}{d:Tmp}{ty:TypeId}{pos:String}{af:Array Edge}{g:Option (Nat × Bool)}
theorem WL.a{ops:Array Oper}{Q:Exit→Act→World→Prop}{rest:List Oper}{op:Op}{v:Value}(next:WL P ops Q rest n ((d,v)::kv) w)
  (hg:gd ops kv ⟨some d,op,ty,pos,af,g⟩=some true:=by rfl) (hd:Nat.blt d n=true:=by rfl)
  (h:PV P op ty kv w v:=by
   first
   | with_reducible exact PV.mv (by with_unfolding_all rfl) | with_reducible exact PV.ext (by with_unfolding_all rfl) (by with_unfolding_all rfl) | with_reducible exact PV.fa kj.h (by with_unfolding_all rfl) | with_reducible exact PV.as (by with_unfolding_all rfl) | with_reducible exact PV.Vw (by with_unfolding_all rfl) | with_reducible exact PV.jM Kr.h (by with_unfolding_all rfl) | with_reducible exact PV.not (by with_unfolding_all rfl)
   | with_reducible exact PV.eqi (by with_unfolding_all rfl) (by with_unfolding_all rfl) | with_reducible exact PV.nei (by with_unfolding_all rfl) (by with_unfolding_all rfl) | with_reducible exact PV.lss (by with_unfolding_all rfl) (by with_unfolding_all rfl) | with_reducible exact PV.leq (by with_unfolding_all rfl) (by with_unfolding_all rfl) | with_reducible exact PV.gtr (by with_unfolding_all rfl) (by with_unfolding_all rfl) | with_reducible exact PV.geq (by with_unfolding_all rfl) (by with_unfolding_all rfl)
   | with_reducible exact PV.eqs (by with_unfolding_all rfl) (by with_unfolding_all rfl) | with_reducible exact PV.nes (by with_unfolding_all rfl) (by with_unfolding_all rfl) | with_reducible exact PV.Kp LH.h (by with_unfolding_all rfl) (by with_unfolding_all rfl) | with_reducible exact PV.Nj LH.h (by with_unfolding_all rfl) (by with_unfolding_all rfl)
   | with_reducible exact PV.NI (by with_unfolding_all rfl) (by with_unfolding_all rfl) (by with_unfolding_all rfl) | with_reducible exact PV.NJ (by with_unfolding_all rfl) (by with_unfolding_all rfl) (by with_unfolding_all rfl)
   | with_reducible exact PV.add (by with_unfolding_all rfl) (by with_unfolding_all rfl) (by omega) (by omega) | with_reducible exact PV.sub (by with_unfolding_all rfl) (by with_unfolding_all rfl) (by omega) (by omega) | with_reducible exact PV.mul (by with_unfolding_all rfl) (by with_unfolding_all rfl) (by omega) (by omega)
   | with_reducible exact PV.rem (by with_unfolding_all rfl) (by with_unfolding_all rfl) (by omega) | with_reducible exact PV.quo (by with_unfolding_all rfl) (by with_unfolding_all rfl) (by omega) (by omega) (by omega) | with_reducible exact PV.cat (by with_unfolding_all rfl) (by with_unfolding_all rfl) (by omega)
   | with_reducible exact PV.zero VS.h | with_reducible exact PV.V4 qp.h (by with_unfolding_all rfl) (by with_unfolding_all rfl) | with_reducible exact PV.V5 qp.h (by with_unfolding_all rfl) (by with_unfolding_all rfl) | with_reducible exact PV.V6 qp.h (by with_unfolding_all rfl) (by with_unfolding_all rfl) | with_reducible exact PV.yG qp.h (by with_unfolding_all rfl) | with_reducible exact PV.Rv (by with_unfolding_all rfl) (by with_unfolding_all rfl) | with_reducible exact PV.N5 (by with_unfolding_all rfl) (by with_unfolding_all rfl)) :
  WL P ops Q (⟨some d,op,ty,pos,af,g⟩::rest) n kv w:=WL.p hg hd h next
theorem DW.a{ops:Array Oper}{i:Nat}{C:World→Prop}{T:Nat→World→World→Prop}{E:Nat→Option (Value→World→Prop)}{Fin:KV→World→Prop}{rest:List Oper}{F:mG}{op:Op}{v:Value}
  (next:DW P ops n C T E Fin (i+1) rest ((d,v)::kv) F)
  (hg:gd ops kv ⟨some d,op,ty,pos,af,g⟩=some true:=by rfl) (hs:bO op=false:=by rfl) (hk:known kv op=true:=by rfl) (hd:Nat.blt d n=true:=by rfl) (hE:E i=none:=by rfl)
  (h:∀w,C w→PV P op ty kv w v:=by
   intro _ hC
   first
   | with_reducible exact PV.mv (by with_unfolding_all rfl) | with_reducible exact PV.ext (by with_unfolding_all rfl) (by with_unfolding_all rfl) | with_reducible exact PV.fa kj.h (by with_unfolding_all rfl) | with_reducible exact PV.as (by with_unfolding_all rfl) | with_reducible exact PV.Vw (by with_unfolding_all rfl) | with_reducible exact PV.jM Kr.h (by with_unfolding_all rfl) | with_reducible exact PV.not (by with_unfolding_all rfl)
   | with_reducible exact PV.eqi (by with_unfolding_all rfl) (by with_unfolding_all rfl) | with_reducible exact PV.nei (by with_unfolding_all rfl) (by with_unfolding_all rfl) | with_reducible exact PV.lss (by with_unfolding_all rfl) (by with_unfolding_all rfl) | with_reducible exact PV.leq (by with_unfolding_all rfl) (by with_unfolding_all rfl) | with_reducible exact PV.gtr (by with_unfolding_all rfl) (by with_unfolding_all rfl) | with_reducible exact PV.geq (by with_unfolding_all rfl) (by with_unfolding_all rfl)
   | with_reducible exact PV.eqs (by with_unfolding_all rfl) (by with_unfolding_all rfl) | with_reducible exact PV.nes (by with_unfolding_all rfl) (by with_unfolding_all rfl) | with_reducible exact PV.Kp LH.h (by with_unfolding_all rfl) (by with_unfolding_all rfl) | with_reducible exact PV.Nj LH.h (by with_unfolding_all rfl) (by with_unfolding_all rfl)
   | with_reducible exact PV.NI (by with_unfolding_all rfl) (by with_unfolding_all rfl) (by with_unfolding_all rfl) | with_reducible exact PV.NJ (by with_unfolding_all rfl) (by with_unfolding_all rfl) (by with_unfolding_all rfl)
   | with_reducible exact PV.add (by with_unfolding_all rfl) (by with_unfolding_all rfl) (by omega) (by omega) | with_reducible exact PV.sub (by with_unfolding_all rfl) (by with_unfolding_all rfl) (by omega) (by omega) | with_reducible exact PV.mul (by with_unfolding_all rfl) (by with_unfolding_all rfl) (by omega) (by omega)
   | with_reducible exact PV.rem (by with_unfolding_all rfl) (by with_unfolding_all rfl) (by omega) | with_reducible exact PV.quo (by with_unfolding_all rfl) (by with_unfolding_all rfl) (by omega) (by omega) (by omega) | with_reducible exact PV.cat (by with_unfolding_all rfl) (by with_unfolding_all rfl) (by omega)
   | with_reducible exact PV.zero VS.h | with_reducible exact PV.V4 qp.h (by with_unfolding_all rfl) (by with_unfolding_all rfl) | with_reducible exact PV.V5 qp.h (by with_unfolding_all rfl) (by with_unfolding_all rfl) | with_reducible exact PV.V6 qp.h (by with_unfolding_all rfl) (by with_unfolding_all rfl) | with_reducible exact PV.yG qp.h (by with_unfolding_all rfl) | with_reducible exact PV.Rv (by with_unfolding_all rfl) (by with_unfolding_all rfl) | with_reducible exact PV.N5 (by with_unfolding_all rfl) (by with_unfolding_all rfl)) :
  DW P ops n C T E Fin i (⟨some d,op,ty,pos,af,g⟩::rest) kv F:=DW.p hg hs hk hd hE h next
end
section
variable {P:Program}{n N:Nat}{w0:World}{M Z:Nat→Prop}{ls gX:List As}{Fin:KV→World→Prop}{l:List Oper}{i:Nat}{σ':List Nat}{kv:KV}{sd:List (Nat × As)}{K:Nat→Kd}{d:Tmp}{op:Op}{ty:TypeId}{pos:String}{af:Array Edge}{g:Option (Nat × Bool)}
theorem DG.a{v:Value}(next:DG P l.toArray n w0 M N gX K Fin σ' ((d,v)::kv) sd Z ls)
  (ho:pW l i=some ⟨some d,op,ty,pos,af,g⟩:=by rfl) (hg:gd l.toArray kv ⟨some d,op,ty,pos,af,g⟩=some true:=by rfl) (hs:bO op=false:=by rfl) (hk:known kv op=true:=by rfl) (hd:Nat.blt d n=true:=by rfl) (hK:(K i).pc=true:=by rfl)
  (h:∀w Zx R,N≤w.heap.size→St w0 M Zx w R→(∀A∈gX,A∈R)→PV P op ty kv w v:=by
   intro _ _ _ _ _ _
   first
   | with_reducible exact PV.mv (by with_unfolding_all rfl) | with_reducible exact PV.ext (by with_unfolding_all rfl) (by with_unfolding_all rfl) | with_reducible exact PV.fa kj.h (by with_unfolding_all rfl) | with_reducible exact PV.as (by with_unfolding_all rfl) | with_reducible exact PV.Vw (by with_unfolding_all rfl) | with_reducible exact PV.jM Kr.h (by with_unfolding_all rfl) | with_reducible exact PV.not (by with_unfolding_all rfl)
   | with_reducible exact PV.eqi (by with_unfolding_all rfl) (by with_unfolding_all rfl) | with_reducible exact PV.nei (by with_unfolding_all rfl) (by with_unfolding_all rfl) | with_reducible exact PV.lss (by with_unfolding_all rfl) (by with_unfolding_all rfl) | with_reducible exact PV.leq (by with_unfolding_all rfl) (by with_unfolding_all rfl) | with_reducible exact PV.gtr (by with_unfolding_all rfl) (by with_unfolding_all rfl) | with_reducible exact PV.geq (by with_unfolding_all rfl) (by with_unfolding_all rfl)
   | with_reducible exact PV.eqs (by with_unfolding_all rfl) (by with_unfolding_all rfl) | with_reducible exact PV.nes (by with_unfolding_all rfl) (by with_unfolding_all rfl) | with_reducible exact PV.Kp LH.h (by with_unfolding_all rfl) (by with_unfolding_all rfl) | with_reducible exact PV.Nj LH.h (by with_unfolding_all rfl) (by with_unfolding_all rfl)
   | with_reducible exact PV.NI (by with_unfolding_all rfl) (by with_unfolding_all rfl) (by with_unfolding_all rfl) | with_reducible exact PV.NJ (by with_unfolding_all rfl) (by with_unfolding_all rfl) (by with_unfolding_all rfl)
   | with_reducible exact PV.add (by with_unfolding_all rfl) (by with_unfolding_all rfl) (by omega) (by omega) | with_reducible exact PV.sub (by with_unfolding_all rfl) (by with_unfolding_all rfl) (by omega) (by omega) | with_reducible exact PV.mul (by with_unfolding_all rfl) (by with_unfolding_all rfl) (by omega) (by omega)
   | with_reducible exact PV.rem (by with_unfolding_all rfl) (by with_unfolding_all rfl) (by omega) | with_reducible exact PV.quo (by with_unfolding_all rfl) (by with_unfolding_all rfl) (by omega) (by omega) (by omega) | with_reducible exact PV.cat (by with_unfolding_all rfl) (by with_unfolding_all rfl) (by omega)
   | with_reducible exact PV.zero VS.h | with_reducible exact PV.V4 qp.h (by with_unfolding_all rfl) (by with_unfolding_all rfl) | with_reducible exact PV.V5 qp.h (by with_unfolding_all rfl) (by with_unfolding_all rfl) | with_reducible exact PV.V6 qp.h (by with_unfolding_all rfl) (by with_unfolding_all rfl) | with_reducible exact PV.yG qp.h (by with_unfolding_all rfl) | with_reducible exact PV.Rv (by with_unfolding_all rfl) (by with_unfolding_all rfl) | with_reducible exact PV.N5 (by with_unfolding_all rfl) (by with_unfolding_all rfl)) :
  DG P l.toArray n w0 M N gX K Fin (i::σ') kv sd Z ls:=DG.p ho hg hs hk hd hK h next
end
/-! calls that own nothing -/
section
variable {P:Program}{n:Nat}{kv:KV}{w:World}{d:Tmp}{ty:TypeId}{pos:String}{af:Array Edge}{g:Option (Nat × Bool)}{w0:World}{M Z:Nat→Prop}{ls:List As}{f:FuncId}{xs:List Operand}{sS:Array TypeId}{args:List Value}{u u':Value}
theorem WL.c1 [hf:jh P f] {ops:Array Oper}{Q:Exit→Act→World→Prop}{rest:List Oper}(hc:Calls P f args.toArray w fun e w'=>e=.returned u'∧aV [] w w') (hv:u'=u) (st:St w0 M Z w ls)
  (next:∀w',aV [] w w'→St w0 M Z w' ls→WL P ops Q rest n ((d,u)::kv) w')
  (hg:gd ops kv ⟨some d,.call {callee:=.value (.func f),args:=xs.toArray,argTypes:=sS},ty,pos,af,g⟩=some true:=by rfl) (hd:Nat.blt d n=true:=by rfl) (hx:xs.map (ev kv)=args.map some:=by rfl) :
  WL P ops Q (⟨some d,.call {callee:=.value (.func f),args:=xs.toArray,argTypes:=sS},ty,pos,af,g⟩::rest) n kv w:=
 WL.go hg (OX.call hf.h hd hx (hc.mono fun _ w' ⟨he,hs⟩=>⟨u,by rw [he,hv],next w' hs (st.step hs)⟩))
theorem WL.c0 [hf:jh P f] {ops:Array Oper}{Q:Exit→Act→World→Prop}{rest:List Oper}(hc:Calls P f args.toArray w fun e w'=>e=.returned u∧aV [] w w') (st:St w0 M Z w ls)
  (next:∀w',aV [] w w'→St w0 M Z w' ls→WL P ops Q rest n ((d,u)::kv) w')
  (hg:gd ops kv ⟨some d,.call {callee:=.value (.func f),args:=xs.toArray,argTypes:=sS},ty,pos,af,g⟩=some true:=by rfl) (hd:Nat.blt d n=true:=by rfl) (hx:xs.map (ev kv)=args.map some:=by rfl) :
  WL P ops Q (⟨some d,.call {callee:=.value (.func f),args:=xs.toArray,argTypes:=sS},ty,pos,af,g⟩::rest) n kv w:=WL.c1 hc rfl st next hg hd hx
theorem DW.c1 [hf:jh P f] {ops:Array Oper}{i N:Nat}{T:Nat→World→World→Prop}{E:Nat→Option (Value→World→Prop)}{Fin:KV→World→Prop}{rest:List Oper}{F:mG}
  (hc:∀wx,(N≤wx.heap.size∧St w0 M Z wx ls)→FX (eK ⟨some d,.call {callee:=.value (.func f),args:=xs.toArray,argTypes:=sS},ty,pos,af,g⟩) F wx→Calls P f args.toArray wx fun e w'=>e=.returned u'∧aV [] wx w') (hv:u'=u)
  (next:DW P ops n (fun wx=>N≤wx.heap.size∧St w0 M Z wx ls) T E Fin (i+1) rest ((d,u)::kv) ((i,fun _=>u=u)::F))
  (hg:gd ops kv ⟨some d,.call {callee:=.value (.func f),args:=xs.toArray,argTypes:=sS},ty,pos,af,g⟩=some true:=by rfl) (hk:known kv (.call {callee:=.value (.func f),args:=xs.toArray,argTypes:=sS})=true:=by rfl) (hd:Nat.blt d n=true:=by rfl)
  (hE:E i=some (fun v _=>v=u):=by rfl) (hT:∀w w',aV [] w w'→T i w w':=by exact fun _ _ h=>h.p0) (hx:xs.map (ev kv)=args.map some:=by rfl) :
  DW P ops n (fun wx=>N≤wx.heap.size∧St w0 M Z wx ls) T E Fin i (⟨some d,.call {callee:=.value (.func f),args:=xs.toArray,argTypes:=sS},ty,pos,af,g⟩::rest) kv F:=
 DW.e hg rfl hk hd hE (fun wx hC hF=>OX.call hf.h hd hx ((hc wx hC hF).mono fun _ w' ⟨he,hs⟩=>⟨u,by rw [he,hv],⟨Nat.le_trans hC.1 hs.size,hC.2.step hs⟩,hT _ _ hs,u,rfl,rfl⟩)) (by rintro _ _ _ rfl;exact next)
theorem DW.c0 [hf:jh P f] {ops:Array Oper}{i N:Nat}{T:Nat→World→World→Prop}{E:Nat→Option (Value→World→Prop)}{Fin:KV→World→Prop}{rest:List Oper}{F:mG}
  (hc:∀wx,(N≤wx.heap.size∧St w0 M Z wx ls)→FX (eK ⟨some d,.call {callee:=.value (.func f),args:=xs.toArray,argTypes:=sS},ty,pos,af,g⟩) F wx→Calls P f args.toArray wx fun e w'=>e=.returned u∧aV [] wx w')
  (next:DW P ops n (fun wx=>N≤wx.heap.size∧St w0 M Z wx ls) T E Fin (i+1) rest ((d,u)::kv) ((i,fun _=>u=u)::F))
  (hg:gd ops kv ⟨some d,.call {callee:=.value (.func f),args:=xs.toArray,argTypes:=sS},ty,pos,af,g⟩=some true:=by rfl) (hk:known kv (.call {callee:=.value (.func f),args:=xs.toArray,argTypes:=sS})=true:=by rfl) (hd:Nat.blt d n=true:=by rfl)
  (hE:E i=some (fun v _=>v=u):=by rfl) (hT:∀w w',aV [] w w'→T i w w':=by exact fun _ _ h=>h.p0) (hx:xs.map (ev kv)=args.map some:=by rfl) :
  DW P ops n (fun wx=>N≤wx.heap.size∧St w0 M Z wx ls) T E Fin i (⟨some d,.call {callee:=.value (.func f),args:=xs.toArray,argTypes:=sS},ty,pos,af,g⟩::rest) kv F:=DW.c1 hc rfl next hg hk hd hE hT hx
end
/-! operations with effects, and what is owned behind them -/
section
variable {P:Program}{n:Nat}{kv:KV}{w:World}{d:Tmp}{ty:TypeId}{pos:String}{af:Array Edge}{g:Option (Nat × Bool)}{w0:World}{M Z:Nat→Prop}{ls:List As}{ops:Array Oper}{Q:Exit→Act→World→Prop}{rest:List Oper}
theorem WL.al{T:TypeId}{l:List Value} [hT:Ia P T l] (st:St w0 M Z w ls) (next:∀b w',FW w w' b→cW w' b T l→St w0 M Z w' (As.blk b T l::ls)→WL P ops Q rest n ((d,.pointer (some ⟨b,0,none⟩))::kv) w')
  (hg:gd ops kv ⟨some d,.alloc T,ty,pos,af,g⟩=some true:=by rfl) (hd:Nat.blt d n=true:=by rfl):WL P ops Q (⟨some d,.alloc T,ty,pos,af,g⟩::rest) n kv w:=
 WL.go hg (OX.alloc hT.h hd fun b w' nw hb=>next b w' nw hb (st.eF nw hb))
theorem WL.mm{κ:Type} [DecidableEq κ] (enc:κ→Value) {T:TypeId}(st:St w0 M Z w ls) (next:∀b w',FW w w' b→KM enc w' b []→St w0 M Z w' (As.map enc b []::ls)→WL P ops Q rest n ((d,.map (some b))::kv) w')
  (hg:gd ops kv ⟨some d,.makeMap T none,ty,pos,af,g⟩=some true:=by rfl) (hd:Nat.blt d n=true:=by rfl):WL P ops Q (⟨some d,.makeMap T none,ty,pos,af,g⟩::rest) n kv w:=
 WL.go hg (OX.makeMap enc hd fun b w' nw hb=>next b w' nw hb (st.RA nw hb))
theorem WL.s1{x y:Operand}{j b e U:Nat}{cs LK:List Value}{v:Value} [hT:Nk P U 1] (fr:St w0 M Z w (As.blk b e cs::ls)) (next:∀w',aV [b] w w'→St w0 M Z w' (As.blk b e LK::ls)→WL P ops Q rest n kv w')
  (hg:gd ops kv ⟨none,.store U x y,ty,pos,af,g⟩=some true:=by rfl) (hx:ev kv x=some (.pointer (some ⟨b,0+j,none⟩)):=by rfl) (hy:ev kv y=some v:=by rfl)
  (hj:nth cs j≠none:=by first | (simp [nth];done) | exact nns rfl) (h1:v.oneCell'=true:=by rfl) (hl:FR cs j v=LK:=by rfl):WL P ops Q (⟨none,.store U x y,ty,pos,af,g⟩::rest) n kv w:=
 WL.go hg (OX.st hT.h (As.gb fr.g0) hx hy hj h1 hl fun w' s _ hb=>next w' s (fr.Gh s hb))
theorem WL.s0{x y:Operand}{b e U:Nat}{cs LK:List Value}{v:Value} [hT:Nk P U 1] (fr:St w0 M Z w (As.blk b e cs::ls)) (next:∀w',aV [b] w w'→St w0 M Z w' (As.blk b e LK::ls)→WL P ops Q rest n kv w')
  (hg:gd ops kv ⟨none,.store U x y,ty,pos,af,g⟩=some true:=by rfl) (hx:ev kv x=some (.pointer (some ⟨b,0,none⟩)):=by rfl) (hy:ev kv y=some v:=by rfl)
  (hj:nth cs 0≠none:=by first | (simp [nth];done) | exact nns rfl) (h1:v.oneCell'=true:=by rfl) (hl:FR cs 0 v=LK:=by rfl):WL P ops Q (⟨none,.store U x y,ty,pos,af,g⟩::rest) n kv w:=
 WL.go hg (OX.bd hT.h (As.gb fr.g0) hx hy hj h1 hl fun w' s _ hb=>next w' s (fr.Gh s hb))
theorem WL.ap{α:Type}{R:RR α}{x y:Operand}{E k nn c m c2 bytes U:Nat}{a a2:Option Addr}{xs ys:List α}{A:Nat→Prop} [hT:N7 P U E k bytes] (hs:ev kv x=some (.slice a nn c)) (hx:ev kv y=some (.slice a2 m c2)) (fr:St w0 M Z w (As.os R E k a nn c xs::ls)) (Dz:SR A w k (R.r Z w) a2 m c2 ys)
  (next:∀a' c' w',(∀x∈aI a',x∈aI a∨w.heap.size≤x)→(a'=none→a=none∧m=0)→St w0 M Z w' (As.os R E k a' (nn+m) c' (xs++ys)::ls)→WL P ops Q rest n ((d,.slice a' (nn+m) c')::kv) w')
  (dN:(nn+m)*bytes≤140737488355328:=by omega) (fm:nn+m≤140737488355328:=by omega)
  (hg:gd ops kv ⟨some d,.call {callee:=.builtin .append,args:=#[x,y],argTypes:=#[U,U]},ty,pos,af,g⟩=some true:=by rfl) (hd:Nat.blt d n=true:=by rfl) :
  WL P ops Q (⟨some d,.call {callee:=.builtin .append,args:=#[x,y],argTypes:=#[U,U]},ty,pos,af,g⟩::rest) n kv w:=
 WL.go hg (OX.oC hT.h hd hs hx (As.gs fr.g0) Dz dN fm (Nat.zero_le _) fun a' c' w' h s hf hn=>next a' c' w' hf hn (fr.jm s h hf))
end
end Go.Rc

namespace Go.Rc
open Go
theorem gW{p q:Prop}(g:p) (h:¬p:=by first | (simp;done) | (simp;omega) | (simp_all;done) | (simp_all;omega)):q:=absurd g h
section
variable {P:Program}{n:Nat}{kv:KV}{w:World}{d:Tmp}{ty:TypeId}{pos:String}{af:Array Edge}{g:Option (Nat × Bool)}
theorem WL.q{ops:Array Oper}{Q:Exit→Act→World→Prop}{rest:List Oper}{op:Op}{v:Value}(h:PV P op ty kv w v) (next:WL P ops Q rest n ((d,v)::kv) w)
  (hg:gd ops kv ⟨some d,op,ty,pos,af,g⟩=some true:=by rfl) (hd:Nat.blt d n=true:=by rfl):WL P ops Q (⟨some d,op,ty,pos,af,g⟩::rest) n kv w:=WL.p hg hd h next
theorem WL.z{ops:Array Oper}{Q:Exit→Act→World→Prop}{rest:List Oper}{o:Oper}(next:WL P ops Q rest n (nP kv o.dst undef) w)
  (hg:gd ops kv o=some false:=by rfl) (hd:ub n o.dst=true:=by rfl):WL P ops Q (o::rest) n kv w:=WL.no hg hd next
theorem DW.q{ops:Array Oper}{i:Nat}{C:World→Prop}{T:Nat→World→World→Prop}{E:Nat→Option (Value→World→Prop)}{Fin:KV→World→Prop}{rest:List Oper}{F:mG}{op:Op}{v:Value}
  (h:∀w,C w→PV P op ty kv w v) (next:DW P ops n C T E Fin (i+1) rest ((d,v)::kv) F)
  (hg:gd ops kv ⟨some d,op,ty,pos,af,g⟩=some true:=by rfl) (hs:bO op=false:=by rfl) (hk:known kv op=true:=by rfl) (hd:Nat.blt d n=true:=by rfl) (hE:E i=none:=by rfl) :
  DW P ops n C T E Fin i (⟨some d,op,ty,pos,af,g⟩::rest) kv F:=DW.p hg hs hk hd hE h next
theorem DW.z{ops:Array Oper}{i:Nat}{C:World→Prop}{T:Nat→World→World→Prop}{E:Nat→Option (Value→World→Prop)}{Fin:KV→World→Prop}{rest:List Oper}{F:mG}{op:Op}
  (next:DW P ops n C T E Fin (i+1) rest ((d,undef)::kv) F)
  (hg:gd ops kv ⟨some d,op,ty,pos,af,g⟩=some false:=by rfl) (hs:bO op=false:=by rfl) (hd:Nat.blt d n=true:=by rfl) :
  DW P ops n C T E Fin i (⟨some d,op,ty,pos,af,g⟩::rest) kv F:=DW.no hg hs hd next
end
section
variable {P:Program}{n N:Nat}{w0:World}{M Z:Nat→Prop}{ls gX:List As}{Fin:KV→World→Prop}{l:List Oper}{i:Nat}{σ':List Nat}{kv:KV}{sd:List (Nat × As)}{K:Nat→Kd}{d:Tmp}{op:Op}{ty:TypeId}{pos:String}{af:Array Edge}{g:Option (Nat × Bool)}
theorem DG.q{v:Value}(ho:pW l i=some ⟨some d,op,ty,pos,af,g⟩) (h:∀w Zx R,N≤w.heap.size→St w0 M Zx w R→(∀A∈gX,A∈R)→PV P op ty kv w v) (next:DG P l.toArray n w0 M N gX K Fin σ' ((d,v)::kv) sd Z ls)
  (hg:gd l.toArray kv ⟨some d,op,ty,pos,af,g⟩=some true:=by rfl) (hs:bO op=false:=by rfl) (hk:known kv op=true:=by rfl) (hd:Nat.blt d n=true:=by rfl) (hK:(K i).pc=true:=by rfl) :
  DG P l.toArray n w0 M N gX K Fin (i::σ') kv sd Z ls:=DG.p ho hg hs hk hd hK h next
theorem DG.z(ho:pW l i=some ⟨some d,op,ty,pos,af,g⟩) (next:DG P l.toArray n w0 M N gX K Fin σ' ((d,undef)::kv) sd Z ls)
  (hg:gd l.toArray kv ⟨some d,op,ty,pos,af,g⟩=some false:=by rfl) (hs:bO op=false:=by rfl) (hd:Nat.blt d n=true:=by rfl) :
  DG P l.toArray n w0 M N gX K Fin (i::σ') kv sd Z ls:=DG.no ho hg hs hd next
end
section
variable {w0 w:World}{M Z:Nat→Prop}{l:List As}{b T:Nat}{cs:List Value}
theorem St.b0(h:St w0 M Z w (As.blk b T cs::l)):w.rangeAt b 0 cs:=cW.range (As.gb h.g0)
theorem St.b1{A0:As}(h:St w0 M Z w (A0::As.blk b T cs::l)):w.rangeAt b 0 cs:=cW.range (As.gb h.g1)
theorem St.b2{A0 A1:As}(h:St w0 M Z w (A0::A1::As.blk b T cs::l)):w.rangeAt b 0 cs:=cW.range (As.gb h.g2)
theorem St.b3{A0 A1 A2:As}(h:St w0 M Z w (A0::A1::A2::As.blk b T cs::l)):w.rangeAt b 0 cs:=cW.range (As.gb h.g3)
theorem St.b4{A0 A1 A2 A3:As}(h:St w0 M Z w (A0::A1::A2::A3::As.blk b T cs::l)):w.rangeAt b 0 cs:=cW.range (As.gb h.g4)
theorem St.b5{A0 A1 A2 A3 A4:As}(h:St w0 M Z w (A0::A1::A2::A3::A4::As.blk b T cs::l)):w.rangeAt b 0 cs:=cW.range (As.gb h.g5)
end
structure pL (q:Prop):Prop where
 out:q
theorem nx{p q:Prop}(next:q) (h:pL q→p:=by
  intro h
  first
   | with_reducible refine WL.nil ?_
   | with_reducible refine EX.agX ?_
   | with_reducible refine WC.seq ?_
   | with_reducible refine WC.region ?_
   | with_reducible refine WC.block ?_
   | with_reducible refine WC.skip ?_
   | with_reducible refine WC.exit ?_
   | with_reducible refine WC.ret ?_
   | with_reducible refine EX.aaL ?_
   | with_reducible refine EX.aaM ?_
   | with_reducible refine EX.agY ?_
   | with_reducible refine EX.Rg ?_
   | with_reducible refine EX.agZ ?_
   | refine WL.a ?_
   | refine WL.z ?_
   | refine DW.a ?_
   | refine DW.z ?_
   | refine DG.a ?_
  exact h.out):p:=h ⟨next⟩
theorem au{p q:Prop}(next:q) (h:pL q→p:=by intro h;(repeat (refine nx ?_));exact h.out):p:=h ⟨next⟩
theorem cS{p q:Prop}(next:q) (h:pL q→p:=by intro h;refine nx ?_;refine nx ?_;exact h.out):p:=h ⟨next⟩
theorem dE{p q:Prop}(next:q) (h:pL q→p:=by intro h;refine cS ?_;refine nx ?_;exact h.out):p:=h ⟨next⟩
theorem dW{p q:Prop}(next:q) (h:pL q→p:=by intro h;refine cS ?_;refine cS ?_;exact h.out):p:=h ⟨next⟩
theorem ek{p q:Prop}(next:q) (h:pL q→p:=by intro h;refine cS ?_;refine dE ?_;exact h.out):p:=h ⟨next⟩
theorem ji{p q:Prop}(next:q) (h:pL q→p:=by intro h;refine dE ?_;refine dE ?_;exact h.out):p:=h ⟨next⟩
theorem gN{p q:Prop}(next:q) (h:pL q→p:=by intro h;refine dE ?_;refine dW ?_;exact h.out):p:=h ⟨next⟩
theorem kQ{p q:Prop}(next:q) (h:pL q→p:=by intro h;refine dW ?_;refine dW ?_;exact h.out):p:=h ⟨next⟩
theorem qi{p q:Prop}(next:q) (h:pL q→p:=by intro h;refine dW ?_;refine ek ?_;exact h.out):p:=h ⟨next⟩
theorem nT{p q:Prop}(next:q) (h:pL q→p:=by intro h;refine ek ?_;refine ek ?_;exact h.out):p:=h ⟨next⟩
theorem vE{p q:Prop}(next:q) (h:pL q→p:=by intro h;refine ek ?_;refine ji ?_;exact h.out):p:=h ⟨next⟩
theorem bf{p q:Prop}(next:q) (h:pL q→p:=by intro h;refine ji ?_;refine ji ?_;exact h.out):p:=h ⟨next⟩
theorem CA{α:Type _}{a:α}{l m:List α}:(a::l)++m=a::(l++m):=rfl
theorem NA{α:Type _}{l:List α}:[]++l=l:=rfl
theorem CM{α β:Type _}{f:α→β}{a:α}{l:List α}:List.map f (a::l)=f a::List.map f l:=rfl
theorem NM{α β:Type _}{f:α→β}:List.map f []=[]:=rfl
theorem tG{g q:Prop}(h:g) (t:g→q:=by
  intro h
  first | rfl | (simp only [h];done) | (simp only [h];rfl) | (simp [h];done) | (simp;done) | (simp at h ⊢ <;> omega) | (simp <;> omega) | (simp [h] <;> omega) | (simp at h <;> omega)):q:=t h
theorem Sub.k2{kv r:KV}{t1 t2:Nat}{v1 v2:Value}(h1:Rc.look kv t1=some v1) (h2:Rc.look kv t2=some v2) (hr:Sub kv r):Sub kv ((t1,v1)::(t2,v2)::r):=⟨h1,h2,hr⟩
theorem Sub.k4{kv r:KV}{t1 t2 t3 t4:Nat}{v1 v2 v3 v4:Value}(h1:Rc.look kv t1=some v1) (h2:Rc.look kv t2=some v2) (h3:Rc.look kv t3=some v3) (h4:Rc.look kv t4=some v4) (hr:Sub kv r):Sub kv ((t1,v1)::(t2,v2)::(t3,v3)::(t4,v4)::r):=⟨h1,h2,h3,h4,hr⟩
section
variable {R L l ls:List As}{A0 A1 A2 A3:As}
theorem ay.k2(h:L=l++R):A0::A1::L=(A0::A1::l)++R:=ay.cons (ay.cons h)
theorem ay.k4(h:L=l++R):A0::A1::A2::A3::L=(A0::A1::A2::A3::l)++R:=ay.k2 (ay.k2 h)
theorem av.k4(h0:A0∈ls) (h1:A1∈ls) (h2:A2∈ls) (h3:A3∈ls) (t:∀A∈l,A∈ls):∀A∈A0::A1::A2::A3::l,A∈ls:=av.cons h0 (av.cons h1 (av.cons h2 (av.cons h3 t)))
end
inductive E2 {α β:Type}:α→α→β→β→Prop where
 | r {a:α}{b:β}:E2 a a b b
inductive E5 {α β γ δ ε:Type}:α→α→β→β→γ→γ→δ→δ→ε→ε→Prop where
 | r {a:α}{b:β}{c:γ}{d:δ}{e:ε}:E5 a a b b c c d d e e
inductive E6 {α β γ δ ε ζ:Type}:α→α→β→β→γ→γ→δ→δ→ε→ε→ζ→ζ→Prop where
 | r {a:α}{b:β}{c:γ}{d:δ}{e:ε}{f:ζ}:E6 a a b b c c d d e e f f
theorem E2.p1{α β:Type}{a a':α}{b b':β}(e:E2 a a' b b'):a=a':=by cases e;rfl
theorem E2.p2{α β:Type}{a a':α}{b b':β}(e:E2 a a' b b'):b=b':=by cases e;rfl
section
variable {α β γ δ ε ζ:Type}{a a':α}{b b':β}{c c':γ}{d d':δ}{e e':ε}{f f':ζ}
theorem E5.p(h:E5 a a' b b' c c' d d' e e'):a=a'∧b=b'∧c=c'∧d=d'∧e=e':=by cases h;exact⟨rfl,rfl,rfl,rfl,rfl⟩
theorem E6.p(h:E6 a a' b b' c c' d d' e e' f f'):a=a'∧b=b'∧c=c'∧d=d'∧e=e'∧f=f':=by cases h;exact⟨rfl,rfl,rfl,rfl,rfl,rfl⟩
end
section
variable {P:Program}{n N:Nat}{kv:KV}{w w0:World}{d:Tmp}{ty:TypeId}{pos:String}{af:Array Edge}{g:Option (Nat × Bool)}
theorem WP{ops:Array Oper}{Q:Exit→Act→World→Prop}{rest:List Oper}{op:Op}{v:Value}(e:E2 (gd ops kv ⟨some d,op,ty,pos,af,g⟩) (some true) (Nat.blt d n) true) (h:PV P op ty kv w v) (next:WL P ops Q rest n ((d,v)::kv) w):WL P ops Q (⟨some d,op,ty,pos,af,g⟩::rest) n kv w:=
 WL.p e.p1 e.p2 h next
theorem DP{ops:Array Oper}{i:Nat}{C:World→Prop}{T:Nat→World→World→Prop}{E:Nat→Option (Value→World→Prop)}{Fin:KV→World→Prop}{rest:List Oper}{F:mG}{op:Op}{v:Value}
  (e:E5 (gd ops kv ⟨some d,op,ty,pos,af,g⟩) (some true) (bO op) false (known kv op) true (Nat.blt d n) true (E i) none) (h:∀w,C w→PV P op ty kv w v) (next:DW P ops n C T E Fin (i+1) rest ((d,v)::kv) F) :
  DW P ops n C T E Fin i (⟨some d,op,ty,pos,af,g⟩::rest) kv F:=DW.p e.p.1 e.p.2.1 e.p.2.2.1 e.p.2.2.2.1 e.p.2.2.2.2 h next
theorem DQ{M Z:Nat→Prop}{ls gX:List As}{Fin:KV→World→Prop}{l:List Oper}{i:Nat}{σ':List Nat}{sd:List (Nat × As)}{K:Nat→Kd}{op:Op}{v:Value}
  (e:E6 (pW l i) (some ⟨some d,op,ty,pos,af,g⟩) (gd l.toArray kv ⟨some d,op,ty,pos,af,g⟩) (some true) (bO op) false (known kv op) true (Nat.blt d n) true ((K i).pc) true) (h:∀w Zx R,N≤w.heap.size→St w0 M Zx w R→(∀A∈gX,A∈R)→PV P op ty kv w v)
  (next:DG P l.toArray n w0 M N gX K Fin σ' ((d,v)::kv) sd Z ls):DG P l.toArray n w0 M N gX K Fin (i::σ') kv sd Z ls:=
 DG.p e.p.1 e.p.2.1 e.p.2.2.1 e.p.2.2.2.1 e.p.2.2.2.2.1 e.p.2.2.2.2.2 h next
end
theorem aj{a b:Prop}(x:a) (y:b):a∧b:=⟨x,y⟩
theorem V1{P:Program}{T ty:TypeId}{kv:KV}{w:World}(hT:One P T) {x:Operand}{b o j:Nat}{vs:List Value}{v:Value}(hc:w.rangeAt b o vs) (e:E2 (ev kv x) (some (.pointer (some ⟨b,o+j,none⟩))) (nth vs j) (some v)):PV P (.load T x) ty kv w v:=PV.ld1 hT hc e.p1 e.p2
theorem VA{P:Program}{T ty:TypeId}{kv:KV}{w:World}{k:Nat}(hT:wK P T k) {x:Operand}{b o:Nat}{vs:List Value}(hc:w.rangeAt b o vs) (e:E2 vs.length k (ev kv x) (some (.pointer (some ⟨b,o,none⟩)))):PV P (.load T x) ty kv w (.agg vs.toArray):=PV.Lq hT hc e.p1 e.p2
theorem Sub.v{kv r:KV}{t:Nat}{v v':Value}(hr:Sub kv r) (h:Rc.look kv t=some v:=by rfl) (hz:v=v':=by first | rfl | (simp;done) | (congr 1;omega) | (simp only [];congr 1;omega)):Sub kv ((t,v')::r):=Sub.aaZ h hz hr
theorem WC.cd{P:Program}{Q:Exit→Act→World→Prop}{n:Nat}{kv:KV}{w:World}{c:Operand}{x y:Code}{b:Bool}(ht:b=true→WC P x Q n kv w) (hf:b=false→WC P y Q n kv w) (hc:ev kv c=some (.bool b):=by rfl):WC P (.cond c x y) Q n kv w:=WC.cond hc ht hf
section
variable {P:Program}{n:Nat}{kv:KV}{w w0:World}{M Z:Nat→Prop}{ls:List As}{d:Tmp}{ty:TypeId}{pos:String}{af:Array Edge}{g:Option (Nat × Bool)}{ops:Array Oper}{Q:Exit→Act→World→Prop}{rest:List Oper}{T:TypeId}{x y:Operand}
theorem WL.bx{v:Value}{l:List Value}(st:St w0 M Z w ls) (next:∀b w',FW w w' b→cW w' b T l→St w0 M Z w' (As.blk b T l::ls)→WL P ops Q rest n ((d,.pointer (some ⟨b,0,none⟩))::kv) w')
  (hg:gd ops kv ⟨some d,.box T x,ty,pos,af,g⟩=some true:=by rfl) (hd:Nat.blt d n=true:=by rfl) (hx:ev kv x=some v:=by rfl) (hl:v.cells=l.toArray:=by rfl):WL P ops Q (⟨some d,.box T x,ty,pos,af,g⟩::rest) n kv w:=
 WL.go hg (OX.box hd hx hl fun b w' nw hb=>next b w' nw hb (st.eF nw hb))
theorem WL.sW{k b:Nat}{e:TypeId}{l us:List Value}(hT:(P.info? T).map (·.size)=some k) (st:St w0 M Z w (As.blk b e l::ls)) (next:∀w',aV [b] w w'→cW w' b e us→St w0 M Z w' (As.blk b e us::ls)→WL P ops Q rest n kv w')
  (hg:gd ops kv ⟨none,.store T x y,ty,pos,af,g⟩=some true:=by rfl) (hx:ev kv x=some (.pointer (some ⟨b,0,none⟩)):=by rfl) (hy:ev kv y=some (.agg us.toArray):=by rfl) (hk:us.length=k:=by rfl) (hlen:l.length=k:=by rfl) (h1:us.all (·.oneCell')=true:=by rfl):WL P ops Q (⟨none,.store T x y,ty,pos,af,g⟩::rest) n kv w:=
 WL.go hg (OX.pG hT (As.gb st.g0) hx hy hk hlen h1 fun w' s _ hb=>next w' s hb (st.Gh s hb))
theorem St.lv{Z':Nat→Prop}{w':World}{l0 r l1 l2:List As}(h:St w0 M Z w (l0++r)) (h':St w (rO l0) Z' w' l1) (hz:cN w.heap.size Z Z') (hl:l1++r=l2:=by simp only [List.cons_append,List.nil_append] <;> rfl):St w0 M Z' w' l2:=hl ▸ St.leave h h' hz
end
@[reducible] def RT:Ending→(Value→Prop)→Prop
 | .returned v,K=>K v
 | _,_=>False
theorem RT.out{e:Ending}{K:Value→Prop}(h:RT e K):∃v,e=.returned v∧K v:=by
 cases e <;> first | exact⟨_,rfl,h⟩ | exact h.elim
theorem WL.cl{P:Program}{n:Nat}{kv:KV}{w:World}{d:Tmp}{ty:TypeId}{pos:String}{af:Array Edge}{g:Option (Nat × Bool)}{ops:Array Oper}{Q:Exit→Act→World→Prop}{rest:List Oper}{f:FuncId}(Bz:CF P f) {xs:List Operand}{sS:Array TypeId}{args:List Value}{R:Ending→World→Prop}(hx:xs.map (ev kv)=args.map some) (h:Calls P f args.toArray w R)
  (next:∀e w',R e w'→RT e fun v=>WL P ops Q rest n ((d,v)::kv) w') (hg:gd ops kv ⟨some d,.call {callee:=.value (.func f),args:=xs.toArray,argTypes:=sS},ty,pos,af,g⟩=some true:=by rfl) (hd:Nat.blt d n=true:=by rfl):WL P ops Q (⟨some d,.call {callee:=.value (.func f),args:=xs.toArray,argTypes:=sS},ty,pos,af,g⟩::rest) n kv w:=
 WL.go hg (OX.call Bz hd hx (h.mono fun e w' hr=>(next e w' hr).out))
abbrev CR(P:Program) (f:FuncId) (a:Array Value) (w:World) (v:Value):Prop:=Calls P f a w fun e w'=>e=.returned v∧aV [] w w'
section
variable {w w0:World}{M Z:Nat→Prop}{l:List As}
theorem St.fr{α:Type}{R:RR α}{k n c:Nat}{a:Option Addr}{xs:List α}(st:St w0 M Z w l) (h:Rd R k Z w a n c xs):St w0 M Z w (As.ro R k a n c xs::l):=st.fact (As.ahl h) (fun _ hx=>hx)
theorem St.fg{b o:Nat}{r:List Value}(st:St w0 M Z w l) (h:Z b) (hr:w.rangeAt b o r):St w0 M Z w (As.rg b o r::l):=st.fact (As.abc h (st.ma _ h) hr) (fun _ hx=>hx)
theorem St.s0(w:World):St w (fun _=>False) (fun _=>False) w []:=St.start (by simp)
theorem St.lr{w':World}{l0 r l1 l2:List As}(h:St w0 M Z w (l0++r)) (h':St w (rO l0) Z w' l1) (hl:l1++r=l2:=by simp only [List.cons_append,List.nil_append] <;> rfl):St w0 M Z w' l2:=hl ▸ St.leave h h' (cN.refl _ _)
theorem EX.r1{P:Program}{fn:Func}{R:Ending→World→Prop}{n:Nat}{kv:KV}{t:Tmp}{v:Value}(h:R (.returned v) w) (hr:fn.results=#[.tmp t]:=by rfl) (hv:look kv t=some v:=by rfl):EX (bodyPost P fn R) .ret n kv w:=EX.aaP hr hv h
theorem EX.r2{P:Program}{fn:Func}{R:Ending→World→Prop}{n:Nat}{kv:KV}{t u:Tmp}{v x:Value}(h:R (.returned (.tuple #[v,x])) w) (hr:fn.results=#[.tmp t,.tmp u]:=by rfl) (hv:look kv t=some v:=by rfl) (hx:look kv u=some x:=by rfl):EX (bodyPost P fn R) .ret n kv w:=EX.aaQ hr hv hx h
theorem WC.dS{P:Program}{Q:Exit→Act→World→Prop}{n:Nat}{kv:KV}{id m:Nat}{l:List Oper}{ls:List As}(st:St w0 M Z w ls) (hm:P.follows .mixedOrders=true)
  (FE:DW P l.toArray n (fun wx=>w.heap.size≤wx.heap.size∧St w0 M Z wx ls) (fun _=>jb (rO ls)) (dr []) (fun kv w=>WL P l.toArray Q (l.drop m) n kv w) 0 (l.take m) kv []) (eX:yL l m []=true:=by kernel_rfl):WC P (.region id l.toArray true) Q n kv w:=
 WC.eQ st (bM (show StE _ _ [] from trivial)) hm eX FE
end
section
variable {p:Prop}{P:Program}{n:Nat}{kv:KV}{w w0:World}{M Z:Nat→Prop}{ls:List As}{d:Tmp}{ty:TypeId}{pos:String}{af:Array Edge}{g:Option (Nat × Bool)}{ops:Array Oper}{Q:Exit→Act→World→Prop}{rest:List Oper}{T:TypeId}{x y:Operand}{b o j k:Nat}{vs:List Value}{v:Value}
theorem bL(s:pL (WL P ops Q (⟨some d,.load T x,ty,pos,af,g⟩::rest) n kv w)→p:=by intro h;exact au h.out) (hg:gd ops kv ⟨some d,.load T x,ty,pos,af,g⟩=some true:=by rfl) (hd:Nat.blt d n=true:=by rfl) (hx:ev kv x=some (.pointer (some ⟨b,o+j,none⟩)):=by rfl) (hv:nth vs j=some v:=by rfl) (hT:One P T) (hc:w.rangeAt b o vs) (next:WL P ops Q rest n ((d,v)::kv) w):p:=s ⟨WL.p hg hd (PV.ld1 hT hc hx hv) next⟩
theorem bz(s:pL (WL P ops Q (⟨some d,.load T x,ty,pos,af,g⟩::rest) n kv w)→p:=by intro h;exact au h.out) (hg:gd ops kv ⟨some d,.load T x,ty,pos,af,g⟩=some true:=by rfl) (hd:Nat.blt d n=true:=by rfl) (hx:ev kv x=some (.pointer (some ⟨b,o,none⟩)):=by rfl) (hv:vs.length=k:=by rfl) (hT:wK P T k) (hc:w.rangeAt b o vs) (next:WL P ops Q rest n ((d,.agg vs.toArray)::kv) w):p:=s ⟨WL.p hg hd (PV.Lq hT hc hv hx) next⟩
theorem j3{us:List Value}(s:pL (WL P ops Q (⟨some d,.load T x,ty,pos,af,g⟩::rest) n kv w)→p:=by intro h;exact au h.out) (hg:gd ops kv ⟨some d,.load T x,ty,pos,af,g⟩=some true:=by rfl) (hd:Nat.blt d n=true:=by rfl) (hx:ev kv x=some (.pointer (some ⟨b,o+j,none⟩)):=by rfl) (hs:TX vs j k=some us:=by rfl) (hT:wK P T k) (hc:w.rangeAt b o vs) (next:WL P ops Q rest n ((d,.agg us.toArray)::kv) w):p:=s ⟨WL.p hg hd (PV.FU hT hc hx hs) next⟩
theorem aZ{c:Operand}{X Y:Code}{t:Bool}(s:pL (WC P (.cond c X Y) Q n kv w)→p:=by intro h;exact au h.out) (hc:ev kv c=some (.bool t):=by rfl) (ht:t=true→WC P X Q n kv w) (hf:t=false→WC P Y Q n kv w):p:=s ⟨WC.cond hc ht hf⟩
theorem dY{t m:Nat}{q c:Bool}{dd:Option Tmp}{op:Op}(s:pL (WL P ops Q (⟨dd,op,ty,pos,af,some (m,q)⟩::rest) n kv w)→p:=by intro h;exact au h.out) (hm:iA ops m=some t:=by rfl) (ht:look kv t=some (.bool c):=by rfl) (hT:c=true→WL P ops Q (⟨dd,op,ty,pos,af,some (m,q)⟩::rest) n ((t,.bool true)::kv) w) (hF:c=false→WL P ops Q (⟨dd,op,ty,pos,af,some (m,q)⟩::rest) n ((t,.bool false)::kv) w):p:=s ⟨WL.i6 ht hT hF⟩
theorem cA{fn:Func}{R:Ending→World→Prop}{t:Tmp}(s:pL (EX (bodyPost P fn R) .ret n kv w)→p:=by intro h;exact au h.out) (hr:fn.results=#[.tmp t]:=by rfl) (hv:look kv t=some v:=by rfl) (h:R (.returned v) w):p:=s ⟨EX.aaP hr hv h⟩
theorem FL{fn:Func}{R:Ending→World→Prop}{t u:Tmp}{z:Value}(s:pL (EX (bodyPost P fn R) .ret n kv w)→p:=by intro h;exact au h.out) (hr:fn.results=#[.tmp t,.tmp u]:=by rfl) (hv:look kv t=some v:=by rfl) (hx:look kv u=some z:=by rfl) (h:R (.returned (.tuple #[v,z])) w):p:=s ⟨EX.aaQ hr hv hx h⟩
theorem mz{fn:Func}{R:Ending→World→Prop}{t:Nat}(s:pL (EX (bodyPost P fn R) .ret n kv w)→p:=by intro h;exact au h.out) (hr:fn.results=#[.cell t T]:=by rfl) (ht:look kv t=some (.pointer (some ⟨b,0,none⟩)):=by rfl) (hl:vs.length=k:=by rfl) (hT:wK P T k) (hc:w.rangeAt b 0 vs) (h:R (.returned (.agg vs.toArray)) w):p:=s ⟨EX.ahh hT hr ht hc hl h⟩
theorem dt{oz:KV}{t:Nat}{v':Value}{J:World→Prop}(s:pL (EX (wM n t v kv J) .normal n oz w)→p:=by intro h;exact au h.out) (hd:nD (oz.length - kv.length) oz=kv:=by rfl) (hj:sa (oz.length - kv.length) oz kv=true:=by rfl) (hv:look oz t=some v':=by rfl) (he:v'=v) (hJ:J w):p:=s ⟨EX.aa0 _ hd hj hv he hJ⟩
theorem iK{oz:KV}{t:Nat}{v':Value}{J:World→Prop}(s:pL (EX (wM n t v (kl t kv) J) .normal n oz w)→p:=by intro h;exact au h.out) (hd:nD (oz.length - kv.length) oz=kv:=by rfl) (hj:sa (oz.length - kv.length) oz (kl t kv)=true:=by rfl) (hv:look oz t=some v':=by rfl) (he:v'=v) (hJ:J w):p:=s ⟨EX.VH _ hd hj hv he hJ⟩
theorem fo(s:pL (WL P ops Q (⟨some d,.box T x,ty,pos,af,g⟩::rest) n kv w)→p:=by intro h;exact au h.out) (hg:gd ops kv ⟨some d,.box T x,ty,pos,af,g⟩=some true:=by rfl) (hd:Nat.blt d n=true:=by rfl) (hx:ev kv x=some v:=by rfl) (hl:v.cells=vs.toArray:=by rfl) (st:St w0 M Z w ls) (next:∀b w',FW w w' b→cW w' b T vs→St w0 M Z w' (As.blk b T vs::ls)→WL P ops Q rest n ((d,.pointer (some ⟨b,0,none⟩))::kv) w'):p:=s ⟨WL.bx st next hg hd hx hl⟩
theorem dD{e:TypeId}{l:List Value}(s:pL (WL P ops Q (⟨none,.store T x y,ty,pos,af,g⟩::rest) n kv w)→p:=by intro h;exact au h.out) (hg:gd ops kv ⟨none,.store T x y,ty,pos,af,g⟩=some true:=by rfl) (hx:ev kv x=some (.pointer (some ⟨b,0,none⟩)):=by rfl) (hy:ev kv y=some (.agg vs.toArray):=by rfl) (hk:vs.length=k:=by rfl) (hlen:l.length=k:=by rfl) (h1:vs.all (·.oneCell')=true:=by rfl) (hT:(P.info? T).map (·.size)=some k) (st:St w0 M Z w (As.blk b e l::ls)) (next:∀w',aV [b] w w'→cW w' b e vs→St w0 M Z w' (As.blk b e vs::ls)→WL P ops Q rest n kv w'):p:=s ⟨WL.sW hT st next hg hx hy hk hlen h1⟩
theorem gu{l:List Value}(s:pL (WL P ops Q (⟨some d,.alloc T,ty,pos,af,g⟩::rest) n kv w)→p:=by intro h;exact au h.out) (hg:gd ops kv ⟨some d,.alloc T,ty,pos,af,g⟩=some true:=by rfl) (hd:Nat.blt d n=true:=by rfl) [hT:Ia P T l] (st:St w0 M Z w ls) (next:∀b w',FW w w' b→cW w' b T l→St w0 M Z w' (As.blk b T l::ls)→WL P ops Q rest n ((d,.pointer (some ⟨b,0,none⟩))::kv) w'):p:=s ⟨WL.al st next hg hd⟩
theorem iz{f:FuncId}{xs:List Operand}{sS:Array TypeId}{args:List Value}{u:Value}(s:pL (WL P ops Q (⟨some d,.call {callee:=.value (.func f),args:=xs.toArray,argTypes:=sS},ty,pos,af,g⟩::rest) n kv w)→p:=by intro h;exact au h.out) (hg:gd ops kv ⟨some d,.call {callee:=.value (.func f),args:=xs.toArray,argTypes:=sS},ty,pos,af,g⟩=some true:=by rfl) (hd:Nat.blt d n=true:=by rfl) (hx:xs.map (ev kv)=args.map some:=by rfl) [hf:jh P f] (hc:CR P f args.toArray w u) (st:St w0 M Z w ls) (next:∀w',aV [] w w'→St w0 M Z w' ls→WL P ops Q rest n ((d,u)::kv) w'):p:=s ⟨WL.c0 hc st next hg hd hx⟩
theorem dj{f:FuncId}{xs:List Operand}{sS:Array TypeId}{args:List Value}{R:Ending→World→Prop}(s:pL (WL P ops Q (⟨some d,.call {callee:=.value (.func f),args:=xs.toArray,argTypes:=sS},ty,pos,af,g⟩::rest) n kv w)→p:=by intro h;exact au h.out) (hg:gd ops kv ⟨some d,.call {callee:=.value (.func f),args:=xs.toArray,argTypes:=sS},ty,pos,af,g⟩=some true:=by rfl) (hd:Nat.blt d n=true:=by rfl) (hx:xs.map (ev kv)=args.map some:=by rfl) (Bz:CF P f) (h:Calls P f args.toArray w R) (next:∀e w',R e w'→RT e fun v=>WL P ops Q rest n ((d,v)::kv) w'):p:=s ⟨WL.cl Bz hx h next hg hd⟩
section
variable {i N e:Nat}{U:Nat→World→World→Prop}{E:Nat→Option (Value→World→Prop)}{Fin:KV→World→Prop}{F:mG}
theorem lI(s:pL (DW P ops n (fun wx=>N≤wx.heap.size∧St w0 M Z wx ls) U E Fin i (⟨some d,.load T x,ty,pos,af,g⟩::rest) kv F)→p:=by intro h;exact au h.out) (hg:gd ops kv ⟨some d,.load T x,ty,pos,af,g⟩=some true:=by rfl) (hs:bO (.load T x)=false:=by rfl) (hk:known kv (.load T x)=true:=by rfl) (hd:Nat.blt d n=true:=by rfl) (hE:E i=none:=by rfl) (hx:ev kv x=some (.pointer (some ⟨b,0+j,none⟩)):=by rfl) (hv:nth vs j=some v:=by rfl) (hT:One P T) (hb:∀{wx},St w0 M Z wx ls→(As.blk b e vs).ok Z wx) (next:DW P ops n (fun wx=>N≤wx.heap.size∧St w0 M Z wx ls) U E Fin (i+1) rest ((d,v)::kv) F):p:=s ⟨DW.p hg hs hk hd hE (fun _ h=>PV.ld1 hT (cW.range (As.gb (hb h.2))) hx hv) next⟩
theorem jj(s:pL (DW P ops n (fun wx=>N≤wx.heap.size∧St w0 M Z wx ls) U E Fin i (⟨some d,.load T x,ty,pos,af,g⟩::rest) kv F)→p:=by intro h;exact au h.out) (hg:gd ops kv ⟨some d,.load T x,ty,pos,af,g⟩=some true:=by rfl) (hs:bO (.load T x)=false:=by rfl) (hk:known kv (.load T x)=true:=by rfl) (hd:Nat.blt d n=true:=by rfl) (hE:E i=none:=by rfl) (hx:ev kv x=some (.pointer (some ⟨b,0,none⟩)):=by rfl) (hv:vs.length=k:=by rfl) (hT:wK P T k) (hb:∀{wx},St w0 M Z wx ls→(As.blk b e vs).ok Z wx) (next:DW P ops n (fun wx=>N≤wx.heap.size∧St w0 M Z wx ls) U E Fin (i+1) rest ((d,.agg vs.toArray)::kv) F):p:=s ⟨DW.p hg hs hk hd hE (fun _ h=>PV.Lq hT (cW.range (As.gb (hb h.2))) hv hx) next⟩
theorem Cy{us:List Value}(s:pL (DW P ops n (fun wx=>N≤wx.heap.size∧St w0 M Z wx ls) U E Fin i (⟨some d,.load T x,ty,pos,af,g⟩::rest) kv F)→p:=by intro h;exact au h.out) (hg:gd ops kv ⟨some d,.load T x,ty,pos,af,g⟩=some true:=by rfl) (hs:bO (.load T x)=false:=by rfl) (hk:known kv (.load T x)=true:=by rfl) (hd:Nat.blt d n=true:=by rfl) (hE:E i=none:=by rfl) (hx:ev kv x=some (.pointer (some ⟨b,0+j,none⟩)):=by rfl) (QP:TX vs j k=some us:=by rfl) (hT:wK P T k) (hb:∀{wx},St w0 M Z wx ls→(As.blk b e vs).ok Z wx) (next:DW P ops n (fun wx=>N≤wx.heap.size∧St w0 M Z wx ls) U E Fin (i+1) rest ((d,.agg us.toArray)::kv) F):p:=s ⟨DW.p hg hs hk hd hE (fun _ h=>PV.FU hT (cW.range (As.gb (hb h.2))) hx QP) next⟩
theorem rS{t m n':Nat}{q c:Bool}{dd:Option Tmp}{op:Op}{Dw:Array Oper}{l':List Oper}{C:World→Prop}(s:pL (DW P ops n' C U E (fun kv w=>WL P Dw Q l' n kv w) i (⟨dd,op,ty,pos,af,some (m,q)⟩::rest) kv F)→p:=by intro h;exact au h.out) (hm:iA ops m=some t:=by rfl) (ht:look kv t=some (.bool c):=by rfl) (hT:c=true→DW P ops n' C U E (fun kv w=>WL P Dw Q l' n kv w) i (⟨dd,op,ty,pos,af,some (m,q)⟩::rest) ((t,.bool true)::kv) F) (hF:c=false→DW P ops n' C U E (fun kv w=>WL P Dw Q l' n kv w) i (⟨dd,op,ty,pos,af,some (m,q)⟩::rest) ((t,.bool false)::kv) F):p:=s ⟨DW.i6 ht hT hF⟩
theorem eh{C:World→Prop}(s:pL (DW P ops n C U E Fin i [] kv F)→p:=by intro h;exact au h.out) (h:∀w,C w→Io F w→Fin kv w):p:=s ⟨DW.nil h⟩
section
variable {l:List Oper}{σ:List Nat}{sd:List (Nat × As)}{K:Nat→Kd}{gX:List As}
theorem BA(s:pL (DG P l.toArray n w0 M N gX K Fin (i::σ) kv sd Z ls)→p:=by intro h;exact au h.out) (ho:pW l i=some ⟨some d,.load T x,ty,pos,af,g⟩:=by rfl) (hg:gd l.toArray kv ⟨some d,.load T x,ty,pos,af,g⟩=some true:=by rfl) (hs:bO (.load T x)=false:=by rfl) (hk:known kv (.load T x)=true:=by rfl) (hd:Nat.blt d n=true:=by rfl) (hK:(K i).pc=true:=by rfl) (hx:ev kv x=some (.pointer (some ⟨b,0+j,none⟩)):=by rfl) (hv:nth vs j=some v:=by rfl) (hT:One P T) (hb:∀{wx Zx},SV w0 M Zx wx gX→(As.blk b e vs).ok Zx wx) (next:DG P l.toArray n w0 M N gX K Fin σ ((d,v)::kv) sd Z ls):p:=s ⟨DG.p ho hg hs hk hd hK (fun _ _ _ _ h e=>PV.ld1 hT (cW.range (As.gb (hb (h.sv e)))) hx hv) next⟩
theorem pd(s:pL (DG P l.toArray n w0 M N gX K Fin (i::σ) kv sd Z ls)→p:=by intro h;exact au h.out) (ho:pW l i=some ⟨some d,.load T x,ty,pos,af,g⟩:=by rfl) (hg:gd l.toArray kv ⟨some d,.load T x,ty,pos,af,g⟩=some true:=by rfl) (hs:bO (.load T x)=false:=by rfl) (hk:known kv (.load T x)=true:=by rfl) (hd:Nat.blt d n=true:=by rfl) (hK:(K i).pc=true:=by rfl) (hx:ev kv x=some (.pointer (some ⟨b,0,none⟩)):=by rfl) (hv:vs.length=k:=by rfl) (hT:wK P T k) (hb:∀{wx Zx},SV w0 M Zx wx gX→(As.blk b e vs).ok Zx wx) (next:DG P l.toArray n w0 M N gX K Fin σ ((d,.agg vs.toArray)::kv) sd Z ls):p:=s ⟨DG.p ho hg hs hk hd hK (fun _ _ _ _ h e=>PV.Lq hT (cW.range (As.gb (hb (h.sv e)))) hv hx) next⟩
theorem LM{us:List Value}(s:pL (DG P l.toArray n w0 M N gX K Fin (i::σ) kv sd Z ls)→p:=by intro h;exact au h.out) (ho:pW l i=some ⟨some d,.load T x,ty,pos,af,g⟩:=by rfl) (hg:gd l.toArray kv ⟨some d,.load T x,ty,pos,af,g⟩=some true:=by rfl) (hs:bO (.load T x)=false:=by rfl) (hk:known kv (.load T x)=true:=by rfl) (hd:Nat.blt d n=true:=by rfl) (hK:(K i).pc=true:=by rfl) (hx:ev kv x=some (.pointer (some ⟨b,0+j,none⟩)):=by rfl) (QP:TX vs j k=some us:=by rfl) (hT:wK P T k) (hb:∀{wx Zx},SV w0 M Zx wx gX→(As.blk b e vs).ok Zx wx) (next:DG P l.toArray n w0 M N gX K Fin σ ((d,.agg us.toArray)::kv) sd Z ls):p:=s ⟨DG.p ho hg hs hk hd hK (fun _ _ _ _ h e=>PV.FU hT (cW.range (As.gb (hb (h.sv e)))) hx QP) next⟩
theorem iN{op:Op}(s:pL (DG P l.toArray n w0 M N gX K Fin (i::σ) kv sd Z ls)→p:=by intro h;exact au h.out) (ho:pW l i=some ⟨some d,op,ty,pos,af,g⟩:=by rfl) (hg:gd l.toArray kv ⟨some d,op,ty,pos,af,g⟩=some true:=by rfl) (hs:bO op=false:=by rfl) (hk:known kv op=true:=by rfl) (hd:Nat.blt d n=true:=by rfl) (hK:K i=.chain:=by rfl) (h:∀w R,N≤w.heap.size→St w0 M Z w (ls++R)→(∀p∈sd,p.2∈R)→OX P ⟨some d,op,ty,pos,af,g⟩ n kv w fun kh w'=>w.heap.size≤w'.heap.size∧∃v,kh=(d,v)::kv∧∃Z' L pV,St w0 M Z' w' L∧L=pV++R∧(∀A∈gX,A∈pV)∧DG P l.toArray n w0 M N gX K Fin σ ((d,v)::kv) sd Z' pV):p:=s ⟨DG.ch ho hg hs hk hd hK h⟩
theorem nU(s:pL (DG P l.toArray n w0 M N gX K Fin [] kv sd Z ls)→p:=by intro h;exact au h.out) (h:∀w,N≤w.heap.size→St w0 M Z w (sd.map (·.2)++ls)→Fin kv w):p:=s ⟨DG.nil h⟩
end
end
theorem Sub.t{kv kh:KV}(h:Sub kv kh:=by repeat (first | exact Sub.nil | refine Sub.cons rfl ?_ | refine Sub.v ?_)):Sub kv kh:=h
section
variable {σ:Type}{eJ:σ→KV}
theorem fH{I:σ→World→Prop}{μ:σ→Nat}{m:Nat}(s':σ) (hi:I s' w) (hm:μ s'<m:=by first | (simp only [];omega) | omega) (hs:Sub kv (eJ s'):=by exact Sub.t):EX (Exit.then (fun a' w'=>∃s',Fr n a' (eJ s')∧I s' w'∧μ s'<m) Q) .normal n kv w:=EX.again s' hs hi hm
theorem sg{J:σ→World→Prop}(s':σ) (hj:J s' w) (hs:Sub kv (eJ s'):=by exact Sub.t):EX (fun e a w'=>e=.normal∧∃s,Fr n a (eJ s)∧J s w') .normal n kv w:=EX.aaN s' hs hj
end
end
end Go.Rc

namespace Go.Rc
open Go
section
variable {P:Program}{kv:KV}{w:World}{T U ty:TypeId}{x y:Operand}
theorem DJ{t:TypeId}{v:Value}(hT:∃ms,P.underlying T=some (.interface ms)):(Op.equalIn 10000 T (.iface t v) .nilIface).run P w=.ok false w:=by
 obtain⟨ms,hT⟩:=hT;rw [show(10000:Nat)=9999+1 from rfl]
 unfold Op.equalIn
 simp [run_underlying hT]
theorem PV.abr{v:Value}{ok:Bool}(hT:∃ms,P.underlying T=some (.interface ms)) (hx:ev kv x=some v) (h:(ok=true∧v=.nilIface)∨(ok=false∧∃t y,v=.iface t y)):PV P (.binOp .neq T x (.const .nilIface) U) ty kv w (.bool (!ok)):=by
 rcases h with⟨rfl,rfl⟩ | ⟨rfl,t,y,rfl⟩
 ·
  exact PV.V7 hT hx
 have hy:ev kv (.const .nilIface)=some .nilIface:=rfl;refine⟨rfl,by simp [known,opers,hx,hy],fun _ _ _ _=>?_⟩;simp only [execOp,aJ hx,aJ hy]
 simp [eqGuard,binOp,Op.equal,Op.maxDepth,DJ hT]
end
theorem WC.ahz{P:Program}{Q:Exit→Act→World→Prop}{n:Nat}{kv:KV}{w0 w:World}{M Z:Nat→Prop}{σ:Type}{c:Code}{rest:List As}(l0:List As) (eJ:σ→KV) (F:σ→List As) (I:σ→Prop) (Zf:σ→Nat→Prop) (_hst:St w0 M Z w (l0++rest))
  (h:WC P c (fun e a w'=>e=.normal∧∃s,Fr n a (eJ s)∧(St w0 M (Zf s) w' (F s++rest)∧I s)) n kv w)
  (hJ:∀s w',St w0 M (Zf s) w' (F s++rest)→I s→EX Q .normal n (eJ s) w'):WC P c Q n kv w:=
 WC.ag0 eJ (fun s w'=>St w0 M (Zf s) w' (F s++rest)∧I s) h fun s w' ⟨a,b⟩=>hJ s w' a b
theorem WC.mN{P:Program}{Q:Exit→Act→World→Prop}{n:Nat}{kv:KV}{w0 w:World}{M Z:Nat→Prop}{σ:Type}{c:Code}{rest:List As}(l0:List As) (eJ:σ→KV) (F:σ→List As) (I:σ→Prop) (bJ:St w0 M Z w (l0++rest))
  (h:WC P c (fun e a w'=>e=.normal∧∃s,Fr n a (eJ s)∧(St w0 M Z w' (F s++rest)∧I s)) n kv w)
  (hJ:∀s w',St w0 M Z w' (F s++rest)→I s→EX Q .normal n (eJ s) w'):WC P c Q n kv w:=
 WC.ahz l0 eJ F I (fun _=>Z) bJ h hJ
section
variable {w0 w:World}{M Z:Nat→Prop}{l:List As}
theorem St.e9{A0 A1 A2 A3 A4 A5 A6 A7 A8:As}(h:St w0 M Z w (A0::A1::A2::A3::A4::A5::A6::A7::A8::l)):St w (rO [A0,A1,A2,A3,A4,A5,A6,A7,A8]) Z w [A0,A1,A2,A3,A4,A5,A6,A7,A8]:=St.enter (l0:=[A0,A1,A2,A3,A4,A5,A6,A7,A8]) h
end
theorem Calls.ahA{P:Program}{f:FuncId}{r c1 c2 c3 c4 c5:Value}{w:World}{Q:Ending→World→Prop}(h:Calls P f #[r,c1,c2,c3,c4,c5] w Q):Calls P f (#[]++[r].toArray++#[c1,c2,c3,c4,c5]) w Q:=by grind
theorem Calls.ahB{P:Program}{f:FuncId}{r:Value}{w:World}{Q:Ending→World→Prop}(h:Calls P f #[r] w Q):Calls P f (#[]++[r].toArray++#[]) w Q:=by grind
end Go.Rc

