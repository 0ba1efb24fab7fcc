/- Base of the proof: frames, memory, ownership, and the plain meaning of rule systems. Conditions: as each lemma says. -/
import Derived.Test.YtfamnpoplgkkcaaGreatDoorOBc
import Derived.Lib.SliceRun
import Derived.Test.YtfamnpoplgkkcaaGreatDoorOBb
set_option linter.all false
namespace Go.Rc
open Go
inductive Kd where
 | pure
 | side (sh:Value→Prop) (it:Value→As)
 | chain
def Kd.E:Kd→Option (Value→World→Prop)
 | .pure=>none
 | .side sh _=>some fun v _=>sh v
 | .chain=>some fun _ _=>True
def pE(ops:Array Oper) (br:Nat→Value):List Nat→KV→KV
 | [],kv=>kv
 | j::r,kv=>pE ops br r (ku kv (gu ops j) (br j))
theorem tJ(ops:Array Oper) (br:Nat→Value):∀(a b:List Nat) (kv:KV),pE ops br (a++b) kv=pE ops br b (pE ops br a kv)
 | [],_,_=>rfl
 | _::r,b,_=>tJ ops br r b _
theorem lE{ops:Array Oper}{br cx:Nat→Value}:∀{l:List Nat}{kv:KV},(∀j∈l,br j=cx j)→pE ops br l kv=pE ops cx l kv
 | [],_,_=>rfl
 | j::r,kv,h=>by simp only [pE];rw [h j (by simp),lE fun x q=>h x (by simp [q])]
theorem uh{ops:Array Oper}{br:Nat→Value}{t:Nat}{u:Value}:∀{l:List Nat}{kv:KV},look (pE ops br l kv) t=some u→
  (∃j∈l,gu ops j=some t∧u=br j)∨((∀j∈l,gu ops j≠some t)∧look kv t=some u)
 | [],_,h=>.inr ⟨by simp,h⟩
 | j::r,kv,h=>by
  rcases uh (l:=r) h with⟨x,q,h1,s⟩ | ⟨h1,s⟩
  ·
   exact .inl ⟨x,by simp [q],h1,s⟩
  rcases AX s with⟨z,A⟩ | ⟨z,A⟩
  ·
   exact .inl ⟨j,by simp,z,A⟩
  refine .inr ⟨fun x q=>?_,A⟩
  rcases List.mem_cons.1 q with rfl | q
  ·
   exact z
  exact h1 x q
def CG(w0:World) (M:Nat→Prop) (N:Nat) (fL:List As) (w:World):Prop:=N≤w.heap.size∧∃Z R,St w0 M Z w R∧∀A∈fL,A∈R
section
variable (P:Program) (ops:Array Oper) (n:Nat) (w0:World) (M:Nat→Prop) (N:Nat) (fL:List As) (K:Nat→Kd) (Fin:KV→World→Prop)
def DG:List Nat→KV→List (Nat × As)→(Nat→Prop)→List As→Prop
 | [],kv,sd,Z,ls=>∀w,N≤w.heap.size→St w0 M Z w (sd.map (·.2)++ls)→Fin kv w
 | i::l,kv,sd,Z,ls=>∃o,ops[i]?=some o∧bp o.op=false∧pI n o.dst=true∧
  ((gd ops kv o=some false∧DG l (ku kv o.dst undef) sd Z ls)∨
   (gd ops kv o=some true∧known kv o.op=true∧
   ((K i=.pure∧∃e,(∀w,CG w0 M N fL w→(execOp (jE kv) o).run P w=.ok (.value e) w)∧DG l (ku kv o.dst e) sd Z ls)∨
    (∃sh it,K i=.side sh it∧(∀w Zx R,N≤w.heap.size→St w0 M Zx w R→pJ P ((execOp (jE kv) o).run P w) fun v w'=>w.heap.size≤w'.heap.size∧sh v∧St w0 M Zx w' (it v::R))∧
    (∀v,sh v→DG l (ku kv o.dst v) ((i,it v)::sd) Z ls))∨
    (K i=.chain∧∀w R,N≤w.heap.size→St w0 M Z w (ls++R)→(∀p∈sd,p.2∈R)→pJ P ((execOp (jE kv) o).run P w) fun v w'=>w.heap.size≤w'.heap.size∧∃Z' Ii,St w0 M Z' w' (Ii++R)∧(∀A∈fL,A∈Ii)∧
    DG l (ku kv o.dst v) sd Z' Ii))))
end
structure I9 (ops:Array Oper) (m:Nat) (K:Nat→Kd) (σ:List Nat):Prop where
 lt:∀i∈σ,i<m
 all:∀i,i<m→i∈σ
 nd:σ.Nodup
 Qt:∀a i b,σ=a++i::b→∀o,ops[i]?=some o→∀d∈du o,d∈a
 clo:∀a i b,σ=a++i::b→K i=.chain→∀(D:Nat→Prop),(∀(j:Nat) o,D j→ops[j]?=some o→∀d∈du o,D d)→(∀o,ops[i]?=some o→∀d∈du o,D d)→∀j∈a,D j
theorem Bk:∀{l SL:List (Nat × As)},(SL.map (·.1)).Nodup→(l.map (·.1)).Nodup→(∀q∈l,q∈SL)→∃ex,List.Perm SL (l++ex)
 | [],SL,_,_,_=>⟨SL,.refl _⟩
 | q::l,SL,h1,r,z=>by
  obtain⟨s,t,rfl⟩:=List.append_of_mem (z q (by simp));have A:List.Perm (s++q::t) (q::(s++t)):=List.perm_middle;have B:=(A.map (·.1)).nodup_iff.1 h1;simp only [List.map_cons,List.nodup_cons] at r B
  obtain⟨ex,he⟩:=Bk B.2 r.2 fun x C=>by
   have:=z x (by simp [C])
   rcases List.mem_append.1 this with h | h
   ·
    exact List.mem_append_left _ h
   rcases List.mem_cons.1 h with rfl | h
   ·
    exact absurd (List.mem_map.2 ⟨x,C,rfl⟩) r.1
   exact List.mem_append_right _ h
  exact⟨ex,A.trans (.cons q he)⟩
theorem St.ft{w0 w:World}{M Z:Nat→Prop}:∀{ex l:List As},St w0 M Z w (l++ex)→St w0 M Z w l
 | [],l,h=>by simpa using h
 | A::ex,l,h=>by
  have h1:St w0 M Z w (A::(l++ex)):=h.perm (List.perm_middle.symm);exact St.ft h1.drop
section
variable {P:Program}{ops:Array Oper}{Q:Exit→Act→World→Prop}{n m N:Nat}{X σ:List Nat}{w0:World}{M:Nat→Prop}{fL:List As}{K:Nat→Kd}{Fin:KV→World→Prop}
theorem yA{a0 a:Act}{j9:KV}{C:World→Prop}{E:Nat→Option (Value→World→Prop)}(s:RegB ops m) (h0:Fr n a0 j9) {L:Nat→Bool}{br cx:Nat→Value}{w:World}(z:Inv P ops n m C E a0 L br a w)
  (D:∀j,L j=true→cx j=br j) {i:Nat}{o:Oper}{τ:List Nat}(A:∀j∈τ,j<m) (hi:i<m) (B:ops[i]?=some o) (G:∀k∈du o,L k=true) (H:∀k∈du o,k∈τ):pK ops o a (pE ops cx τ j9):=by
 intro t v ht hl
 rcases uh hl with⟨j,q,h,rfl⟩ | ⟨I,J⟩
 ·
  have O:=s.waits i o hi B t ht j (A j q) h;have r:=G j O;rw [D j r];exact z.here j (A j q) r t h
 rw [z.qY t fun j q r h=>?_]
 ·
  exact h0.val t v J
 exact I j (H j (s.waits i o hi B t ht j q h)) h
abbrev IG(P:Program) (ops:Array Oper) (n m N:Nat) (w0:World) (M:Nat→Prop) (fL:List As) (K:Nat→Kd):=Inv P ops n m (CG w0 M N fL) (fun j=>(K j).E)
structure FG (P:Program) (ops:Array Oper) (n m N:Nat) (w0:World) (M:Nat→Prop) (fL:List As) (K:Nat→Kd) (Fin:KV→World→Prop) (j9:KV) (L:Nat→Bool) (br:Nat→Value) (w:World) (τ ρ:List Nat) (sd SL:List (Nat × As)) (Z:Nat→Prop) (ls:List As):Prop where
 Vg:∀j∈τ,L j=true
 Vh:∀j∈ρ,K j=.chain→L j=false
 node:DG P ops n w0 M N fL K Fin ρ (pE ops br τ j9) sd Z ls
 st:St w0 M Z w (SL.map (·.2)++ls)
 sub:∀A∈fL,A∈ls
 nd:(SL.map (·.1)).Nodup
 key:∀q∈SL,L q.1=true
 Vi:∀q∈sd,q∈SL
 sdn:(sd.map (·.1)).Nodup
 sdt:∀q∈sd,q.1∈τ
 own:∀j sh it,j<m→L j=true→K j=.side sh it→sh (br j)→(j,it (br j))∈SL
theorem Vj{a0 a:Act}{j9:KV}(Qu:RegB ops m) (h0:Fr n a0 j9) {L:Nat→Bool}{br:Nat→Value}{w:World}(W:IG P ops n m N w0 M fL K a0 L br a w)
  {SL:List As}(Qv:∀j sh it,j<m→L j=true→K j=.side sh it→sh (br j)→it (br j)∈SL) :
  ∀(q:List Nat) (τ:List Nat) (ρ:List Nat) (cx:Nat→Value) (sd:List (Nat × As)) (Z:Nat→Prop) (ls R:List As) (t:World),(∀j,L j=true→cx j=br j)→(∀j∈τ++q,j<m)→(τ++q).Nodup→
   (∀x i y,q=x++i::y→∀o,ops[i]?=some o→∀d∈du o,d∈τ++x)→(∀j∈q,K j=.chain→L j=false)→
   DG P ops n w0 M N fL K Fin (q++ρ) (pE ops cx τ j9) sd Z ls→N≤t.heap.size→St w0 M Z t (ls++R)→(∀A∈SL,A∈R)→(∀p∈sd,p.2∈R)→
   ∃cx sd Z ls,(∀j,L j=true→cx j=br j)∧DG P ops n w0 M N fL K Fin ρ (pE ops cx (τ++q) j9) sd Z ls:=by
 intro q
 induction q with
 | nil=>intro τ ρ cx sd Z ls R t hv _ _ _ _ Y _ _ _ _;exact⟨cx,sd,Z,ls,hv,by simpa using Y⟩
 | cons i q ih=>
  intro τ ρ cx sd Z ls R t hv AB yB Bl pF Y z H C D;obtain⟨o,B,qZ,yo,mP⟩:=Y;have J:i<m:=AB i (by simp)
  have DE:gu ops i=o.dst:=by simp [gu,B]
  have Ur:∀d∈du o,d∈τ:=fun d hd=>by simpa using Bl [] i q rfl o B d hd
  have yC:i∉τ:=fun h=>by
   have:=(List.nodup_append.1 yB).2.2 i h i (by simp)
   exact this rfl
  have ab9:∀j∈(τ++[i])++q,j<m:=fun j s=>AB j (by simpa using s)
  have aca:((τ++[i])++q).Nodup:=by simpa using yB
  have Qw:∀x k y,q=x++k::y→∀o,ops[k]?=some o→∀d∈du o,d∈(τ++[i])++x:=fun x k y e o B d hd=>by
   have:=Bl (i::x) k y (by rw [e];rfl) o B d hd
   simpa using this
  have next:∀u,pE ops (fun j=>if j=i then u else cx j) (τ++[i]) j9=ku (pE ops cx τ j9) o.dst u:=fun u=>by
   rw [tJ,lE (cx:=cx) (l:=τ) fun j s=>by rw [if_neg fun e=>yC (by rw [← e];exact s)]];simp only [pE,DE,if_true]
  have hv':∀u,(L i=true→u=br i)→∀j,L j=true→(if j=i then u else cx j)=br j:=fun u hu j s=>by
   by_cases e:j=i
   ·
    subst e;rw [if_pos rfl];exact hu s
   rw [if_neg e];exact hv j s
  have fin:∀u Ja Z' O R' G,(L i=true→u=br i)→DG P ops n w0 M N fL K Fin (q++ρ) (ku (pE ops cx τ j9) o.dst u) Ja Z' O→N≤G.heap.size→St w0 M Z' G (O++R')→(∀A∈SL,A∈R')→(∀p∈Ja,p.2∈R')→
    ∃cx sd Z ls,(∀j,L j=true→cx j=br j)∧DG P ops n w0 M N fL K Fin ρ (pE ops cx (τ++i::q) j9) sd Z ls:=fun u Ja Z' O R' G hu Y z H C D=>by
   have:=ih (τ++[i]) ρ (fun j=>if j=i then u else cx j) Ja Z' O R' G (hv' u hu) ab9 aca Qw (fun j s=>pF j (by simp [s])) (by rw [next];exact Y) z H C D
   simpa using this
  have hag:L i=true→pK ops o a (pE ops cx τ j9):=fun r=>yA Qu h0 W hv (fun j s=>AB j (by simp [s])) J B (W.closed i o J r B) Ur
  rcases mP with⟨hg,S⟩ | ⟨hg,hk,mP⟩
  ·
   exact fin undef sd Z ls R t (fun r=>(W.no i o J r B ((hag r).wanted hg)).symm) S z H C D
  rcases mP with⟨V,e,jq,S⟩ | ⟨sh,it,V,pV,S⟩ | ⟨V,pV⟩
  ·
   refine fin e sd Z ls R t (fun r=>?_) S z H C D;obtain⟨wj,U1,Oq⟩:=W.det i o J r B ((hag r).wanted hg) (by show(K i).E=none;rw [V];rfl);rw [(hag r).exec qZ hk,jq wj U1] at Oq
   simpa using Oq
  ·
   by_cases r:L i=true
   ·
    have hs:sh (br i):=W.yn i o (fun v _=>sh v) J r B ((hag r).wanted hg) (by show(K i).E=_;rw [V];rfl)
    exact fin (br i) _ Z ls R t (fun _=>rfl) (S _ hs) z H C (fun p I=>by
     rcases List.mem_cons.1 I with rfl | I
     ·
      exact C _ (Qv i sh it J r V hs)
     exact D p I)
   obtain⟨v,G,mi,hs,tK⟩:=(pV t Z _ z H).exists
   exact fin v _ Z ls (it v::R) G (fun h=>absurd h r) (S v hs) (Nat.le_trans z mi) (tK.perm List.perm_middle) (fun A hA=>by simp [C A hA]) (fun p I=>by
    rcases List.mem_cons.1 I with rfl | I
    ·
     simp
    simp [D p I])
  obtain⟨v,G,mi,Z',O,tK,_,DX⟩:=(pV t R z H D).exists;exact fin v sd Z' O R G (fun h=>by rw [pF i (by simp) V] at h;cases h) DX (Nat.le_trans z mi) tK C D
theorem Ov{a0 a:Act}{j9:KV}(Qu:RegB ops m) (h0:Fr n a0 j9) {L:Nat→Bool}{br:Nat→Value}{w:World}(H:IG P ops n m N w0 M fL K a0 L br a w)
  {SL:List (Nat × As)}(Qv:∀j sh it,j<m→L j=true→K j=.side sh it→sh (br j)→(j,it (br j))∈SL) {Z:Nat→Prop}{ls:List As} :
  ∀(s:List Nat) (τ:List Nat) (ρ:List Nat) (sd:List (Nat × As)),(∀j∈τ++s,j<m)→(τ++s).Nodup→
   (∀x i y,s=x++i::y→∀o,ops[i]?=some o→∀d∈du o,d∈τ++x)→(∀j∈s,L j=true)→(∀j∈s,K j=.chain→L j=false)→
   DG P ops n w0 M N fL K Fin (s++ρ) (pE ops br τ j9) sd Z ls→(∀q∈sd,q∈SL)→(sd.map (·.1)).Nodup→(∀q∈sd,q.1∈τ)→
   ∃r,DG P ops n w0 M N fL K Fin ρ (pE ops br (τ++s) j9) r Z ls∧(∀q∈r,q∈SL)∧(r.map (·.1)).Nodup∧(∀q∈r,q.1∈τ++s):=by
 intro s
 induction s with
 | nil=>intro τ ρ sd _ _ _ _ _ I h1 J C;exact⟨sd,by simpa using I,h1,J,by simpa using C⟩
 | cons i s ih=>
  intro τ ρ sd W yB Bl hY pF I h1 J C;obtain⟨o,z,qZ,yo,Y⟩:=I;have D:i<m:=W i (by simp)
  have DE:gu ops i=o.dst:=by simp [gu,z]
  have Ur:∀d∈du o,d∈τ:=fun d hd=>by simpa using Bl [] i s rfl o z d hd
  have yC:i∉τ:=fun h=>by
   have:=(List.nodup_append.1 yB).2.2 i h i (by simp)
   exact this rfl
  have A:=hY i (by simp)
  have next:pE ops br (τ++[i]) j9=ku (pE ops br τ j9) o.dst (br i):=by rw [tJ];simp only [pE,DE]
  have fin:∀r,DG P ops n w0 M N fL K Fin (s++ρ) (ku (pE ops br τ j9) o.dst (br i)) r Z ls→(∀q∈r,q∈SL)→(r.map (·.1)).Nodup→(∀q∈r,q.1∈τ++[i])→
    ∃r,DG P ops n w0 M N fL K Fin ρ (pE ops br (τ++i::s) j9) r Z ls∧(∀q∈r,q∈SL)∧(r.map (·.1)).Nodup∧(∀q∈r,q.1∈τ++i::s):=fun r I g1 g2 g3=>by
   have:=ih (τ++[i]) ρ r (fun j B=>W j (by simpa using B)) (by simpa using yB) (fun x k y e o z d hd=>by
    have:=Bl (i::x) k y (by rw [e];rfl) o z d hd
    simpa using this) (fun j B=>hY j (by simp [B])) (fun j B=>pF j (by simp [B])) (by rw [next];exact I) g1 g2 g3
   simpa using this
  have S:pK ops o a (pE ops br τ j9):=yA Qu h0 H (fun _ _=>rfl) (fun j B=>W j (by simp [B])) D z (H.closed i o D A z) Ur
  rcases Y with⟨V,O⟩ | ⟨V,hk,Y⟩
  ·
   have:=H.no i o D A z (S.wanted V)
   exact fin sd (by rw [this];exact O) h1 J (fun q t=>by simp [C q t])
  rcases Y with⟨G,e,jq,O⟩ | ⟨sh,it,G,pV,O⟩ | ⟨G,pV⟩
  ·
   obtain⟨wj,U1,Oq⟩:=H.det i o D A z (S.wanted V) (by show(K i).E=none;rw [G];rfl);rw [S.exec qZ hk,jq wj U1] at Oq
   have he:e=br i:=by simpa using Oq
   exact fin sd (by rw [← he];exact O) h1 J (fun q t=>by simp [C q t])
  ·
   have hs:sh (br i):=H.yn i o (fun v _=>sh v) D A z (S.wanted V) (by show(K i).E=_;rw [G];rfl);refine fin _ (O _ hs) (fun q t=>?_) ?_ (fun q t=>?_)
   ·
    rcases List.mem_cons.1 t with rfl | t
    ·
     exact Qv i sh it D A G hs
    exact h1 q t
   ·
    simp only [List.map_cons,List.nodup_cons];exact⟨fun h=>by obtain⟨q,t,e⟩:=List.mem_map.1 h;exact yC (by rw [← e];exact C q t),J⟩
   rcases List.mem_cons.1 t with rfl | t
   ·
    simp
   simp [C q t]
  rw [pF i (by simp) G] at A;cases A
theorem FG.pass{j9:KV}{L:Nat→Bool}{br:Nat→Value}{w:World}{τ ρ:List Nat}{sd SL:List (Nat × As)}{Z:Nat→Prop}{ls:List As}(h:FG P ops n m N w0 M fL K Fin j9 L br w τ ρ sd SL Z ls) {i:Nat}{v:Value}(A:L i=false) (B:K i≠.chain) (C:∀sh it,K i=.side sh it→¬sh v) :
  FG P ops n m N w0 M fL K Fin j9 (fun j=>if j=i then true else L j) (fun j=>if j=i then v else br j) w τ ρ sd SL Z ls:=by
 have hit:i∉τ:=fun h1=>by have:=h.Vg i h1;rw [A] at this;cases this
 refine⟨fun j r=>?_,fun j r hc=>?_,?_,h.st,h.sub,h.nd,fun q D=>?_,h.Vi,h.sdn,h.sdt,fun j sh it r t z s=>?_⟩
 ·
  by_cases e:j=i <;> simp [e];exact h.Vg j r
 ·
  rw [if_neg fun e=>B (by rw [← e];exact hc)];exact h.Vh j r hc
 ·
  rw [lE (cx:=br) fun j r=>by rw [if_neg fun e=>hit (by rw [← e];exact r)]];exact h.node
 ·
  by_cases e:q.1=i <;> simp [e];exact h.key q D
 by_cases e:j=i
 ·
  subst e;simp only [if_true] at s;exact absurd s (C sh it z)
 simp only [if_neg e] at t s ⊢;exact h.own j sh it r t z s
theorem FG.side{j9:KV}{L:Nat→Bool}{br:Nat→Value}{w w':World}{τ ρ:List Nat}{sd SL:List (Nat × As)}{Z:Nat→Prop}{ls:List As}(h:FG P ops n m N w0 M fL K Fin j9 L br w τ ρ sd SL Z ls) {i:Nat}{v:Value}{sh:Value→Prop}{it:Value→As}(A:L i=false) (z:K i=.side sh it)
  (D:St w0 M Z w' (it v::(SL.map (·.2)++ls))) :
  FG P ops n m N w0 M fL K Fin j9 (fun j=>if j=i then true else L j) (fun j=>if j=i then v else br j) w' τ ρ sd ((i,it v)::SL) Z ls:=by
 have hit:i∉τ:=fun h1=>by have:=h.Vg i h1;rw [A] at this;cases this
 refine⟨fun j r=>?_,fun j r hc=>?_,?_,D,h.sub,?_,fun q s=>?_,fun q s=>by simp [h.Vi q s],h.sdn,h.sdt,fun j G H r B t C=>?_⟩
 ·
  by_cases e:j=i <;> simp [e];exact h.Vg j r
 ·
  rw [if_neg fun e=>by rw [← e,hc] at z;cases z];exact h.Vh j r hc
 ·
  rw [lE (cx:=br) fun j r=>by rw [if_neg fun e=>hit (by rw [← e];exact r)]];exact h.node
 ·
  simp only [List.map_cons,List.nodup_cons];exact⟨fun hm=>by(obtain⟨q,s,e⟩:=List.mem_map.1 hm;have:=h.key q s;rw [e,A] at this;exact Bool.noConfusion this),h.nd⟩
 ·
  rcases List.mem_cons.1 s with rfl | s
  ·
   simp
  by_cases e:q.1=i <;> simp [e];exact h.key q s
 by_cases e:j=i
 ·
  subst e;rw [z] at t;simp only [Kd.side.injEq] at t;obtain⟨rfl,rfl⟩:=t
  simp
 simp only [if_neg e] at B C ⊢;exact List.mem_cons_of_mem _ (h.own j G H r B t C)
theorem agG{a0 a:Act}{j9:KV}(I:RegB ops m) (s:I9 ops m K σ) (h0:Fr n a0 j9) {L:Nat→Bool}{br:Nat→Value}{w:World}{τ ρ:List Nat}{sd SL:List (Nat × As)}{Z:Nat→Prop}{ls:List As}(t:σ=τ++ρ) (J:IG P ops n m N w0 M fL K a0 L br a w) (z:FG P ops n m N w0 M fL K Fin j9 L br w τ ρ sd SL Z ls)
  {i:Nat}{o:Oper}(A:i<m) (B:ops[i]?=some o) (C:L i=false):∃q r,ρ=q++i::r∧(∀j∈τ++q,j<m)∧((τ++q)++i::r).Nodup∧(∀k∈du o,k∈τ++q):=by
 have D:i∈τ++ρ:=by rw [← t];exact s.all i A
 have G:i∈ρ:=by
  rcases List.mem_append.1 D with h | h
  ·
   have:=z.Vg i h;rw [C] at this;cases this
  exact h
 obtain⟨q,r,hr⟩:=List.append_of_mem G
 have e:σ=(τ++q)++i::r:=by rw [t,hr,List.append_assoc]
 exact⟨q,r,hr,fun j H=>s.lt j (by rw [e];exact List.mem_append_left _ H),by rw [← e];exact s.nd,s.Qt (τ++q) i r e o B⟩
theorem stepG{a0:Act}{j9:KV}{Q':Exit→Act→World→Prop}(hXp:∀x∈X,K x=.pure) (W:LM ops m X) (O:I9 ops m K σ) (hsh:∀j sh it,K j=.side sh it→¬sh undef) (h0:Fr n a0 j9) (hQ:X=[]∨∀c a w,¬Q' (.panic c) a w) :
  ∀(fuel:Nat) (listed:Array Bool) (a:Act) (w:World),listed.size=ops.size→left (fun j=>listed.getD j false) ops.size≤fuel→(∀j,m≤j→listed.getD j false=false)→
  (∃br τ ρ sd SL Z ls,σ=τ++ρ∧IG P ops n m N w0 M fL K a0 (fun j=>listed.getD j false) br a w∧FG P ops n m N w0 M fL K (fun kv w=>WL P ops Q' (ops.toList.drop m) n kv w) j9 (fun j=>listed.getD j false) br w τ ρ sd SL Z ls)→wpAny P .any ops Q' fuel listed a w:=by
 have Vk:∀{τ ρ:List Nat},σ=τ++ρ→∀j∈τ++ρ,j<m:=fun e j r=>O.lt j (by rw [e];exact r);refine IM (J:=fun L a w=>∃br τ ρ sd SL Z ls,σ=τ++ρ∧IG P ops n m N w0 M fL K a0 L br a w∧FG P ops n m N w0 M fL K (fun kv w=>WL P ops Q' (ops.toList.drop m) n kv w) j9 L br w τ ρ sd SL Z ls) W hQ (fun L a w ⟨br,_,_,_,_,_,_,_,z,_⟩ j p r hL D=>z.closed j p r hL D) ?_ ?_
 ·
  intro L a w ⟨br,τ,ρ,sd,SL,Z,ls,B,z,s⟩ hY;obtain⟨Ja,hD,h1,h2,_⟩:=Ov (ρ:=[]) W.toRegB h0 z (fun j sh it r tn G B=>s.own j sh it r tn G B) ρ τ sd (Vk B) (by rw [← B];exact O.nd) (fun x i y e=>O.Qt (τ++x) i y (by rw [B,e,List.append_assoc])) (fun j r=>hY j (Vk B j (List.mem_append_right _ r))) s.Vh (by simpa using s.node) s.Vi s.sdn s.sdt;obtain⟨ex,D⟩:=Bk s.nd h2 h1
  have we:List.Perm ((Ja.map (·.2)++ls)++ex.map (·.2)) (SL.map (·.2)++ls):=by
   have h3:List.Perm (SL.map (·.2)) (Ja.map (·.2)++ex.map (·.2)):=by simpa using D.map (·.2)
   refine List.Perm.trans ?_ (h3.symm.append_right ls);rw [List.append_assoc,List.append_assoc];exact List.Perm.append_left _ List.perm_append_comm
  refine hD w z.c.1 ((s.st.perm we).ft) a ⟨z.size,z.j0,fun t v hl=>?_⟩;rw [← B] at hl
  rcases uh hl with⟨j,r,hjt,rfl⟩ | ⟨LN,Up⟩
  ·
   exact z.here j (O.lt j r) (hY j (O.lt j r)) t hjt
  rw [z.qY t fun j r _=>LN j (O.all j r)];exact h0.val t v Up
 intro L a w i o ⟨br,τ,ρ,sd,SL,Z,ls,B,z,s⟩ Vl him Y Vm hd;obtain⟨H,ρ2,hr,L6,wm,Ur⟩:=agG W.toRegB O h0 B z s him Y Vm;have Vn:=(List.nodup_append.1 wm).1;have hd1:=fun x j y (e:H=x++j::y)=>O.Qt (τ++x) j (y++i::ρ2) (by rw [B,hr,e];simp);have Vo:=fun j (r:j∈H)=>s.Vh j (by rw [hr];simp [r]);have xm:=s.node;rw [hr] at xm;have put:=fun(v:Value) w'=>z.put (v:=v) (w':=w') W.toRegB him Y Vm hd
 have jt:∀w' j S u,j<m→L j=true→(K j).E=some S→S u w→S u w':=fun w' j S u _ _ Us h=>by
  cases G:K j with
  | pure=>simp only [G,Kd.E] at Us;cases Us
  | side sh it=>simp only [G,Kd.E,Option.some.injEq] at Us;subst Us;exact h
  | chain=>simp only [G,Kd.E,Option.some.injEq] at Us;subst Us;trivial
 by_cases I:K i=.chain
 ·
  have hX:i∉X:=fun h=>by rw [hXp i h] at I;cases I
  have Ox:∀j∈τ++H,L j=true:=O.clo (τ++H) i ρ2 (by rw [B,hr,List.append_assoc]) I (fun j=>L j=true) (fun j p r D=>z.closed j p (by
   rcases Nat.lt_or_ge j m with h | h
   ·
    exact h
   rw [Vl j h] at r;cases r) r D) (fun p D=>by rw [Y] at D;simp at D;subst D;exact hd)
  have yC:i∉τ++H:=fun h=>(List.nodup_append.1 wm).2.2 i h i (by simp) rfl
  have acb:i∉ρ2:=by have:=(List.nodup_append.1 wm).2.1;simp only [List.nodup_cons] at this;exact this.1
  obtain⟨Ja,⟨o',Lj,qZ,yo,mP⟩,h1,h2,h3⟩:=Ov (ρ:=i::ρ2) W.toRegB h0 z s.own H τ sd L6 Vn hd1 (fun j r=>Ox j (by simp [r])) Vo xm s.Vi s.sdn s.sdt;have V:pK ops o a (pE ops br (τ++H) j9):=yA W.toRegB h0 z (fun _ _=>rfl) L6 him Y hd Ur
  have eo:o'=o:=by rw [Y] at Lj;exact(Option.some.inj Lj).symm
  subst eo
  have DE:gu ops i=o'.dst:=by simp [gu,Y]
  have adv:∀v w' Z' Ii,IG P ops n m N w0 M fL K a0 (fun j=>if j=i then true else L j) (fun j=>if j=i then v else br j) (a.put o'.dst v) w'→St w0 M Z' w' (Ii++SL.map (·.2))→(∀A∈fL,A∈Ii)→DG P ops n w0 M N fL K (fun kv w=>WL P ops Q' (ops.toList.drop m) n kv w) ρ2 (ku (pE ops br (τ++H) j9) o'.dst v) Ja Z' Ii→
    ∃br τ ρ sd SL Z ls,σ=τ++ρ∧IG P ops n m N w0 M fL K a0 (fun j=>if j=i then true else L j) br (a.put o'.dst v) w'∧FG P ops n m N w0 M fL K (fun kv w=>WL P ops Q' (ops.toList.drop m) n kv w) j9 (fun j=>if j=i then true else L j) br w' τ ρ sd SL Z ls:=fun v w' Z' Ii hI' gk DY hD=>by
   refine⟨_,(τ++H)++[i],ρ2,Ja,SL,Z',Ii,by rw [B,hr];simp,hI',fun j r=>?_,fun j r hc=>?_,?_,gk.perm List.perm_append_comm,DY,s.nd,fun q hq=>?_,h1,h2,fun q hq=>by simp only [List.mem_append];exact .inl (List.mem_append.1 (h3 q hq)),fun j sh it r tn G B=>?_⟩
   ·
    rcases List.mem_append.1 r with r | r
    ·
     show(if j=i then true else L j)=true
     split
     ·
      rfl
     exact Ox j r
    simp at r;simp [r]
   ·
    rw [if_neg fun e=>acb (by rw [← e];exact r)];exact s.Vh j (by rw [hr];simp [r]) hc
   ·
    rw [tJ,lE (cx:=br) (l:=τ++H) fun j r=>by rw [if_neg fun e=>yC (by rw [← e];exact r)]];simp only [pE,DE,if_true];exact hD
   ·
    show(if q.1=i then true else L q.1)=true
    split
    ·
     rfl
    exact s.key q hq
   by_cases e:j=i
   ·
    subst e;rw [I] at G;cases G
   simp only [if_neg e] at tn B ⊢;exact s.own j sh it r tn G B
  rcases mP with⟨hg,Vp⟩ | ⟨hg,hk,⟨C,_⟩ | ⟨sh,it,C,_⟩ | ⟨_,pV⟩⟩
  ·
   have hw:=V.wanted hg;exact .inl ⟨hw,adv undef w Z ls (put _ _ yo z.c (fun _ _ _ _ _ _ h=>h) (fun _=>rfl) (fun h=>by rw [hw] at h;cases h) (fun S h=>by rw [hw] at h;cases h)) (s.st.perm List.perm_append_comm) s.sub Vp⟩
  ·
   rw [I] at C;cases C
  ·
   rw [I] at C;cases C
  have hw:=V.wanted hg;refine .inr ⟨hw,?_,fun h=>absurd h hX⟩;rw [V.exec qZ hk];refine(pV w (SL.map (·.2)) z.c.1 (s.st.perm List.perm_append_comm) (fun p D=>List.mem_map.2 ⟨p,h1 p D,rfl⟩)).mono fun v w' ⟨Qx,Z',Ii,gk,DY,hD⟩=>?_;exact adv v w' Z' Ii (put _ _ yo ⟨Nat.le_trans z.c.1 Qx,Z',_,gk,fun A hA=>List.mem_append_left _ (DY A hA)⟩ (jt _) (fun h=>by rw [hw] at h;cases h) (fun _ h=>by simp only [I,Kd.E] at h;cases h) (fun S' _ h=>by simp only [I,Kd.E,Option.some.injEq] at h;subst h;trivial)) gk DY hD
 obtain⟨cx,Ja,Z',Ii,hv,o',Lj,qZ,yo,mP⟩:=Vj W.toRegB h0 z (SL:=SL.map (·.2)) (fun j sh it r tn G B=>List.mem_map.2 ⟨_,s.own j sh it r tn G B,rfl⟩) H τ (i::ρ2) br sd Z ls (SL.map (·.2)) w (fun _ _=>rfl) L6 Vn hd1 Vo xm z.c.1 (s.st.perm List.perm_append_comm) (fun A h=>h) (fun p D=>List.mem_map.2 ⟨p,s.Vi p D,rfl⟩);have V:=yA W.toRegB h0 z hv L6 him Y hd Ur
 have eo:o'=o:=by rw [Y] at Lj;exact(Option.some.inj Lj).symm
 subst eo
 rcases mP with⟨hg,_⟩ | ⟨hg,hk,⟨C,e,jq,_⟩ | ⟨sh,it,C,pV,_⟩ | ⟨C,_⟩⟩
 ·
  have hw:=V.wanted hg;exact .inl ⟨hw,_,τ,ρ,sd,SL,Z,ls,B,put _ _ yo z.c (fun _ _ _ _ _ _ h=>h) (fun _=>rfl) (fun h=>by rw [hw] at h;cases h) (fun S h=>by rw [hw] at h;cases h),s.pass Vm I (fun sh it h=>hsh i sh it h)⟩
 ·
  have hw:=V.wanted hg;have hr:=jq w z.c;rw [← V.exec qZ hk] at hr;refine .inr ⟨hw,?_,fun _=>⟨e,hr⟩⟩;rw [hr];exact⟨_,τ,ρ,sd,SL,Z,ls,B,put _ _ yo z.c (fun _ _ _ _ _ _ h=>h) (fun h=>by rw [hw] at h;cases h) (fun _ _=>⟨w,z.c,hr⟩) (fun S _ h=>by simp only [C,Kd.E] at h;cases h),s.pass Vm I (fun sh it h=>by rw [C] at h;cases h)⟩
 ·
  have hw:=V.wanted hg;refine .inr ⟨hw,?_,fun h=>by rw [hXp i h] at C;cases C⟩;rw [V.exec qZ hk];refine(pV w Z _ z.c.1 s.st).mono fun v w' ⟨Qx,hs',gk⟩=>?_;exact⟨_,τ,ρ,sd,_,Z,ls,B,put _ _ yo ⟨Nat.le_trans z.c.1 Qx,Z,_,gk,fun A hA=>by simp [s.sub A hA]⟩ (jt _) (fun h=>by rw [hw] at h;cases h) (fun _ h=>by simp only [C,Kd.E] at h;cases h) (fun S' _ h=>by simp only [C,Kd.E,Option.some.injEq] at h;subst h;exact hs'),s.side Vm C gk⟩
 exact absurd C I
end
/-! ### the checks, and the walk -/
def mA:List Oper→Nat→Option Oper
 | [],_=>none
 | o::_,0=>some o
 | _::r,i+1=>mA r i
theorem lS:∀(l:List Oper) (i:Nat),mA l i=l[i]?
 | [],_=>rfl
 | _::_,0=>rfl
 | _::r,i+1=>by simp [mA,lS r i]
def F3(l:List Oper) (ms Ut:List Nat):Nat→List Nat→Bool
 | _,[]=>true
 | k,i::r=>(match mA l i with | some o=>Nat.beq (Nat.land (lz (du o)) k) (lz (du o)) | none=>true) &&
  (match jJ i Ut with | true=>Nat.beq (Nat.land k (ms.getD i 0)) k | false=>true) && F3 l ms Ut (k ||| 2 ^ i) r
def Oy(l:List Oper) (m:Nat) (Ut σ:List Nat):Bool:=
 σ.all (fun i=>Nat.blt i m) && (List.range m).all (fun i=>jJ i σ) && decide σ.Nodup && F3 l (oq l []) Ut 0 σ
theorem ui{l:List Oper}{ms s:List Nat}:∀{σ:List Nat}{k:Nat}{a:List Nat},(∀d,k.testBit d=true↔d∈a)→F3 l ms s k σ=true→∀x i y,σ=x++i::y→
  (∀o,l[i]?=some o→∀d∈du o,d∈a++x)∧(jJ i s=true→∀j∈a++x,(ms.getD i 0).testBit j=true)
 | [],_,_,_,_,x,i,y,e=>by simp at e
 | i0::r,k,a,hk,h,x,i,y,e=>by
  simp only [F3,Bool.and_eq_true] at h
  cases x with
  | nil=>
   simp only [List.nil_append,List.cons.injEq] at e;obtain⟨rfl,rfl⟩:=e;refine⟨fun o t d A=>?_,fun hc j B=>?_⟩
   ·
    have h1:=h.1.1;rw [lS,t] at h1;have he:(lz (du o)) &&& k=lz (du o):=Nat.eq_of_beq_eq_true h1;have q:=qX A;rw [← he,Nat.testBit_and] at q;simp only [Bool.and_eq_true] at q
    simpa using (hk d).1 q.2
   have h1:=h.1.2;rw [hc] at h1;have he:k &&& (ms.getD i0 0)=k:=Nat.eq_of_beq_eq_true h1;have q:=(hk j).2 (by simpa using B);rw [← he,Nat.testBit_and] at q;simp only [Bool.and_eq_true] at q;exact q.2
  | cons z x=>
   simp only [List.cons_append,List.cons.injEq] at e;obtain⟨rfl,e⟩:=e
   have:=ui (a:=a++[i0]) (fun d=>by
    simp only [Nat.testBit_or,Bool.or_eq_true,hk,Nat.testBit_two_pow,decide_eq_true_eq,List.mem_append,List.mem_singleton];exact or_congr_right eq_comm) h.2 x i y e
   simpa using this
inductive hI where
 | blk (T:TypeId) (cs:List Value)
 | map
 | sl (T:TypeId) (len:Nat) (cs:List Value)
 | val (p:Value→Prop)
def As.nil:As where
 fp _:=False
 ok _ _:=True
 lt _ _ hx:=hx.elim
 mono _ h:=h
 st _ _ h:=h
def hI.sh:hI→Value→Prop
 | .blk _ _,v=>∃b,v=.pointer (some ⟨b,0,none⟩)
 | .map,v=>∃b,v=.map (some b)
 | .sl _ len _,v=>∃b,v=.slice (some ⟨b,0,none⟩) len len
 | .val p,v=>v≠undef∧p v
def hI.it:hI→Value→As
 | .blk T cs,.pointer (some ⟨b,_,_⟩)=>As.blk b T cs
 | .map,.map (some b)=>As.map Key.val b []
 | .sl T _ cs,.slice (some ⟨b,_,_⟩) _ _=>As.blk b T cs
 | _,_=>As.nil
def su:List (Nat × hI)→Nat→Kd
 | [],_=>.pure
 | (j,s)::r,i=>match Nat.beq j i with
  | true=>.side s.sh s.it
  | false=>su r i
def G4(Ut:List Nat) (Vq:List (Nat × hI)) (i:Nat):Kd:=match jJ i Ut with
 | true=>.chain
 | false=>su Vq i
def Kd.lT:Kd→Bool
 | .pure=>true
 | _=>false
theorem Kd.F4:∀{k:Kd},k.lT=true→k=.pure
 | .pure,_=>rfl
 | .side _ _,h=>by cases h
 | .chain,h=>by cases h
theorem uj{i:Nat}{sh:Value→Prop}{it:Value→As}:∀{l:List (Nat × hI)},su l i=.side sh it→∃s:hI,sh=s.sh
 | [],h=>by simp [su] at h
 | (j,s)::r,h=>by
  simp only [su] at h
  split at h
  ·
   simp only [Kd.side.injEq] at h;exact⟨s,h.1.symm⟩
  exact uj h
theorem sw{i:Nat}:∀{l:List (Nat × hI)},su l i≠.chain
 | [],h=>by simp [su] at h
 | (j,s)::r,h=>by
  simp only [su] at h
  split at h
  ·
   cases h
  exact sw h
section
variable {P:Program}{Q:Exit→Act→World→Prop}{n m N:Nat}{w0 w:World}{M Z:Nat→Prop}{ls fL:List As}{Fin:KV→World→Prop}
theorem WC.bN{id:Nat}{kv:KV}{l:List Oper}(X q σ:List Nat) (B:List (Nat × hI)) (V:St w0 M Z w ls) (h1:∀A∈fL,A∈ls) (hm:P.follows .mixedOrders=true) (W:tY l m X=true) (z:Oy l m q σ=true) (Y:(X.all fun x=>(G4 q B x).lT)=true)
  (hdg:DG P l.toArray n w0 M w.heap.size fL (G4 q B) (fun kv w=>WL P l.toArray (NP Q) (l.drop m) n kv w) σ kv [] Z ls):WC P (.region id l.toArray true) Q n kv w:=by
 intro a G
 refine wp_mono (Q:=NP Q) ?_ fun _ _ _ h=>h.2
 refine wp_region_any hm ?_;have J:=xl W;simp only [Oy,Bool.and_eq_true] at z
 have acd:I9 l.toArray m (G4 q B) σ:=by
  have O:=ui (a:=[]) (fun d=>by simp) z.2;refine⟨fun i hi=>?_,fun i hi=>iZ.1 (List.all_eq_true.1 z.1.1.2 i (by simpa using hi)),by simpa using z.1.2,fun x i y e o t d hd=>by simpa using (O x i y e).1 o (by simpa using t) d hd,fun x i y e hc D hD hk j H=>?_⟩
  ·
   have:=List.all_eq_true.1 z.1.1.1 i hi
   simp only [Nat.blt] at this
   have:=Nat.le_of_ble_eq_true this
   omega
  have Vr:jJ i q=true:=by
   unfold G4 at hc
   cases he:jJ i q with
   | true=>rfl
   | false=>rw [he] at hc;exact absurd hc sw
  have hb:=(O x i y e).2 Vr j (by simpa using H)
  cases I:l[i]? with
  | none=>
   exfalso
   have h3:∀(l:List Oper) (acc:List Nat),(oq l acc).length=acc.length+l.length:=by
    intro l
    induction l with
    | nil=>intro acc;rfl
    | cons p r ih=>intro acc;simp only [oq];rw [ih];simp;omega
   have h2:(oq l [])[i]?=none:=List.getElem?_eq_none (by rw [h3];simpa using List.getElem?_eq_none_iff.1 I);rw [List.getD_eq_getElem?_getD,h2] at hb
   simp at hb
  | some o=>
   exact tX D l [] [] rfl (fun j o H t=>hD j o H (by simpa using t)) (fun k o t=>by simp at t) (fun k o t=>J.back k o (by simpa using t)) i o (by simpa using I) (hk o (by simpa using I)) j hb
 have C:=yq l;have S:St w0 M Z {w with drawn:=w.drawn+1} ls:=V.step (aS.drew [] w);refine stepG (X:=X) (K:=G4 q B) (fun x hx=>Kd.F4 (List.all_eq_true.1 Y x hx)) J acd (fun j sh it h=>?_) G (.inr fun c _ _ h=>h.1 c rfl) l.toArray.size _ a _ (by simp) (yp _ _) (fun j _=>C j) ⟨fun _=>undef,[],σ,[],[],Z,ls,rfl,⟨⟨Nat.le_refl _,Z,ls,S,h1⟩,G.size,G.j0,?_,fun _ _=>rfl,?_,?_,?_,?_⟩,
  ⟨by simp,fun j _ _=>C j,by simpa [pE] using hdg,by simpa using S,h1,by simp,by simp,by simp,by simp,by simp,fun j _ _ _ h=>by rw [C j] at h;cases h⟩⟩
 ·
  unfold G4 at h
  split at h
  ·
   cases h
  obtain⟨s,rfl⟩:=uj h;intro hu
  cases s <;> (simp only [hI.sh] at hu;first | (obtain⟨b,hb⟩:=hu;cases hb;done) | exact hu.1 rfl)
 all_goals (intro j;intros;rename_i h _ ;first | (have:=C j;simp_all;done) | skip)
variable {l:List Oper}{i:Nat}{σ':List Nat}{kv:KV}{sd:List (Nat × As)}{K:Nat→Kd}{d:Tmp}{op:Op}{ty:TypeId}{pos:String}{af:Array Edge}{g:Option (Nat × Bool)}
theorem DG.no(h:mA l i=some ⟨some d,op,ty,pos,af,g⟩) (q:gd l.toArray kv ⟨some d,op,ty,pos,af,g⟩=some false) (r:bp op=false) (s:Nat.blt d n=true)
  (next:DG P l.toArray n w0 M N fL K Fin σ' ((d,undef)::kv) sd Z ls):DG P l.toArray n w0 M N fL K Fin (i::σ') kv sd Z ls:=
 ⟨⟨some d,op,ty,pos,af,g⟩,by(rw [lS] at h;simpa using h),r,s,.inl ⟨q,next⟩⟩
theorem DG.p{v:Value}(r:mA l i=some ⟨some d,op,ty,pos,af,g⟩) (s:gd l.toArray kv ⟨some d,op,ty,pos,af,g⟩=some true) (t:bp op=false) (hk:known kv op=true) (z:Nat.blt d n=true) (B:(K i).lT=true)
  (h:∀w q R,N≤w.heap.size→St w0 M q w R→(∀A∈fL,A∈R)→PV P op ty kv w v)
  (next:DG P l.toArray n w0 M N fL K Fin σ' ((d,v)::kv) sd Z ls):DG P l.toArray n w0 M N fL K Fin (i::σ') kv sd Z ls:=
 ⟨⟨some d,op,ty,pos,af,g⟩,by(rw [lS] at r;simpa using r),t,z,.inr ⟨s,hk,.inl ⟨Kd.F4 B,v,fun w ⟨h1,q,R,C,D⟩=>(h w q R h1 C D).2.2 _ _ _ _,next⟩⟩⟩
theorem DG.side(s:hI) (r:mA l i=some ⟨some d,op,ty,pos,af,g⟩) (t:gd l.toArray kv ⟨some d,op,ty,pos,af,g⟩=some true) (z:bp op=false) (hk:known kv op=true) (A:Nat.blt d n=true) (B:K i=.side s.sh s.it)
  (h:∀w q R,N≤w.heap.size→St w0 M q w R→OX P ⟨some d,op,ty,pos,af,g⟩ n kv w fun C w'=>w.heap.size≤w'.heap.size∧∃v,C=(d,v)::kv∧s.sh v∧St w0 M q w' (s.it v::R))
  (next:∀v,s.sh v→DG P l.toArray n w0 M N fL K Fin σ' ((d,v)::kv) ((i,s.it v)::sd) Z ls):DG P l.toArray n w0 M N fL K Fin (i::σ') kv sd Z ls:=
 ⟨⟨some d,op,ty,pos,af,g⟩,by(rw [lS] at r;simpa using r),z,A,.inr ⟨t,hk,.inr (.inl ⟨s.sh,s.it,B,fun w q R h1 D=>(h w q R h1 D).2.2.2.mono fun v w' ⟨a,u,e,b,c⟩=>by
  simp only [ku,List.cons.injEq,Prod.mk.injEq,true_and,and_true] at e;subst e;exact⟨a,b,c⟩,next⟩)⟩⟩
theorem DG.c(r:mA l i=some ⟨some d,op,ty,pos,af,g⟩) (s:gd l.toArray kv ⟨some d,op,ty,pos,af,g⟩=some true) (t:bp op=false) (hk:known kv op=true) (z:Nat.blt d n=true) (B:K i=.chain)
  (h:∀w R,N≤w.heap.size→St w0 M Z w (ls++R)→(∀p∈sd,p.2∈R)→OX P ⟨some d,op,ty,pos,af,g⟩ n kv w fun C w'=>w.heap.size≤w'.heap.size∧∃v,C=(d,v)::kv∧∃Z' q,St w0 M Z' w' (q++R)∧(∀A∈fL,A∈q)∧
   DG P l.toArray n w0 M N fL K Fin σ' ((d,v)::kv) sd Z' q):DG P l.toArray n w0 M N fL K Fin (i::σ') kv sd Z ls:=
 ⟨⟨some d,op,ty,pos,af,g⟩,by(rw [lS] at r;simpa using r),t,z,.inr ⟨s,hk,.inr (.inr ⟨B,fun w R h1 D G=>(h w R h1 D G).2.2.2.mono fun v w' ⟨a,u,e,b⟩=>by
  simp only [ku,List.cons.injEq,Prod.mk.injEq,true_and,and_true] at e;subst e;exact⟨a,b⟩⟩)⟩⟩
theorem DG.nil(h:∀w,N≤w.heap.size→St w0 M Z w (sd.map (·.2)++ls)→Fin kv w):DG P l.toArray n w0 M N fL K Fin [] kv sd Z ls:=h
end
end Go.Rc

namespace Go.Rc
open Go
structure SV (w0:World) (M Z:Nat→Prop) (w:World) (l:List As):Prop where
 bV:gK M w0 w
 jG:∀x,Z x→x<w.heap.size
 ok:∀A∈l,A.ok Z w
section
variable {w0 w:World}{M Z:Nat→Prop}{l R ls:List As}{A0 A1 A2 A3 A4 A5 A6 A7 A8 A9 Vs A11 A12:As}
theorem St.sv(h:St w0 M Z w R) (hi:∀A∈l,A∈R):SV w0 M Z w l:=⟨h.bV,h.jG,fun A q=>h.ok A (hi A q)⟩
theorem SV.g0(h:SV w0 M Z w (A0::l)):A0.ok Z w:=h.ok _ M0
theorem SV.tl(h:SV w0 M Z w (A0::l)):SV w0 M Z w l:=⟨h.bV,h.jG,fun A q=>h.ok A (.tail _ q)⟩
theorem SV.g1(h:SV w0 M Z w (A0::A1::l)):A1.ok Z w:=h.tl.g0
theorem SV.g2(h:SV w0 M Z w (A0::A1::A2::l)):A2.ok Z w:=h.tl.g1
theorem SV.g3(h:SV w0 M Z w (A0::A1::A2::A3::l)):A3.ok Z w:=h.tl.g2
theorem SV.g4(h:SV w0 M Z w (A0::A1::A2::A3::A4::l)):A4.ok Z w:=h.tl.g3
theorem SV.g5(h:SV w0 M Z w (A0::A1::A2::A3::A4::A5::l)):A5.ok Z w:=h.tl.g4
theorem SV.g6(h:SV w0 M Z w (A0::A1::A2::A3::A4::A5::A6::l)):A6.ok Z w:=h.tl.g5
theorem SV.g7(h:SV w0 M Z w (A0::A1::A2::A3::A4::A5::A6::A7::l)):A7.ok Z w:=h.tl.g6
theorem SV.g8(h:SV w0 M Z w (A0::A1::A2::A3::A4::A5::A6::A7::A8::l)):A8.ok Z w:=h.tl.g7
theorem SV.g9(h:SV w0 M Z w (A0::A1::A2::A3::A4::A5::A6::A7::A8::A9::l)):A9.ok Z w:=h.tl.g8
theorem SV.g10(h:SV w0 M Z w (A0::A1::A2::A3::A4::A5::A6::A7::A8::A9::Vs::l)):Vs.ok Z w:=h.tl.g9
theorem SV.g11(h:SV w0 M Z w (A0::A1::A2::A3::A4::A5::A6::A7::A8::A9::Vs::A11::l)):A11.ok Z w:=h.tl.g10
theorem SV.g12(h:SV w0 M Z w (A0::A1::A2::A3::A4::A5::A6::A7::A8::A9::Vs::A11::A12::l)):A12.ok Z w:=h.tl.g11
theorem ai.nil:∀A∈([]:List As),A∈ls:=by simp
theorem ai.cons(h:A0∈ls) (t:∀A∈l,A∈ls):∀A∈A0::l,A∈ls:=List.forall_mem_cons.2 ⟨h,t⟩
theorem aw.nil:R=[]++R:=rfl
theorem aw.cons{L:List As}(h:L=l++R):A0::L=(A0::l)++R:=by rw [h];rfl
end
section
variable {P:Program}{n m N:Nat}{w0 w:World}{M Z:Nat→Prop}{ls fL:List As}{Fin:KV→World→Prop}
variable {l:List Oper}{i:Nat}{σ':List Nat}{kv:KV}{sd:List (Nat × As)}{K:Nat→Kd}{d:Tmp}{op:Op}{ty:TypeId}{pos:String}{af:Array Edge}{g:Option (Nat × Bool)}
theorem DG.ch(r:mA l i=some ⟨some d,op,ty,pos,af,g⟩) (s:gd l.toArray kv ⟨some d,op,ty,pos,af,g⟩=some true) (t:bp op=false) (hk:known kv op=true) (z:Nat.blt d n=true) (B:K i=.chain)
  (h:∀w R,N≤w.heap.size→St w0 M Z w (ls++R)→(∀p∈sd,p.2∈R)→OX P ⟨some d,op,ty,pos,af,g⟩ n kv w fun C w'=>w.heap.size≤w'.heap.size∧∃v,C=(d,v)::kv∧∃Z' L q,St w0 M Z' w' L∧L=q++R∧(∀A∈fL,A∈q)∧
   DG P l.toArray n w0 M N fL K Fin σ' ((d,v)::kv) sd Z' q):DG P l.toArray n w0 M N fL K Fin (i::σ') kv sd Z ls:=
 DG.c r s t hk z B fun w R h1 D G=>by grind
theorem DG.cs(J:mA l i=some ⟨none,op,ty,pos,af,g⟩) (r:gd l.toArray kv ⟨none,op,ty,pos,af,g⟩=some true) (s:bp op=false) (hk:known kv op=true) (t:K i=.chain)
  (h:∀w R,N≤w.heap.size→St w0 M Z w (ls++R)→(∀p∈sd,p.2∈R)→OX P ⟨none,op,ty,pos,af,g⟩ n kv w fun z w'=>w.heap.size≤w'.heap.size∧z=kv∧∃Z' L q,St w0 M Z' w' L∧L=q++R∧(∀A∈fL,A∈q)∧
   DG P l.toArray n w0 M N fL K Fin σ' kv sd Z' q):DG P l.toArray n w0 M N fL K Fin (i::σ') kv sd Z ls:=
 ⟨⟨none,op,ty,pos,af,g⟩,by grind [lS],s,rfl,.inr ⟨r,hk,.inr (.inr ⟨t,fun w R h1 B C=>(h w R h1 B C).2.2.2.mono fun v w' ⟨a,_,Z',L,q,D,G,H,I⟩=>⟨a,Z',q,by rw [← G];exact D,H,I⟩⟩)⟩⟩
end
/-! ### loops of a known number of rounds -/
section
variable {P:Program}{c:Code}{Q:Exit→Act→World→Prop}{n m:Nat}{kv:KV}{w:World}
end
end Go.Rc

namespace Go.Rc
open Go
section
variable {P:Program}{kv:KV}{w:World}{T U ty:TypeId}{x y:Operand}
theorem pW{e:TypeId}(hT:P.underlying T=some (.pointer e)) (a:Option Addr):(Op.equalIn 10000 T (.pointer a) (.pointer none)).run P w=.ok (decide (a=none)) w:=by
 rw [show(10000:Nat)=9999+1 from rfl]
 unfold Op.equalIn
 cases a <;> simp [run_underlying hT]
theorem Bm{e:TypeId}(hT:P.underlying T=some (.slice e)) (a:Option Addr) (n c:Nat):(Op.equalIn 10000 T (.slice a n c) (.slice none 0 0)).run P w=.ok (decide (a=none)) w:=by
 rw [show(10000:Nat)=9999+1 from rfl]
 unfold Op.equalIn
 cases a <;> simp [run_underlying hT]
theorem Bn{e:Array String}(hT:∃ms,P.underlying T=some (.interface ms)):(Op.equalIn 10000 T .nilIface .nilIface).run P w=.ok true w:=by
 obtain⟨ms,hT⟩:=hT;rw [show(10000:Nat)=9999+1 from rfl]
 unfold Op.equalIn
 simp [run_underlying hT]
theorem PV.Qy{e:TypeId}{a:Option Addr}(hT:P.underlying T=some (.pointer e)) (h:ev kv x=some (.pointer a)) (q:ev kv y=some (.pointer none)):PV P (.binOp .eql T x y U) ty kv w (.bool (decide (a=none))):=
 ⟨rfl,by simp [known,opers,h,q],fun _ _ _ _=>by
  simp only [execOp,aJ h,aJ q]
  simp [eqGuard,binOp,Op.equal,Op.maxDepth,pW hT]⟩
theorem PV.Qz{e:TypeId}{a:Option Addr}(hT:P.underlying T=some (.pointer e)) (h:ev kv x=some (.pointer a)) (q:ev kv y=some (.pointer none)):PV P (.binOp .neq T x y U) ty kv w (.bool (decide (a≠none))):=
 ⟨rfl,by simp [known,opers,h,q],fun _ _ _ _=>by
  simp only [execOp,aJ h,aJ q]
  simp [eqGuard,binOp,Op.equal,Op.maxDepth,pW hT]⟩
theorem PV.QA{e:TypeId}{a:Option Addr}{n c:Nat}(hT:P.underlying T=some (.slice e)) (h:ev kv x=some (.slice a n c)) (q:ev kv y=some (.slice none 0 0)):PV P (.binOp .eql T x y U) ty kv w (.bool (decide (a=none))):=
 ⟨rfl,by simp [known,opers,h,q],fun _ _ _ _=>by
  simp only [execOp,aJ h,aJ q]
  simp [eqGuard,binOp,Op.equal,Op.maxDepth,Bm hT]⟩
theorem PV.QB(hT:∃ms,P.underlying T=some (.interface ms)) (h:ev kv x=some .nilIface):PV P (.binOp .neq T x (.const .nilIface) U) ty kv w (.bool false):=by
 have q:ev kv (.const .nilIface)=some .nilIface:=rfl;refine⟨rfl,by simp [known,opers,h,q],fun _ _ _ _=>?_⟩;simp only [execOp,aJ h,aJ q]
 simp [eqGuard,binOp,Op.equal,Op.maxDepth,Bn (e:=#[]) hT]
end
section
variable {α:Type}{R:RR α}{P:Program}{E k c b:Nat}{a:Option Addr}{u u':α}{Z:Nat→Prop}{w:World}
variable {N:Nat}{kv:KV}{K:KV→World→Prop}{ty:TypeId}{pos:String}{af:Array Edge}{g:Option (Nat × Bool)}{T:TypeId}
theorem OX.yD{d:Tmp}{n:Nat}{E k:Nat}(hT:P.underlying T=some (.slice E)) (q:∀w,(sizeOf E).run P w=.ok k w) (r:Nat.blt d n=true)
  (h:∀b w',AV w w' b→bQ w' b E []→K ((d,.slice (some ⟨b,0,none⟩) 0 0)::kv) w'):OX P ⟨some d,.buildSlice T 0 #[],ty,pos,af,g⟩ n kv w K:=by
 refine⟨rfl,r,rfl,?_⟩
 have hr:(execOp (jE kv) ⟨some d,.buildSlice T 0 #[],ty,pos,af,g⟩).run P w=.ok (.value (.slice (some ⟨w.heap.size,0,none⟩) 0 0)) (w.alloc (.cells #[] E)):=by
  simp only [execOp,Instr.buildSlice,Sem.run_bind,run_underlying hT,Result.andThen_ok,q w,Nat.zero_mul];rw [if_neg (by omega)];simp only [if_true,Sem.run_bind,Sem.run_pure,Result.andThen_ok]
  have s:Instr.fill (fun i=>some (i*k,k)) (Array.map (fun x=>(#[]:Array Value)[x % (#[]:Array Value).size]!) (Array.range 0)) (Array.map (fun x:Nat × Operand=>(x.fst,jE kv x.snd)) #[]).toList=some #[]:=by simp [Instr.fill]
  rw [s]
  rfl
 rw [hr];exact h _ _ ⟨j3 _ _,Nat.le_refl _,by simp⟩ (ly _ _)
theorem OR.QC{α:Type}{R:α→List Value→Prop}{base b E k:Nat}{w:World}(h:bQ w b E []) (hb:base≤b):OR base w E k R (some ⟨b,0,none⟩) 0 0 []:=
 ⟨rfl,[],rfl,by simp,by grind [OL.blk],fun i y r h1 q=>by simp at h1⟩
theorem Rd.uk{α:Type}{R:RR α}{k n c:Nat}{Z:Nat→Prop}{w:World}{xs:List α}(h:Rd R k Z w none n c xs):xs=[]:=by
 obtain⟨hn,rows,hl,hk,h1,r⟩:=h
 rcases h1.at_ with⟨_,q,_⟩ | ⟨b,o,q,_⟩
 ·
  grind
 cases q
end
theorem Calls.cap{P:Program}{f:FuncId}{r c:Value}{w:World}{Q:Ending→World→Prop}(h:Calls P f #[r,c] w Q):Calls P f (#[]++[r].toArray++#[c]) w Q:=by grind
theorem Calls.recv{P:Program}{f:FuncId}{v r:Value}{w:World}{Q:Ending→World→Prop}(h:Calls P f #[v,r] w Q):Calls P f (#[v]++[r].toArray++#[]) w Q:=by grind
end Go.Rc

namespace Go.Rc
open Go
section
variable {P:Program}{n:Nat}{kv:KV}{w:World}{d:Tmp}{ty:TypeId}{pos:String}{af:Array Edge}{g:Option (Nat × Bool)}
theorem WL.a{ops:Array Oper}{Q:Exit→Act→World→Prop}{rest:List Oper}{op:Op}{v:Value}(next:WL P ops Q rest n ((d,v)::kv) w)
  (q:gd ops kv ⟨some d,op,ty,pos,af,g⟩=some true:=by rfl) (r:Nat.blt d n=true:=by rfl)
  (h:PV P op ty kv w v:=by
   first
   | with_reducible exact PV.mv (by with_unfolding_all rfl) | with_reducible exact PV.ext (by with_unfolding_all rfl) (by with_unfolding_all rfl) | with_reducible exact PV.fa iG.h (by with_unfolding_all rfl) | with_reducible exact PV.as (by with_unfolding_all rfl) | with_reducible exact PV.Qe (by with_unfolding_all rfl) | with_reducible exact PV.hV F1.h (by with_unfolding_all rfl) | with_reducible exact PV.not (by with_unfolding_all rfl)
   | with_reducible exact PV.ID (by with_unfolding_all rfl) (by with_unfolding_all rfl) | with_reducible exact PV.Qd (by with_unfolding_all rfl) (by with_unfolding_all rfl) | with_reducible exact PV.lss (by with_unfolding_all rfl) (by with_unfolding_all rfl) | with_reducible exact PV.leq (by with_unfolding_all rfl) (by with_unfolding_all rfl) | with_reducible exact PV.gtr (by with_unfolding_all rfl) (by with_unfolding_all rfl) | with_reducible exact PV.geq (by with_unfolding_all rfl) (by with_unfolding_all rfl)
   | with_reducible exact PV.eqs (by with_unfolding_all rfl) (by with_unfolding_all rfl) | with_reducible exact PV.UZ (by with_unfolding_all rfl) (by with_unfolding_all rfl) | with_reducible exact PV.DL DR.h (by with_unfolding_all rfl) (by with_unfolding_all rfl) | with_reducible exact PV.Lk DR.h (by with_unfolding_all rfl) (by with_unfolding_all rfl)
   | with_reducible exact PV.IB (by with_unfolding_all rfl) (by with_unfolding_all rfl) (by with_unfolding_all rfl) | with_reducible exact PV.IC (by with_unfolding_all rfl) (by with_unfolding_all rfl) (by with_unfolding_all rfl)
   | with_reducible exact PV.add (by with_unfolding_all rfl) (by with_unfolding_all rfl) (by omega) (by omega) | with_reducible exact PV.sub (by with_unfolding_all rfl) (by with_unfolding_all rfl) (by omega) (by omega) | with_reducible exact PV.mul (by with_unfolding_all rfl) (by with_unfolding_all rfl) (by omega) (by omega)
   | with_reducible exact PV.rem (by with_unfolding_all rfl) (by with_unfolding_all rfl) (by omega) | with_reducible exact PV.quo (by with_unfolding_all rfl) (by with_unfolding_all rfl) (by omega) (by omega) (by omega) | with_reducible exact PV.cat (by with_unfolding_all rfl) (by with_unfolding_all rfl) (by omega)
   | with_reducible exact PV.zero Uq.h | with_reducible exact PV.Qy mU.h (by with_unfolding_all rfl) (by with_unfolding_all rfl) | with_reducible exact PV.Qz mU.h (by with_unfolding_all rfl) (by with_unfolding_all rfl) | with_reducible exact PV.QA mU.h (by with_unfolding_all rfl) (by with_unfolding_all rfl) | with_reducible exact PV.tT mU.h (by with_unfolding_all rfl) | with_reducible exact PV.LW (by with_unfolding_all rfl) (by with_unfolding_all rfl) | with_reducible exact PV.IZ (by with_unfolding_all rfl) (by with_unfolding_all rfl)) :
  WL P ops Q (⟨some d,op,ty,pos,af,g⟩::rest) n kv w:=WL.p q r h next
theorem DW.a{ops:Array Oper}{i:Nat}{C:World→Prop}{T:Nat→World→World→Prop}{E:Nat→Option (Value→World→Prop)}{Fin:KV→World→Prop}{rest:List Oper}{F:j8}{op:Op}{v:Value}
  (next:DW P ops n C T E Fin (i+1) rest ((d,v)::kv) F)
  (q:gd ops kv ⟨some d,op,ty,pos,af,g⟩=some true:=by rfl) (r:bp op=false:=by rfl) (hk:known kv op=true:=by rfl) (s:Nat.blt d n=true:=by rfl) (t:E i=none:=by rfl)
  (h:∀w,C w→PV P op ty kv w v:=by
   intro _ z
   first
   | with_reducible exact PV.mv (by with_unfolding_all rfl) | with_reducible exact PV.ext (by with_unfolding_all rfl) (by with_unfolding_all rfl) | with_reducible exact PV.fa iG.h (by with_unfolding_all rfl) | with_reducible exact PV.as (by with_unfolding_all rfl) | with_reducible exact PV.Qe (by with_unfolding_all rfl) | with_reducible exact PV.hV F1.h (by with_unfolding_all rfl) | with_reducible exact PV.not (by with_unfolding_all rfl)
   | with_reducible exact PV.ID (by with_unfolding_all rfl) (by with_unfolding_all rfl) | with_reducible exact PV.Qd (by with_unfolding_all rfl) (by with_unfolding_all rfl) | with_reducible exact PV.lss (by with_unfolding_all rfl) (by with_unfolding_all rfl) | with_reducible exact PV.leq (by with_unfolding_all rfl) (by with_unfolding_all rfl) | with_reducible exact PV.gtr (by with_unfolding_all rfl) (by with_unfolding_all rfl) | with_reducible exact PV.geq (by with_unfolding_all rfl) (by with_unfolding_all rfl)
   | with_reducible exact PV.eqs (by with_unfolding_all rfl) (by with_unfolding_all rfl) | with_reducible exact PV.UZ (by with_unfolding_all rfl) (by with_unfolding_all rfl) | with_reducible exact PV.DL DR.h (by with_unfolding_all rfl) (by with_unfolding_all rfl) | with_reducible exact PV.Lk DR.h (by with_unfolding_all rfl) (by with_unfolding_all rfl)
   | with_reducible exact PV.IB (by with_unfolding_all rfl) (by with_unfolding_all rfl) (by with_unfolding_all rfl) | with_reducible exact PV.IC (by with_unfolding_all rfl) (by with_unfolding_all rfl) (by with_unfolding_all rfl)
   | with_reducible exact PV.add (by with_unfolding_all rfl) (by with_unfolding_all rfl) (by omega) (by omega) | with_reducible exact PV.sub (by with_unfolding_all rfl) (by with_unfolding_all rfl) (by omega) (by omega) | with_reducible exact PV.mul (by with_unfolding_all rfl) (by with_unfolding_all rfl) (by omega) (by omega)
   | with_reducible exact PV.rem (by with_unfolding_all rfl) (by with_unfolding_all rfl) (by omega) | with_reducible exact PV.quo (by with_unfolding_all rfl) (by with_unfolding_all rfl) (by omega) (by omega) (by omega) | with_reducible exact PV.cat (by with_unfolding_all rfl) (by with_unfolding_all rfl) (by omega)
   | with_reducible exact PV.zero Uq.h | with_reducible exact PV.Qy mU.h (by with_unfolding_all rfl) (by with_unfolding_all rfl) | with_reducible exact PV.Qz mU.h (by with_unfolding_all rfl) (by with_unfolding_all rfl) | with_reducible exact PV.QA mU.h (by with_unfolding_all rfl) (by with_unfolding_all rfl) | with_reducible exact PV.tT mU.h (by with_unfolding_all rfl) | with_reducible exact PV.LW (by with_unfolding_all rfl) (by with_unfolding_all rfl) | with_reducible exact PV.IZ (by with_unfolding_all rfl) (by with_unfolding_all rfl)) :
  DW P ops n C T E Fin i (⟨some d,op,ty,pos,af,g⟩::rest) kv F:=DW.p q r hk s t h next
end
section
variable {P:Program}{n N:Nat}{w0:World}{M Z:Nat→Prop}{ls fL:List As}{Fin:KV→World→Prop}{l:List Oper}{i:Nat}{σ':List Nat}{kv:KV}{sd:List (Nat × As)}{K:Nat→Kd}{d:Tmp}{op:Op}{ty:TypeId}{pos:String}{af:Array Edge}{g:Option (Nat × Bool)}
theorem DG.a{v:Value}(next:DG P l.toArray n w0 M N fL K Fin σ' ((d,v)::kv) sd Z ls)
  (q:mA l i=some ⟨some d,op,ty,pos,af,g⟩:=by rfl) (r:gd l.toArray kv ⟨some d,op,ty,pos,af,g⟩=some true:=by rfl) (s:bp op=false:=by rfl) (hk:known kv op=true:=by rfl) (t:Nat.blt d n=true:=by rfl) (z:(K i).lT=true:=by rfl)
  (h:∀w B R,N≤w.heap.size→St w0 M B w R→(∀A∈fL,A∈R)→PV P op ty kv w v:=by
   intro _ _ _ _ _ _
   first
   | with_reducible exact PV.mv (by with_unfolding_all rfl) | with_reducible exact PV.ext (by with_unfolding_all rfl) (by with_unfolding_all rfl) | with_reducible exact PV.fa iG.h (by with_unfolding_all rfl) | with_reducible exact PV.as (by with_unfolding_all rfl) | with_reducible exact PV.Qe (by with_unfolding_all rfl) | with_reducible exact PV.hV F1.h (by with_unfolding_all rfl) | with_reducible exact PV.not (by with_unfolding_all rfl)
   | with_reducible exact PV.ID (by with_unfolding_all rfl) (by with_unfolding_all rfl) | with_reducible exact PV.Qd (by with_unfolding_all rfl) (by with_unfolding_all rfl) | with_reducible exact PV.lss (by with_unfolding_all rfl) (by with_unfolding_all rfl) | with_reducible exact PV.leq (by with_unfolding_all rfl) (by with_unfolding_all rfl) | with_reducible exact PV.gtr (by with_unfolding_all rfl) (by with_unfolding_all rfl) | with_reducible exact PV.geq (by with_unfolding_all rfl) (by with_unfolding_all rfl)
   | with_reducible exact PV.eqs (by with_unfolding_all rfl) (by with_unfolding_all rfl) | with_reducible exact PV.UZ (by with_unfolding_all rfl) (by with_unfolding_all rfl) | with_reducible exact PV.DL DR.h (by with_unfolding_all rfl) (by with_unfolding_all rfl) | with_reducible exact PV.Lk DR.h (by with_unfolding_all rfl) (by with_unfolding_all rfl)
   | with_reducible exact PV.IB (by with_unfolding_all rfl) (by with_unfolding_all rfl) (by with_unfolding_all rfl) | with_reducible exact PV.IC (by with_unfolding_all rfl) (by with_unfolding_all rfl) (by with_unfolding_all rfl)
   | with_reducible exact PV.add (by with_unfolding_all rfl) (by with_unfolding_all rfl) (by omega) (by omega) | with_reducible exact PV.sub (by with_unfolding_all rfl) (by with_unfolding_all rfl) (by omega) (by omega) | with_reducible exact PV.mul (by with_unfolding_all rfl) (by with_unfolding_all rfl) (by omega) (by omega)
   | with_reducible exact PV.rem (by with_unfolding_all rfl) (by with_unfolding_all rfl) (by omega) | with_reducible exact PV.quo (by with_unfolding_all rfl) (by with_unfolding_all rfl) (by omega) (by omega) (by omega) | with_reducible exact PV.cat (by with_unfolding_all rfl) (by with_unfolding_all rfl) (by omega)
   | with_reducible exact PV.zero Uq.h | with_reducible exact PV.Qy mU.h (by with_unfolding_all rfl) (by with_unfolding_all rfl) | with_reducible exact PV.Qz mU.h (by with_unfolding_all rfl) (by with_unfolding_all rfl) | with_reducible exact PV.QA mU.h (by with_unfolding_all rfl) (by with_unfolding_all rfl) | with_reducible exact PV.tT mU.h (by with_unfolding_all rfl) | with_reducible exact PV.LW (by with_unfolding_all rfl) (by with_unfolding_all rfl) | with_reducible exact PV.IZ (by with_unfolding_all rfl) (by with_unfolding_all rfl)) :
  DG P l.toArray n w0 M N fL K Fin (i::σ') kv sd Z ls:=DG.p q r s hk t z h next
end
/-! calls that own nothing -/
section
variable {P:Program}{n:Nat}{kv:KV}{w:World}{d:Tmp}{ty:TypeId}{pos:String}{af:Array Edge}{g:Option (Nat × Bool)}{w0:World}{M Z:Nat→Prop}{ls:List As}{f:FuncId}{xs:List Operand}{wo:Array TypeId}{args:List Value}{u u':Value}
theorem WL.c1 [r:gp P f] {ops:Array Oper}{Q:Exit→Act→World→Prop}{rest:List Oper}(hc:Calls P f args.toArray w fun e w'=>e=.returned u'∧aS [] w w') (s:u'=u) (st:St w0 M Z w ls)
  (next:∀w',aS [] w w'→St w0 M Z w' ls→WL P ops Q rest n ((d,u)::kv) w')
  (t:gd ops kv ⟨some d,.call {callee:=.value (.func f),args:=xs.toArray,argTypes:=wo},ty,pos,af,g⟩=some true:=by rfl) (z:Nat.blt d n=true:=by rfl) (A:xs.map (ev kv)=args.map some:=by rfl) :
  WL P ops Q (⟨some d,.call {callee:=.value (.func f),args:=xs.toArray,argTypes:=wo},ty,pos,af,g⟩::rest) n kv w:=
 WL.go t (OX.call r.h z A (hc.mono fun _ w' ⟨he,q⟩=>⟨u,by rw [he,s],next w' q (st.step q)⟩))
theorem WL.c0 [s:gp P f] {ops:Array Oper}{Q:Exit→Act→World→Prop}{rest:List Oper}(hc:Calls P f args.toArray w fun e w'=>e=.returned u∧aS [] w w') (st:St w0 M Z w ls)
  (next:∀w',aS [] w w'→St w0 M Z w' ls→WL P ops Q rest n ((d,u)::kv) w')
  (h:gd ops kv ⟨some d,.call {callee:=.value (.func f),args:=xs.toArray,argTypes:=wo},ty,pos,af,g⟩=some true:=by rfl) (q:Nat.blt d n=true:=by rfl) (r:xs.map (ev kv)=args.map some:=by rfl) :
  WL P ops Q (⟨some d,.call {callee:=.value (.func f),args:=xs.toArray,argTypes:=wo},ty,pos,af,g⟩::rest) n kv w:=WL.c1 hc rfl st next h q r
theorem DW.c1 [z:gp P f] {ops:Array Oper}{i N:Nat}{T:Nat→World→World→Prop}{E:Nat→Option (Value→World→Prop)}{Fin:KV→World→Prop}{rest:List Oper}{F:j8}
  (hc:∀q,(N≤q.heap.size∧St w0 M Z q ls)→AW (du ⟨some d,.call {callee:=.value (.func f),args:=xs.toArray,argTypes:=wo},ty,pos,af,g⟩) F q→Calls P f args.toArray q fun e w'=>e=.returned u'∧aS [] q w') (A:u'=u)
  (next:DW P ops n (fun q=>N≤q.heap.size∧St w0 M Z q ls) T E Fin (i+1) rest ((d,u)::kv) ((i,fun _=>u=u)::F))
  (B:gd ops kv ⟨some d,.call {callee:=.value (.func f),args:=xs.toArray,argTypes:=wo},ty,pos,af,g⟩=some true:=by rfl) (hk:known kv (.call {callee:=.value (.func f),args:=xs.toArray,argTypes:=wo})=true:=by rfl) (t:Nat.blt d n=true:=by rfl)
  (C:E i=some (fun v _=>v=u):=by rfl) (hT:∀w w',aS [] w w'→T i w w':=by exact fun _ _ h=>h.p0) (D:xs.map (ev kv)=args.map some:=by rfl) :
  DW P ops n (fun q=>N≤q.heap.size∧St w0 M Z q ls) T E Fin i (⟨some d,.call {callee:=.value (.func f),args:=xs.toArray,argTypes:=wo},ty,pos,af,g⟩::rest) kv F:=
 DW.e B rfl hk t C (fun q r G=>OX.call z.h t D ((hc q r G).mono fun _ w' ⟨he,s⟩=>⟨u,by rw [he,A],⟨Nat.le_trans r.1 s.size,r.2.step s⟩,hT _ _ s,u,rfl,rfl⟩)) (by rintro _ _ _ rfl;exact next)
theorem DW.c0 [A:gp P f] {ops:Array Oper}{i N:Nat}{T:Nat→World→World→Prop}{E:Nat→Option (Value→World→Prop)}{Fin:KV→World→Prop}{rest:List Oper}{F:j8}
  (hc:∀q,(N≤q.heap.size∧St w0 M Z q ls)→AW (du ⟨some d,.call {callee:=.value (.func f),args:=xs.toArray,argTypes:=wo},ty,pos,af,g⟩) F q→Calls P f args.toArray q fun e w'=>e=.returned u∧aS [] q w')
  (next:DW P ops n (fun q=>N≤q.heap.size∧St w0 M Z q ls) T E Fin (i+1) rest ((d,u)::kv) ((i,fun _=>u=u)::F))
  (r:gd ops kv ⟨some d,.call {callee:=.value (.func f),args:=xs.toArray,argTypes:=wo},ty,pos,af,g⟩=some true:=by rfl) (hk:known kv (.call {callee:=.value (.func f),args:=xs.toArray,argTypes:=wo})=true:=by rfl) (s:Nat.blt d n=true:=by rfl)
  (t:E i=some (fun v _=>v=u):=by rfl) (hT:∀w w',aS [] w w'→T i w w':=by exact fun _ _ h=>h.p0) (z:xs.map (ev kv)=args.map some:=by rfl) :
  DW P ops n (fun q=>N≤q.heap.size∧St w0 M Z q ls) T E Fin i (⟨some d,.call {callee:=.value (.func f),args:=xs.toArray,argTypes:=wo},ty,pos,af,g⟩::rest) kv F:=DW.c1 hc rfl next r hk s t hT z
end
/-! operations with effects, and what is owned behind them -/
section
variable {P:Program}{n:Nat}{kv:KV}{w:World}{d:Tmp}{ty:TypeId}{pos:String}{af:Array Edge}{g:Option (Nat × Bool)}{w0:World}{M Z:Nat→Prop}{ls:List As}{ops:Array Oper}{Q:Exit→Act→World→Prop}{rest:List Oper}
theorem WL.al{T:TypeId}{l:List Value} [hT:DS P T l] (st:St w0 M Z w ls) (next:∀b w',AV w w' b→bQ w' b T l→St w0 M Z w' (As.blk b T l::ls)→WL P ops Q rest n ((d,.pointer (some ⟨b,0,none⟩))::kv) w')
  (r:gd ops kv ⟨some d,.alloc T,ty,pos,af,g⟩=some true:=by rfl) (s:Nat.blt d n=true:=by rfl):WL P ops Q (⟨some d,.alloc T,ty,pos,af,g⟩::rest) n kv w:=
 WL.go r (OX.alloc hT.h s fun b w' q hb=>next b w' q hb (st.de q hb))
theorem WL.mm{κ:Type} [DecidableEq κ] (enc:κ→Value) {T:TypeId}(st:St w0 M Z w ls) (next:∀b w',AV w w' b→KM enc w' b []→St w0 M Z w' (As.map enc b []::ls)→WL P ops Q rest n ((d,.map (some b))::kv) w')
  (q:gd ops kv ⟨some d,.makeMap T none,ty,pos,af,g⟩=some true:=by rfl) (r:Nat.blt d n=true:=by rfl):WL P ops Q (⟨some d,.makeMap T none,ty,pos,af,g⟩::rest) n kv w:=
 WL.go q (OX.makeMap enc r fun b w' h hb=>next b w' h hb (st.LZ h hb))
theorem WL.s1{x y:Operand}{j b e U:Nat}{cs q:List Value}{v:Value} [hT:Ih P U 1] (fr:St w0 M Z w (As.blk b e cs::ls)) (next:∀w',aS [b] w w'→St w0 M Z w' (As.blk b e q::ls)→WL P ops Q rest n kv w')
  (r:gd ops kv ⟨none,.store U x y,ty,pos,af,g⟩=some true:=by rfl) (t:ev kv x=some (.pointer (some ⟨b,0+j,none⟩)):=by rfl) (z:ev kv y=some v:=by rfl)
  (A:nth cs j≠none:=by first | (simp [nth];done) | exact U9 rfl) (h1:v.oneCell'=true:=by rfl) (hl:AR cs j v=q:=by rfl):WL P ops Q (⟨none,.store U x y,ty,pos,af,g⟩::rest) n kv w:=
 WL.go r (OX.st hT.h (As.gb fr.g0) t z A h1 hl fun w' s _ hb=>next w' s (fr.Bj s hb))
theorem WL.s0{x y:Operand}{b e U:Nat}{cs q:List Value}{v:Value} [hT:Ih P U 1] (fr:St w0 M Z w (As.blk b e cs::ls)) (next:∀w',aS [b] w w'→St w0 M Z w' (As.blk b e q::ls)→WL P ops Q rest n kv w')
  (r:gd ops kv ⟨none,.store U x y,ty,pos,af,g⟩=some true:=by rfl) (t:ev kv x=some (.pointer (some ⟨b,0,none⟩)):=by rfl) (z:ev kv y=some v:=by rfl)
  (A:nth cs 0≠none:=by first | (simp [nth];done) | exact U9 rfl) (h1:v.oneCell'=true:=by rfl) (hl:AR cs 0 v=q:=by rfl):WL P ops Q (⟨none,.store U x y,ty,pos,af,g⟩::rest) n kv w:=
 WL.go r (OX.aO hT.h (As.gb fr.g0) t z A h1 hl fun w' s _ hb=>next w' s (fr.Bj s hb))
theorem WL.ap{α:Type}{R:RR α}{x y:Operand}{E k q c m c2 bytes U:Nat}{a a2:Option Addr}{xs t:List α}{A:Nat→Prop} [hT:I1 P U E k bytes] (B:ev kv x=some (.slice a q c)) (C:ev kv y=some (.slice a2 m c2)) (fr:St w0 M Z w (As.os R E k a q c xs::ls)) (D:SR A w k (R.r Z w) a2 m c2 t)
  (next:∀a' c' w',(∀x∈aI a',x∈aI a∨w.heap.size≤x)→(a'=none→a=none∧m=0)→St w0 M Z w' (As.os R E k a' (q+m) c' (xs++t)::ls)→WL P ops Q rest n ((d,.slice a' (q+m) c')::kv) w')
  (G:(q+m)*bytes≤140737488355328:=by omega) (H:q+m≤140737488355328:=by omega)
  (I:gd ops kv ⟨some d,.call {callee:=.builtin .append,args:=#[x,y],argTypes:=#[U,U]},ty,pos,af,g⟩=some true:=by rfl) (J:Nat.blt d n=true:=by rfl) :
  WL P ops Q (⟨some d,.call {callee:=.builtin .append,args:=#[x,y],argTypes:=#[U,U]},ty,pos,af,g⟩::rest) n kv w:=
 WL.go I (OX.jR hT.h J B C (As.gs fr.g0) D G H (Nat.zero_le _) fun a' c' w' h s z hn=>next a' c' w' z hn (fr.eV s h z))
end
end Go.Rc

namespace Go.Rc
open Go
theorem dm{p q:Prop}(g:p) (h:¬p:=by first | (simp;done) | (simp;omega) | (simp_all;done) | (simp_all;omega)):q:=absurd g h
section
variable {P:Program}{n:Nat}{kv:KV}{w:World}{d:Tmp}{ty:TypeId}{pos:String}{af:Array Edge}{g:Option (Nat × Bool)}
theorem WL.q{ops:Array Oper}{Q:Exit→Act→World→Prop}{rest:List Oper}{op:Op}{v:Value}(h:PV P op ty kv w v) (next:WL P ops Q rest n ((d,v)::kv) w)
  (r:gd ops kv ⟨some d,op,ty,pos,af,g⟩=some true:=by rfl) (s:Nat.blt d n=true:=by rfl):WL P ops Q (⟨some d,op,ty,pos,af,g⟩::rest) n kv w:=WL.p r s h next
theorem WL.z{ops:Array Oper}{Q:Exit→Act→World→Prop}{rest:List Oper}{o:Oper}(next:WL P ops Q rest n (ku kv o.dst undef) w)
  (h:gd ops kv o=some false:=by rfl) (q:pI n o.dst=true:=by rfl):WL P ops Q (o::rest) n kv w:=WL.no h q next
theorem DW.q{ops:Array Oper}{i:Nat}{C:World→Prop}{T:Nat→World→World→Prop}{E:Nat→Option (Value→World→Prop)}{Fin:KV→World→Prop}{rest:List Oper}{F:j8}{op:Op}{v:Value}
  (h:∀w,C w→PV P op ty kv w v) (next:DW P ops n C T E Fin (i+1) rest ((d,v)::kv) F)
  (r:gd ops kv ⟨some d,op,ty,pos,af,g⟩=some true:=by rfl) (s:bp op=false:=by rfl) (hk:known kv op=true:=by rfl) (t:Nat.blt d n=true:=by rfl) (z:E i=none:=by rfl) :
  DW P ops n C T E Fin i (⟨some d,op,ty,pos,af,g⟩::rest) kv F:=DW.p r s hk t z h next
theorem DW.z{ops:Array Oper}{i:Nat}{C:World→Prop}{T:Nat→World→World→Prop}{E:Nat→Option (Value→World→Prop)}{Fin:KV→World→Prop}{rest:List Oper}{F:j8}{op:Op}
  (next:DW P ops n C T E Fin (i+1) rest ((d,undef)::kv) F)
  (h:gd ops kv ⟨some d,op,ty,pos,af,g⟩=some false:=by rfl) (q:bp op=false:=by rfl) (r:Nat.blt d n=true:=by rfl) :
  DW P ops n C T E Fin i (⟨some d,op,ty,pos,af,g⟩::rest) kv F:=DW.no h q r next
end
section
variable {P:Program}{n N:Nat}{w0:World}{M Z:Nat→Prop}{ls fL:List As}{Fin:KV→World→Prop}{l:List Oper}{i:Nat}{σ':List Nat}{kv:KV}{sd:List (Nat × As)}{K:Nat→Kd}{d:Tmp}{op:Op}{ty:TypeId}{pos:String}{af:Array Edge}{g:Option (Nat × Bool)}
theorem DG.q{v:Value}(r:mA l i=some ⟨some d,op,ty,pos,af,g⟩) (h:∀w s R,N≤w.heap.size→St w0 M s w R→(∀A∈fL,A∈R)→PV P op ty kv w v) (next:DG P l.toArray n w0 M N fL K Fin σ' ((d,v)::kv) sd Z ls)
  (t:gd l.toArray kv ⟨some d,op,ty,pos,af,g⟩=some true:=by rfl) (z:bp op=false:=by rfl) (hk:known kv op=true:=by rfl) (B:Nat.blt d n=true:=by rfl) (C:(K i).lT=true:=by rfl) :
  DG P l.toArray n w0 M N fL K Fin (i::σ') kv sd Z ls:=DG.p r t z hk B C h next
theorem DG.z(h:mA l i=some ⟨some d,op,ty,pos,af,g⟩) (next:DG P l.toArray n w0 M N fL K Fin σ' ((d,undef)::kv) sd Z ls)
  (q:gd l.toArray kv ⟨some d,op,ty,pos,af,g⟩=some false:=by rfl) (r:bp op=false:=by rfl) (s:Nat.blt d n=true:=by rfl) :
  DG P l.toArray n w0 M N fL K Fin (i::σ') kv sd Z ls:=DG.no h q r s next
end
section
variable {w0 w:World}{M Z:Nat→Prop}{l:List As}{b T:Nat}{cs:List Value}
theorem St.b0(h:St w0 M Z w (As.blk b T cs::l)):w.rangeAt b 0 cs:=bQ.range (As.gb h.g0)
theorem St.b1{A0:As}(h:St w0 M Z w (A0::As.blk b T cs::l)):w.rangeAt b 0 cs:=bQ.range (As.gb h.g1)
theorem St.b2{A0 A1:As}(h:St w0 M Z w (A0::A1::As.blk b T cs::l)):w.rangeAt b 0 cs:=bQ.range (As.gb h.g2)
theorem St.b3{A0 A1 A2:As}(h:St w0 M Z w (A0::A1::A2::As.blk b T cs::l)):w.rangeAt b 0 cs:=bQ.range (As.gb h.g3)
theorem St.b4{A0 A1 A2 A3:As}(h:St w0 M Z w (A0::A1::A2::A3::As.blk b T cs::l)):w.rangeAt b 0 cs:=bQ.range (As.gb h.g4)
theorem St.b5{A0 A1 A2 A3 A4:As}(h:St w0 M Z w (A0::A1::A2::A3::A4::As.blk b T cs::l)):w.rangeAt b 0 cs:=bQ.range (As.gb h.g5)
end
structure mj (q:Prop):Prop where
 out:q
theorem nx{p q:Prop}(next:q) (h:mj q→p:=by
  intro h
  first
   | with_reducible refine WL.nil ?_
   | with_reducible refine EX.abM ?_
   | with_reducible refine WC.seq ?_
   | with_reducible refine WC.region ?_
   | with_reducible refine WC.block ?_
   | with_reducible refine WC.skip ?_
   | with_reducible refine WC.exit ?_
   | with_reducible refine WC.ret ?_
   | with_reducible refine EX.UT ?_
   | with_reducible refine EX.UU ?_
   | with_reducible refine EX.abN ?_
   | with_reducible refine EX.Qc ?_
   | with_reducible refine EX.abO ?_
   | refine WL.a ?_
   | refine WL.z ?_
   | refine DW.a ?_
   | refine DW.z ?_
   | refine DG.a ?_
  exact h.out):p:=h ⟨next⟩
theorem au{p q:Prop}(next:q) (h:mj q→p:=by intro h;(repeat (refine nx ?_));exact h.out):p:=h ⟨next⟩
theorem bK{p q:Prop}(next:q) (h:mj q→p:=by intro h;refine nx ?_;refine nx ?_;exact h.out):p:=h ⟨next⟩
theorem bY{p q:Prop}(next:q) (h:mj q→p:=by intro h;refine bK ?_;refine nx ?_;exact h.out):p:=h ⟨next⟩
theorem cj{p q:Prop}(next:q) (h:mj q→p:=by intro h;refine bK ?_;refine bK ?_;exact h.out):p:=h ⟨next⟩
theorem db{p q:Prop}(next:q) (h:mj q→p:=by intro h;refine bK ?_;refine bY ?_;exact h.out):p:=h ⟨next⟩
theorem fO{p q:Prop}(next:q) (h:mj q→p:=by intro h;refine bY ?_;refine bY ?_;exact h.out):p:=h ⟨next⟩
theorem ed{p q:Prop}(next:q) (h:mj q→p:=by intro h;refine bY ?_;refine cj ?_;exact h.out):p:=h ⟨next⟩
theorem gL{p q:Prop}(next:q) (h:mj q→p:=by intro h;refine cj ?_;refine cj ?_;exact h.out):p:=h ⟨next⟩
theorem kI{p q:Prop}(next:q) (h:mj q→p:=by intro h;refine cj ?_;refine db ?_;exact h.out):p:=h ⟨next⟩
theorem ju{p q:Prop}(next:q) (h:mj q→p:=by intro h;refine db ?_;refine db ?_;exact h.out):p:=h ⟨next⟩
theorem jT{p q:Prop}(next:q) (h:mj q→p:=by intro h;refine db ?_;refine fO ?_;exact h.out):p:=h ⟨next⟩
theorem aX{p q:Prop}(next:q) (h:mj q→p:=by intro h;refine fO ?_;refine fO ?_;exact h.out):p:=h ⟨next⟩
theorem CA{α:Type _}{a:α}{l m:List α}:(a::l)++m=a::(l++m):=rfl
theorem NA{α:Type _}{l:List α}:[]++l=l:=rfl
theorem CM{α β:Type _}{f:α→β}{a:α}{l:List α}:List.map f (a::l)=f a::List.map f l:=rfl
theorem NM{α β:Type _}{f:α→β}:List.map f []=[]:=rfl
theorem tG{g q:Prop}(h:g) (t:g→q:=by
  intro h
  first | rfl | (simp only [h];done) | (simp only [h];rfl) | (simp [h];done) | (simp;done) | (simp at h ⊢ <;> omega) | (simp <;> omega) | (simp [h] <;> omega) | (simp at h <;> omega)):q:=t h
theorem Sub.k2{kv r:KV}{t1 t2:Nat}{v1 v2:Value}(h1:Rc.look kv t1=some v1) (h:Rc.look kv t2=some v2) (hr:Sub kv r):Sub kv ((t1,v1)::(t2,v2)::r):=⟨h1,h,hr⟩
theorem Sub.k4{kv r:KV}{t1 t2 t3 t4:Nat}{v1 v2 v3 v4:Value}(h1:Rc.look kv t1=some v1) (h:Rc.look kv t2=some v2) (q:Rc.look kv t3=some v3) (s:Rc.look kv t4=some v4) (hr:Sub kv r):Sub kv ((t1,v1)::(t2,v2)::(t3,v3)::(t4,v4)::r):=⟨h1,h,q,s,hr⟩
section
variable {R L l ls:List As}{A0 A1 A2 A3:As}
theorem aw.k2(h:L=l++R):A0::A1::L=(A0::A1::l)++R:=aw.cons (aw.cons h)
theorem aw.k4(h:L=l++R):A0::A1::A2::A3::L=(A0::A1::A2::A3::l)++R:=aw.k2 (aw.k2 h)
theorem ai.k4(h0:A0∈ls) (h1:A1∈ls) (h:A2∈ls) (q:A3∈ls) (t:∀A∈l,A∈ls):∀A∈A0::A1::A2::A3::l,A∈ls:=ai.cons h0 (ai.cons h1 (ai.cons h (ai.cons q t)))
end
inductive E2 {α β:Type}:α→α→β→β→Prop where
 | r {a:α}{b:β}:E2 a a b b
inductive E5 {α β γ δ ε:Type}:α→α→β→β→γ→γ→δ→δ→ε→ε→Prop where
 | r {a:α}{b:β}{c:γ}{d:δ}{e:ε}:E5 a a b b c c d d e e
inductive E6 {α β γ δ ε ζ:Type}:α→α→β→β→γ→γ→δ→δ→ε→ε→ζ→ζ→Prop where
 | r {a:α}{b:β}{c:γ}{d:δ}{e:ε}{f:ζ}:E6 a a b b c c d d e e f f
theorem E2.p1{α β:Type}{a a':α}{b b':β}(e:E2 a a' b b'):a=a':=by cases e;rfl
theorem E2.p2{α β:Type}{a a':α}{b b':β}(e:E2 a a' b b'):b=b':=by cases e;rfl
section
variable {α β γ δ ε ζ:Type}{a a':α}{b b':β}{c c':γ}{d d':δ}{e e':ε}{f f':ζ}
theorem E5.p(h:E5 a a' b b' c c' d d' e e'):a=a'∧b=b'∧c=c'∧d=d'∧e=e':=by cases h;exact⟨rfl,rfl,rfl,rfl,rfl⟩
theorem E6.p(h:E6 a a' b b' c c' d d' e e' f f'):a=a'∧b=b'∧c=c'∧d=d'∧e=e'∧f=f':=by cases h;exact⟨rfl,rfl,rfl,rfl,rfl,rfl⟩
end
section
variable {P:Program}{n N:Nat}{kv:KV}{w w0:World}{d:Tmp}{ty:TypeId}{pos:String}{af:Array Edge}{g:Option (Nat × Bool)}
theorem WP{ops:Array Oper}{Q:Exit→Act→World→Prop}{rest:List Oper}{op:Op}{v:Value}(e:E2 (gd ops kv ⟨some d,op,ty,pos,af,g⟩) (some true) (Nat.blt d n) true) (h:PV P op ty kv w v) (next:WL P ops Q rest n ((d,v)::kv) w):WL P ops Q (⟨some d,op,ty,pos,af,g⟩::rest) n kv w:=
 WL.p e.p1 e.p2 h next
theorem DP{ops:Array Oper}{i:Nat}{C:World→Prop}{T:Nat→World→World→Prop}{E:Nat→Option (Value→World→Prop)}{Fin:KV→World→Prop}{rest:List Oper}{F:j8}{op:Op}{v:Value}
  (e:E5 (gd ops kv ⟨some d,op,ty,pos,af,g⟩) (some true) (bp op) false (known kv op) true (Nat.blt d n) true (E i) none) (h:∀w,C w→PV P op ty kv w v) (next:DW P ops n C T E Fin (i+1) rest ((d,v)::kv) F) :
  DW P ops n C T E Fin i (⟨some d,op,ty,pos,af,g⟩::rest) kv F:=DW.p e.p.1 e.p.2.1 e.p.2.2.1 e.p.2.2.2.1 e.p.2.2.2.2 h next
theorem DQ{M Z:Nat→Prop}{ls fL:List As}{Fin:KV→World→Prop}{l:List Oper}{i:Nat}{σ':List Nat}{sd:List (Nat × As)}{K:Nat→Kd}{op:Op}{v:Value}
  (e:E6 (mA l i) (some ⟨some d,op,ty,pos,af,g⟩) (gd l.toArray kv ⟨some d,op,ty,pos,af,g⟩) (some true) (bp op) false (known kv op) true (Nat.blt d n) true ((K i).lT) true) (h:∀w q R,N≤w.heap.size→St w0 M q w R→(∀A∈fL,A∈R)→PV P op ty kv w v)
  (next:DG P l.toArray n w0 M N fL K Fin σ' ((d,v)::kv) sd Z ls):DG P l.toArray n w0 M N fL K Fin (i::σ') kv sd Z ls:=
 DG.p e.p.1 e.p.2.1 e.p.2.2.1 e.p.2.2.2.1 e.p.2.2.2.2.1 e.p.2.2.2.2.2 h next
end
theorem aj{a b:Prop}(x:a) (y:b):a∧b:=⟨x,y⟩
theorem V1{P:Program}{T ty:TypeId}{kv:KV}{w:World}(hT:One P T) {x:Operand}{b o j:Nat}{vs:List Value}{v:Value}(hc:w.rangeAt b o vs) (e:E2 (ev kv x) (some (.pointer (some ⟨b,o+j,none⟩))) (nth vs j) (some v)):PV P (.load T x) ty kv w v:=PV.ld1 hT hc e.p1 e.p2
theorem VA{P:Program}{T ty:TypeId}{kv:KV}{w:World}{k:Nat}(hT:tm P T k) {x:Operand}{b o:Nat}{vs:List Value}(hc:w.rangeAt b o vs) (e:E2 vs.length k (ev kv x) (some (.pointer (some ⟨b,o,none⟩)))):PV P (.load T x) ty kv w (.agg vs.toArray):=PV.GR hT hc e.p1 e.p2
theorem Sub.v{kv r:KV}{t:Nat}{v v':Value}(hr:Sub kv r) (h:Rc.look kv t=some v:=by rfl) (q:v=v':=by first | rfl | (simp;done) | (congr 1;omega) | (simp only [];congr 1;omega)):Sub kv ((t,v')::r):=Sub.U3 h q hr
theorem WC.cd{P:Program}{Q:Exit→Act→World→Prop}{n:Nat}{kv:KV}{w:World}{c:Operand}{x y:Code}{b:Bool}(ht:b=true→WC P x Q n kv w) (h:b=false→WC P y Q n kv w) (hc:ev kv c=some (.bool b):=by rfl):WC P (.cond c x y) Q n kv w:=WC.cond hc ht h
section
variable {P:Program}{n:Nat}{kv:KV}{w w0:World}{M Z:Nat→Prop}{ls:List As}{d:Tmp}{ty:TypeId}{pos:String}{af:Array Edge}{g:Option (Nat × Bool)}{ops:Array Oper}{Q:Exit→Act→World→Prop}{rest:List Oper}{T:TypeId}{x y:Operand}
theorem WL.bx{v:Value}{l:List Value}(st:St w0 M Z w ls) (next:∀b w',AV w w' b→bQ w' b T l→St w0 M Z w' (As.blk b T l::ls)→WL P ops Q rest n ((d,.pointer (some ⟨b,0,none⟩))::kv) w')
  (q:gd ops kv ⟨some d,.box T x,ty,pos,af,g⟩=some true:=by rfl) (r:Nat.blt d n=true:=by rfl) (s:ev kv x=some v:=by rfl) (hl:v.cells=l.toArray:=by rfl):WL P ops Q (⟨some d,.box T x,ty,pos,af,g⟩::rest) n kv w:=
 WL.go q (OX.box r s hl fun b w' h hb=>next b w' h hb (st.de h hb))
theorem WL.sW{k b:Nat}{e:TypeId}{l us:List Value}(hT:(P.info? T).map (·.size)=some k) (st:St w0 M Z w (As.blk b e l::ls)) (next:∀w',aS [b] w w'→bQ w' b e us→St w0 M Z w' (As.blk b e us::ls)→WL P ops Q rest n kv w')
  (h:gd ops kv ⟨none,.store T x y,ty,pos,af,g⟩=some true:=by rfl) (q:ev kv x=some (.pointer (some ⟨b,0,none⟩)):=by rfl) (r:ev kv y=some (.agg us.toArray):=by rfl) (hk:us.length=k:=by rfl) (hlen:l.length=k:=by rfl) (h1:us.all (·.oneCell')=true:=by rfl):WL P ops Q (⟨none,.store T x y,ty,pos,af,g⟩::rest) n kv w:=
 WL.go h (OX.mg hT (As.gb st.g0) q r hk hlen h1 fun w' s _ hb=>next w' s hb (st.Bj s hb))
theorem St.lv{Z':Nat→Prop}{w':World}{l0 r l1 q:List As}(h:St w0 M Z w (l0++r)) (s:St w (mJ l0) Z' w' l1) (t:bH w.heap.size Z Z') (hl:l1++r=q:=by simp only [List.cons_append,List.nil_append] <;> rfl):St w0 M Z' w' q:=hl ▸ St.leave h s t
end
@[reducible] def RT:Ending→(Value→Prop)→Prop
 | .returned v,K=>K v
 | _,_=>False
theorem RT.out{e:Ending}{K:Value→Prop}(h:RT e K):∃v,e=.returned v∧K v:=by
 cases e <;> first | exact⟨_,rfl,h⟩ | exact h.elim
theorem WL.cl{P:Program}{n:Nat}{kv:KV}{w:World}{d:Tmp}{ty:TypeId}{pos:String}{af:Array Edge}{g:Option (Nat × Bool)}{ops:Array Oper}{Q:Exit→Act→World→Prop}{rest:List Oper}{f:FuncId}(q:CF P f) {xs:List Operand}{wo:Array TypeId}{args:List Value}{R:Ending→World→Prop}(r:xs.map (ev kv)=args.map some) (h:Calls P f args.toArray w R)
  (next:∀e w',R e w'→RT e fun v=>WL P ops Q rest n ((d,v)::kv) w') (s:gd ops kv ⟨some d,.call {callee:=.value (.func f),args:=xs.toArray,argTypes:=wo},ty,pos,af,g⟩=some true:=by rfl) (t:Nat.blt d n=true:=by rfl):WL P ops Q (⟨some d,.call {callee:=.value (.func f),args:=xs.toArray,argTypes:=wo},ty,pos,af,g⟩::rest) n kv w:=
 WL.go s (OX.call q t r (h.mono fun e w' hr=>(next e w' hr).out))
abbrev CR(P:Program) (f:FuncId) (a:Array Value) (w:World) (v:Value):Prop:=Calls P f a w fun e w'=>e=.returned v∧aS [] w w'
section
variable {w w0:World}{M Z:Nat→Prop}{l:List As}
theorem St.fr{α:Type}{R:RR α}{k n c:Nat}{a:Option Addr}{xs:List α}(st:St w0 M Z w l) (h:Rd R k Z w a n c xs):St w0 M Z w (As.ro R k a n c xs::l):=st.fact (As.L0 h) (fun _ q=>q)
theorem St.fg{b o:Nat}{r:List Value}(st:St w0 M Z w l) (h:Z b) (hr:w.rangeAt b o r):St w0 M Z w (As.rg b o r::l):=st.fact (As.Vc h (st.jG _ h) hr) (fun _ q=>q)
theorem St.s0(w:World):St w (fun _=>False) (fun _=>False) w []:=St.start (by simp)
theorem St.lr{w':World}{l0 r l1 q:List As}(h:St w0 M Z w (l0++r)) (s:St w (mJ l0) Z w' l1) (hl:l1++r=q:=by simp only [List.cons_append,List.nil_append] <;> rfl):St w0 M Z w' q:=hl ▸ St.leave h s (bH.refl _ _)
theorem EX.r1{P:Program}{fn:Func}{R:Ending→World→Prop}{n:Nat}{kv:KV}{t:Tmp}{v:Value}(h:R (.returned v) w) (hr:fn.results=#[.tmp t]:=by rfl) (q:look kv t=some v:=by rfl):EX (bodyPost P fn R) .ret n kv w:=EX.UX hr q h
theorem EX.r2{P:Program}{fn:Func}{R:Ending→World→Prop}{n:Nat}{kv:KV}{t u:Tmp}{v x:Value}(h:R (.returned (.tuple #[v,x])) w) (hr:fn.results=#[.tmp t,.tmp u]:=by rfl) (q:look kv t=some v:=by rfl) (r:look kv u=some x:=by rfl):EX (bodyPost P fn R) .ret n kv w:=EX.UY hr q r h
theorem WC.dS{P:Program}{Q:Exit→Act→World→Prop}{n:Nat}{kv:KV}{id m:Nat}{l:List Oper}{ls:List As}(st:St w0 M Z w ls) (hm:P.follows .mixedOrders=true)
  (q:DW P l.toArray n (fun h=>w.heap.size≤h.heap.size∧St w0 M Z h ls) (fun _=>gK (mJ ls)) (cA []) (fun kv w=>WL P l.toArray Q (l.drop m) n kv w) 0 (l.take m) kv []) (r:tY l m []=true:=by kernel_rfl):WC P (.region id l.toArray true) Q n kv w:=
 WC.dB st (bj (show StE _ _ [] from trivial)) hm r q
end
section
variable {p:Prop}{P:Program}{n:Nat}{kv:KV}{w w0:World}{M Z:Nat→Prop}{ls:List As}{d:Tmp}{ty:TypeId}{pos:String}{af:Array Edge}{g:Option (Nat × Bool)}{ops:Array Oper}{Q:Exit→Act→World→Prop}{rest:List Oper}{T:TypeId}{x y:Operand}{b o j k:Nat}{vs:List Value}{v:Value}
theorem aZ(s:mj (WL P ops Q (⟨some d,.load T x,ty,pos,af,g⟩::rest) n kv w)→p:=by intro h;exact au h.out) (q:gd ops kv ⟨some d,.load T x,ty,pos,af,g⟩=some true:=by rfl) (r:Nat.blt d n=true:=by rfl) (t:ev kv x=some (.pointer (some ⟨b,o+j,none⟩)):=by rfl) (z:nth vs j=some v:=by rfl) (hT:One P T) (hc:w.rangeAt b o vs) (next:WL P ops Q rest n ((d,v)::kv) w):p:=s ⟨WL.p q r (PV.ld1 hT hc t z) next⟩
theorem aY(s:mj (WL P ops Q (⟨some d,.load T x,ty,pos,af,g⟩::rest) n kv w)→p:=by intro h;exact au h.out) (q:gd ops kv ⟨some d,.load T x,ty,pos,af,g⟩=some true:=by rfl) (r:Nat.blt d n=true:=by rfl) (t:ev kv x=some (.pointer (some ⟨b,o,none⟩)):=by rfl) (z:vs.length=k:=by rfl) (hT:tm P T k) (hc:w.rangeAt b o vs) (next:WL P ops Q rest n ((d,.agg vs.toArray)::kv) w):p:=s ⟨WL.p q r (PV.GR hT hc z t) next⟩
theorem gX{us:List Value}(s:mj (WL P ops Q (⟨some d,.load T x,ty,pos,af,g⟩::rest) n kv w)→p:=by intro h;exact au h.out) (q:gd ops kv ⟨some d,.load T x,ty,pos,af,g⟩=some true:=by rfl) (r:Nat.blt d n=true:=by rfl) (t:ev kv x=some (.pointer (some ⟨b,o+j,none⟩)):=by rfl) (z:Oo vs j k=some us:=by rfl) (hT:tm P T k) (hc:w.rangeAt b o vs) (next:WL P ops Q rest n ((d,.agg us.toArray)::kv) w):p:=s ⟨WL.p q r (PV.wa hT hc t z) next⟩
theorem aR{c:Operand}{X Y:Code}{t:Bool}(s:mj (WC P (.cond c X Y) Q n kv w)→p:=by intro h;exact au h.out) (hc:ev kv c=some (.bool t):=by rfl) (ht:t=true→WC P X Q n kv w) (q:t=false→WC P Y Q n kv w):p:=s ⟨WC.cond hc ht q⟩
theorem dc{t m:Nat}{q c:Bool}{r:Option Tmp}{op:Op}(s:mj (WL P ops Q (⟨r,op,ty,pos,af,some (m,q)⟩::rest) n kv w)→p:=by intro h;exact au h.out) (hm:gu ops m=some t:=by rfl) (ht:look kv t=some (.bool c):=by rfl) (hT:c=true→WL P ops Q (⟨r,op,ty,pos,af,some (m,q)⟩::rest) n ((t,.bool true)::kv) w) (z:c=false→WL P ops Q (⟨r,op,ty,pos,af,some (m,q)⟩::rest) n ((t,.bool false)::kv) w):p:=s ⟨WL.cI ht hT z⟩
theorem bs{fn:Func}{R:Ending→World→Prop}{t:Tmp}(s:mj (EX (bodyPost P fn R) .ret n kv w)→p:=by intro h;exact au h.out) (hr:fn.results=#[.tmp t]:=by rfl) (q:look kv t=some v:=by rfl) (h:R (.returned v) w):p:=s ⟨EX.UX hr q h⟩
theorem yE{fn:Func}{R:Ending→World→Prop}{t u:Tmp}{z:Value}(s:mj (EX (bodyPost P fn R) .ret n kv w)→p:=by intro h;exact au h.out) (hr:fn.results=#[.tmp t,.tmp u]:=by rfl) (q:look kv t=some v:=by rfl) (r:look kv u=some z:=by rfl) (h:R (.returned (.tuple #[v,z])) w):p:=s ⟨EX.UY hr q r h⟩
theorem kR{fn:Func}{R:Ending→World→Prop}{t:Nat}(s:mj (EX (bodyPost P fn R) .ret n kv w)→p:=by intro h;exact au h.out) (hr:fn.results=#[.cell t T]:=by rfl) (ht:look kv t=some (.pointer (some ⟨b,0,none⟩)):=by rfl) (hl:vs.length=k:=by rfl) (hT:tm P T k) (hc:w.rangeAt b 0 vs) (h:R (.returned (.agg vs.toArray)) w):p:=s ⟨EX.ab1 hT hr ht hc hl h⟩
theorem cw{q:KV}{t:Nat}{v':Value}{J:World→Prop}(s:mj (EX (sj n t v kv J) .normal n q w)→p:=by intro h;exact au h.out) (r:kD (q.length - kv.length) q=kv:=by rfl) (z:ot (q.length - kv.length) q kv=true:=by rfl) (A:look q t=some v':=by rfl) (he:v'=v) (B:J w):p:=s ⟨EX.U4 _ r z A he B⟩
theorem gz{q:KV}{t:Nat}{v':Value}{J:World→Prop}(s:mj (EX (sj n t v (iI t kv) J) .normal n q w)→p:=by intro h;exact au h.out) (r:kD (q.length - kv.length) q=kv:=by rfl) (z:ot (q.length - kv.length) q (iI t kv)=true:=by rfl) (A:look q t=some v':=by rfl) (he:v'=v) (B:J w):p:=s ⟨EX.Qi _ r z A he B⟩
theorem dq(s:mj (WL P ops Q (⟨some d,.box T x,ty,pos,af,g⟩::rest) n kv w)→p:=by intro h;exact au h.out) (q:gd ops kv ⟨some d,.box T x,ty,pos,af,g⟩=some true:=by rfl) (r:Nat.blt d n=true:=by rfl) (t:ev kv x=some v:=by rfl) (hl:v.cells=vs.toArray:=by rfl) (st:St w0 M Z w ls) (next:∀b w',AV w w' b→bQ w' b T vs→St w0 M Z w' (As.blk b T vs::ls)→WL P ops Q rest n ((d,.pointer (some ⟨b,0,none⟩))::kv) w'):p:=s ⟨WL.bx st next q r t hl⟩
theorem cF{e:TypeId}{l:List Value}(s:mj (WL P ops Q (⟨none,.store T x y,ty,pos,af,g⟩::rest) n kv w)→p:=by intro h;exact au h.out) (q:gd ops kv ⟨none,.store T x y,ty,pos,af,g⟩=some true:=by rfl) (r:ev kv x=some (.pointer (some ⟨b,0,none⟩)):=by rfl) (t:ev kv y=some (.agg vs.toArray):=by rfl) (hk:vs.length=k:=by rfl) (hlen:l.length=k:=by rfl) (h1:vs.all (·.oneCell')=true:=by rfl) (hT:(P.info? T).map (·.size)=some k) (st:St w0 M Z w (As.blk b e l::ls)) (next:∀w',aS [b] w w'→bQ w' b e vs→St w0 M Z w' (As.blk b e vs::ls)→WL P ops Q rest n kv w'):p:=s ⟨WL.sW hT st next q r t hk hlen h1⟩
theorem eN{l:List Value}(s:mj (WL P ops Q (⟨some d,.alloc T,ty,pos,af,g⟩::rest) n kv w)→p:=by intro h;exact au h.out) (q:gd ops kv ⟨some d,.alloc T,ty,pos,af,g⟩=some true:=by rfl) (r:Nat.blt d n=true:=by rfl) [hT:DS P T l] (st:St w0 M Z w ls) (next:∀b w',AV w w' b→bQ w' b T l→St w0 M Z w' (As.blk b T l::ls)→WL P ops Q rest n ((d,.pointer (some ⟨b,0,none⟩))::kv) w'):p:=s ⟨WL.al st next q r⟩
theorem eS{f:FuncId}{xs:List Operand}{wo:Array TypeId}{args:List Value}{u:Value}(s:mj (WL P ops Q (⟨some d,.call {callee:=.value (.func f),args:=xs.toArray,argTypes:=wo},ty,pos,af,g⟩::rest) n kv w)→p:=by intro h;exact au h.out) (q:gd ops kv ⟨some d,.call {callee:=.value (.func f),args:=xs.toArray,argTypes:=wo},ty,pos,af,g⟩=some true:=by rfl) (r:Nat.blt d n=true:=by rfl) (t:xs.map (ev kv)=args.map some:=by rfl) [z:gp P f] (hc:CR P f args.toArray w u) (st:St w0 M Z w ls) (next:∀w',aS [] w w'→St w0 M Z w' ls→WL P ops Q rest n ((d,u)::kv) w'):p:=s ⟨WL.c0 hc st next q r t⟩
theorem bX{f:FuncId}{xs:List Operand}{wo:Array TypeId}{args:List Value}{R:Ending→World→Prop}(s:mj (WL P ops Q (⟨some d,.call {callee:=.value (.func f),args:=xs.toArray,argTypes:=wo},ty,pos,af,g⟩::rest) n kv w)→p:=by intro h;exact au h.out) (q:gd ops kv ⟨some d,.call {callee:=.value (.func f),args:=xs.toArray,argTypes:=wo},ty,pos,af,g⟩=some true:=by rfl) (r:Nat.blt d n=true:=by rfl) (t:xs.map (ev kv)=args.map some:=by rfl) (z:CF P f) (h:Calls P f args.toArray w R) (next:∀e w',R e w'→RT e fun v=>WL P ops Q rest n ((d,v)::kv) w'):p:=s ⟨WL.cl z t h next q r⟩
section
variable {i N e:Nat}{U:Nat→World→World→Prop}{E:Nat→Option (Value→World→Prop)}{Fin:KV→World→Prop}{F:j8}
theorem il(s:mj (DW P ops n (fun q=>N≤q.heap.size∧St w0 M Z q ls) U E Fin i (⟨some d,.load T x,ty,pos,af,g⟩::rest) kv F)→p:=by intro h;exact au h.out) (r:gd ops kv ⟨some d,.load T x,ty,pos,af,g⟩=some true:=by rfl) (t:bp (.load T x)=false:=by rfl) (hk:known kv (.load T x)=true:=by rfl) (z:Nat.blt d n=true:=by rfl) (A:E i=none:=by rfl) (B:ev kv x=some (.pointer (some ⟨b,0+j,none⟩)):=by rfl) (C:nth vs j=some v:=by rfl) (hT:One P T) (hb:∀{q},St w0 M Z q ls→(As.blk b e vs).ok Z q) (next:DW P ops n (fun q=>N≤q.heap.size∧St w0 M Z q ls) U E Fin (i+1) rest ((d,v)::kv) F):p:=s ⟨DW.p r t hk z A (fun _ h=>PV.ld1 hT (bQ.range (As.gb (hb h.2))) B C) next⟩
theorem gI(s:mj (DW P ops n (fun q=>N≤q.heap.size∧St w0 M Z q ls) U E Fin i (⟨some d,.load T x,ty,pos,af,g⟩::rest) kv F)→p:=by intro h;exact au h.out) (r:gd ops kv ⟨some d,.load T x,ty,pos,af,g⟩=some true:=by rfl) (t:bp (.load T x)=false:=by rfl) (hk:known kv (.load T x)=true:=by rfl) (z:Nat.blt d n=true:=by rfl) (A:E i=none:=by rfl) (B:ev kv x=some (.pointer (some ⟨b,0,none⟩)):=by rfl) (C:vs.length=k:=by rfl) (hT:tm P T k) (hb:∀{q},St w0 M Z q ls→(As.blk b e vs).ok Z q) (next:DW P ops n (fun q=>N≤q.heap.size∧St w0 M Z q ls) U E Fin (i+1) rest ((d,.agg vs.toArray)::kv) F):p:=s ⟨DW.p r t hk z A (fun _ h=>PV.GR hT (bQ.range (As.gb (hb h.2))) C B) next⟩
theorem tr{us:List Value}(s:mj (DW P ops n (fun q=>N≤q.heap.size∧St w0 M Z q ls) U E Fin i (⟨some d,.load T x,ty,pos,af,g⟩::rest) kv F)→p:=by intro h;exact au h.out) (r:gd ops kv ⟨some d,.load T x,ty,pos,af,g⟩=some true:=by rfl) (t:bp (.load T x)=false:=by rfl) (hk:known kv (.load T x)=true:=by rfl) (z:Nat.blt d n=true:=by rfl) (A:E i=none:=by rfl) (B:ev kv x=some (.pointer (some ⟨b,0+j,none⟩)):=by rfl) (C:Oo vs j k=some us:=by rfl) (hT:tm P T k) (hb:∀{q},St w0 M Z q ls→(As.blk b e vs).ok Z q) (next:DW P ops n (fun q=>N≤q.heap.size∧St w0 M Z q ls) U E Fin (i+1) rest ((d,.agg us.toArray)::kv) F):p:=s ⟨DW.p r t hk z A (fun _ h=>PV.wa hT (bQ.range (As.gb (hb h.2))) B C) next⟩
theorem ob{t m r:Nat}{q c:Bool}{z:Option Tmp}{op:Op}{A:Array Oper}{l':List Oper}{C:World→Prop}(s:mj (DW P ops r C U E (fun kv w=>WL P A Q l' n kv w) i (⟨z,op,ty,pos,af,some (m,q)⟩::rest) kv F)→p:=by intro h;exact au h.out) (hm:gu ops m=some t:=by rfl) (ht:look kv t=some (.bool c):=by rfl) (hT:c=true→DW P ops r C U E (fun kv w=>WL P A Q l' n kv w) i (⟨z,op,ty,pos,af,some (m,q)⟩::rest) ((t,.bool true)::kv) F) (B:c=false→DW P ops r C U E (fun kv w=>WL P A Q l' n kv w) i (⟨z,op,ty,pos,af,some (m,q)⟩::rest) ((t,.bool false)::kv) F):p:=s ⟨DW.cI ht hT B⟩
theorem cP{C:World→Prop}(s:mj (DW P ops n C U E Fin i [] kv F)→p:=by intro h;exact au h.out) (h:∀w,C w→DB F w→Fin kv w):p:=s ⟨DW.nil h⟩
section
variable {l:List Oper}{σ:List Nat}{sd:List (Nat × As)}{K:Nat→Kd}{fL:List As}
theorem oc(s:mj (DG P l.toArray n w0 M N fL K Fin (i::σ) kv sd Z ls)→p:=by intro h;exact au h.out) (t:mA l i=some ⟨some d,.load T x,ty,pos,af,g⟩:=by rfl) (z:gd l.toArray kv ⟨some d,.load T x,ty,pos,af,g⟩=some true:=by rfl) (A:bp (.load T x)=false:=by rfl) (hk:known kv (.load T x)=true:=by rfl) (B:Nat.blt d n=true:=by rfl) (C:(K i).lT=true:=by rfl) (D:ev kv x=some (.pointer (some ⟨b,0+j,none⟩)):=by rfl) (G:nth vs j=some v:=by rfl) (hT:One P T) (hb:∀{q r},SV w0 M r q fL→(As.blk b e vs).ok r q) (next:DG P l.toArray n w0 M N fL K Fin σ ((d,v)::kv) sd Z ls):p:=s ⟨DG.p t z A hk B C (fun _ _ _ _ h e=>PV.ld1 hT (bQ.range (As.gb (hb (h.sv e)))) D G) next⟩
theorem lx(s:mj (DG P l.toArray n w0 M N fL K Fin (i::σ) kv sd Z ls)→p:=by intro h;exact au h.out) (t:mA l i=some ⟨some d,.load T x,ty,pos,af,g⟩:=by rfl) (z:gd l.toArray kv ⟨some d,.load T x,ty,pos,af,g⟩=some true:=by rfl) (A:bp (.load T x)=false:=by rfl) (hk:known kv (.load T x)=true:=by rfl) (B:Nat.blt d n=true:=by rfl) (C:(K i).lT=true:=by rfl) (D:ev kv x=some (.pointer (some ⟨b,0,none⟩)):=by rfl) (G:vs.length=k:=by rfl) (hT:tm P T k) (hb:∀{q r},SV w0 M r q fL→(As.blk b e vs).ok r q) (next:DG P l.toArray n w0 M N fL K Fin σ ((d,.agg vs.toArray)::kv) sd Z ls):p:=s ⟨DG.p t z A hk B C (fun _ _ _ _ h e=>PV.GR hT (bQ.range (As.gb (hb (h.sv e)))) G D) next⟩
theorem yF{us:List Value}(s:mj (DG P l.toArray n w0 M N fL K Fin (i::σ) kv sd Z ls)→p:=by intro h;exact au h.out) (t:mA l i=some ⟨some d,.load T x,ty,pos,af,g⟩:=by rfl) (z:gd l.toArray kv ⟨some d,.load T x,ty,pos,af,g⟩=some true:=by rfl) (A:bp (.load T x)=false:=by rfl) (hk:known kv (.load T x)=true:=by rfl) (B:Nat.blt d n=true:=by rfl) (C:(K i).lT=true:=by rfl) (D:ev kv x=some (.pointer (some ⟨b,0+j,none⟩)):=by rfl) (G:Oo vs j k=some us:=by rfl) (hT:tm P T k) (hb:∀{q r},SV w0 M r q fL→(As.blk b e vs).ok r q) (next:DG P l.toArray n w0 M N fL K Fin σ ((d,.agg us.toArray)::kv) sd Z ls):p:=s ⟨DG.p t z A hk B C (fun _ _ _ _ h e=>PV.wa hT (bQ.range (As.gb (hb (h.sv e)))) D G) next⟩
theorem fV{op:Op}(s:mj (DG P l.toArray n w0 M N fL K Fin (i::σ) kv sd Z ls)→p:=by intro h;exact au h.out) (r:mA l i=some ⟨some d,op,ty,pos,af,g⟩:=by rfl) (t:gd l.toArray kv ⟨some d,op,ty,pos,af,g⟩=some true:=by rfl) (z:bp op=false:=by rfl) (hk:known kv op=true:=by rfl) (B:Nat.blt d n=true:=by rfl) (C:K i=.chain:=by rfl) (h:∀w R,N≤w.heap.size→St w0 M Z w (ls++R)→(∀p∈sd,p.2∈R)→OX P ⟨some d,op,ty,pos,af,g⟩ n kv w fun D w'=>w.heap.size≤w'.heap.size∧∃v,D=(d,v)::kv∧∃Z' L q,St w0 M Z' w' L∧L=q++R∧(∀A∈fL,A∈q)∧DG P l.toArray n w0 M N fL K Fin σ ((d,v)::kv) sd Z' q):p:=s ⟨DG.ch r t z hk B C h⟩
theorem jv(s:mj (DG P l.toArray n w0 M N fL K Fin [] kv sd Z ls)→p:=by intro h;exact au h.out) (h:∀w,N≤w.heap.size→St w0 M Z w (sd.map (·.2)++ls)→Fin kv w):p:=s ⟨DG.nil h⟩
end
end
theorem Sub.t{kv q:KV}(h:Sub kv q:=by repeat (first | exact Sub.nil | refine Sub.cons rfl ?_ | refine Sub.v ?_)):Sub kv q:=h
section
variable {σ:Type}{dj:σ→KV}
theorem ef{I:σ→World→Prop}{μ:σ→Nat}{m:Nat}(s':σ) (hi:I s' w) (hm:μ s'<m:=by first | (simp only [];omega) | omega) (h:Sub kv (dj s'):=by exact Sub.t):EX (Exit.then (fun a' w'=>∃s',Fr n a' (dj s')∧I s' w'∧μ s'<m) Q) .normal n kv w:=EX.again s' h hi hm
theorem mK{J:σ→World→Prop}(s':σ) (h:J s' w) (q:Sub kv (dj s'):=by exact Sub.t):EX (fun e a w'=>e=.normal∧∃s,Fr n a (dj s)∧J s w') .normal n kv w:=EX.UW s' q h
end
end
end Go.Rc

namespace Go.Rc
open Go
section
variable {P:Program}{kv:KV}{w:World}{T U ty:TypeId}{x y:Operand}
theorem yG{t:TypeId}{v:Value}(hT:∃ms,P.underlying T=some (.interface ms)):(Op.equalIn 10000 T (.iface t v) .nilIface).run P w=.ok false w:=by
 obtain⟨ms,hT⟩:=hT;rw [show(10000:Nat)=9999+1 from rfl]
 unfold Op.equalIn
 simp [run_underlying hT]
theorem PV.Vt{v:Value}{ok:Bool}(hT:∃ms,P.underlying T=some (.interface ms)) (q:ev kv x=some v) (h:(ok=true∧v=.nilIface)∨(ok=false∧∃t y,v=.iface t y)):PV P (.binOp .neq T x (.const .nilIface) U) ty kv w (.bool (!ok)):=by
 rcases h with⟨rfl,rfl⟩ | ⟨rfl,t,y,rfl⟩
 ·
  exact PV.QB hT q
 have r:ev kv (.const .nilIface)=some .nilIface:=rfl;refine⟨rfl,by simp [known,opers,q,r],fun _ _ _ _=>?_⟩;simp only [execOp,aJ q,aJ r]
 simp [eqGuard,binOp,Op.equal,Op.maxDepth,yG hT]
end
theorem WC.acf{P:Program}{Q:Exit→Act→World→Prop}{n:Nat}{kv:KV}{w0 w:World}{M Z:Nat→Prop}{σ:Type}{c:Code}{rest:List As}(l0:List As) (dj:σ→KV) (F:σ→List As) (I:σ→Prop) (Zf:σ→Nat→Prop) (_hst:St w0 M Z w (l0++rest))
  (h:WC P c (fun e a w'=>e=.normal∧∃s,Fr n a (dj s)∧(St w0 M (Zf s) w' (F s++rest)∧I s)) n kv w)
  (q:∀s w',St w0 M (Zf s) w' (F s++rest)→I s→EX Q .normal n (dj s) w'):WC P c Q n kv w:=
 WC.abP dj (fun s w'=>St w0 M (Zf s) w' (F s++rest)∧I s) h fun s w' ⟨a,b⟩=>q s w' a b
theorem WC.jw{P:Program}{Q:Exit→Act→World→Prop}{n:Nat}{kv:KV}{w0 w:World}{M Z:Nat→Prop}{σ:Type}{c:Code}{rest:List As}(l0:List As) (dj:σ→KV) (F:σ→List As) (I:σ→Prop) (q:St w0 M Z w (l0++rest))
  (h:WC P c (fun e a w'=>e=.normal∧∃s,Fr n a (dj s)∧(St w0 M Z w' (F s++rest)∧I s)) n kv w)
  (r:∀s w',St w0 M Z w' (F s++rest)→I s→EX Q .normal n (dj s) w'):WC P c Q n kv w:=
 WC.acf l0 dj F I (fun _=>Z) q h r
section
variable {w0 w:World}{M Z:Nat→Prop}{l:List As}
theorem St.e8{A0 A1 A2 A3 A4 A5 A6 A7:As}(h:St w0 M Z w (A0::A1::A2::A3::A4::A5::A6::A7::l)):St w (mJ [A0,A1,A2,A3,A4,A5,A6,A7]) Z w [A0,A1,A2,A3,A4,A5,A6,A7]:=St.enter (l0:=[A0,A1,A2,A3,A4,A5,A6,A7]) h
theorem St.e9{A0 A1 A2 A3 A4 A5 A6 A7 A8:As}(h:St w0 M Z w (A0::A1::A2::A3::A4::A5::A6::A7::A8::l)):St w (mJ [A0,A1,A2,A3,A4,A5,A6,A7,A8]) Z w [A0,A1,A2,A3,A4,A5,A6,A7,A8]:=St.enter (l0:=[A0,A1,A2,A3,A4,A5,A6,A7,A8]) h
end
theorem Calls.acg{P:Program}{f:FuncId}{r c1 c2 c3 c4 c5:Value}{w:World}{Q:Ending→World→Prop}(h:Calls P f #[r,c1,c2,c3,c4,c5] w Q):Calls P f (#[]++[r].toArray++#[c1,c2,c3,c4,c5]) w Q:=by grind
theorem Calls.Vu{P:Program}{f:FuncId}{r:Value}{w:World}{Q:Ending→World→Prop}(h:Calls P f #[r] w Q):Calls P f (#[]++[r].toArray++#[]) w Q:=by grind
end Go.Rc

