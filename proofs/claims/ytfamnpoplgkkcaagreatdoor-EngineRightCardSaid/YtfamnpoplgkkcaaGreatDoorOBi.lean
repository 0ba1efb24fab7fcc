/- Base of the proof: frames, memory, ownership, and the plain meaning of rule systems. Conditions: as each lemma says. -/
import Derived.Test.YtfamnpoplgkkcaaGreatDoorOBh
import Derived.Test.YtfamnpoplgkkcaaGreatDoorOBf
import Derived.Test.YtfamnpoplgkkcaaGreatDoorOBg
import Derived.Test.YtfamnpoplgkkcaaGreatDoorOBe
import Derived.Deep.Slices
import Derived.SizedLaws
import Derived.Lib.LaidU8
import Derived.Lib.LaidTab
import Derived.LaidLaws
import GoSem.ClaimFn
import Derived.JoinedOf
import Derived.LaidOnce
import Derived.TwinInFollowed
import Derived.WideShapes
set_option linter.all false
namespace Go.Rc
open Go
theorem uV(l:List Rec) (k y:Key):az (ft l k) y=if y=k then none else az l y:=by
 unfold az ft
 rw [List.find?_filter]
 split
 ·
  rename_i e
  subst e;rw [List.find?_eq_none];intro x _
  simp
 congr 1
 funext x
 grind
section
variable {RT:Nat}{q:RL}{lf:Key→RL}{l l':List Rec}{r r':Rec}{k:Key}{ml:List (Key × Value)}{w0 w:World}{M Z:Nat→Prop}{L:List As}
theorem fm{y:Key}(h:az (ft l k) y=some r):y≠k∧az l y=some r:=by
 rw [uV] at h
 split at h
 ·
  cases h
 exact⟨‹_›,h⟩
theorem As.y5{w:World}{Z:Nat→Prop}(h:(As.gq RT lf l).ok Z w) (k:Key):(As.gq RT lf (Rc.ft l k)).ok Z w:=⟨fun y r d=>h.1 y r (fm d).2,fun y e r r' h1 m=>h.2 y e r r' (fm h1).2 (fm m).2⟩
theorem St.y5(h:St w0 M Z w (As.gq RT lf l::L)) (k:Key):St w0 M Z w (As.gq RT lf (Rc.ft l k)::L):=
 h.conv (As.y5 h.g0 k) fun x ⟨y,r,d,e⟩=>⟨y,r,(fm d).2,e⟩
theorem St.JJ(h:St w0 M Z w (As.gq RT lf l::L)) (hk:az l k=some r):St w0 M Z w (As.blk (lf k).b RT (r.row (lf k).a (lf k).n (lf k).c)::As.gq RT lf (Rc.ft l k)::L):=by
 have d:(As.gq RT lf l).ok Z w:=h.g0;refine h.split (d.1 k r hk).1 (As.y5 d k) (fun x m=>⟨k,r,hk,m⟩) (fun x ⟨y,r,t,e⟩=>⟨y,r,(fm t).2,e⟩) fun x m ⟨y,r2,t,e⟩=>?_;obtain⟨h1,v⟩:=fm t;exact h1 (d.2 y k _ _ v hk (e.symm.trans m))
theorem Mx:wB lf k (lf k)=lf:=by
 funext y
 unfold wB
 grind
theorem St.Gs(h:St w0 M Z w (As.blk (lf k).b RT (r'.row (lf k).a (lf k).n (lf k).c)::As.gq RT lf (Rc.ft l k)::L)) (hk:r'.key=k) (hr:Rd RR.key 2 Z w (lf k).a (lf k).n (lf k).c r'.reads) (d:r'.reads.length≤4000) (hl:∀y,az l' y=if y=k then some r' else az l y):St w0 M Z w (As.gq RT lf l'::L):=by
 subst hk
 have:=St.yX (q:=lf r'.key) (l':=l') h hr d fun y=>by
  rw [hl y,uV]
  split
  ·
   rfl
  rfl
 rwa [Mx] at this
theorem dy.mark(h:dy l lf ml) (rev:Int) (G:List Key) (d:Bool):dy (l.map (a7 rev G d)) lf ml:=fun y=>by
 rw [h y,bZ]
 cases az l y <;> rfl
theorem dy.len(h:dy l lf ml) (hn:(ml.map (·.1)).Nodup):ml.length≤l.length:=by
 have h1:=eP hn (S:=l.map (·.key)) fun x e=>by
  cases d:az l x with
  | none=>
   have m:bC ml x=none:=by rw [h x,d];rfl
   exact absurd e (lC.1 m)
  | some r=>
   obtain⟨g1,g2⟩:=aK d;exact List.mem_map.2 ⟨r,g1,g2⟩
 simpa using h1
theorem sJ{rev:Int}{G:List Key}{i:Nat}(hi:i<G.length) (d:Bool) (h:az (l.map (a7 rev (G.take i) d)) G[i]=some r) (y:Key):az (l.map (a7 rev (G.take (i+1)) d)) y=if y=G[i] then some (if d then {r with bu:=true} else {r with av:=rev}) else az (l.map (a7 rev (G.take i) d)) y:=by
 have hT:G.take (i+1)=G.take i++[G[i]]:=List.take_succ_eq_append_getElem hi;rw [bZ,bZ,hT];rw [bZ] at h
 by_cases e:y=G[i]
 ·
  rw [if_pos e,e]
  cases hr:az l G[i] with
  | none=>rw [hr] at h;cases h
  | some q=>
   rw [hr] at h;simp only [Option.map_some,Option.some.injEq] at h ⊢;have m:=(aK hr).2;subst h
   unfold a7
   rw [if_pos (show q.key∈G.take i++[G[i]] from List.mem_append_right _ (List.mem_singleton.2 m))]
   cases d <;> grind
 rw [if_neg e]
 cases hr:az l y with
 | none=>rfl
 | some q=>
  have m:=(aK hr).2;simp only [Option.map_some,Option.some.injEq]
  unfold a7
  grind
theorem uW{rev:Int}{G:List Key}{d:Bool}:l.map (a7 rev (G.take 0) d)=l:=by
 simp only [List.take_zero]
 unfold a7
 simp
theorem uX{rev:Int}{g:List Key}{d:Bool}(e:∃r,az l k=some r):∃r,az (l.map (a7 rev g d)) k=some r∧r.key=k:=by
 obtain⟨r,hr⟩:=e
 have h1:az (l.map (a7 rev g d)) k=some (a7 rev g d r):=by rw [bZ,hr];rfl
 exact⟨_,h1,(aK h1).2⟩
end
/-! ### own slices that lose their last -/
section
variable {α:Type}{R:RR α}{E k n c:Nat}{a:Option Addr}{xs:List α}{x:α}{w0 w:World}{M Z:Nat→Prop}{L:List As}
theorem Ow.pop(h:Ow R E k Z w a n c (xs++[x])):Ow R E k Z w a xs.length c xs:=by
 obtain⟨hn,rows,hl,hk,d,t⟩:=h
 rcases List.eq_nil_or_concat rows with rfl | ⟨rs,r,rfl⟩
 ·
  simp at hl
 rw [List.concat_eq_append] at hl hk d t
 have v:rs.length=xs.length:=by simpa using hl
 have hr:r.length=k:=hk r (by simp)
 have e:rs.flatten.length=xs.length*k:=by
  have:∀(q:List (List Value)),(∀r∈q,r.length=k)→q.flatten.length=q.length*k:=by
   intro q B
   induction q with
   | nil=>simp
   | cons a q D=>simp only [List.flatten_cons,List.length_append,List.length_cons,Nat.add_mul];rw [B a (by simp),D fun r hr=>B r (by simp [hr])];omega
  rw [this rs fun r hr=>hk r (by simp [hr]),v]
 refine⟨rfl,rs,v,fun r hr=>hk r (by simp [hr]),?_,fun i y s h1 m=>t i y s (by grind) (by grind)⟩;have h1:=d.1
 rcases d.cases with⟨rfl,rfl,rfl,J⟩ | ⟨g,cur,rfl,hb,F,O,G,hsz,C⟩
 ·
  simp at hn
 simp only [List.flatten_append,List.flatten_cons,List.flatten_nil,List.append_nil] at C h1;simp only [List.length_append,List.length_singleton] at hn
 have ht:cur.toList.take (xs.length*k)=rs.flatten:=by
  have m:=congrArg (List.take (xs.length*k)) C;have I:xs.length*k≤n*k:=Nat.mul_le_mul_right _ (by omega);rw [List.take_take,Nat.min_eq_left I,List.take_append_of_le_length (Nat.le_of_eq e.symm),List.take_of_length_le (Nat.le_of_eq e)] at m;exact m
 refine⟨fun u hu=>h1 u (List.mem_append_left _ hu),e,.inr ⟨g,c,cur,rfl,hb,F,by omega,G,hsz,ht⟩⟩
theorem St.Q4(h:St w0 M Z w (As.os R E k a n c (xs++[x])::L)):St w0 M Z w (As.os R E k a xs.length c xs::L):=h.conv (Ow.pop h.g0) fun _ h=>h
end
/-! ### what the frames of a stack own -/
def xW(EK ES:Nat) (L:List (bm × eC)):List As:=L.reverse.flatMap fun e=>[As.os RR.key EK 2 e.2.a e.2.n e.2.c e.1.reads,As.os RR.str ES 1 e.2.a2 e.2.n2 e.2.c2 e.1.ae]
theorem qk(EK ES:Nat) (L:List (bm × eC)) (f:bm) (A:eC):xW EK ES (L++[(f,A)])=As.os RR.key EK 2 A.a A.n A.c f.reads::As.os RR.str ES 1 A.a2 A.n2 A.c2 f.ae::xW EK ES L:=by simp [xW]
section
variable {EK ES:Nat}{L:List (bm × eC)}{f g:bm}{A:eC}{w0 w:World}{M Z:Nat→Prop}{l:List As}
theorem St.OI(h:St w0 M Z w (As.many (xW EK ES (L++[(f,A)]))::l)):St w0 M Z w (As.os RR.key EK 2 A.a A.n A.c f.reads::As.os RR.str ES 1 A.a2 A.n2 A.c2 f.ae::As.many (xW EK ES L)::l):=by
 rw [qk] at h;exact h.yP.p1.yP.p2
theorem St.My(h:St w0 M Z w (As.os RR.key EK 2 A.a A.n A.c f.reads::As.os RR.str ES 1 A.a2 A.n2 A.c2 f.ae::As.many (xW EK ES L)::l)):St w0 M Z w (As.many (xW EK ES (L++[(f,A)]))::l):=by
 rw [qk];exact h.p2.p2.Ee.p1.Ee
theorem St.JK(h:St w0 M Z w (As.many (xW EK ES L)::l)) (hr:g.reads=[]) (d:g.ae=[]):St w0 M Z w (As.many (xW EK ES (L++[(g,⟨none,0,0,none,0,0⟩)]))::l):=by
 refine St.My ?_;rw [hr,d];exact(h.dp RR.str ES 1).dp RR.key EK 2
theorem JL(h1:g.reads=f.reads) (d:g.ae=f.ae):xW EK ES (L++[(g,A)])=xW EK ES (L++[(f,A)]):=by rw [qk,qk,h1,d]
end
/-! ### what a stack finds -/
section
variable {x:cy}{l:List bm}{k:Key}{val:Key→ByteArray}{r:Rec}
theorem Mz(L:List (bm × eC)) (k:Key):(L.any fun x=>decide (x.1.key=k))=fY (L.map Prod.fst) k:=by
 unfold fY
 rw [List.any_map]
 rfl
theorem JM(h:(fY l k && !ax k)=true):bG x l [] k=3:=by
 rw [iy,if_pos (by rw [Bool.and_comm];exact h)]
theorem JN(h:(fY l k && !ax k)=false) (d:(fY l k || (ay k || aA x k))=true):bG x l [] k=0:=by
 have hn:cE x l k=false:=gP.2 (by grind);rw [iy,if_neg (by rw [Bool.and_comm,h];simp),hn]
 rfl
theorem JO(h:(fY l k && !ax k)=false) (e:(fY l k || (ay k || aA x k))=false):bG x l [] k=1:=by
 have hn:cE x l k=true:=by
  cases d:cE x l k with
  | true=>rfl
  | false=>have:=gP.1 d;grind
 rw [iy,if_neg (by rw [Bool.and_comm,h];simp),hn]
 rfl
theorem Hu:bG x [] [] k=if cE x [] k=true then 1 else 0:=by rw [iy];simp [fY]
theorem Q5(hi:ay k=true):bO val x k=(bw x.ab k).value:=by
 have hc:ax k=false:=by
  have h:k.kind=1∨k.kind=2∨k.kind=30:=by unfold ay at hi;simpa using hi
  rcases h with h | h | h <;> simp [ax,h,kF]
 unfold bO im
 rw [hc,hi]
 rfl
theorem MA(hc:ax k=true):bO val x k=val k:=if_pos hc
theorem MB(hi:ay k=false) (hc:ax k=false) (d:az x.ah k=some r) (e:r.av=x.ad):bO val x k=r.value:=by
 unfold bO im eL
 rw [hc,hi]
 grind [aQ]
theorem JP{v:ByteArray}{rd:List Key}(d:az x.ah k=none):bJ x k v rd=⟨k,v,rd,x.ad,x.ad,1+(rd.length:Int),false⟩:=by
 unfold bJ
 rw [d]
 rfl
theorem JQ{v:ByteArray}{rd:List Key}(d:az x.ah k=some r):bJ x k v rd=⟨k,v,rd,if r.value=v then r.changed else x.ad,x.ad,1+(rd.length:Int),false⟩:=by
 unfold bJ
 rw [aQ d,d]
 simp
end
/-! ### a step of the work -/
section
variable {aa:List aG}{val:Key→ByteArray}{b b':cy}{L L':List (bm × eC)}{f g:bm}{A:eC}{rk:List Key}{er:Int}{k:Key}
def FT(aa:List aG) (val:Key→ByteArray) (b:cy) (L:List (bm × eC)) (f:bm) (A:eC) (b':cy) (L':List (bm × eC)) (rk:List Key) (er:Int):Prop:=
 FS aa val b (L.map Prod.fst) f b' (L'.map Prod.fst) rk er∧(er=0→L'.map Prod.fst≠L.map Prod.fst++[f])∧(L'=L∨(∃g,L'=L++[(g,A)]∧g.reads=f.reads∧g.ae=f.ae)∨∃k,L'=L++[(f,A)]++[(⟨k,false,0,[],[]⟩,⟨none,0,0,none,0,0⟩)])
theorem FT.pop(h:FS aa val b (L.map Prod.fst) f b' (L.map Prod.fst) rk er):FT aa val b L f A b' L rk er:=⟨h,fun _ e=>by simpa using congrArg List.length e,.inl rfl⟩
theorem FT.same(h:FS aa val b (L.map Prod.fst) f b' (L.map Prod.fst++[g]) rk er) (d:g≠f) (h1:g.reads=f.reads) (m:g.ae=f.ae):FT aa val b L f A b' (L++[(g,A)]) rk er:=
 ⟨by simpa using h,fun _ e=>by simp at e;exact d e,.inr (.inl ⟨g,rfl,h1,m⟩)⟩
theorem FT.push(h:FS aa val b (L.map Prod.fst) f b' (L.map Prod.fst++[f]++[⟨k,false,0,[],[]⟩]) rk er):FT aa val b L f A b' (L++[(f,A)]++[(⟨k,false,0,[],[]⟩,⟨none,0,0,none,0,0⟩)]) rk er:=
 ⟨by simpa using h,fun _ e=>by simp at e,.inr (.inr ⟨k,rfl⟩)⟩
theorem FT.err(h:FS aa val b (L.map Prod.fst) f b' (L.map Prod.fst++[f]) rk er) (he:er≠0):FT aa val b L f A b' (L++[(f,A)]) rk er:=
 ⟨by simpa using h,fun e=>absurd e he,.inr (.inl ⟨f,rfl,rfl,rfl⟩)⟩
theorem xX{x:cy}{l:List bm}:bG x l [] k≠2:=by
 rw [iy]
 split
 ·
  decide
 split <;> decide
theorem Hv{x:cy}{c:od}(h:JD val x c=false):aV val x c.read≤(aC x.ah c.dP).av:=by
 unfold JD at h
 simpa using h
theorem JR{x:cy}{c:od}(h:JD val x c=true):(aC x.ah c.dP).av<aV val x c.read:=by
 unfold JD at h
 simpa using h
end
section
variable {EK ES:Nat}{L L':List (bm × eC)}{f:bm}{A:eC}{w0 w:World}{M Z:Nat→Prop}{l:List As}
theorem St.acB(h:St w0 M Z w (As.many (xW EK ES (L++[(f,A)]))::l)) (d:L'=L∨(∃g,L'=L++[(g,A)]∧g.reads=f.reads∧g.ae=f.ae)∨∃k,L'=L++[(f,A)]++[(⟨k,false,0,[],[]⟩,⟨none,0,0,none,0,0⟩)]):St w0 M Z w (As.many (xW EK ES L')::l):=by
 rcases d with rfl | ⟨g,rfl,h1,e⟩ | ⟨k,rfl⟩
 ·
  exact h.OI.drop.drop
 ·
  rw [JL h1 e];exact h
 exact h.JK rfl rfl
end
end Go.Rc

namespace Go.Rc
open Go
def Rec.y7(x:Rec × RL):List Value:=x.1.row x.2.a x.2.n x.2.c
def RR.Ex:RR (Rec × RL):=RR.flat Rec.y7
theorem Rec.Q6(x:Rec × RL):∀u∈Rec.y7 x,u.oneCell'=true:=by simp [Rec.y7,Rec.row,Value.oneCell']
def rG(L:List (Rec × RL)):FZ:=
 ⟨fun Z w=>∀y∈L,Rd RR.key 2 Z w y.2.a y.2.n y.2.c y.1.reads∧y.1.reads.length≤4000,fun hZ h y hy=>⟨(h y hy).1.mono hZ,(h y hy).2⟩,fun h1 h2 h y hy=>⟨(h y hy).1.st h1 h2,(h y hy).2⟩⟩
section
variable {L L':List (Rec × RL)}{r:Rec}{q:RL}{Z:Nat→Prop}{w:World}{l:List Rec}{lf:Key→RL}{eK left:List (Key × Value)}{p:Key × Value}{j:Nat}
theorem rG.nil:(rG []).p Z w:=fun y d=>by cases d
theorem rG.snoc(h:(rG L).p Z w) (hk:Rd RR.key 2 Z w q.a q.n q.c r.reads) (e:r.reads.length≤4000):(rG (L++[(r,q)])).p Z w:=fun y d=>by
 rcases List.mem_append.1 d with d | d
 ·
  exact h y d
 rw [List.mem_singleton] at d;subst d;exact⟨hk,e⟩
theorem rG.dV{E n c:Nat}{a:Option Addr}(h:Ow RR.Ex E 8 Z w a n c L) (m:(rG L).p Z w):Ow RR.dV E 8 Z w a n c (L.map Prod.fst):=by
 obtain⟨hn,rows,hl,hk,h1,t⟩:=h;refine⟨by rw [hn,List.length_map],rows,by rw [hl,List.length_map],hk,h1,fun i x r d v=>?_⟩;rw [List.getElem?_map] at d;obtain⟨y,e,rfl⟩:=Option.map_eq_some_iff.1 d;have hr:r=Rec.y7 y:=t i y r e v;obtain⟨B,C⟩:=m y (List.mem_of_getElem? e);exact⟨_,_,_,hr,B,C⟩
theorem uY{α:Type}:∀(l:List α) (j:Nat) (h:j<l.length),(l[j]::l.eraseIdx j).Perm l
 | x::r,0,_=>List.Perm.refl _
 | x::r,j+1,h=>by
  have h1:=uY r j (by simpa using h);simp only [List.getElem_cons_succ,List.eraseIdx_cons_succ];exact(List.Perm.swap _ _ _).trans (h1.cons x)
structure JS (l:List Rec) (eK left:List (Key × Value)) (L:List (Rec × RL)):Prop where
 perm:((L.map fun y=>y.1.key)++left.map (·.1)).Perm (eK.map (·.1))
 find:∀y∈L,az l y.1.key=some y.1
theorem JS.start:JS l eK eK []:=⟨List.Perm.refl _,fun y d=>by cases d⟩
theorem JS.next(h:JS l eK left L) (m:left[j]?=some p) (e:az l p.1=some r):JS l eK (left.eraseIdx j) (L++[(r,q)]):=by
 have hk:r.key=p.1:=(aK e).2;refine⟨List.Perm.trans ?_ h.perm,fun y d=>?_⟩
 ·
  obtain⟨t,rfl⟩:=List.getElem?_eq_some_iff.1 m;have h1:=(uY left j t).map (·.1);simp only [List.map_append,List.map_cons,List.map_nil,List.append_assoc,List.singleton_append,hk] at h1 ⊢;exact List.Perm.append_left _ h1
 rcases List.mem_append.1 d with d | d
 ·
  exact h.find y d
 rw [List.mem_singleton] at d;subst d;rw [hk];exact e
theorem dy.key(h:dy l lf eK) {k:Key}:k∈eK.map (·.1)↔∃r,az l k=some r:=by
 have h1:=h k
 constructor
 ·
  intro hk
  cases d:az l k with
  | some r=>exact⟨r,rfl⟩
  | none=>
   rw [d] at h1;exact absurd hk (lC.1 h1)
 rintro⟨r,hr⟩;refine Classical.byContradiction fun hk=>?_;rw [lC.2 hk,hr] at h1
 cases h1
theorem JS.done(h:JS l eK [] L) (t:dy l lf eK) (hn:(eK.map (·.1)).Nodup) (d:pG l) (e:L'.Perm L) (v:L'.Pairwise fun x y=>¬bA y.1.key x.1.key<0):L'.map Prod.fst=l:=by
 have h1:(L.map fun y=>y.1.key).Perm (eK.map (·.1)):=by simpa using h.perm
 have m:(L'.map fun y=>y.1.key).Perm (eK.map (·.1)):=(e.map _).trans h1;have B:yS (L'.map fun y=>y.1.key):=yT (List.Perm.refl _) (m.nodup_iff.2 hn) (by rw [List.pairwise_map];exact v)
 have C:yS (l.map (·.key)):=by
  unfold yS
  rw [List.pairwise_map];exact d
 have D:(L'.map fun y=>y.1.key)=l.map (·.key):=yU B C fun x=>by
  rw [m.mem_iff,t.key]
  constructor
  ·
   rintro⟨r,hr⟩;obtain⟨g1,g2⟩:=aK hr;exact List.mem_map.2 ⟨r,g1,g2⟩
  intro F;obtain⟨r,hr,rfl⟩:=List.mem_map.1 F;exact⟨r,hJ d hr⟩
 have G:(L'.map Prod.fst).map (fun r=>aC l r.key)=l.map fun r=>aC l r.key:=by
  have e1:(L'.map Prod.fst).map (fun r=>aC l r.key)=(L'.map fun y=>y.1.key).map (aC l):=by rw [List.map_map,List.map_map];rfl
  have e2:(l.map fun r=>aC l r.key)=(l.map (·.key)).map (aC l):=by rw [List.map_map];rfl
  rw [e1,e2,D]
 have I:(L'.map Prod.fst).map (fun r=>aC l r.key)=L'.map Prod.fst:=by
  rw [List.map_map];refine List.map_congr_left fun y J=>?_;exact aQ (h.find y (e.mem_iff.1 J))
 have O:(l.map fun r=>aC l r.key)=l:=by
  conv=>rhs;rw [← List.map_id l]
  exact List.map_congr_left fun r hr=>aQ (hJ d hr)
 rw [← I,G,O]
theorem JS.len(h:JS l eK left L) (d:dy l lf eK) (hn:(eK.map (·.1)).Nodup):L.length+left.length≤l.length:=by
 have h1:=h.perm.length_eq;have e:=d.len hn
 simp at h1
 omega
end
end Go.Rc

namespace Go.Rc
open Go
section
variable {w0 w:World}{M Z:Nat→Prop}{l:List As}
theorem St.g16{e m t v B C D F G I J O Q S V W d:As}(h:St w0 M Z w (e::m::t::v::B::C::D::F::G::I::J::O::Q::S::V::W::d::l)):d.ok Z w:=h.ok _ (by simp)
end
section
variable {α:Type}{R:RR α}{P:Program}{E k n c b i:Nat}{a:Option Addr}{xs:List α}{Z:Nat→Prop}{w:World}
variable {N:Nat}{kv:KV}{K:KV→World→Prop}{ty:TypeId}{pos:String}{af:Array Edge}{g:Option (Nat × Bool)}{T:TypeId}
end
section
variable {p:Rec→Bool}{xs xs1:List Rec}{i j:Nat}{x:Rec}
end
noncomputable def y8(aa:List aG) (x:cy) (k:Key):Bool:=eL x k && decide (im x k=valOf aa x.ab k)
theorem uF.kr{aa:List aG}{x:cy}(h:uF aa x):KR aa x.ah:=fun r hr=>by
 obtain⟨h1,d,e,_⟩:=h.2.2.2.2.2.1 r hr;exact⟨h1,d,e⟩
theorem uF.r4{aa:List aG}{x:cy}(h:uF aa x):∀r∈x.ah,r.reads.length≤4000:=fun r hr=>by
 obtain⟨_,_,_,d⟩:=h.2.2.2.2.2.1 r hr
 grind [fw]
section
variable {aa:List aG}{x:cy}{s:ES}
theorem BW(eJ:s.b.ab=x.ab) {k:Key}(hu:ay k=false→aA s.b k=true) (d:∀r∈s.b.ah,r.av=s.b.ad→r.value=valOf aa x.ab r.key):y8 aa s.b k=true:=by
 unfold y8 im
 cases hi:ay k with
 | true=>
  have h1:eL s.b k=true:=by unfold eL;rw [hi];rfl
  rw [h1,if_pos rfl]
  have:valOf aa s.b.ab k=(bw s.b.ab k).value:=by unfold valOf cellOf;rw [if_pos hi]
  rw [this]
  simp
 | false=>
  have hu:=hu hi
  have h1:eL s.b k=true:=by grind [eL,aA]
  obtain⟨r,hr,e⟩:=aT.1 hu;obtain⟨g1,g2⟩:=aK hr;rw [h1,if_neg (by simp),if_pos rfl,aQ hr,d r g1 e,g2,eJ]
  simp
end
section
variable {aa:List aG}{x y:cy}{s:ES}{kp:List (List Key)}{l:List Key}
end
end Go.Rc

namespace Go.Rc
open Go
section
variable {aa:List aG}{x y:cy}{bf:List Key}{k:Key}{r:Rec}
end
end Go.Rc

namespace Go.Rc
open Go
section
variable {val:Key→ByteArray}{x:cy}{i:Nat}{k:Key}{o:List Key}
end
end Go.Rc
namespace Go.Rc
open Go
end Go.Rc

namespace Go.Rc
open Go
section
variable {aa:List aG}{H:Int→List cv}{x b b':cy}{p q l l':List bm}{f g:bm}{bf rk goals:List Key}{k y:Key}{val:Key→ByteArray}{er:Int}
theorem xY{turn:List ByteArray→yz}{gF:Key→ByteArray}(h:∀k,(gF k).size≤1000):∀n,∀s∈(dW turn gF n).2,s.size≤1000
 | 0,s,d=>by simp [dW] at d
 | n+1,s,d=>by
  simp only [dW,List.mem_append,List.mem_singleton] at d
  rcases d with d | rfl
  ·
   exact xY h n s d
  exact h _
theorem hK.ready(v:aq aa) (B:LC aa x) (hk:∀k∈goals,eG aa k) (h:hK aa (valOf aa x.ab) goals x b l bf):BK aa x.ab x.ad b∧KR aa b.ah∧l.length≤1000∧bf.length≤100000∧b.ah.length<4000∧(∀r∈b.ah,r.reads.length≤4000)∧(∀r∈b.ah,r.av≤x.ad)∧bf.Nodup∧pG b.ah∧∀f∈l,fx aa f∧(∃i:Nat,i<aa.length∧f.key=aM aa (i:Int))∧∀s∈f.ae,s.size≤1000:=by
 obtain⟨⟨H,d⟩,C,I⟩:=h.inv v B hk;have V:=v.1;have m:=(B.lb.of C).Gg;have hlen:=d.bi.len
 have W:bf.length≤b.ah.length:=by
  have:=eP d.wy.j0 (S:=b.ah.map (·.key)) fun y J=>by
   obtain⟨r,hr,_⟩:=aT.1 (d.wy.Jw y J);obtain⟨g1,g2⟩:=aK hr;exact List.mem_map.2 ⟨r,g1,g2⟩
  simpa using this
 refine⟨C,m.kr,by have:=d.Ew;omega,by omega,by omega,m.r4,fun r hr=>by rw [← C.rv];exact m.2.2.2.2.2.2.2.2 r hr,d.wy.j0,m.2.2.2.2.2.2.1,fun f D=>⟨I f D,d.eT D,fun s t=>?_⟩⟩;obtain⟨p1,q1,O⟩:=List.append_of_mem D;have F:=d.fr p1 f q1 O;obtain⟨i,hi,Q⟩:=F.key
 cases G:f.running with
 | false=>
  rw [(F.Ds G).2.1] at t
  cases t
 | true=>
  obtain⟨n,_,_,e⟩:=(F.run G).2.2.2.1 i hi Q;rw [e] at t;exact xY (B.lb.small v) n s t
theorem hK.done(B:aq aa) (v:LC aa x) (hk:∀k∈goals,eG aa k) (h:hK aa (valOf aa x.ab) goals x b [] bf):LC aa b∧b.ab=x.ab∧b.ad=x.ad∧Wy aa x ⟨b,[],bf,0⟩∧∀r∈b.ah,r.av=b.ad→r.value=valOf aa x.ab r.key:=by
 obtain⟨⟨H,d⟩,m,I⟩:=h.inv B v hk;have hi:b.ab=x.ab:=m.fR.aD;have C:TO aa x ⟨aa,b,[],[],bf⟩:=⟨H,d⟩;have D:=v.task (t:=⟨aa,b,[],[],bf⟩) m C
 have e:eM ([]:List bm) b.ah=b.ah:=by simp [eM]
 have F:LC aa b:=by
  have:=D
  rw [show(⟨aa,b,[],[],bf⟩:qc).stack=[] from rfl,show(⟨aa,b,[],[],bf⟩:qc).base=b from rfl,e] at this;exact this
 refine⟨F,hi,m.rv,d.wy,fun r hr G=>?_⟩
 have:=(d.bi.c.vr r hr)
 rw [G,d.bi.c.now,hi] at this;exact this.1
theorem hK.taken(h:hK aa val goals x b [] bf) (d:k∈goals):hK aa val goals x b ((if cE b [] k=true then [((⟨k,false,0,[],[]⟩:bm),(⟨none,0,0,none,0,0⟩:eC))] else []).map Prod.fst) bf:=by
 split
 ·
  exact .take h d ‹_›
 exact h
theorem Hw:ay k=true∨aA b k=true∨∃g q,(if cE b [] k=true then [((⟨k,false,0,[],[]⟩:bm),(⟨none,0,0,none,0,0⟩:eC))] else []).map Prod.fst=g::q∧g.key=k:=by
 by_cases hn:cE b [] k=true
 ·
  rw [if_pos hn];exact .inr (.inr ⟨_,[],rfl,rfl⟩)
 rcases gP.1 (by simpa using hn) with h | h | h
 ·
  exact .inl h
 ·
  simp [fY] at h
 exact .inr (.inl h)
theorem MC{L:List (bm × eC)}(h:0<L.length):∃d f A,L=d++[(f,A)]:=by
 rcases List.eq_nil_or_concat L with rfl | ⟨d,y,rfl⟩
 ·
  simp at h
 exact⟨d,y.1,y.2,by simp⟩
theorem MD{i:Nat}(hi:i<goals.length) (h:∀y∈goals.take i,ay y=true∨aA b y=true) (hb:ay goals[i]=true∨aA b goals[i]=true∨∃g q,([]:List (bm × eC)).map Prod.fst=g::q∧g.key=goals[i]):∀y∈goals.take (i+1),ay y=true∨aA b y=true:=by
 intro y d;rw [List.take_succ_eq_append_getElem hi] at d
 rcases List.mem_append.1 d with d | d
 ·
  exact h y d
 rw [List.mem_singleton] at d;subst d
 rcases hb with h | h | ⟨g,q,e,_⟩
 ·
  exact .inl h
 ·
  exact .inr h
 cases e
end
section
variable {EK ES:Nat}{w0 w:World}{M Z:Nat→Prop}{l:List As}{k:Key}{c:Bool}
theorem St.Q7(h:St w0 M Z w l):St w0 M Z w (As.many (xW EK ES (if c=true then [((⟨k,false,0,[],[]⟩:bm),(⟨none,0,0,none,0,0⟩:eC))] else []))::l):=by
 have h0:St w0 M Z w (As.many (xW EK ES [])::l):=h.OB
 split
 ·
  exact h0.JK (L:=[]) rfl rfl
 exact h0
end
end Go.Rc

namespace Go.Rc
open Go
def r3:aG:=⟨false,[],1,3⟩
abbrev K0:Key:=⟨31,itoa ((0:Nat):Int)⟩
abbrev v3:ByteArray:=itoa 3
theorem Q8:∀y∈[r3],Mf y:=fun y d=>by simp at d;subst d;exact⟨rfl,rfl,rfl,by decide,by decide⟩
theorem VU:aM [r3] ((0:Nat):Int)=K0:=Mf.key (by simp) (by omega) (Q8 _ (by simp))
theorem ME:gU ⟨0,[],[]⟩:=⟨fun i y h=>by simp at h,fun i r h=>by simp at h,by decide,by decide,by simp,by simp,fun i x h=>by simp at h⟩
abbrev s1:ES:=⟨⟨0,[],[QH 0 v3]⟩,[],[K0],0⟩
end Go.Rc
namespace Go.Rc
open Go
abbrev v4:ByteArray:=⟨#[52]⟩
end Go.Rc

namespace Go.Rc
open Go
section
variable {P:Program}{kv:KV}{w:World}{T U ty:TypeId}{x y:Operand}
end
end Go.Rc
namespace Go.Rc
open Go
end Go.Rc

namespace Go.Rc
open Go
theorem uR{v:ByteArray}:∀k∈[K0],∃i:Nat,i < [r3].length∧k=aM [r3] (i:Int)∧(az (⟨0,[],[QH 0 v]⟩:cy).ah k).isSome=true:=fun k hk=>⟨0,by simp,by rw [List.mem_singleton.1 hk];exact VU.symm,by grind [az,QH]⟩
end Go.Rc

namespace Go.Rc
open Go
abbrev q0:aG:=⟨false,[⟨true,false,0,0⟩],1,0⟩
abbrev q1:aG:=⟨false,[⟨false,false,0,0⟩],1,0⟩
abbrev Q2:List aG:=[q0,q1]
abbrev K1:Key:=⟨31,itoa ((1:Nat):Int)⟩
abbrev C0:Key:=cD ((0:Nat):Int)
theorem VV:C0=⟨30,⟨#[48]⟩⟩:=by simp [cD,itoa,Lib.itoa,Lib.decDigits]
theorem JT:K0=⟨31,⟨#[48]⟩⟩:=by simp [itoa,Lib.itoa,Lib.decDigits]
theorem OJ:K1=⟨31,⟨#[49]⟩⟩:=by simp [itoa,Lib.itoa,Lib.decDigits]
theorem VW:aq Q2:=by
 refine⟨by simp,fun i r h=>?_⟩
 have hi:i=0∨i=1:=by have:=(List.getElem?_eq_some_iff.1 h).1;simp at this;omega
 rcases hi with rfl | rfl
 ·
  simp at h;subst h
  refine⟨by simp,fun k x d=>?_,rfl⟩
  have hk:k=0:=by have:=(List.getElem?_eq_some_iff.1 d).1;simp at this;omega
  subst hk;simp at d;subst d;decide
 simp at h;subst h
 refine⟨by simp,fun k x d=>?_,rfl⟩
 have hk:k=0:=by have:=(List.getElem?_eq_some_iff.1 d).1;simp at this;omega
 subst hk;simp at d;subst d;decide
theorem Gt:aM Q2 ((0:Nat):Int)=K0:=by
 unfold aM
 rw [if_neg (by simp)]
 simp [aF]
theorem y9:number K0=((0:Nat):Int):=by rw [← Gt];exact cz (by simp) (by omega)
theorem t0a:cq Q2 K0 []=⟨false,⟨#[]⟩,C0⟩:=by
 rw [i6 (i:=0) y9 (by simp) (by rw [y9];exact Gt) (by simp)]
 rfl
theorem t0b(v:ByteArray):cq Q2 K0 [v]=⟨true,itoa (dn 1 0 [cB v]),eU⟩:=by
 rw [j5 (i:=0) y9 (by simp) (by rw [y9];exact Gt) (by simp)]
 rfl
abbrev z0:ByteArray:=⟨#[48]⟩
abbrev z5:ByteArray:=⟨#[53]⟩
theorem it5:itoa ((5:Nat):Int)=z5:=by simp [itoa,Lib.itoa,Lib.decDigits]
theorem fv(v:ByteArray) (n:Nat) (h:cB v=n) (hn:n<1000):itoa (dn 1 0 [cB v])=itoa n:=by
 rw [h];simp [dn,pQ,Nat.mod_eq_of_lt hn]
theorem vs5:cB z5=5:=by decide
theorem vsE:cB ⟨#[]⟩=0:=by decide
theorem VX{aD:List cv}{n:Nat}(h:cB (cellOf aD C0)=n) (hn:n<1000):valOf Q2 aD K0=itoa n:=by
 have e:=fF (aD:=aD) VW (i:=0) (by simp);rw [show cN Q2 0=1 from rfl,Gt] at e;simp only [dW,List.nil_append] at e;rw [t0a,t0b,mZ (by omega),fv _ n h hn] at e
 injection e with _ e2 _
 exact e2.symm
abbrev Hx(i:Nat) (a:Key):Rec:=⟨⟨31,itoa (i:Int)⟩,z0,[a],0,0,2,false⟩
theorem VY:ay C0=true:=bB (n:=0) (by omega)
theorem Hy:ay K0=false:=rfl
theorem JU:ay K1=false:=rfl
theorem acC:(K0 == K1)=false:=by rw [JT,OJ];decide
section
variable {aa:List aG}{val:Key→ByteArray}{k c:Key}{z u:ByteArray}{s s':ES}{rs:List Key}{an:List ByteArray}{f:Nat}
end
end Go.Rc

namespace Go.Rc
open Go
section
variable {val:Key→ByteArray}{x:cy}{k a:Key}{r:Rec}
theorem BX(hc:ax k=false) (hi:ay k=false) (d:az x.ah k=some r) (e:r.bu=false) (hr:r.reads=[a]) (h:a≠k) (m:r.av≠x.ad) (t:r.av<aV val x a):Mt val x k=(2,a):=by
 have hu:aA x k=false:=by unfold aA;rw [d,aQ d];simp [m]
 have v:bT x.ah (aB x.ah x.ad k)=[⟨k,a⟩]:=by
  rw [iv hc]
  simp [bT,cY,aQ d,hr,h]
 unfold Mt
 rw [hi,hu,d,v]
 have B:JD val x ⟨k,a⟩=true:=by unfold JD;rw [aQ d];exact decide_eq_true t
 simp [e,B]
end
abbrev iQ:List cv:=[⟨C0,z5,1⟩]
abbrev yQ:cy:=⟨1,iQ,[Hx 0 C0,Hx 1 K0]⟩
theorem VZ:C0≠K0:=by rw [VV,JT];decide
theorem V0:K0≠K1:=by rw [JT,OJ];decide
theorem fC:bw iQ C0=⟨C0,z5,1⟩:=by unfold bw;rw [List.find?_cons];simp
theorem v0:valOf Q2 iQ K0=z5:=by rw [VX (n:=5) (by unfold cellOf;rw [fC];exact vs5) (by omega),it5]
theorem f0:az yQ.ah K0=some (Hx 0 C0):=by simp [az]
theorem f1:az yQ.ah K1=some (Hx 1 K0):=by simp only [az,List.find?_cons];rw [show((Hx 0 C0).key == K1)=false from acC,show((Hx 1 K0).key == K1)=true from beq_self_eq_true K1]
theorem cC:aV (valOf Q2 iQ) yQ C0=1:=by unfold aV;rw [if_pos VY,fC]
theorem cK:aV (valOf Q2 iQ) yQ K0=1:=by
 unfold aV
 rw [if_neg (by rw [Hy];simp),if_neg];rw [aQ f0,v0]
 simp
theorem V2:Mt (valOf Q2 iQ) yQ K1=(2,K0):=BX rfl rfl f1 rfl rfl V0 (by decide) (by rw [cK];decide)
theorem V3:Mt (valOf Q2 iQ) yQ K0=(2,C0):=BX rfl rfl f0 rfl rfl VZ (by decide) (by rw [cC];decide)
theorem smQ:∀c∈[(⟨C0,z5⟩:Change)],c.small:=fun c hc=>by
 rw [List.mem_singleton.1 hc];exact⟨⟨0,by omega,by omega,rfl⟩,by decide⟩
end Go.Rc

namespace Go.Rc
open Go
section
variable {P:Program}{T:TypeId}
theorem MF{d m:TypeId}{f0 f1:Field}(hu:P.underlying T=some (.struct #[f0,f1])) (B:f0.type=d) (C:f1.type=m) (D:f0.offset=0) (F:f1.offset=1) (J:f0.name≠ "_") (O:f1.name≠ "_")
  (h0:P.underlying d=some (.int .i64)) (h1:P.underlying m=some .string) (a0:∀w,(isAgg d).run P w=.ok false w) (a1:∀w,(isAgg m).run P w=.ok false w)
  (G:P.stoodInHeld T=false) (n:Nat) (a b:Int) (s t:ByteArray) (w:World):(Op.equalIn (n+2) T (.agg #[.int .i64 a,.string s]) (.agg #[.int .i64 b,.string t])).run P w=.ok (decide (a=b) && decide (s=t)) w:=by
 subst B C
 have v:P.fieldsOf T=#[f0,f1]:=by simp [Program.fieldsOf,hu]
 rw [run_equalIn_struct (P:=P) w (n+1) T _ _ (by rw [v];exact hu) G,v]
 have e:(s.toList == t.toList)=decide (s=t):=by
  by_cases e:s=t
  ·
   simp [e]
  grind [ByteArray.ext,Array.toList_inj,ByteArray.toList_eq]
 have e2:(a == b)=decide (a=b):=by by_cases h:a=b <;> simp [h]
 have r0:=run_equalIn_int (P:=P) w n f0.type .i64 .i64 a b h0;have r1:=run_equalIn_string (P:=P) w n f1.type s t h1;rw [e2] at r0;rw [e] at r1;simp only [Op.eqFields,D,F,part,Sem.run_bind,a0,a1,Result.andThen_ok]
 by_cases I:a=b
 ·
  subst I
  by_cases Q:s=t
  ·
   simp_all
  simp_all
 simp_all
variable {kv:KV}{w:World}{ty:TypeId}
end
end Go.Rc

namespace Go.Rc
open Go
section
variable {aa:List aG}{H:Int→List cv}{x b b':cy}{p q l l':List bm}{f g:bm}{bf rk goals:List Key}{k y a:Key}{val:Key→ByteArray}{er:Int}
theorem fS.pop(h:fS (p++[f]) b a) (hu:∀y,aA b y=true→aA b' y=true) (d:aA b' f.key=true):fS p b' a:=by
 rcases h with h | ⟨h1,e⟩ | h
 ·
  exact .inl h
 ·
  rw [fG,kK,Bool.or_eq_true,decide_eq_true_eq] at h1
  rcases h1 with h1 | rfl
  ·
   exact .inr (.inl ⟨h1,e⟩)
  exact .inr (.inr d)
 exact .inr (.inr (hu _ h))
theorem fS.up(h:fS l b a) (hu:∀y,aA b y=true→aA b' y=true) (d:∀y,fY l y=true→fY l' y=true):fS l' b' a:=
 h.imp id (Or.imp (fun⟨h1,e⟩=>⟨d _ h1,e⟩) (hu _))
theorem FS.there(e:FS aa val b p f b' l' rk er) (h:fS (p++[f]) b a):fS l' b' a:=by
 have hu:∀y,aA b y=true→aA b' y=true:=fun y d=>e.ups d
 have same:∀{z:bm},z.key=f.key→∀y,fY (p++[f]) y=true→fY (p++[z]) y=true:=fun {z} m y d=>by
  rw [fG,kK] at d ⊢;rw [m];exact d
 have more:∀{z:bm},∀y,fY (p++[f]) y=true→fY (p++[f]++[z]) y=true:=fun {z} y d=>by rw [fG,d];rfl
 cases e with
 | put=>exact h.pop hu (jd (r:=bJ b f.key (aH aa f.key f.ae).value f.reads) rfl)
 | up _ t=>exact h.pop hu t
 | mark _ hl=>
  obtain⟨r,h1,_⟩:=hl;exact h.pop hu (gT (by rw [h1];rfl) fy)
 | push=>exact h.up hu more
 | uQ=>exact h.up hu more
 | stay=>exact h
 | full=>exact h
 | QG=>exact h
 | Mq=>exact h
 | read=>exact h.up hu (same rfl)
 | start=>exact h.up hu (same rfl)
 | pass=>exact h.up hu (same rfl)
 | fail=>exact h.up hu (same rfl)
theorem pg{G:List Key}{d:Bool}{rev:Int}{l:List Rec}:(aC (l.map (a7 rev G d)) y).reads=(aC l y).reads∧(aC (l.map (a7 rev G d)) y).value=(aC l y).value:=by
 unfold aC
 rw [bZ]
 cases az l y with
 | none=>exact⟨rfl,rfl⟩
 | some r=>
  simp only [Option.map_some,Option.getD_some]
  unfold a7
  grind
theorem FS.reads(h:FS aa val b p f b' l' rk er) (m:f.running=true→aA b f.key=false) (d:aA b y=true):(aC b'.ah y).reads=(aC b.ah y).reads:=by
 cases h with
 | put hr=>
  have h1:=m hr
  have t:¬y=(bJ b f.key (aH aa f.key f.ae).value f.reads).key:=fun e=>by
   have e:y=f.key:=e;rw [e,h1] at d;cases d
  unfold aC
  rw [cT,if_neg t]
 | mark=>exact pg.1
 | fail=>
  split
  ·
   exact pg.1
  rfl
 | _=>rfl
theorem hK.thr(O:aq aa) (Q:LC aa x) (hk:∀k∈goals,eG aa k) (h:hK aa (valOf aa x.ab) goals x b l bf):∀y,aA x y=false→aA b y=true→∀a∈(aC b.ah y).reads,fS l b a:=by
 induction h with
 | start=>intro y h1 t;rw [h1] at t;cases t
 | take h1 Y hn B=>exact fun y t F a d=>(B y t F a d).mono fun k h=>by cases h
 | @step b b' p l' f bf rk h1 C Dr B=>
  intro y S m a d;obtain⟨⟨H,t⟩,F,h4⟩:=h1.inv O Q hk;have G:=t.top.run
  by_cases hu:aA b y=true
  ·
   rw [C.reads (fun hr=>(G hr).2.1) hu] at d;exact C.there (B y S hu a d)
  have hu:aA b y=false:=by simpa using hu
  cases C with
  | put hr V=>
   by_cases e:y=f.key
   ·
    subst e
    have e2:aC (ey b.ah (bJ b f.key (aH aa f.key f.ae).value f.reads)) f.key=bJ b f.key (aH aa f.key f.ae).value f.reads:=by
     refine aQ ?_;rw [cT];exact if_pos rfl
    rw [show({b with ah:=ey b.ah (bJ b f.key (aH aa f.key f.ae).value f.reads)}:cy).ah=ey b.ah (bJ b f.key (aH aa f.key f.ae).value f.reads) from rfl,e2] at d;exact(FS.put (aa:=aa) (val:=valOf aa x.ab) (b:=b) (p:=p) hr V).there ((G hr).2.2.2.2 a d)
   exfalso
   obtain⟨r,g1,g2⟩:=aT.1 m;have g1:az (ey b.ah (bJ b f.key (aH aa f.key f.ae).value f.reads)) y=some r:=g1;rw [cT,if_neg (show ¬y=(bJ b f.key (aH aa f.key f.ae).value f.reads).key from e)] at g1;rw [aT.2 ⟨r,g1,g2⟩] at hu
   cases hu
  | mark hr hl hn=>
   obtain⟨r,g1,g2,g3⟩:=id hl;have hm:=FS.mark (aa:=aa) (val:=valOf aa x.ab) (p:=p) hr hl hn;have d:a∈(aC (b.ah.map (a7 b.ad (aB b.ah b.ad f.key) false)) y).reads:=d;rw [pg.1] at d
   by_cases I:y∈aB b.ah b.ad f.key
   ·
    by_cases D:a∈aB b.ah b.ad f.key
    ·
     obtain⟨q,W⟩:=Gq g1 a D;exact .inr (.inr (gT (by rw [W];rfl) D))
    have hc:(⟨y,a⟩:od)∈bT b.ah (aB b.ah b.ad f.key):=dH.2 ⟨I,d,D⟩;obtain⟨j,X,e⟩:=List.getElem_of_mem hc;exact hm.there ((t.top.Ds hr).2.2.2 hl j ⟨y,a⟩ (by omega) (by rw [List.getElem?_eq_getElem X,e])).2.1
   exfalso
   obtain⟨r2,e1,e2⟩:=aT.1 m;have e1:az (b.ah.map (a7 b.ad (aB b.ah b.ad f.key) false)) y=some r2:=e1;rw [bZ] at e1
   cases v:az b.ah y with
   | none=>rw [v] at e1;cases e1
   | some r3=>
    rw [v] at e1;simp only [Option.map_some,Option.some.injEq] at e1;have J:=(aK v).2
    have:r2=r3:=by
     rw [← e1]
     unfold a7
     rw [if_neg (by rw [J];exact I)]
    rw [aT.2 ⟨r3,v,by rw [← this];exact e2⟩] at hu
    cases hu
  | fail c hr hl hc J h6 h7=>
   exfalso
   split at m
   ·
    rw [nq,hu] at m;cases m
   rw [hu] at m;cases m
  | _=>rw [hu] at m;cases m
theorem hK.mem(e:aq aa) (m:LC aa x) (hk:∀k∈goals,eG aa k) (h:hK aa (valOf aa x.ab) goals x b [] bf):y∈bf↔Hn (valOf aa x.ab) x y∧aA b y=true:=by
 obtain⟨_,_,_,hw,_⟩:=h.done e m hk;exact⟨fun d=>⟨hw.bf y d,hw.Jw y d⟩,fun⟨h1,t⟩=>hw.runs h1 t⟩
theorem hK.reads(d:aq aa) (e:LC aa x) (hk:∀k∈goals,eG aa k) (h:hK aa (valOf aa x.ab) goals x b [] bf) (h1:aA x y=false) (m:aA b y=true) (B:a∈na aa x.ab y):ay a=true∨aA b a=true:=by
 obtain⟨⟨H,t⟩,C,_⟩:=h.inv d e hk;obtain⟨r,hr,D⟩:=aT.1 m;obtain⟨g1,g2⟩:=aK hr;have v:=(t.bi.c.vr r g1).2;rw [D,t.bi.c.now,show b.ab=x.ab from C.fR.aD,g2] at v
 rcases h.thr d e hk y h1 m a (by rw [aQ hr,v];exact B) with h | ⟨h,_⟩ | h
 ·
  exact .inl h
 ·
  cases h
 exact .inr h
end
end Go.Rc

namespace Go.Rc
open Go
abbrev h0:aG:=⟨false,[⟨true,false,0,0⟩],2,0⟩
abbrev h1:aG:=⟨false,[⟨false,false,0,0⟩,⟨true,false,1,0⟩],1,0⟩
abbrev H2:List aG:=[h0,h1]
abbrev C1:Key:=cD ((1:Nat):Int)
abbrev z4:ByteArray:=⟨#[52]⟩
abbrev z2:ByteArray:=⟨#[50]⟩
theorem jM:aq H2:=by
 refine⟨by simp,fun i r h=>?_⟩
 have hi:i=0∨i=1:=by have:=(List.getElem?_eq_some_iff.1 h).1;simp at this;omega
 rcases hi with rfl | rfl
 ·
  simp at h;subst h
  refine⟨by simp,fun k x d=>?_,rfl⟩
  have hk:k=0:=by have:=(List.getElem?_eq_some_iff.1 d).1;simp at this;omega
  subst hk;simp at d;subst d;decide
 simp at h;subst h
 refine⟨by simp,fun k x d=>?_,rfl⟩
 have hk:k=0∨k=1:=by have:=(List.getElem?_eq_some_iff.1 d).1;simp at this;omega
 rcases hk with rfl | rfl <;> simp at d <;> subst d <;> decide
theorem ql:aM H2 ((0:Nat):Int)=K0:=by
 unfold aM
 rw [if_neg (by simp)]
 simp [aF]
theorem qm:aM H2 ((1:Nat):Int)=K1:=by
 unfold aM
 rw [if_neg (by simp)]
 simp [aF]
theorem zc:number K0=((0:Nat):Int):=by rw [← ql];exact cz (by simp) (by omega)
theorem rH:number K1=((1:Nat):Int):=by rw [← qm];exact cz (by simp) (by omega)
theorem Ey:eG H2 K1:=by rw [← qm];exact .eT (by simp) (by omega)
theorem g0a:cq H2 K0 []=⟨false,⟨#[]⟩,C0⟩:=by
 rw [i6 (i:=0) zc (by simp) (by rw [zc];exact ql) (by simp)]
 rfl
theorem g0b(v:ByteArray):cq H2 K0 [v]=⟨true,itoa (dn 2 0 [cB v]),eU⟩:=by
 rw [j5 (i:=0) zc (by simp) (by rw [zc];exact ql) (by simp)]
 rfl
theorem g1a:cq H2 K1 []=⟨false,⟨#[]⟩,K0⟩:=by
 rw [i6 (i:=1) rH (by simp) (by rw [rH];exact qm) (by simp)];rw [← ql];rfl
theorem g1b(v:ByteArray):cq H2 K1 [v]=⟨false,⟨#[]⟩,C1⟩:=by
 rw [i6 (i:=1) rH (by simp) (by rw [rH];exact qm) (by simp)]
 rfl
theorem g1c(u v:ByteArray):cq H2 K1 [u,v]=⟨true,itoa (dn 1 0 [cB u,cB v]),eU⟩:=by
 rw [j5 (i:=1) rH (by simp) (by rw [rH];exact qm) (by simp)]
 rfl
theorem it2:itoa ((2:Nat):Int)=z2:=by simp [itoa,Lib.itoa,Lib.decDigits]
theorem vs4:cB z4=4:=by decide
theorem vs2:cB z2=2:=by decide
theorem acE{aD:List cv}:na H2 aD K0=[C0]:=by
 have h:=gj (aD:=aD) jM (i:=0) (by simp);rw [ql] at h;rw [h]
 unfold cS
 rw [show cN H2 0=1 from rfl,ql];simp only [dW,List.nil_append];rw [g0a]
theorem Q9{aD:List cv}:na H2 aD K1=[K0,C1]:=by
 have h:=gj (aD:=aD) jM (i:=1) (by simp);rw [qm] at h;rw [h]
 unfold cS
 rw [show cN H2 1=2 from rfl,qm];simp only [dW,List.nil_append];rw [g1a,g1b]
 rfl
theorem OK{aD:List cv}{n:Nat}(h:cB (cellOf aD C0)=n) (hn:n<1000):valOf H2 aD K0=itoa ((n / 2:Nat):Int):=by
 have e:=fF (aD:=aD) jM (i:=0) (by simp);rw [show cN H2 0=1 from rfl,ql] at e;simp only [dW,List.nil_append] at e;rw [g0a,g0b,mZ (by omega),h] at e
 injection e with _ e2 _
 rw [← e2]
 simp [dn,pQ,Nat.mod_eq_of_lt (show n / 2<1000 by omega)]
theorem V4{aD:List cv}{n m:Nat}(h:cB (valOf H2 aD K0)=n) (d:cB (cellOf aD C1)=m) (hn:n+m<1000):valOf H2 aD K1=itoa ((n+m:Nat):Int):=by
 have e:=fF (aD:=aD) jM (i:=1) (by simp);rw [show cN H2 1=2 from rfl,qm] at e;simp only [dW,List.nil_append] at e;rw [g1a,List.singleton_append,g1b] at e;rw [g1c,h,mZ (by omega),d] at e
 injection e with _ e2 _
 rw [← e2]
 simp [dn,pQ,Nat.mod_eq_of_lt hn]
abbrev iA:List cv:=[⟨C0,z4,1⟩]
abbrev iB:List cv:=[⟨C0,z5,2⟩]
theorem fA0:bw iA C0=⟨C0,z4,1⟩:=by unfold bw;rw [List.find?_cons];simp
theorem fB0:bw iB C0=⟨C0,z5,2⟩:=by unfold bw;rw [List.find?_cons];simp
theorem acF:(C0 == C1)=false:=by simp [cD,itoa,Lib.itoa,Lib.decDigits]
theorem fB1:bw iB C1=⟨C1,⟨#[]⟩,0⟩:=by unfold bw;rw [List.find?_cons,acF];rfl
theorem vA0:valOf H2 iA K0=z2:=by rw [OK (n:=4) (by unfold cellOf;rw [fA0];exact vs4) (by omega)];exact it2
theorem vB0:valOf H2 iB K0=z2:=by rw [OK (n:=5) (by unfold cellOf;rw [fB0];exact vs5) (by omega)];exact it2
theorem vB1:valOf H2 iB K1=z2:=by rw [V4 (n:=2) (m:=0) (by rw [vB0];exact vs2) (by unfold cellOf;rw [fB1];exact vsE) (by omega)];exact it2
theorem acG:ay C1=true:=bB (n:=1) (by omega)
theorem JV{x:cy}(d:LC H2 x) {y:Key}(h:aA x y=true):y=K0∨y=K1:=by
 obtain⟨r,h1,_⟩:=aT.1 h;obtain⟨g1,g2⟩:=aK h1;obtain⟨k1,k2,_⟩:=d.lb.Gg.kr r g1;rw [g2] at k1 k2
 cases k1 with
 | cell e=>rw [bB e] at k2;cases k2
 | @eT i hi _=>
  have t:i<2:=hi
  have m:i=0∨i=1:=by omega
  rcases m with rfl | rfl
  ·
   exact .inl ql
  exact .inr qm
section
variable {x b y b2:cy}{bf acH rs:List Key}
theorem MG(d:LC H2 x) (hn:x.ah=[]) (h:hK H2 (valOf H2 x.ab) [K1] x b [] bf) (hu:aA b K1=true):bf.length=2∧aA b K0=true:=by
 have hk:∀k∈[K1],eG H2 k:=fun k hk=>by rw [List.mem_singleton.1 hk];exact Ey
 have e:∀y,az x.ah y=none:=fun y=>by rw [hn];rfl
 have m:∀y,aA x y=false:=fun y=>by unfold aA;rw [e y];rfl
 obtain⟨hb,_,_,hw,_⟩:=h.done jM d hk
 have h0:aA b K0=true:=by
  rcases h.reads jM d hk (m K1) hu (a:=K0) (by rw [Q9];simp) with h | h
  ·
   rw [Hy] at h;cases h
  exact h
 refine⟨?_,h0⟩
 have t:bf.Perm [K0,K1]:=(List.perm_ext_iff_of_nodup hw.j0 (by have:=V0;simp [this])).2 fun y=>by
  rw [h.mem jM d hk];simp only [List.mem_cons,List.not_mem_nil,or_false]
  constructor
  ·
   exact fun⟨_,h⟩=>JV hb h
  rintro(rfl | rfl)
  ·
   exact⟨⟨Hy,m _,.inl (e _)⟩,h0⟩
  exact⟨⟨JU,m _,.inl (e _)⟩,hu⟩
 exact t.length_eq
theorem MH(hb:LC H2 b) (hr:b.ad=1) (h0:aA b K0=true) (h1:aA b K1=true) (J:∀r∈b.ah,r.av=b.ad→r.value=valOf H2 iA r.key) (D:LC H2 y) (v:y=⟨2,iB,b.ah⟩) (h:hK H2 (valOf H2 y.ab) [K1] y b2 [] bf) (hu:aA b2 K1=true) (O:rs.Perm bf):rs=[K0]∧eL b2 K1=true∧im b2 K1=z2:=by
 have hk:∀k∈[K1],eG H2 k:=fun k hk=>by rw [List.mem_singleton.1 hk];exact Ey
 obtain⟨Q,_,VN,hw,S⟩:=h.done jM D hk;obtain⟨q0,f0,v0⟩:=aT.1 h0;obtain⟨q1,f1,v1⟩:=aT.1 h1;obtain⟨m0,k0⟩:=aK f0;obtain⟨m1,k1⟩:=aK f1;obtain⟨Hh,B⟩:=hb.bh
 have r0:q0.reads=[C0]:=by rw [(B.c.vr q0 m0).2,k0];exact acE
 have r1:q1.reads=[K0,C1]:=by rw [(B.c.vr q1 m1).2,k1];exact Q9
 have e:az y.ah K0=some q0:=by rw [v];exact f0
 have t:az y.ah K1=some q1:=by rw [v];exact f1
 have G:y.ad=2:=by rw [v]
 have C:y.ab=iB:=by rw [v]
 have w0:q0.av=1:=by rw [v0,hr]
 have w1:q1.av=1:=by rw [v1,hr]
 have V:aA y K0=false:=by unfold aA;rw [e,aQ e,w0,G];rfl
 have n1:aA y K1=false:=by unfold aA;rw [t,aQ t,w1,G];rfl
 have W:aA b2 K0=true:=by
  rcases h.reads jM D hk n1 hu (a:=K0) (by rw [Q9];simp) with h | h
  ·
   rw [Hy] at h;cases h
  exact h
 have V3:Hn (valOf H2 y.ab) y K0:=by
  refine⟨Hy,V,.inr (.inr ⟨K0,C0,fy,by rw [aQ e,r0];simp,?_,?_⟩)⟩
  ·
   rw [iv rfl];simpa using VZ
  rw [aQ e,w0]
  unfold aV
  rw [if_pos VY,C,fB0]
  decide
 have V2:¬Hn (valOf H2 y.ab) y K1:=by
  rintro⟨_,_,h | h | ⟨m,a,hm,F,_,d⟩⟩
  ·
   rw [t] at h;cases h
  ·
   rw [aQ t] at h
   have:=B.dv q1 m1 h
   omega
  rw [iv rfl,List.mem_singleton] at hm;subst hm;rw [aQ t,r1] at F;rw [aQ t,w1] at d;simp only [List.mem_cons,List.not_mem_nil,or_false] at F
  rcases F with rfl | rfl
  ·
   have X:valOf H2 y.ab K0=q0.value:=by
    rw [C,vB0,J q0 m0 v0,k0,vA0]
   have pF:=(B.c.Eh q0 m0).2
   unfold aV at d
   rw [if_neg (by rw [Hy];simp),e,aQ e,X] at d
   simp at d
   omega
  unfold aV at d
  rw [if_pos acG,C,fB1] at d
  simp at d
 have Y:bf.Perm [K0]:=(List.perm_ext_iff_of_nodup hw.j0 (by simp)).2 fun z=>by
  rw [h.mem jM D hk,List.mem_singleton]
  constructor
  ·
   rintro⟨g1,g2⟩
   rcases JV Q g2 with rfl | rfl
   ·
    rfl
   exact absurd g1 V2
  rintro rfl;exact⟨V3,W⟩
 have I:eL b2 K1=true:=by unfold eL;rw [JU];exact hu
 refine⟨List.perm_singleton.1 (O.trans Y),I,?_⟩;obtain⟨r,fr,vr⟩:=aT.1 hu;obtain⟨g1,g2⟩:=aK fr
 unfold im
 rw [if_neg (by rw [JU];simp),if_pos I,aQ fr,S r g1 vr,g2,C];exact vB1
theorem smA:∀c∈[(⟨C0,z4⟩:Change)],c.small:=fun c hc=>by
 rw [List.mem_singleton.1 hc];exact⟨⟨0,by omega,by omega,rfl⟩,by decide⟩
theorem aoA(h:AO ⟨0,[],[]⟩ [⟨C0,z4⟩] y):y=⟨1,iA,[]⟩:=h.one _ rfl (by decide) (by decide)
theorem aoB(hi:b.ab=iA) (hr:b.ad=1) (h:AO b [⟨C0,z5⟩] y):y=⟨2,iB,b.ah⟩:=by
 have h1:=h.one _ rfl (by rw [hi,fA0];decide) (by rw [hr];decide);rw [h1,hi,hr]
 congr 1
 simp [fQ,ir]
end
end Go.Rc

namespace Go.Rc
open Go
section
variable {P:Program}{T:TypeId}
structure IpT (P:Program) (T:TypeId):Prop where
 eq:∀(a c:Int) (s t:ByteArray) (w:World),(Op.equalIn 10000 T (.agg #[.int .i64 a,.string s,.string t,.int .i64 c]) (.agg #[.int .i64 a,.string s,.string t,.int .i64 c])).run P w=.ok true w
 guard:P.eqGuardType P.depth T=false
theorem Ra{K d e:TypeId}{g0 g1 g2:Field}(hk:∀(a b:Int) (s t:ByteArray) (w:World),(Op.equalIn 9999 K (.agg #[.int .i64 a,.string s]) (.agg #[.int .i64 b,.string t])).run P w=.ok (decide (a=b) && decide (s=t)) w)
  (hu:P.underlying T=some (.struct #[g0,g1,g2])) (m:g0.type=K) (v:g1.type=d) (B:g2.type=e) (C:g0.offset=0) (D:g1.offset=2) (F:g2.offset=3) (O:g0.name≠ "_") (Q:g1.name≠ "_") (S:g2.name≠ "_")
  (h1:P.underlying d=some .string) (G:P.underlying e=some (.int .i64)) (a0:∀w,(isAgg K).run P w=.ok true w) (z0:∀w,(sizeOf K).run P w=.ok 2 w) (a1:∀w,(isAgg d).run P w=.ok false w) (a2:∀w,(isAgg e).run P w=.ok false w)
  (I:P.stoodInHeld T=false) (J:P.eqGuardType P.depth T=false):IpT P T:=by
 refine⟨fun a c s t w=>?_,J⟩;subst m v B
 have h:P.fieldsOf T=#[g0,g1,g2]:=by simp [Program.fieldsOf,hu]
 rw [show(10000:Nat)=9999+1 from rfl,run_equalIn_struct (P:=P) w 9999 T _ _ (by rw [h];exact hu) I,h];have r0:=hk a a s s w;have r1:=run_equalIn_string (P:=P) w 9998 g1.type t t h1;have r2:=run_equalIn_int (P:=P) w 9998 g2.type .i64 .i64 c c G;rw [show(9998+1:Nat)=9999 from rfl] at r1 r2;simp only [Op.eqFields,C,D,F,part,Sem.run_bind,a0,a1,a2,z0,Result.andThen_ok]
 simp_all [asAgg]
variable {kv:KV}{w:World}{ty:TypeId}
theorem PV.acJ(hT:IpT P T) {U:TypeId}{x y:Operand}{p:cv}(d:ev kv x=some (.agg p.cells.toArray)) (e:ev kv y=some (.agg p.cells.toArray)) :
  PV P (.binOp .neq T x y U) ty kv w (.bool false):=by
 refine⟨rfl,by simp [known,opers,d,e],fun _ _ _ _=>?_⟩;simp only [execOp,aJ d,aJ e,cv.cells];simp only [Sem.run_bind,run_eqGuard_agg w .neq T _ _ _ _ hT.guard,run_neq_struct,hT.eq,Result.andThen_ok]
 rfl
end
end Go.Rc

namespace Go.Rc
open Go
theorem Hz{aa:List aG}{b:cy}{r:Rec}(e:aq aa) (hb:LC aa b) (hr:r∈b.ah):eG aa r.key∧gM aa r.key=true:=by
 obtain⟨k1,k2,_⟩:=hb.lb.Gg.kr r hr;refine⟨k1,?_⟩;obtain⟨k,v,rd,c,m,co,d⟩:=r;simp only at k1 k2 ⊢
 cases k1 with
 | cell h=>rw [bB h] at k2;cases k2
 | @eT i hi _=>exact xH e hi
end Go.Rc

namespace Go.Rc
open Go
section
variable {H:Type}{enc:TypeId × Value→H}{P:Program}{w:World}
theorem sK{e:TypeId}:∀{l:List (DataW H)}{d:DataW H},d∈l→∀n∈d.weights P e,n∈DataW.weightsAll P e l
 | [],_,h,_,_=>by cases h
 | x::r,d,h,n,hn=>by
  simp only [DataW.weightsAll,List.mem_append]
  rcases List.mem_cons.1 h with rfl | h
  ·
   exact .inl hn
  exact .inr (sK h n hn)
def JW(P:Program) (t:TypeId) (d:DataW H):Prop:=∀n∈d.weights P t,n≤reachBytes
theorem JW.len{t e:TypeId}{xs d:List (DataW H)}(h:JW P t (.slice xs d)) (ht:P.underlying t=some (.slice e)) (hb:1≤P.bytesOf e):xs.length≤140737488355328:=by
 have h1:=h ((xs.length+d.length)*P.bytesOf e) (by simp only [DataW.weights,ht];exact List.mem_cons_self)
 unfold reachBytes at h1
 have m:xs.length*1≤(xs.length+d.length)*P.bytesOf e:=Nat.mul_le_mul (by omega) hb
 omega
theorem JW.elem{t e:TypeId}{xs m:List (DataW H)}(h:JW P t (.slice xs m)) (ht:P.underlying t=some (.slice e)) {d:DataW H}(v:d∈xs):JW P e d:=fun n hn=>
 h n (by simp only [DataW.weights,ht,List.mem_cons,List.mem_append];exact .inr (.inl (sK v n hn)))
theorem JW.each{e:List TypeId}{ds:List (DataW H)}(h:(DataW.weightsEach P e ds).all (·≤reachBytes)=true) {j:Nat}{t:TypeId}{d:DataW H}(ht:e[j]?=some t) (m:ds[j]?=some d):JW P t d:=fun n hn=>by
 have:=List.all_eq_true.1 h n (DataW.weights_mem_each ht m n hn)
 simpa using this
theorem MI{α:Type} [Inhabited α] {R:α→List Value→Prop}{t e:TypeId}{k fuel n c:Nat}{a:Option Addr}{d:DataW H}{p:List MemPlace}(ht:P.underlying t=some (.slice e)) (hk:P.cellsOf e=k) (Dw:1≤k) (hb:1≤P.bytesOf e)
  (S:∀(m:Nat) (cs:List Value) (d:DataW H) (p:List MemPlace),DataW.trod enc P w 0 (fun _=>true) true m e cs=some (d,p)→cs.length=k→JW P e d→∃x:α,R x cs)
  (h:DataW.trod enc P w 0 (fun _=>true) true fuel t [.slice a n c]=some (d,p)) (hl:JW P t d):∃xs:List α,LR (fun b=>b<w.heap.size) w k R a n xs:=by
 rcases Deep.open_slice ht h with⟨hc,_⟩ | ⟨F,len,cap,m,fu,D,Pl,hc,_,hle,_,hm,B,V⟩
 ·
  simp only [List.cons.injEq,Value.slice.injEq,and_true] at hc;obtain⟨rfl,rfl,rfl⟩:=hc;exact⟨[],⟨rfl,by omega,fun B=>by simp at B⟩⟩
 simp only [List.cons.injEq,Value.slice.injEq,and_true] at hc;obtain⟨rfl,rfl,rfl⟩:=hc;simp only [Prod.mk.injEq] at B;obtain⟨rfl,_⟩:=B;simp only [if_true] at hm
 have hn:n≤140737488355328:=by simpa using hl.len ht hb
 have each:∀i,i<n→∃q:α × List Value,w.cells? 0 (F.add (i*k)) k=some q.2∧R q.1 q.2:=fun i hi=>by
  obtain⟨W,h1,X⟩:=V i (by omega);rw [hk] at h1;obtain⟨x,B⟩:=S _ _ _ _ X (World.cells?_some h1).2.1 (hl.elem ht (List.mem_map.2 ⟨i,by simpa using hi,rfl⟩));exact⟨(x,W),h1,B⟩
 obtain⟨q,G⟩:=Deep.choose_lt each;refine⟨(List.range n).map fun i=>(q i).1,⟨by simp,hn,fun {i x} B=>?_⟩⟩
 obtain⟨hi,rfl⟩:i<n∧(q i).1=x:=by
  rw [List.getElem?_map] at B;obtain⟨j,C,Y⟩:=Option.map_eq_some_iff.1 B;rw [List.getElem?_eq_some_iff] at C;obtain⟨I,J⟩:=C
  simp at I J
  subst J;exact⟨I,Y⟩
 have O:F.spot=none:=by
  obtain⟨_,Up,Uv⟩:=World.cells?_some (G 0 (by omega)).1;have h0:=Uv 0 (by omega);rw [List.getElem?_eq_getElem (by omega)] at h0
  have:=World.cell?_spot h0
  simpa [Addr.add] using this
 obtain⟨b,o,s⟩:=F;simp only at O;subst O;obtain⟨_,GW,Gu⟩:=World.cells?_some (G i hi).1
 have hr:w.rangeAt b (o+i*k) (q i).2:=fun j v Q=>by
  have C:j<k:=by have:=(List.getElem?_eq_some_iff.1 Q).1;omega
  have:=Gu j C
  rw [WideShapes.add_plain,WideShapes.add_plain] at this;rw [this,Q]
 refine⟨b,o,(q i).2,rfl,GW,(G i hi).2,hr,?_,?_⟩ <;>
  exact World.block_lt_of_cell? w ⟨b,_,none⟩ (hr 0 _ (List.getElem?_eq_getElem (by omega)))
end
def uZ(P:Program) (w:World) (n:String):Prop:=∃(nm:String) (d:DataW Unit) (g t:Nat) (ms:Array (String × TypeId)),Lib.VarReads P w n (.iface nm d)∧P.globalNamed n=some g∧(P.globals[g]?).map (·.type)=some t∧P.underlying t=some (.interface ms)
theorem Rb{P:Program}{w:World}{g t e:Nat}(G:Lib.VarReads P w "internal/strconv.uint64pow10" (Lib.tabData .u64 Lib.pow10Tab)) (C:P.globalNamed "internal/strconv.uint64pow10" = some g) (I:(P.globals[g]?).map (·.type)=some t) (ht:P.underlying t=some (.array 20 e)) (he:P.underlying e=some (.int .u64))
  (J:P.cellsOf e=1) (O:P.cellsOf t=20) (Q:uZ P w "strconv.ErrSyntax") (S:uZ P w "strconv.ErrRange"):lq P (fun b=>b<w.heap.size) w:=by
 obtain⟨g',t',cs,fuel,p,V,W,h,X⟩:=G;obtain rfl:=Option.some.inj (C.symm.trans V);obtain rfl:=Option.some.inj (I.symm.trans W);have hc:=Lib.cells_of_tab ht he J O X
 have hT:Lib.TabIs P w "internal/strconv.uint64pow10" .u64 Lib.pow10Tab:=by
  unfold Lib.TabIs
  rw [h,← hc]
 have D:g<w.heap.size:=by
  unfold World.var? at h
  simp only [C,Option.bind_some] at h
  split at h
  ·
   rename_i B
   exact(Array.getElem?_eq_some_iff.1 B).1
  cases h
 refine⟨⟨g,D,D,fun w' e=>?_⟩,fun n hn g2 Y=>?_⟩
 ·
  unfold Lib.TabIs World.var? at hT ⊢
  simp only [C,Option.bind_some] at hT ⊢;rw [e];exact hT
 have hE:uZ P w n:=by
  rcases hn with rfl | rfl
  ·
   exact Q
  exact S
 obtain⟨nm,d,g3,t3,ms,⟨g4,t4,cs4,ajh,p4,e1,e2,m,hd4⟩,e3,e4,e5⟩:=hE;obtain rfl:=Option.some.inj (e1.symm.trans Y);obtain rfl:=Option.some.inj (e1.symm.trans e3);obtain rfl:=Option.some.inj (e2.symm.trans e4);obtain⟨_,u,v,hcs,_,_⟩:=iface_of_trod e5 hd4
 unfold World.var? at m
 simp only [e1,Option.bind_some] at m
 split at m
 ·
  rename_i c0 x0 y0 B
  obtain rfl:=Option.some.inj m;have F:=(Array.getElem?_eq_some_iff.1 B).1;refine⟨F,F,.iface u v,.inr ⟨u,v,rfl⟩,fun w' e=>?_⟩;obtain rfl:c0=#[.iface u v]:=Array.toList_inj.1 hcs
  unfold World.cell?
  simp only [e,B]
  first | done | rfl
 cases m
theorem aS.Re{w w':World}(h:aS [] w w') (B:Nat) (d:B≤w.heap.size):RowKit.Below B w w':=⟨h.os,h.tape,h.output,h.size,fun k hk=>h.block k (by omega) (by simp)⟩
end Go.Rc

namespace Go.Rc
open Go
def Rf(m f:Nat):Bool:=Nat.beq (Nat.land (Nat.shiftRight m f) 1) 1
def Ez(look:FuncId→Option Func) (P:Program):Nat→List FuncId→Nat→List FuncId→List FuncId
 | 0,_,_,seen=>seen.reverse
 | _,[],_,seen=>seen.reverse
 | n+1,f::todo,mask,seen=>
  match Rf mask f with
  | true=>Ez look P n todo mask seen
  | false=>Ez look P n ((look f).elim [] P.leadsTo++todo) (Nat.lor mask (Nat.shiftLeft 1 f)) (f::seen)
theorem MJ(m f:Nat):Rf m f=m.testBit f:=by
 unfold Rf
 show Nat.beq ((m >>> f) &&& 1) 1=m.testBit f
 rw [Nat.testBit,Nat.and_comm];have h:=Nat.and_one_is_mod (m >>> f);rw [Nat.and_comm]
 have d:(1 &&& m >>> f)=(m >>> f) % 2:=by rw [Nat.and_comm];exact h
 rw [Nat.and_comm,d]
 rcases Nat.mod_two_eq_zero_or_one (m >>> f) with e | e <;> rw [e] <;> rfl
theorem zd{look:FuncId→Option Func}(P:Program) (hl:∀g,P.funcs[g]?=look g):∀(n:Nat) (todo:List FuncId) (mask:Nat) (seen:List FuncId),(∀x:Nat,mask.testBit x=seen.contains x)→Ez look P n todo mask seen=P.closureVia n todo seen
 | 0,_,_,_,_=>by unfold Ez Program.closureVia;rfl
 | n+1,[],_,_,_=>by unfold Ez Program.closureVia;rfl
 | n+1,f::todo,mask,seen,h=>by
  unfold Ez Program.closureVia
  rw [MJ,h f]
  cases hc:seen.contains f with
  | true=>simp only [if_true];exact zd P hl n todo mask seen h
  | false=>
   simp only [Bool.false_eq_true,if_false];rw [hl f];refine zd P hl n _ _ _ fun x=>?_
   show(mask ||| (1 <<< f)).testBit x=(f::seen).contains x
   rw [Nat.testBit_or,h x,Nat.shiftLeft_eq,Nat.one_mul,Nat.testBit_two_pow,List.contains_cons,Bool.or_comm]
   grind
theorem ze{look:FuncId→Option Func}(P:Program) (hl:∀g,P.funcs[g]?=look g) (f:FuncId):P.closure f=Ez look P (1+(P.funcs.toList.map fun g=>(P.leadsTo g).length+1).sum) [f] 0 []:=by grind [Program.closure,zd]
end Go.Rc

namespace Go.Rc
open Go
def zh(P:Program):Nat→List TypeId→List TypeId
 | 0,s=>s
 | d+1,s=>match decide (P.grow s=s) with
  | true=>s
  | false=>zh P d (P.grow s)
theorem xZ{P:Program}{s:List TypeId}(h:P.grow s=s):∀n,P.grown n s=s
 | 0=>rfl
 | n+1=>by
  show P.grown n (P.grow s)=s
  rw [h];exact xZ h n
theorem x2(P:Program):∀(n:Nat) (s:List TypeId),P.grown n s=zh P n s
 | 0,_=>rfl
 | n+1,s=>by
  show P.grown n (P.grow s)=match decide (P.grow s=s) with | true=>s | false=>zh P n (P.grow s)
  by_cases h:P.grow s=s
  ·
   grind [xZ]
  rw [decide_eq_false h];exact x2 P n _
def oB(P:Program) (t:TypeId):List TypeId:=zh P P.types.size [t]
theorem l4(P:Program) (t:TypeId):P.book t=oB P t:=x2 P _ _
def JX(P:Program) (t:TypeId):Bool:=(oB P t).all fun u=>P.fineRow u && (P.partsOf u).all ((oB P t).contains ·)
theorem tO(P:Program) (t:TypeId):P.readableRec t=JX P t:=by grind [Program.readableRec,JX,l4]
def JY(P:Program) (t:TypeId):Bool:=(oB P t).any fun u=>(P.partsOf u).any fun v=>(oB P v).contains u
theorem BZ(P:Program) (t:TypeId):P.loopsFrom t=JY P t:=by grind [Program.loopsFrom,JY,l4]
def OM(P:Program) (t:TypeId):Bool:=(oB P t).any fun u=>match P.underlying u with | some (.map _ _)=>true | _=>false
theorem MK(P:Program) (t:TypeId):P.mapsRec t=OM P t:=by grind [Program.mapsRec,OM,l4]
def Gv(P:Program) (t:TypeId):Bool:=(oB P t).any fun u=>match P.underlying u with | some (.interface _)=>true | _=>false
theorem x3(P:Program) (t:TypeId):P.ifacesRec t=Gv P t:=by grind [Program.ifacesRec,Gv,l4]
def tP(P:Program) (t:TypeId):Bool:=(oB P t).any fun u=>match P.underlying u with | some (.func ..) | some (.chan ..) | some .unsafePointer=>true | _=>false
theorem rI(P:Program) (t:TypeId):P.veiledRec t=tP P t:=by grind [Program.veiledRec,tP,l4]
def OO(P:Program) (t:TypeId):Bool:=
 (oB P t).any fun u=>match P.underlying u with
  | some (.map k _)=>(match P.underlying k with | some (.array _ _) | some (.struct _)=>true | _=>false)
  | _=>false
theorem ML(P:Program) (t:TypeId):P.wideKeysFrom t=OO P t:=by grind [Program.wideKeysFrom,OO,l4]
def ph(P:Program) (t:TypeId):Bool:=!tP P t || (let L:=P.libraryStructs;(oB P t).all fun u=>!(P.libraryStructIn L u && tP P u))
theorem qn(P:Program) (t:TypeId):P.veiledOwn t=ph P t:=by grind [Program.veiledOwn,ph,l4,rI]
def B0(P:Program) (n:String):Bool:=
 match P.globalNamed n with
 | some g=>((P.globals[g]?).map (·.type)).any fun t=>JX P t && ph P t
 | none=>false
theorem EB(P:Program) (n:String):P.varReadable n=B0 P n:=by grind [Program.varReadable,B0,tO,qn]
end Go.Rc

namespace Go.Rc
open Go
def blocks{α:Type _}:Nat→List α→List (List α)
 | 0,_=>[]
 | n+1,l=>l.take 32::blocks n (l.drop 32)
def pick{α:Type _}(b:List (List α)) (t:Nat):Option α:=(b[t / 32]?).bind (·[t % 32]?)
theorem kL{α:Type _}:∀(n:Nat) (l:List α) (t:Nat),l.length≤n*32→pick (blocks n l) t=l[t]?
 | 0,l,t,h=>by grind [pick,blocks]
 | n+1,l,t,h=>by
  by_cases ht:t<32
  ·
   grind [pick,blocks]
  have h1:t / 32=(t - 32) / 32+1:=by omega
  have d:t % 32=(t - 32) % 32:=by omega
  have e:=kL n (l.drop 32) (t - 32) (by simp;omega)
  grind [pick,blocks]
def rootOf(b:List (List TypeInfo)) (t:TypeId):Option TypeDesc:=
 (pick b t).bind fun i=>match i.desc with
  | .named _ u=>(pick b u).map (·.desc)
  | d=>some d
def wide(b:List (List TypeInfo)) (t:TypeId):Nat:=((pick b t).map (·.size)).getD 0
theorem rJ{P:Program}{n:Nat}(hn:P.types.size≤n*32) {t:TypeId}{i:TypeInfo}(h:pick (blocks n P.types.toList) t=some i):P.info? t=some i:=by
 rw [kL n _ t (by simpa using hn),Array.getElem?_toList] at h;have ht:t<P.types.size:=(Array.getElem?_eq_some_iff.1 h).1
 unfold Tables.info?
 rw [if_pos ht,h]
theorem MM{P:Program}{n:Nat}(hn:P.types.size≤n*32) {t:TypeId}(h:t<P.types.size):∃i,pick (blocks n P.types.toList) t=some i:=by
 rw [kL n _ t (by simpa using hn),Array.getElem?_toList]
 simp_all
theorem rK{P:Program}{n:Nat}(hn:P.types.size≤n*32) {t:TypeId}{d:TypeDesc}(h:rootOf (blocks n P.types.toList) t=some d):P.underlying t=some d:=by
 unfold rootOf at h
 unfold Program.underlying
 cases m:pick (blocks n P.types.toList) t with
 | none=>rw [m] at h;cases h
 | some i=>
  rw [m] at h;rw [rJ hn m];obtain⟨e,_⟩:=i
  grind [pick,rJ]
theorem qo{P:Program}{n:Nat}(hn:P.types.size≤n*32) {t:TypeId}(h:t<P.types.size):wide (blocks n P.types.toList) t=P.cellsOf t:=by grind [MM,wide,Program.cellsOf,rJ]
def ny(b:List (List TypeInfo)) (N:Nat) (t:TypeId):Bool:=Nat.ble (t+1) N && kindOk (rootOf b t)
theorem n0{b:List (List TypeInfo)}{N:Nat}{t:TypeId}(h:ny b N t=true):t<N:=by
 simp only [ny,Bool.and_eq_true] at h;exact Nat.le_of_ble_eq_true h.1
theorem n5{P:Program}{n:Nat}(hn:P.types.size≤n*32) {t:TypeId}(h:ny (blocks n P.types.toList) P.types.size t=true):isVar P t=true:=by
 have hl:=n0 h;simp only [ny,Bool.and_eq_true] at h
 unfold isVar
 cases hr:rootOf (blocks n P.types.toList) t with
 | none=>rw [hr] at h;cases h.2
 | some d=>grind [rK]
def qp(b:List (List TypeInfo)) (N:Nat):Nat→List Field→Bool
 | _,[]=>true
 | o,f::r=>ny b N f.type && Nat.beq f.offset o && qp b N (o+wide b f.type) r
def sumOf(b:List (List TypeInfo)):List Field→Nat
 | []=>0
 | f::r=>wide b f.type+sumOf b r
def Rg(b:List (List TypeInfo)) (N:Nat) (t:TypeId):Bool:=
 match rootOf b t with
 | none=>false
 | some (.struct fs)=>qp b N 0 fs.toList && Nat.beq (wide b t) (sumOf b fs.toList)
 | some (.array k e)=>ny b N e && Nat.beq (wide b t) (k*wide b e)
 | some (.pointer e)=>ny b N e && Nat.beq (wide b t) 1
 | some (.slice e)=>ny b N e && Nat.beq (wide b t) 1
 | some (.tuple _)=>true
 | some .invalid=>true
 | some (.named _ _)=>true
 | _=>Nat.beq (wide b t) 1
def Es(b:List (List TypeInfo)) (N:Nat) (t:TypeId):Bool:=
 match rootOf b t with
 | none=>false
 | some (.map _ e)=>Nat.ble (e+1) N
 | _=>true
theorem qq{P:Program}{n:Nat}(hn:P.types.size≤n*32):∀(fs:List Field) (o:Nat),qp (blocks n P.types.toList) P.types.size o fs=true→
  (∀f∈fs,isVar P f.type=true)∧(∀j f,fs[j]?=some f→f.offset=o+((fs.take j).map fun f=>P.cellsOf f.type).sum)∧sumOf (blocks n P.types.toList) fs=(fs.map fun f=>P.cellsOf f.type).sum
 | [],_,_=>⟨by simp,by simp,rfl⟩
 | g::r,o,h=>by
  simp only [qp,Bool.and_eq_true] at h;obtain⟨⟨h1,e⟩,d⟩:=h;rw [qo hn (n0 h1)] at d;obtain⟨m,i2,i3⟩:=qq hn r _ d;refine⟨fun f t=>?_,fun j f v=>?_,?_⟩
  ·
   grind [n5]
  ·
   cases j with
   | zero=>simp_all
   | succ j=>grind
  grind [sumOf,qo,n0]
theorem HA{P:Program}{n:Nat}(hn:P.types.size≤n*32) {t:TypeId}(ht:t<P.types.size) (h:Rg (blocks n P.types.toList) P.types.size t=true):rowFine P t=true:=by
 unfold Rg at h
 rw [qo hn ht] at h
 unfold rowFine
 rw [Bool.or_eq_true]
 cases hr:rootOf (blocks n P.types.toList) t with
 | none=>rw [hr] at h;cases h
 | some d=>
  have hu:=rK hn hr;rw [hr] at h
  cases d with
  | struct fs=>
   right
   simp only [hu];simp only [Bool.and_eq_true] at h;obtain⟨h1,v,m⟩:=qq hn fs.toList 0 h.1;simp only [Bool.and_eq_true,List.all_eq_true,beq_iff_eq];refine⟨⟨h1,(Nat.eq_of_beq_eq_true h.2).trans m⟩,fun j B=>?_⟩
   grind
  | array k e=>
   right
   simp only [hu];simp only [Bool.and_eq_true] at h ⊢;rw [qo hn (n0 h.1)] at h;exact⟨n5 hn h.1,by simp_all⟩
  | pointer e=>
   right
   simp only [hu];simp only [Bool.and_eq_true] at h ⊢;exact⟨n5 hn h.1,by simp_all⟩
  | slice e=>
   right
   simp only [hu];simp only [Bool.and_eq_true] at h ⊢;exact⟨n5 hn h.1,by simp_all⟩
  | tuple e=>left;simp [isVar,hu,kindOk]
  | invalid=>left;simp [isVar,hu,kindOk]
  | named a e=>left;simp [isVar,hu,kindOk]
  | _=>
   right
   simp only [hu];rw [beq_iff_eq];exact Nat.eq_of_beq_eq_true h
def B1(f:Nat→Bool):Nat→Bool
 | 0=>true
 | n+1=>f n && B1 f n
theorem nz{f g:Nat→Bool}:∀(n:Nat),B1 f n=true→(∀t,t<n→f t=true→g t=true)→(List.range n).all g=true
 | 0,_,_=>by simp
 | n+1,h,d=>by
  simp only [B1,Bool.and_eq_true] at h;rw [List.range_succ,List.all_append,nz n h.2 fun t ht=>d t (by omega)]
  simp [d n (by omega) h.1]
theorem HB{P:Program}{N n:Nat}(d:P.types.size=N) (hn:Nat.ble N (n*32)=true) (h:B1 (Rg (blocks n P.types.toList) N) N=true):(List.range P.types.size).all (rowFine P)=true:=by
 subst d
 exact nz _ h fun t hl ht=>HA (Nat.le_of_ble_eq_true hn) hl ht
theorem EC{P:Program}{N n:Nat}(e:P.types.size=N) (hn:Nat.ble N (n*32)=true) (h:B1 (Es (blocks n P.types.toList) N) N=true):mapsRowed P=true:=by
 subst e
 unfold mapsRowed
 refine nz _ h fun t hl ht=>?_
 unfold Es at ht
 cases hr:rootOf (blocks n P.types.toList) t with
 | none=>rw [hr] at ht;cases ht
 | some d=>
  have hu:=rK (Nat.le_of_ble_eq_true hn) hr
  grind [Nat.le_of_ble_eq_true]
theorem ED{P:Program}{N:Nat}(d:P.types.size=N) (h:P.globals.toList.all (fun g=>Nat.ble (g.type+1) N)=true):P.globals.all (fun g=>decide (g.type<P.types.size))=true:=by grind [Nat.le_of_ble_eq_true]
theorem HC{P:Program}{N:Nat}(d:P.types.size=N) (h:P.funcs.toList.all (fun f=>f.params.toList.all fun t=>Nat.ble (t+1) N)=true):P.funcs.all (fun f=>f.params.all fun t=>decide (t<P.types.size))=true:=by grind [Nat.le_of_ble_eq_true]
theorem JZ{P:Program}(h1:(List.range P.types.size).all (rowFine P)=true) (d:P.globals.all (fun g=>decide (g.type<P.types.size))=true) (e:P.funcs.all (fun f=>f.params.all fun t=>decide (t<P.types.size))=true):laidOutB P=true:=by grind [laidOutB]
theorem both{a b:Bool}(d:a=true) (hb:b=true):(a && b)=true:=by rw [d,hb];rfl
end Go.Rc

namespace Go.Rc
open Go
theorem EE{P:Program}{N n:Nat}(d:P.funcs.size=N) (hn:Nat.ble N (n*32)=true) (g:FuncId):P.funcs[g]?=pick (blocks n P.funcs.toList) g:=by
 subst d;rw [kL n _ g (by simpa using Nat.le_of_ble_eq_true hn),Array.getElem?_toList]
def J0(name:String):Nat→List Func→List Nat
 | _,[]=>[]
 | k,f::r=>match f.name == name with
  | true=>k::J0 name (k+1) r
  | false=>J0 name (k+1) r
theorem Gw(name:String):∀(l:List Func) (k:Nat),J0 name k l=((List.range l.length).filter fun i=>(l[i]?).any (·.name == name)).map (· + k)
 | [],_=>rfl
 | f::r,k=>by
  have h:=Gw name r (k+1);rw [List.length_cons,List.range_succ_eq_map,List.filter_cons,List.filter_map,List.getElem?_cons_zero]
  have e:((fun i=>((f::r)[i]?).any (·.name == name))∘Nat.succ)=fun i=>(r[i]?).any (·.name == name):=by
   funext i
   simp
  rw [e]
  have m:∀q:List Nat,(q.map Nat.succ).map (· + k)=q.map (· + (k+1)):=by
   intro q;rw [List.map_map]
   congr 1
   funext x
   show x.succ+k=x+(k+1)
   omega
  unfold J0
  cases hb:f.name == name with
  | true=>simp only [Option.any_some,hb,if_true,List.map_cons,Nat.zero_add,m,h]
  | false=>simp only [Option.any_some,hb,Bool.false_eq_true,if_false,m,h]
theorem nA(P:Program) (name:String):P.funcNamed name=match J0 name 0 P.funcs.toList with | [i]=>some i | _=>none:=by
 unfold Program.funcNamed
 rw [Gw];simp only [Nat.add_zero,List.map_id',Array.length_toList,Array.getElem?_toList]
 generalize (List.range P.funcs.size).filter (fun i=>(P.funcs[i]?).any (·.name == name))=q
 rcases q with _ | ⟨a,_ | ⟨b,r⟩⟩ <;> rfl
theorem nB(P:Program) (word:String):P.worded word=P.funcs.toList.any fun fn=>fn.body.isNone && fn.name == word:=by
 unfold Program.worded
 rw [Array.any_toList]
theorem u0(P:Program):P.laysLater=P.funcs.toList.any fun fn=>fn.body.isNone && (fn.name == "runtime.SetFinalizer" || fn.name == "runtime.AddCleanup" || fn.origin == "runtime.AddCleanup"):=by
 unfold Program.laysLater
 rw [Array.any_toList]
theorem tw(P:Program):P.stopsHeard=P.funcs.toList.all fun fn=>(Stop.rowOf fn).isNone || !fn.norace:=by
 unfold Program.stopsHeard
 rw [Array.all_toList]
def qt:List (String × DataW Unit)→List (String × DataW Unit)→Bool
 | [],[]=>true
 | (n,a)::r,(m,b)::s=>n == m && DataW.same a b && qt r s
 | _,_=>false
theorem sL:∀(l m:List (String × DataW Unit)),qt l m=true→l=m
 | [],[],_=>rfl
 | (n,a)::r,(k,b)::s,h=>by
  simp only [qt,Bool.and_eq_true,beq_iff_eq] at h;rw [h.1.1,DataW.same_eq a b h.1.2,sL r s h.2]
 | [],_::_,h=>by cases h
 | _::_,[],h=>by cases h
theorem MN{P:Program}{n fuel M:Nat}{laid:List (String × DataW Unit)}{os:Os}{tape:Tape}{g:FuncId}(m:varsId P=g) (he:funcsListed laid=[])
  (h:(match runN P n (Machine.entering P (World.unlaid P os) tape g ⟨#[],#[],[]⟩) with
   | .ended (.done _) w=>(DataW.laidRun P w.memory fuel ((laid.filter fun x=>x.2.handleName?.isNone).map (·.1))).any fun x=>nodupBits M x.2 0 && laidRowsB P w.memory x.2 && (laid.filter fun x=>x.2.handleName?.isSome && x.2.funcsIn?.isNone).all (handleAtB P w.memory) && qt x.1 (laid.filter fun x=>x.2.handleName?.isNone)
   | _=>false)=true):doorLeaves P n fuel M laid os tape=some (laid.filter fun x=>x.2.handleName?.isNone,(funcsListed laid).map (·.2.funcsOut)):=by
 unfold doorLeaves
 rw [m]
 split at h
 ·
  rename_i v w hr
  rw [hr]
  simp only
  cases d:DataW.laidRun P w.memory fuel ((laid.filter fun x=>x.2.handleName?.isNone).map (·.1)) with
  | none=>rw [d] at h;cases h
  | some x=>
   rw [d] at h;simp only [Option.any_some,Bool.and_eq_true] at h;obtain⟨⟨⟨h1,t⟩,B⟩,C⟩:=h;have e:=sL _ _ C;rw [he];simp only [Option.bind_some,h1,t,B,Bool.and_self,if_true,List.map_nil,funcsRun,Option.map_some,← e]
 cases h
end Go.Rc

namespace Go.Rc
open Go
theorem x4:∀l:List Int,(l.map fun z=>[Value.int .i64 z]).flatten=l.map (Value.int .i64)
 | []=>rfl
 | x::r=>by rw [List.map_cons,List.map_cons,List.flatten_cons,x4 r];rfl
theorem MO{H:Type}{enc:TypeId × Value→H}{P:Program}{w:World}{r:Reach}{base:Nat}{t e:TypeId}{fuel n c:Nat}{a:Option Addr}{d:DataW H}{p:List MemPlace}(ht:P.underlying t=some (.slice e)) (k1:P.cellsOf e=1) (b1:1≤P.bytesOf e) (he:P.underlying e=some (.int .i64))
  (G:Value.okWide P w r base t (.slice a n c)) (h:DataW.trod enc P w 0 (fun _=>true) true fuel t [.slice a n c]=some (d,p)) (hl:JW P t d):∃l:List Int,Rd RR.int 1 (fun b=>b<w.heap.size) w a n c l:=by
 obtain⟨l,B⟩:=MI (R:=fun(z:Int) r=>r=[Value.int .i64 z]) ht k1 (Nat.le_refl _) b1 (fun m cs d p hm W _=>by
  obtain⟨z,rfl,_,_⟩:=DataW.trod_int he hm;exact⟨z,rfl⟩) h hl
 refine⟨l,B.len,l.map fun z=>[Value.int .i64 z],by simp,fun r hr=>?_,?_,fun i x r O hr=>?_⟩
 ·
  obtain⟨z,_,rfl⟩:=List.mem_map.1 hr
  rfl
 ·
  rw [x4];refine⟨by simp [B.len],B.le,fun u hu=>?_,?_⟩
  ·
   obtain⟨z,_,rfl⟩:=List.mem_map.1 hu
   rfl
  rcases Deep.open_slice ht h with⟨hc,_⟩ | ⟨q,len,cap,m,X,D,Y,hc,_,hle,Q,_⟩
  ·
   simp only [List.cons.injEq,Value.slice.injEq,and_true] at hc;exact .inl hc
  simp only [List.cons.injEq,Value.slice.injEq,and_true] at hc;obtain⟨rfl,rfl,rfl⟩:=hc
  have C:q.spot=none∧q.block<w.heap.size:=by
   simp only [Value.okWide,ht,Cell.okWide,Cell.ok] at G;obtain⟨_,_,_,S,row,cells,F,_⟩:=G;refine⟨S,?_⟩
   unfold World.shape? at F
   split at F
   ·
    rename_i V
    exact(Array.getElem?_eq_some_iff.1 V).1
   cases F
  obtain⟨b,o,s⟩:=q;obtain⟨I,hb⟩:=C;simp only at I hb;subst I;refine .inr ⟨b,o,rfl,hle,Q,hb,hb,fun j v J=>?_⟩;rw [List.getElem?_map] at J;obtain⟨z,C,rfl⟩:=Option.map_eq_some_iff.1 J;obtain⟨b',o',r',e1,_,rfl,hr,_⟩:=B.at_ C;simp only [Option.some.injEq,Addr.mk.injEq,and_true] at e1;obtain⟨rfl,rfl⟩:=e1
  have:=hr 0 _ rfl
  simpa using this
 rw [List.getElem?_map,O] at hr;exact(Option.some.inj hr).symm
end Go.Rc

