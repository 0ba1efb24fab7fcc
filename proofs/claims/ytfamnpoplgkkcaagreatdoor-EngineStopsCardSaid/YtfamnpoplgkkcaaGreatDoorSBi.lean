/- Base of the proof: frames, memory, ownership, and the plain meaning of rule systems. Conditions: as each lemma says. -/
import Derived.Test.YtfamnpoplgkkcaaGreatDoorSBh
import Derived.Test.YtfamnpoplgkkcaaGreatDoorSBf
import Derived.Test.YtfamnpoplgkkcaaGreatDoorSBg
import Derived.Test.YtfamnpoplgkkcaaGreatDoorSBe
import Derived.Deep.Slices
import Derived.SizedLaws
import Derived.Lib.LaidU8
import Derived.Lib.LaidTab
import Derived.LaidLaws
import GoSem.ClaimFn
import Derived.JoinedOf
import Derived.LaidOnce
import Derived.TwinInFollowed
import Derived.WideShapes
set_option linter.all false
namespace Go.Rc
open Go
theorem u4(l:List Rec) (k y:Key):aB (fo l k) y=if y=k then none else aB l y:=by
 unfold aB fo
 rw [List.find?_filter]
 split
 ·
  rename_i e
  subst e;rw [List.find?_eq_none];intro x _
  simp
 congr 1
 funext x
 grind
section
variable {RT:Nat}{q:RL}{lf:Key→RL}{l l':List Rec}{r r':Rec}{k:Key}{ml:List (Key × Value)}{w0 w:World}{M Z:Nat→Prop}{L:List As}
theorem fk{y:Key}(h:aB (fo l k) y=some r):y≠k∧aB l y=some r:=by
 rw [u4] at h
 split at h
 ·
  cases h
 exact⟨‹_›,h⟩
theorem As.zl{w:World}{Z:Nat→Prop}(h:(As.gw RT lf l).ok Z w) (k:Key):(As.gw RT lf (Rc.fo l k)).ok Z w:=⟨fun y r d=>h.1 y r (fk d).2,fun y e r r' h1 t=>h.2 y e r r' (fk h1).2 (fk t).2⟩
theorem St.zl(h:St w0 M Z w (As.gw RT lf l::L)) (k:Key):St w0 M Z w (As.gw RT lf (Rc.fo l k)::L):=
 h.conv (As.zl h.g0 k) fun x ⟨y,r,d,e⟩=>⟨y,r,(fk d).2,e⟩
theorem St.J1(h:St w0 M Z w (As.gw RT lf l::L)) (hk:aB l k=some r):St w0 M Z w (As.blk (lf k).b RT (r.row (lf k).a (lf k).n (lf k).c)::As.gw RT lf (Rc.fo l k)::L):=by
 have hR:(As.gw RT lf l).ok Z w:=h.g0;refine h.split (hR.1 k r hk).1 (As.zl hR k) (fun x d=>⟨k,r,hk,d⟩) (fun x ⟨y,r,t,e⟩=>⟨y,r,(fk t).2,e⟩) fun x d ⟨y,r2,t,e⟩=>?_;obtain⟨h1,v⟩:=fk t;exact h1 (hR.2 y k _ _ v hk (e.symm.trans d))
theorem MZ:wL lf k (lf k)=lf:=by
 funext y
 unfold wL
 grind
theorem St.GQ(h:St w0 M Z w (As.blk (lf k).b RT (r'.row (lf k).a (lf k).n (lf k).c)::As.gw RT lf (Rc.fo l k)::L)) (hk:r'.key=k) (hr:Rd RR.key 2 Z w (lf k).a (lf k).n (lf k).c r'.reads) (d:r'.reads.length≤4000) (hl:∀y,aB l' y=if y=k then some r' else aB l y):St w0 M Z w (As.gw RT lf l'::L):=by
 subst hk
 have:=St.zh (q:=lf r'.key) (l':=l') h hr d fun y=>by
  rw [hl y,u4]
  split
  ·
   rfl
  rfl
 rwa [MZ] at this
theorem dy.mark(h:dy l lf ml) (rev:Int) (G:List Key) (d:Bool):dy (l.map (aY rev G d)) lf ml:=fun y=>by
 rw [h y,cv]
 cases aB l y <;> rfl
theorem dy.len(h:dy l lf ml) (hn:(ml.map (·.1)).Nodup):ml.length≤l.length:=by
 have h1:=eP hn (S:=l.map (·.key)) fun x e=>by
  cases d:aB l x with
  | none=>
   have t:bE ml x=none:=by rw [h x,d];rfl
   exact absurd e (lG.1 t)
  | some r=>
   obtain⟨g1,g2⟩:=aL d;exact List.mem_map.2 ⟨r,g1,g2⟩
 simpa using h1
theorem sT{rev:Int}{G:List Key}{i:Nat}(hi:i<G.length) (d:Bool) (t:aB (l.map (aY rev (G.take i) d)) G[i]=some r) (y:Key):aB (l.map (aY rev (G.take (i+1)) d)) y=if y=G[i] then some (if d then {r with bp:=true} else {r with av:=rev}) else aB (l.map (aY rev (G.take i) d)) y:=by
 have hT:G.take (i+1)=G.take i++[G[i]]:=List.take_succ_eq_append_getElem hi;rw [cv,cv,hT];rw [cv] at t
 by_cases e:y=G[i]
 ·
  rw [if_pos e,e]
  cases hr:aB l G[i] with
  | none=>rw [hr] at t;cases t
  | some q=>
   rw [hr] at t;simp only [Option.map_some,Option.some.injEq] at t ⊢;have v:=(aL hr).2;subst t
   unfold aY
   rw [if_pos (show q.key∈G.take i++[G[i]] from List.mem_append_right _ (List.mem_singleton.2 v))]
   cases d <;> grind
 rw [if_neg e]
 cases hr:aB l y with
 | none=>rfl
 | some q=>
  have v:=(aL hr).2;simp only [Option.map_some,Option.some.injEq]
  unfold aY
  grind
theorem u5{rev:Int}{G:List Key}{d:Bool}:l.map (aY rev (G.take 0) d)=l:=by
 simp only [List.take_zero]
 unfold aY
 simp
theorem u6{rev:Int}{g:List Key}{d:Bool}(e:∃r,aB l k=some r):∃r,aB (l.map (aY rev g d)) k=some r∧r.key=k:=by
 obtain⟨r,hr⟩:=e
 have h1:aB (l.map (aY rev g d)) k=some (aY rev g d r):=by rw [cv,hr];rfl
 exact⟨_,h1,(aL h1).2⟩
end
/-! ### own slices that lose their last -/
section
variable {α:Type}{R:RR α}{E k n c:Nat}{a:Option Addr}{xs:List α}{x:α}{w0 w:World}{M Z:Nat→Prop}{L:List As}
theorem Ow.pop(h:Ow R E k Z w a n c (xs++[x])):Ow R E k Z w a xs.length c xs:=by
 obtain⟨hn,rows,hl,hk,d,v⟩:=h
 rcases List.eq_nil_or_concat rows with rfl | ⟨rs,r,rfl⟩
 ·
  simp at hl
 rw [List.concat_eq_append] at hl hk d v
 have B:rs.length=xs.length:=by simpa using hl
 have hr:r.length=k:=hk r (by simp)
 have e:rs.flatten.length=xs.length*k:=by
  have:∀(q:List (List Value)),(∀r∈q,r.length=k)→q.flatten.length=q.length*k:=by
   intro q C
   induction q with
   | nil=>simp
   | cons a q F=>simp only [List.flatten_cons,List.length_append,List.length_cons,Nat.add_mul];rw [C a (by simp),F fun r hr=>C r (by simp [hr])];omega
  rw [this rs fun r hr=>hk r (by simp [hr]),B]
 refine⟨rfl,rs,B,fun r hr=>hk r (by simp [hr]),?_,fun i y s h1 t=>v i y s (by grind) (by grind)⟩;have h1:=d.1
 rcases d.cases with⟨rfl,rfl,rfl,O⟩ | ⟨g,cur,rfl,hb,G,Q,I,hsz,D⟩
 ·
  simp at hn
 simp only [List.flatten_append,List.flatten_cons,List.flatten_nil,List.append_nil] at D h1;simp only [List.length_append,List.length_singleton] at hn
 have ht:cur.toList.take (xs.length*k)=rs.flatten:=by
  have t:=congrArg (List.take (xs.length*k)) D;have J:xs.length*k≤n*k:=Nat.mul_le_mul_right _ (by omega);rw [List.take_take,Nat.min_eq_left J,List.take_append_of_le_length (Nat.le_of_eq e.symm),List.take_of_length_le (Nat.le_of_eq e)] at t;exact t
 refine⟨fun u hu=>h1 u (List.mem_append_left _ hu),e,.inr ⟨g,c,cur,rfl,hb,G,by omega,I,hsz,ht⟩⟩
theorem St.Rq(h:St w0 M Z w (As.os R E k a n c (xs++[x])::L)):St w0 M Z w (As.os R E k a xs.length c xs::L):=h.conv (Ow.pop h.g0) fun _ h=>h
end
/-! ### what the frames of a stack own -/
def x9(EK ES:Nat) (L:List (bq × eC)):List As:=L.reverse.flatMap fun e=>[As.os RR.key EK 2 e.2.a e.2.n e.2.c e.1.reads,As.os RR.str ES 1 e.2.a2 e.2.n2 e.2.c2 e.1.ae]
theorem qv(EK ES:Nat) (L:List (bq × eC)) (f:bq) (A:eC):x9 EK ES (L++[(f,A)])=As.os RR.key EK 2 A.a A.n A.c f.reads::As.os RR.str ES 1 A.a2 A.n2 A.c2 f.ae::x9 EK ES L:=by simp [x9]
section
variable {EK ES:Nat}{L:List (bq × eC)}{f g:bq}{A:eC}{w0 w:World}{M Z:Nat→Prop}{l:List As}
theorem St.Pc(h:St w0 M Z w (As.many (x9 EK ES (L++[(f,A)]))::l)):St w0 M Z w (As.os RR.key EK 2 A.a A.n A.c f.reads::As.os RR.str ES 1 A.a2 A.n2 A.c2 f.ae::As.many (x9 EK ES L)::l):=by
 rw [qv] at h;exact h.y7.p1.y7.p2
theorem St.Na(h:St w0 M Z w (As.os RR.key EK 2 A.a A.n A.c f.reads::As.os RR.str ES 1 A.a2 A.n2 A.c2 f.ae::As.many (x9 EK ES L)::l)):St w0 M Z w (As.many (x9 EK ES (L++[(f,A)]))::l):=by
 rw [qv];exact h.p2.p2.Ew.p1.Ew
theorem St.J2(h:St w0 M Z w (As.many (x9 EK ES L)::l)) (hr:g.reads=[]) (d:g.ae=[]):St w0 M Z w (As.many (x9 EK ES (L++[(g,⟨none,0,0,none,0,0⟩)]))::l):=by
 refine St.Na ?_;rw [hr,d];exact(h.dp RR.str ES 1).dp RR.key EK 2
theorem J3(h1:g.reads=f.reads) (d:g.ae=f.ae):x9 EK ES (L++[(g,A)])=x9 EK ES (L++[(f,A)]):=by rw [qv,qv,h1,d]
end
/-! ### what a stack finds -/
section
variable {x:cz}{l:List bq}{k:Key}{val:Key→ByteArray}{r:Rec}
theorem Nb(L:List (bq × eC)) (k:Key):(L.any fun x=>decide (x.1.key=k))=fZ (L.map Prod.fst) k:=by
 unfold fZ
 rw [List.any_map]
 rfl
theorem J4(h:(fZ l k && !ax k)=true):bH x l [] k=3:=by
 rw [iC,if_pos (by rw [Bool.and_comm];exact h)]
theorem J5(h:(fZ l k && !ax k)=false) (d:(fZ l k || (ay k || az x k))=true):bH x l [] k=0:=by
 have hn:cH x l k=false:=gQ.2 (by grind);rw [iC,if_neg (by rw [Bool.and_comm,h];simp),hn]
 rfl
theorem J6(h:(fZ l k && !ax k)=false) (e:(fZ l k || (ay k || az x k))=false):bH x l [] k=1:=by
 have hn:cH x l k=true:=by
  cases d:cH x l k with
  | true=>rfl
  | false=>have:=gQ.1 d;grind
 rw [iC,if_neg (by rw [Bool.and_comm,h];simp),hn]
 rfl
theorem HN:bH x [] [] k=if cH x [] k=true then 1 else 0:=by rw [iC];simp [fZ]
theorem Rr(hi:ay k=true):bP val x k=(bw x.ab k).value:=by
 have hc:ax k=false:=by
  have h:k.kind=1∨k.kind=2∨k.kind=30:=by unfold ay at hi;simpa using hi
  rcases h with h | h | h <;> simp [ax,h,jP]
 unfold bP fY
 rw [hc,hi]
 rfl
theorem Nc(hc:ax k=true):bP val x k=val k:=if_pos hc
theorem Nd(hi:ay k=false) (hc:ax k=false) (d:aB x.ah k=some r) (e:r.av=x.ad):bP val x k=r.value:=by
 unfold bP fY fB
 rw [hc,hi]
 grind [aK]
theorem J7{v:ByteArray}{rd:List Key}(d:aB x.ah k=none):bL x k v rd=⟨k,v,rd,x.ad,x.ad,1+(rd.length:Int),false⟩:=by
 unfold bL
 rw [d]
 rfl
theorem J8{v:ByteArray}{rd:List Key}(d:aB x.ah k=some r):bL x k v rd=⟨k,v,rd,if r.value=v then r.changed else x.ad,x.ad,1+(rd.length:Int),false⟩:=by
 unfold bL
 rw [aK d,d]
 simp
end
/-! ### a step of the work -/
section
variable {aa:List aG}{val:Key→ByteArray}{b b':cz}{L L':List (bq × eC)}{f g:bq}{A:eC}{rk:List Key}{er:Int}{k:Key}
def FT(aa:List aG) (val:Key→ByteArray) (b:cz) (L:List (bq × eC)) (f:bq) (A:eC) (b':cz) (L':List (bq × eC)) (rk:List Key) (er:Int):Prop:=
 FS aa val b (L.map Prod.fst) f b' (L'.map Prod.fst) rk er∧(er=0→L'.map Prod.fst≠L.map Prod.fst++[f])∧(L'=L∨(∃g,L'=L++[(g,A)]∧g.reads=f.reads∧g.ae=f.ae)∨∃k,L'=L++[(f,A)]++[(⟨k,false,0,[],[]⟩,⟨none,0,0,none,0,0⟩)])
theorem FT.pop(h:FS aa val b (L.map Prod.fst) f b' (L.map Prod.fst) rk er):FT aa val b L f A b' L rk er:=⟨h,fun _ e=>by simpa using congrArg List.length e,.inl rfl⟩
theorem FT.same(h:FS aa val b (L.map Prod.fst) f b' (L.map Prod.fst++[g]) rk er) (d:g≠f) (h1:g.reads=f.reads) (t:g.ae=f.ae):FT aa val b L f A b' (L++[(g,A)]) rk er:=
 ⟨by simpa using h,fun _ e=>by simp at e;exact d e,.inr (.inl ⟨g,rfl,h1,t⟩)⟩
theorem FT.push(h:FS aa val b (L.map Prod.fst) f b' (L.map Prod.fst++[f]++[⟨k,false,0,[],[]⟩]) rk er):FT aa val b L f A b' (L++[(f,A)]++[(⟨k,false,0,[],[]⟩,⟨none,0,0,none,0,0⟩)]) rk er:=
 ⟨by simpa using h,fun _ e=>by simp at e,.inr (.inr ⟨k,rfl⟩)⟩
theorem FT.err(h:FS aa val b (L.map Prod.fst) f b' (L.map Prod.fst++[f]) rk er) (he:er≠0):FT aa val b L f A b' (L++[(f,A)]) rk er:=
 ⟨by simpa using h,fun e=>absurd e he,.inr (.inl ⟨f,rfl,rfl,rfl⟩)⟩
theorem ya{x:cz}{l:List bq}:bH x l [] k≠2:=by
 rw [iC]
 split
 ·
  decide
 split <;> decide
theorem HO{x:cz}{c:oq}(h:AX val x c=false):aR val x c.read≤(aC x.ah c.dE).av:=by
 unfold AX at h
 simpa using h
theorem J9{x:cz}{c:oq}(h:AX val x c=true):(aC x.ah c.dE).av<aR val x c.read:=by
 unfold AX at h
 simpa using h
end
section
variable {EK ES:Nat}{L L':List (bq × eC)}{f:bq}{A:eC}{w0 w:World}{M Z:Nat→Prop}{l:List As}
theorem St.acZ(h:St w0 M Z w (As.many (x9 EK ES (L++[(f,A)]))::l)) (d:L'=L∨(∃g,L'=L++[(g,A)]∧g.reads=f.reads∧g.ae=f.ae)∨∃k,L'=L++[(f,A)]++[(⟨k,false,0,[],[]⟩,⟨none,0,0,none,0,0⟩)]):St w0 M Z w (As.many (x9 EK ES L')::l):=by
 rcases d with rfl | ⟨g,rfl,h1,e⟩ | ⟨k,rfl⟩
 ·
  exact h.Pc.drop.drop
 ·
  rw [J3 h1 e];exact h
 exact h.J2 rfl rfl
end
end Go.Rc

namespace Go.Rc
open Go
def Rec.zm(x:Rec × RL):List Value:=x.1.row x.2.a x.2.n x.2.c
def RR.EO:RR (Rec × RL):=RR.flat Rec.zm
theorem Rec.Rt(x:Rec × RL):∀u∈Rec.zm x,u.oneCell'=true:=by simp [Rec.zm,Rec.row,Value.oneCell']
def rS(L:List (Rec × RL)):FZ:=
 ⟨fun Z w=>∀y∈L,Rd RR.key 2 Z w y.2.a y.2.n y.2.c y.1.reads∧y.1.reads.length≤4000,fun hZ h y hy=>⟨(h y hy).1.mono hZ,(h y hy).2⟩,fun h1 h2 h y hy=>⟨(h y hy).1.st h1 h2,(h y hy).2⟩⟩
section
variable {L L':List (Rec × RL)}{r:Rec}{q:RL}{Z:Nat→Prop}{w:World}{l:List Rec}{lf:Key→RL}{eL left:List (Key × Value)}{p:Key × Value}{j:Nat}
theorem rS.nil:(rS []).p Z w:=fun y d=>by cases d
theorem rS.snoc(h:(rS L).p Z w) (hk:Rd RR.key 2 Z w q.a q.n q.c r.reads) (e:r.reads.length≤4000):(rS (L++[(r,q)])).p Z w:=fun y d=>by
 rcases List.mem_append.1 d with d | d
 ·
  exact h y d
 rw [List.mem_singleton] at d;subst d;exact⟨hk,e⟩
theorem rS.ew{E n c:Nat}{a:Option Addr}(h:Ow RR.EO E 8 Z w a n c L) (t:(rS L).p Z w):Ow RR.ew E 8 Z w a n c (L.map Prod.fst):=by
 obtain⟨hn,rows,hl,hk,h1,v⟩:=h;refine⟨by rw [hn,List.length_map],rows,by rw [hl,List.length_map],hk,h1,fun i x r d B=>?_⟩;rw [List.getElem?_map] at d;obtain⟨y,e,rfl⟩:=Option.map_eq_some_iff.1 d;have hr:r=Rec.zm y:=v i y r e B;obtain⟨C,D⟩:=t y (List.mem_of_getElem? e);exact⟨_,_,_,hr,C,D⟩
theorem u7{α:Type}:∀(l:List α) (j:Nat) (h:j<l.length),(l[j]::l.eraseIdx j).Perm l
 | x::r,0,_=>List.Perm.refl _
 | x::r,j+1,h=>by
  have h1:=u7 r j (by simpa using h);simp only [List.getElem_cons_succ,List.eraseIdx_cons_succ];exact(List.Perm.swap _ _ _).trans (h1.cons x)
structure Ka (l:List Rec) (eL left:List (Key × Value)) (L:List (Rec × RL)):Prop where
 perm:((L.map fun y=>y.1.key)++left.map (·.1)).Perm (eL.map (·.1))
 find:∀y∈L,aB l y.1.key=some y.1
theorem Ka.start:Ka l eL eL []:=⟨List.Perm.refl _,fun y d=>by cases d⟩
theorem Ka.next(h:Ka l eL left L) (t:left[j]?=some p) (e:aB l p.1=some r):Ka l eL (left.eraseIdx j) (L++[(r,q)]):=by
 have hk:r.key=p.1:=(aL e).2;refine⟨List.Perm.trans ?_ h.perm,fun y d=>?_⟩
 ·
  obtain⟨v,rfl⟩:=List.getElem?_eq_some_iff.1 t;have h1:=(u7 left j v).map (·.1);simp only [List.map_append,List.map_cons,List.map_nil,List.append_assoc,List.singleton_append,hk] at h1 ⊢;exact List.Perm.append_left _ h1
 rcases List.mem_append.1 d with d | d
 ·
  exact h.find y d
 rw [List.mem_singleton] at d;subst d;rw [hk];exact e
theorem dy.key(h:dy l lf eL) {k:Key}:k∈eL.map (·.1)↔∃r,aB l k=some r:=by
 have h1:=h k
 constructor
 ·
  intro hk
  cases d:aB l k with
  | some r=>exact⟨r,rfl⟩
  | none=>
   rw [d] at h1;exact absurd hk (lG.1 h1)
 rintro⟨r,hr⟩;refine Classical.byContradiction fun hk=>?_;rw [lG.2 hk,hr] at h1
 cases h1
theorem Ka.done(h:Ka l eL [] L) (v:dy l lf eL) (hn:(eL.map (·.1)).Nodup) (d:pQ l) (e:L'.Perm L) (B:L'.Pairwise fun x y=>¬bD y.1.key x.1.key<0):L'.map Prod.fst=l:=by
 have h1:(L.map fun y=>y.1.key).Perm (eL.map (·.1)):=by simpa using h.perm
 have t:(L'.map fun y=>y.1.key).Perm (eL.map (·.1)):=(e.map _).trans h1;have C:y9 (L'.map fun y=>y.1.key):=zc (List.Perm.refl _) (t.nodup_iff.2 hn) (by rw [List.pairwise_map];exact B)
 have D:y9 (l.map (·.key)):=by
  unfold y9
  rw [List.pairwise_map];exact d
 have F:(L'.map fun y=>y.1.key)=l.map (·.key):=uQ C D fun x=>by
  rw [t.mem_iff,v.key]
  constructor
  ·
   rintro⟨r,hr⟩;obtain⟨g1,g2⟩:=aL hr;exact List.mem_map.2 ⟨r,g1,g2⟩
  intro G;obtain⟨r,hr,rfl⟩:=List.mem_map.1 G;exact⟨r,hW d hr⟩
 have I:(L'.map Prod.fst).map (fun r=>aC l r.key)=l.map fun r=>aC l r.key:=by
  have e1:(L'.map Prod.fst).map (fun r=>aC l r.key)=(L'.map fun y=>y.1.key).map (aC l):=by rw [List.map_map,List.map_map];rfl
  have e2:(l.map fun r=>aC l r.key)=(l.map (·.key)).map (aC l):=by rw [List.map_map];rfl
  rw [e1,e2,F]
 have J:(L'.map Prod.fst).map (fun r=>aC l r.key)=L'.map Prod.fst:=by
  rw [List.map_map];refine List.map_congr_left fun y O=>?_;exact aK (h.find y (e.mem_iff.1 O))
 have Q:(l.map fun r=>aC l r.key)=l:=by
  conv=>rhs;rw [← List.map_id l]
  exact List.map_congr_left fun r hr=>aK (hW d hr)
 rw [← J,I,Q]
theorem Ka.len(h:Ka l eL left L) (d:dy l lf eL) (hn:(eL.map (·.1)).Nodup):L.length+left.length≤l.length:=by
 have h1:=h.perm.length_eq;have e:=d.len hn
 simp at h1
 omega
end
end Go.Rc

namespace Go.Rc
open Go
section
variable {w0 w:World}{M Z:Nat→Prop}{l:List As}
theorem St.g16{e t v B C D F G I J O Q S V W X d:As}(h:St w0 M Z w (e::t::v::B::C::D::F::G::I::J::O::Q::S::V::W::X::d::l)):d.ok Z w:=h.ok _ (by simp)
theorem St.g17{e t v B C D F G I J O Q S V W X Y d:As}(h:St w0 M Z w (e::t::v::B::C::D::F::G::I::J::O::Q::S::V::W::X::Y::d::l)):d.ok Z w:=h.ok _ (by simp)
theorem St.g18{e t v B C D F G I J O Q S V W X Y O5 d:As}(h:St w0 M Z w (e::t::v::B::C::D::F::G::I::J::O::Q::S::V::W::X::Y::O5::d::l)):d.ok Z w:=h.ok _ (by simp)
theorem St.g19{e t v B C D F G I J O Q S V W X Y O5 Wk d:As}(h:St w0 M Z w (e::t::v::B::C::D::F::G::I::J::O::Q::S::V::W::X::Y::O5::Wk::d::l)):d.ok Z w:=h.ok _ (by simp)
theorem St.g23{e t v B C D F G I J O Q S V W X Y O5 Wk A19 A20 A21 A22 d:As}(h:St w0 M Z w (e::t::v::B::C::D::F::G::I::J::O::Q::S::V::W::X::Y::O5::Wk::A19::A20::A21::A22::d::l)):d.ok Z w:=h.ok _ (by simp)
theorem St.g24{e t v B C D F G I J O Q S V W X Y O5 Wk A19 A20 A21 A22 A23 d:As}(h:St w0 M Z w (e::t::v::B::C::D::F::G::I::J::O::Q::S::V::W::X::Y::O5::Wk::A19::A20::A21::A22::A23::d::l)):d.ok Z w:=h.ok _ (by simp)
end
section
variable {α:Type}{R:RR α}{P:Program}{E k n c b i:Nat}{a:Option Addr}{xs:List α}{Z:Nat→Prop}{w:World}
variable {N:Nat}{kv:KV}{K:KV→World→Prop}{ty:TypeId}{pos:String}{af:Array Edge}{g:Option (Nat × Bool)}{T:TypeId}
end
section
variable {p:Rec→Bool}{xs xs1:List Rec}{i j:Nat}{x:Rec}
end
theorem uK.kr{aa:List aG}{x:cz}(h:uK aa x):KR aa x.ah:=fun r hr=>by
 obtain⟨h1,d,e,_⟩:=h.2.2.2.2.2.1 r hr;exact⟨h1,d,e⟩
theorem uK.r4{aa:List aG}{x:cz}(h:uK aa x):∀r∈x.ah,r.reads.length≤4000:=fun r hr=>by
 obtain⟨_,_,_,d⟩:=h.2.2.2.2.2.1 r hr
 grind [fq]
section
variable {aa:List aG}{x:cz}{s:ES}
end
section
variable {aa:List aG}{x y:cz}{s:ES}{kp:List (List Key)}{l:List Key}
end
end Go.Rc

namespace Go.Rc
open Go
section
variable {aa:List aG}{x y:cz}{bf:List Key}{k:Key}{r:Rec}
end
end Go.Rc

namespace Go.Rc
open Go
section
variable {val:Key→ByteArray}{x:cz}{i:Nat}{k:Key}{o:List Key}
end
end Go.Rc
namespace Go.Rc
open Go
end Go.Rc

namespace Go.Rc
open Go
section
variable {aa:List aG}{H:Int→List cB}{x b b':cz}{p q l l':List bq}{f g:bq}{bf rk goals:List Key}{k y:Key}{val:Key→ByteArray}{er:Int}
theorem yb{turn:List ByteArray→yK}{gH:Key→ByteArray}(h:∀k,(gH k).size≤1000):∀n,∀s∈(dX turn gH n).2,s.size≤1000
 | 0,s,d=>by simp [dX] at d
 | n+1,s,d=>by
  simp only [dX,List.mem_append,List.mem_singleton] at d
  rcases d with d | rfl
  ·
   exact yb h n s d
  exact h _
theorem gX.ready(hR:aq aa) (B:LC aa x) (hk:∀k∈goals,eA aa k) (h:gX aa (valOf aa x.ab) goals x b l bf):BK aa x.ab x.ad b∧KR aa b.ah∧l.length≤1000∧bf.length≤100000∧b.ah.length<4000∧(∀r∈b.ah,r.reads.length≤4000)∧(∀r∈b.ah,r.av≤x.ad)∧bf.Nodup∧pQ b.ah∧∀f∈l,ft aa f∧(∃i:Nat,i<aa.length∧f.key=aI aa (i:Int))∧∀s∈f.ae,s.size≤1000:=by
 obtain⟨⟨H,d⟩,C,I⟩:=h.inv hR B hk;have V:=hR.1;have t:=(B.lb.of C).JM;have hlen:=d.bi.len
 have W:bf.length≤b.ah.length:=by
  have:=eP d.wy.j3 (S:=b.ah.map (·.key)) fun y J=>by
   obtain⟨r,hr,_⟩:=aT.1 (d.wy.LV y J);obtain⟨g1,g2⟩:=aL hr;exact List.mem_map.2 ⟨r,g1,g2⟩
  simpa using this
 refine⟨C,t.kr,by have:=d.EN;omega,by omega,by omega,t.r4,fun r hr=>by rw [← C.rv];exact t.2.2.2.2.2.2.2.2 r hr,d.wy.j3,t.2.2.2.2.2.2.1,fun f D=>⟨I f D,d.eG D,fun s v=>?_⟩⟩;obtain⟨p1,q1,O⟩:=List.append_of_mem D;have F:=d.fr p1 f q1 O;obtain⟨i,hi,Q⟩:=F.key
 cases G:f.running with
 | false=>
  rw [(F.DK G).2.1] at v
  cases v
 | true=>
  obtain⟨n,_,_,e⟩:=(F.run G).2.2.2.1 i hi Q;rw [e] at v;exact yb (B.lb.small hR) n s v
theorem gX.done(hR:aq aa) (B:LC aa x) (hk:∀k∈goals,eA aa k) (h:gX aa (valOf aa x.ab) goals x b [] bf):LC aa b∧b.ab=x.ab∧b.ad=x.ad∧Wy aa x ⟨b,[],bf,0⟩∧∀r∈b.ah,r.av=b.ad→r.value=valOf aa x.ab r.key:=by
 obtain⟨⟨H,d⟩,v,I⟩:=h.inv hR B hk;have hi:b.ab=x.ab:=v.fQ.aD;have C:TO aa x ⟨aa,b,[],[],bf⟩:=⟨H,d⟩;have D:=B.task (t:=⟨aa,b,[],[],bf⟩) v C
 have e:eM ([]:List bq) b.ah=b.ah:=by simp [eM]
 have F:LC aa b:=by
  have:=D
  rw [show(⟨aa,b,[],[],bf⟩:qm).stack=[] from rfl,show(⟨aa,b,[],[],bf⟩:qm).base=b from rfl,e] at this;exact this
 refine⟨F,hi,v.rv,d.wy,fun r hr G=>?_⟩
 have:=(d.bi.c.vr r hr)
 rw [G,d.bi.c.now,hi] at this;exact this.1
theorem gX.taken(h:gX aa val goals x b [] bf) (d:k∈goals):gX aa val goals x b ((if cH b [] k=true then [((⟨k,false,0,[],[]⟩:bq),(⟨none,0,0,none,0,0⟩:eC))] else []).map Prod.fst) bf:=by
 split
 ·
  exact .take h d ‹_›
 exact h
theorem HP:ay k=true∨az b k=true∨∃g q,(if cH b [] k=true then [((⟨k,false,0,[],[]⟩:bq),(⟨none,0,0,none,0,0⟩:eC))] else []).map Prod.fst=g::q∧g.key=k:=by
 by_cases hn:cH b [] k=true
 ·
  rw [if_pos hn];exact .inr (.inr ⟨_,[],rfl,rfl⟩)
 rcases gQ.1 (by simpa using hn) with h | h | h
 ·
  exact .inl h
 ·
  simp [fZ] at h
 exact .inr (.inl h)
theorem Nf{L:List (bq × eC)}(h:0<L.length):∃d f A,L=d++[(f,A)]:=by
 rcases List.eq_nil_or_concat L with rfl | ⟨d,y,rfl⟩
 ·
  simp at h
 exact⟨d,y.1,y.2,by simp⟩
theorem Ng{i:Nat}(hi:i<goals.length) (h:∀y∈goals.take i,ay y=true∨az b y=true) (hb:ay goals[i]=true∨az b goals[i]=true∨∃g q,([]:List (bq × eC)).map Prod.fst=g::q∧g.key=goals[i]):∀y∈goals.take (i+1),ay y=true∨az b y=true:=by
 intro y d;rw [List.take_succ_eq_append_getElem hi] at d
 rcases List.mem_append.1 d with d | d
 ·
  exact h y d
 rw [List.mem_singleton] at d;subst d
 rcases hb with h | h | ⟨g,q,e,_⟩
 ·
  exact .inl h
 ·
  exact .inr h
 cases e
end
section
variable {EK ES:Nat}{w0 w:World}{M Z:Nat→Prop}{l:List As}{k:Key}{c:Bool}
theorem St.Ru(h:St w0 M Z w l):St w0 M Z w (As.many (x9 EK ES (if c=true then [((⟨k,false,0,[],[]⟩:bq),(⟨none,0,0,none,0,0⟩:eC))] else []))::l):=by
 have h0:St w0 M Z w (As.many (x9 EK ES [])::l):=h.O4
 split
 ·
  exact h0.J2 (L:=[]) rfl rfl
 exact h0
end
end Go.Rc

namespace Go.Rc
open Go
def r3:aG:=⟨false,[],1,3⟩
abbrev K0:Key:=⟨31,itoa ((0:Nat):Int)⟩
abbrev v3:ByteArray:=itoa 3
theorem Rv:∀y∈[r3],MJ y:=fun y d=>by simp at d;subst d;exact⟨rfl,rfl,rfl,by decide,by decide⟩
theorem Wl:aI [r3] ((0:Nat):Int)=K0:=MJ.key (by simp) (by omega) (Rv _ (by simp))
theorem Nh:hV ⟨0,[],[]⟩:=⟨fun i y h=>by simp at h,fun i r h=>by simp at h,by decide,by decide,by simp,by simp,fun i x h=>by simp at h⟩
abbrev s1:ES:=⟨⟨0,[],[Q0 0 v3]⟩,[],[K0],0⟩
end Go.Rc
namespace Go.Rc
open Go
abbrev v4:ByteArray:=⟨#[52]⟩
end Go.Rc

namespace Go.Rc
open Go
section
variable {P:Program}{kv:KV}{w:World}{T U ty:TypeId}{x y:Operand}
theorem PV.Wm{p q:Bool}(hT:P.underlying T=some .bool) (d:ev kv x=some (.bool p)) (e:ev kv y=some (.bool q)) (h:p=q):PV P (.binOp .neq T x y U) ty kv w (.bool false):=by
 refine⟨rfl,by simp [known,opers,d,e],fun _ _ _ _=>?_⟩
 have he:(Op.equalIn 10000 T (.bool p) (.bool q)).run P w=.ok (p == q) w:=by
  rw [show(10000:Nat)=9999+1 from rfl]
  unfold Op.equalIn
  simp [run_underlying hT]
 subst h;simp only [execOp,aM d,aM e]
 simp [eqGuard,binOp,Op.equal,Op.maxDepth,he]
end
end Go.Rc
namespace Go.Rc
open Go
end Go.Rc

namespace Go.Rc
open Go
theorem uX{v:ByteArray}:∀k∈[K0],∃i:Nat,i < [r3].length∧k=aI [r3] (i:Int)∧(aB (⟨0,[],[Q0 0 v]⟩:cz).ah k).isSome=true:=fun k hk=>⟨0,by simp,by rw [List.mem_singleton.1 hk];exact Wl.symm,by grind [aB,Q0]⟩
end Go.Rc

namespace Go.Rc
open Go
abbrev q0:aG:=⟨false,[⟨true,false,0,0⟩],1,0⟩
abbrev q1:aG:=⟨false,[⟨false,false,0,0⟩],1,0⟩
abbrev Q2:List aG:=[q0,q1]
abbrev K1:Key:=⟨31,itoa ((1:Nat):Int)⟩
abbrev C0:Key:=bX ((0:Nat):Int)
theorem Wn:C0=⟨30,⟨#[48]⟩⟩:=by simp [bX,itoa,Lib.itoa,Lib.decDigits]
theorem Kb:K0=⟨31,⟨#[48]⟩⟩:=by simp [itoa,Lib.itoa,Lib.decDigits]
theorem Pd:K1=⟨31,⟨#[49]⟩⟩:=by simp [itoa,Lib.itoa,Lib.decDigits]
theorem Wo:aq Q2:=by
 refine⟨by simp,fun i r h=>?_⟩
 have hi:i=0∨i=1:=by have:=(List.getElem?_eq_some_iff.1 h).1;simp at this;omega
 rcases hi with rfl | rfl
 ·
  simp at h;subst h
  refine⟨by simp,fun k x d=>?_,rfl⟩
  have hk:k=0:=by have:=(List.getElem?_eq_some_iff.1 d).1;simp at this;omega
  subst hk;simp at d;subst d;decide
 simp at h;subst h
 refine⟨by simp,fun k x d=>?_,rfl⟩
 have hk:k=0:=by have:=(List.getElem?_eq_some_iff.1 d).1;simp at this;omega
 subst hk;simp at d;subst d;decide
theorem GR:aI Q2 ((0:Nat):Int)=K0:=by
 unfold aI
 rw [if_neg (by simp)]
 simp [aF]
theorem zn:number K0=((0:Nat):Int):=by rw [← GR];exact ct (by simp) (by omega)
theorem t0a:cy Q2 K0 []=⟨false,⟨#[]⟩,C0⟩:=by
 rw [i6 (i:=0) zn (by simp) (by rw [zn];exact GR) (by simp)]
 rfl
theorem t0b(v:ByteArray):cy Q2 K0 [v]=⟨true,itoa (dq 1 0 [cG v]),dW⟩:=by
 rw [j6 (i:=0) zn (by simp) (by rw [zn];exact GR) (by simp)]
 rfl
abbrev z0:ByteArray:=⟨#[48]⟩
abbrev z5:ByteArray:=⟨#[53]⟩
theorem it5:itoa ((5:Nat):Int)=z5:=by simp [itoa,Lib.itoa,Lib.decDigits]
theorem fv(v:ByteArray) (n:Nat) (h:cG v=n) (hn:n<1000):itoa (dq 1 0 [cG v])=itoa n:=by
 rw [h];simp [dq,qa,Nat.mod_eq_of_lt hn]
theorem vs5:cG z5=5:=by decide
theorem vsE:cG ⟨#[]⟩=0:=by decide
theorem Wp{aD:List cB}{n:Nat}(h:cG (cellOf aD C0)=n) (hn:n<1000):valOf Q2 aD K0=itoa n:=by
 have e:=fD (aD:=aD) Wo (i:=0) (by simp);rw [show cO Q2 0=1 from rfl,GR] at e;simp only [dX,List.nil_append] at e;rw [t0a,t0b,iv (by omega),fv _ n h hn] at e
 injection e with _ e2 _
 exact e2.symm
abbrev HQ(i:Nat) (a:Key):Rec:=⟨⟨31,itoa (i:Int)⟩,z0,[a],0,0,2,false⟩
theorem Wq:ay C0=true:=bd (n:=0) (by omega)
theorem HR:ay K0=false:=rfl
theorem Kc:ay K1=false:=rfl
theorem ac4:(K0 == K1)=false:=by rw [Kb,Pd];decide
section
variable {aa:List aG}{val:Key→ByteArray}{k c:Key}{z u:ByteArray}{s s':ES}{rs:List Key}{an:List ByteArray}{f:Nat}
end
end Go.Rc

namespace Go.Rc
open Go
section
variable {val:Key→ByteArray}{x:cz}{k a:Key}{r:Rec}
theorem B8(hc:ax k=false) (hi:ay k=false) (d:aB x.ah k=some r) (e:r.bp=false) (hr:r.reads=[a]) (t:a≠k) (v:r.av≠x.ad) (B:r.av<aR val x a):k8 val x k=(2,a):=by
 have hu:az x k=false:=by unfold az;rw [d,aK d];simp [v]
 have C:bB x.ah (aA x.ah x.ad k)=[⟨k,a⟩]:=by
  rw [gP hc]
  simp [bB,da,aK d,hr,t]
 unfold k8
 rw [hi,hu,d,C]
 have D:AX val x ⟨k,a⟩=true:=by unfold AX;rw [aK d];exact decide_eq_true B
 simp [e,D]
end
abbrev iQ:List cB:=[⟨C0,z5,1⟩]
abbrev yQ:cz:=⟨1,iQ,[HQ 0 C0,HQ 1 K0]⟩
theorem Wr:C0≠K0:=by rw [Wn,Kb];decide
theorem Ws:K0≠K1:=by rw [Kb,Pd];decide
theorem fC:bw iQ C0=⟨C0,z5,1⟩:=by unfold bw;rw [List.find?_cons];simp
theorem v0:valOf Q2 iQ K0=z5:=by rw [Wp (n:=5) (by unfold cellOf;rw [fC];exact vs5) (by omega),it5]
theorem f0:aB yQ.ah K0=some (HQ 0 C0):=by simp [aB]
theorem f1:aB yQ.ah K1=some (HQ 1 K0):=by simp only [aB,List.find?_cons];rw [show((HQ 0 C0).key == K1)=false from ac4,show((HQ 1 K0).key == K1)=true from beq_self_eq_true K1]
theorem cC:aR (valOf Q2 iQ) yQ C0=1:=by unfold aR;rw [if_pos Wq,fC]
theorem cK:aR (valOf Q2 iQ) yQ K0=1:=by
 unfold aR
 rw [if_neg (by rw [HR];simp),if_neg];rw [aK f0,v0]
 simp
theorem Wt:k8 (valOf Q2 iQ) yQ K1=(2,K0):=B8 rfl rfl f1 rfl rfl Ws (by decide) (by rw [cK];decide)
theorem Wu:k8 (valOf Q2 iQ) yQ K0=(2,C0):=B8 rfl rfl f0 rfl rfl Wr (by decide) (by rw [cC];decide)
theorem smQ:∀c∈[(⟨C0,z5⟩:Change)],c.small:=fun c hc=>by
 rw [List.mem_singleton.1 hc];exact⟨⟨0,by omega,by omega,rfl⟩,by decide⟩
end Go.Rc

namespace Go.Rc
open Go
section
variable {P:Program}{T:TypeId}
variable {kv:KV}{w:World}{ty:TypeId}
end
end Go.Rc

namespace Go.Rc
open Go
section
variable {aa:List aG}{H:Int→List cB}{x b b':cz}{p q l l':List bq}{f g:bq}{bf rk goals:List Key}{k y a:Key}{val:Key→ByteArray}{er:Int}
theorem fR.pop(h:fR (p++[f]) b a) (hu:∀y,az b y=true→az b' y=true) (d:az b' f.key=true):fR p b' a:=by
 rcases h with h | ⟨h1,e⟩ | h
 ·
  exact .inl h
 ·
  rw [fE,kM,Bool.or_eq_true,decide_eq_true_eq] at h1
  rcases h1 with h1 | rfl
  ·
   exact .inr (.inl ⟨h1,e⟩)
  exact .inr (.inr d)
 exact .inr (.inr (hu _ h))
theorem fR.up(h:fR l b a) (hu:∀y,az b y=true→az b' y=true) (d:∀y,fZ l y=true→fZ l' y=true):fR l' b' a:=
 h.imp id (Or.imp (fun⟨h1,e⟩=>⟨d _ h1,e⟩) (hu _))
theorem FS.there(e:FS aa val b p f b' l' rk er) (h:fR (p++[f]) b a):fR l' b' a:=by
 have hu:∀y,az b y=true→az b' y=true:=fun y d=>e.ups d
 have same:∀{z:bq},z.key=f.key→∀y,fZ (p++[f]) y=true→fZ (p++[z]) y=true:=fun {z} t y d=>by
  rw [fE,kM] at d ⊢;rw [t];exact d
 have more:∀{z:bq},∀y,fZ (p++[f]) y=true→fZ (p++[f]++[z]) y=true:=fun {z} y d=>by rw [fE,d];rfl
 cases e with
 | put=>exact h.pop hu (je (r:=bL b f.key (aH aa f.key f.ae).value f.reads) rfl)
 | up _ j8=>exact h.pop hu j8
 | mark _ hl=>
  obtain⟨r,h1,_⟩:=hl;exact h.pop hu (gW (by rw [h1];rfl) eQ)
 | push=>exact h.up hu more
 | uW=>exact h.up hu more
 | stay=>exact h
 | full=>exact h
 | QZ=>exact h
 | MT=>exact h
 | read=>exact h.up hu (same rfl)
 | start=>exact h.up hu (same rfl)
 | pass=>exact h.up hu (same rfl)
 | fail=>exact h.up hu (same rfl)
theorem pz{G:List Key}{d:Bool}{rev:Int}{l:List Rec}:(aC (l.map (aY rev G d)) y).reads=(aC l y).reads∧(aC (l.map (aY rev G d)) y).value=(aC l y).value:=by
 unfold aC
 rw [cv]
 cases aB l y with
 | none=>exact⟨rfl,rfl⟩
 | some r=>
  simp only [Option.map_some,Option.getD_some]
  unfold aY
  grind
theorem FS.reads(t:FS aa val b p f b' l' rk er) (v:f.running=true→az b f.key=false) (d:az b y=true):(aC b'.ah y).reads=(aC b.ah y).reads:=by
 cases t with
 | put hr=>
  have h1:=v hr
  have B:¬y=(bL b f.key (aH aa f.key f.ae).value f.reads).key:=fun e=>by
   have e:y=f.key:=e;rw [e,h1] at d;cases d
  unfold aC
  rw [cU,if_neg B]
 | mark=>exact pz.1
 | fail=>
  split
  ·
   exact pz.1
  rfl
 | _=>rfl
theorem gX.thr(hR:aq aa) (Q:LC aa x) (hk:∀k∈goals,eA aa k) (h:gX aa (valOf aa x.ab) goals x b l bf):∀y,az x y=false→az b y=true→∀a∈(aC b.ah y).reads,fR l b a:=by
 induction h with
 | start=>intro y h1 v;rw [h1] at v;cases v
 | take h1 Y hn C=>exact fun y v G a d=>(C y v G a d).mono fun k h=>by cases h
 | @step b b' p l' f bf rk h1 D DJ C=>
  intro y S t a d;obtain⟨⟨H,v⟩,G,h4⟩:=h1.inv hR Q hk;have I:=v.top.run
  by_cases hu:az b y=true
  ·
   rw [D.reads (fun hr=>(I hr).2.1) hu] at d;exact D.there (C y S hu a d)
  have hu:az b y=false:=by simpa using hu
  cases D with
  | put hr V=>
   by_cases e:y=f.key
   ·
    subst e
    have e2:aC (eu b.ah (bL b f.key (aH aa f.key f.ae).value f.reads)) f.key=bL b f.key (aH aa f.key f.ae).value f.reads:=by
     refine aK ?_;rw [cU];exact if_pos rfl
    rw [show({b with ah:=eu b.ah (bL b f.key (aH aa f.key f.ae).value f.reads)}:cz).ah=eu b.ah (bL b f.key (aH aa f.key f.ae).value f.reads) from rfl,e2] at d;exact(FS.put (aa:=aa) (val:=valOf aa x.ab) (b:=b) (p:=p) hr V).there ((I hr).2.2.2.2 a d)
   exfalso
   obtain⟨r,g1,g2⟩:=aT.1 t;have g1:aB (eu b.ah (bL b f.key (aH aa f.key f.ae).value f.reads)) y=some r:=g1;rw [cU,if_neg (show ¬y=(bL b f.key (aH aa f.key f.ae).value f.reads).key from e)] at g1;rw [aT.2 ⟨r,g1,g2⟩] at hu
   cases hu
  | mark hr hl hn=>
   obtain⟨r,g1,g2,g3⟩:=id hl;have hm:=FS.mark (aa:=aa) (val:=valOf aa x.ab) (p:=p) hr hl hn;have d:a∈(aC (b.ah.map (aY b.ad (aA b.ah b.ad f.key) false)) y).reads:=d;rw [pz.1] at d
   by_cases J:y∈aA b.ah b.ad f.key
   ·
    by_cases F:a∈aA b.ah b.ad f.key
    ·
     obtain⟨q,W⟩:=GN g1 a F;exact .inr (.inr (gW (by rw [W];rfl) F))
    have hc:(⟨y,a⟩:oq)∈bB b.ah (aA b.ah b.ad f.key):=dj.2 ⟨J,d,F⟩;obtain⟨j,X,e⟩:=List.getElem_of_mem hc;exact hm.there ((v.top.DK hr).2.2.2 hl j ⟨y,a⟩ (by omega) (by rw [List.getElem?_eq_getElem X,e])).2.1
   exfalso
   obtain⟨r2,e1,e2⟩:=aT.1 t;have e1:aB (b.ah.map (aY b.ad (aA b.ah b.ad f.key) false)) y=some r2:=e1;rw [cv] at e1
   cases B:aB b.ah y with
   | none=>rw [B] at e1;cases e1
   | some r3=>
    rw [B] at e1;simp only [Option.map_some,Option.some.injEq] at e1;have O:=(aL B).2
    have:r2=r3:=by
     rw [← e1]
     unfold aY
     rw [if_neg (by rw [O];exact J)]
    rw [aT.2 ⟨r3,B,by rw [← this];exact e2⟩] at hu
    cases hu
  | fail c hr hl hc O h6 h7=>
   exfalso
   split at t
   ·
    rw [nz,hu] at t;cases t
   rw [hu] at t;cases t
  | _=>rw [hu] at t;cases t
theorem gX.mem(hR:aq aa) (e:LC aa x) (hk:∀k∈goals,eA aa k) (h:gX aa (valOf aa x.ab) goals x b [] bf):y∈bf↔B2 (valOf aa x.ab) x y∧az b y=true:=by
 obtain⟨_,_,_,hw,_⟩:=h.done hR e hk;exact⟨fun d=>⟨hw.bf y d,hw.LV y d⟩,fun⟨h1,t⟩=>hw.runs h1 t⟩
theorem gX.reads(hR:aq aa) (d:LC aa x) (hk:∀k∈goals,eA aa k) (h:gX aa (valOf aa x.ab) goals x b [] bf) (h1:az x y=false) (e:az b y=true) (B:a∈l4 aa x.ab y):ay a=true∨az b a=true:=by
 obtain⟨⟨H,t⟩,C,_⟩:=h.inv hR d hk;obtain⟨r,hr,D⟩:=aT.1 e;obtain⟨g1,g2⟩:=aL hr;have v:=(t.bi.c.vr r g1).2;rw [D,t.bi.c.now,show b.ab=x.ab from C.fQ.aD,g2] at v
 rcases h.thr hR d hk y h1 e a (by rw [aK hr,v];exact B) with h | ⟨h,_⟩ | h
 ·
  exact .inl h
 ·
  cases h
 exact .inr h
end
end Go.Rc

namespace Go.Rc
open Go
abbrev h0:aG:=⟨false,[⟨true,false,0,0⟩],2,0⟩
abbrev h1:aG:=⟨false,[⟨false,false,0,0⟩,⟨true,false,1,0⟩],1,0⟩
abbrev H2:List aG:=[h0,h1]
abbrev C1:Key:=bX ((1:Nat):Int)
abbrev z4:ByteArray:=⟨#[52]⟩
abbrev z2:ByteArray:=⟨#[50]⟩
theorem jL:aq H2:=by
 refine⟨by simp,fun i r h=>?_⟩
 have hi:i=0∨i=1:=by have:=(List.getElem?_eq_some_iff.1 h).1;simp at this;omega
 rcases hi with rfl | rfl
 ·
  simp at h;subst h
  refine⟨by simp,fun k x d=>?_,rfl⟩
  have hk:k=0:=by have:=(List.getElem?_eq_some_iff.1 d).1;simp at this;omega
  subst hk;simp at d;subst d;decide
 simp at h;subst h
 refine⟨by simp,fun k x d=>?_,rfl⟩
 have hk:k=0∨k=1:=by have:=(List.getElem?_eq_some_iff.1 d).1;simp at this;omega
 rcases hk with rfl | rfl <;> simp at d <;> subst d <;> decide
theorem qw:aI H2 ((0:Nat):Int)=K0:=by
 unfold aI
 rw [if_neg (by simp)]
 simp [aF]
theorem qx:aI H2 ((1:Nat):Int)=K1:=by
 unfold aI
 rw [if_neg (by simp)]
 simp [aF]
theorem zo:number K0=((0:Nat):Int):=by rw [← qw];exact ct (by simp) (by omega)
theorem rT:number K1=((1:Nat):Int):=by rw [← qx];exact ct (by simp) (by omega)
theorem EP:eA H2 K1:=by rw [← qx];exact .eG (by simp) (by omega)
theorem g0a:cy H2 K0 []=⟨false,⟨#[]⟩,C0⟩:=by
 rw [i6 (i:=0) zo (by simp) (by rw [zo];exact qw) (by simp)]
 rfl
theorem g0b(v:ByteArray):cy H2 K0 [v]=⟨true,itoa (dq 2 0 [cG v]),dW⟩:=by
 rw [j6 (i:=0) zo (by simp) (by rw [zo];exact qw) (by simp)]
 rfl
theorem g1a:cy H2 K1 []=⟨false,⟨#[]⟩,K0⟩:=by
 rw [i6 (i:=1) rT (by simp) (by rw [rT];exact qx) (by simp)];rw [← qw];rfl
theorem g1b(v:ByteArray):cy H2 K1 [v]=⟨false,⟨#[]⟩,C1⟩:=by
 rw [i6 (i:=1) rT (by simp) (by rw [rT];exact qx) (by simp)]
 rfl
theorem g1c(u v:ByteArray):cy H2 K1 [u,v]=⟨true,itoa (dq 1 0 [cG u,cG v]),dW⟩:=by
 rw [j6 (i:=1) rT (by simp) (by rw [rT];exact qx) (by simp)]
 rfl
theorem it2:itoa ((2:Nat):Int)=z2:=by simp [itoa,Lib.itoa,Lib.decDigits]
theorem vs4:cG z4=4:=by decide
theorem vs2:cG z2=2:=by decide
theorem ac6{aD:List cB}:l4 H2 aD K0=[C0]:=by
 have h:=gk (aD:=aD) jL (i:=0) (by simp);rw [qw] at h;rw [h]
 unfold cT
 rw [show cO H2 0=1 from rfl,qw];simp only [dX,List.nil_append];rw [g0a]
theorem Rw{aD:List cB}:l4 H2 aD K1=[K0,C1]:=by
 have h:=gk (aD:=aD) jL (i:=1) (by simp);rw [qx] at h;rw [h]
 unfold cT
 rw [show cO H2 1=2 from rfl,qx];simp only [dX,List.nil_append];rw [g1a,g1b]
 rfl
theorem Pe{aD:List cB}{n:Nat}(h:cG (cellOf aD C0)=n) (hn:n<1000):valOf H2 aD K0=itoa ((n / 2:Nat):Int):=by
 have e:=fD (aD:=aD) jL (i:=0) (by simp);rw [show cO H2 0=1 from rfl,qw] at e;simp only [dX,List.nil_append] at e;rw [g0a,g0b,iv (by omega),h] at e
 injection e with _ e2 _
 rw [← e2]
 simp [dq,qa,Nat.mod_eq_of_lt (show n / 2<1000 by omega)]
theorem Wv{aD:List cB}{n m:Nat}(h:cG (valOf H2 aD K0)=n) (d:cG (cellOf aD C1)=m) (hn:n+m<1000):valOf H2 aD K1=itoa ((n+m:Nat):Int):=by
 have e:=fD (aD:=aD) jL (i:=1) (by simp);rw [show cO H2 1=2 from rfl,qx] at e;simp only [dX,List.nil_append] at e;rw [g1a,List.singleton_append,g1b] at e;rw [g1c,h,iv (by omega),d] at e
 injection e with _ e2 _
 rw [← e2]
 simp [dq,qa,Nat.mod_eq_of_lt hn]
abbrev iA:List cB:=[⟨C0,z4,1⟩]
abbrev iB:List cB:=[⟨C0,z5,2⟩]
theorem fA0:bw iA C0=⟨C0,z4,1⟩:=by unfold bw;rw [List.find?_cons];simp
theorem fB0:bw iB C0=⟨C0,z5,2⟩:=by unfold bw;rw [List.find?_cons];simp
theorem ac7:(C0 == C1)=false:=by simp [bX,itoa,Lib.itoa,Lib.decDigits]
theorem fB1:bw iB C1=⟨C1,⟨#[]⟩,0⟩:=by unfold bw;rw [List.find?_cons,ac7];rfl
theorem vA0:valOf H2 iA K0=z2:=by rw [Pe (n:=4) (by unfold cellOf;rw [fA0];exact vs4) (by omega)];exact it2
theorem vB0:valOf H2 iB K0=z2:=by rw [Pe (n:=5) (by unfold cellOf;rw [fB0];exact vs5) (by omega)];exact it2
theorem vB1:valOf H2 iB K1=z2:=by rw [Wv (n:=2) (m:=0) (by rw [vB0];exact vs2) (by unfold cellOf;rw [fB1];exact vsE) (by omega)];exact it2
theorem ac8:ay C1=true:=bd (n:=1) (by omega)
theorem Ke{x:cz}(d:LC H2 x) {y:Key}(h:az x y=true):y=K0∨y=K1:=by
 obtain⟨r,h1,_⟩:=aT.1 h;obtain⟨g1,g2⟩:=aL h1;obtain⟨k1,k2,_⟩:=d.lb.JM.kr r g1;rw [g2] at k1 k2
 cases k1 with
 | cell e=>rw [bd e] at k2;cases k2
 | @eG i hi _=>
  have v:i<2:=hi
  have t:i=0∨i=1:=by omega
  rcases t with rfl | rfl
  ·
   exact .inl qw
  exact .inr qx
section
variable {x b y b2:cz}{bf tC rs:List Key}
theorem Ni(d:LC H2 x) (hn:x.ah=[]) (h:gX H2 (valOf H2 x.ab) [K1] x b [] bf) (hu:az b K1=true):bf.length=2∧az b K0=true:=by
 have hk:∀k∈[K1],eA H2 k:=fun k hk=>by rw [List.mem_singleton.1 hk];exact EP
 have e:∀y,aB x.ah y=none:=fun y=>by rw [hn];rfl
 have t:∀y,az x y=false:=fun y=>by unfold az;rw [e y];rfl
 obtain⟨hb,_,_,hw,_⟩:=h.done jL d hk
 have h0:az b K0=true:=by
  rcases h.reads jL d hk (t K1) hu (a:=K0) (by rw [Rw];simp) with h | h
  ·
   rw [HR] at h;cases h
  exact h
 refine⟨?_,h0⟩
 have v:bf.Perm [K0,K1]:=(List.perm_ext_iff_of_nodup hw.j3 (by have:=Ws;simp [this])).2 fun y=>by
  rw [h.mem jL d hk];simp only [List.mem_cons,List.not_mem_nil,or_false]
  constructor
  ·
   exact fun⟨_,h⟩=>Ke hb h
  rintro(rfl | rfl)
  ·
   exact⟨⟨HR,t _,.inl (e _)⟩,h0⟩
  exact⟨⟨Kc,t _,.inl (e _)⟩,hu⟩
 exact v.length_eq
theorem Nj(hb:LC H2 b) (hr:b.ad=1) (h0:az b K0=true) (h1:az b K1=true) (J:∀r∈b.ah,r.av=b.ad→r.value=valOf H2 iA r.key) (D:LC H2 y) (v:y=⟨2,iB,b.ah⟩) (h:gX H2 (valOf H2 y.ab) [K1] y b2 [] bf) (hu:az b2 K1=true) (O:rs.Perm bf):rs=[K0]∧fB b2 K1=true∧fY b2 K1=z2:=by
 have hk:∀k∈[K1],eA H2 k:=fun k hk=>by rw [List.mem_singleton.1 hk];exact EP
 obtain⟨Q,_,We,hw,S⟩:=h.done jL D hk;obtain⟨q0,f0,v0⟩:=aT.1 h0;obtain⟨q1,f1,v1⟩:=aT.1 h1;obtain⟨m0,k0⟩:=aL f0;obtain⟨m1,k1⟩:=aL f1;obtain⟨Hh,B⟩:=hb.bh
 have r0:q0.reads=[C0]:=by rw [(B.c.vr q0 m0).2,k0];exact ac6
 have r1:q1.reads=[K0,C1]:=by rw [(B.c.vr q1 m1).2,k1];exact Rw
 have e:aB y.ah K0=some q0:=by rw [v];exact f0
 have t:aB y.ah K1=some q1:=by rw [v];exact f1
 have G:y.ad=2:=by rw [v]
 have C:y.ab=iB:=by rw [v]
 have w0:q0.av=1:=by rw [v0,hr]
 have w1:q1.av=1:=by rw [v1,hr]
 have V:az y K0=false:=by unfold az;rw [e,aK e,w0,G];rfl
 have n1:az y K1=false:=by unfold az;rw [t,aK t,w1,G];rfl
 have W:az b2 K0=true:=by
  rcases h.reads jL D hk n1 hu (a:=K0) (by rw [Rw];simp) with h | h
  ·
   rw [HR] at h;cases h
  exact h
 have Wu:B2 (valOf H2 y.ab) y K0:=by
  refine⟨HR,V,.inr (.inr ⟨K0,C0,eQ,by rw [aK e,r0];simp,?_,?_⟩)⟩
  ·
   rw [gP rfl];simpa using Wr
  rw [aK e,w0]
  unfold aR
  rw [if_pos Wq,C,fB0]
  decide
 have Wt:¬B2 (valOf H2 y.ab) y K1:=by
  rintro⟨_,_,h | h | ⟨m,a,hm,F,_,d⟩⟩
  ·
   rw [t] at h;cases h
  ·
   rw [aK t] at h
   have:=B.dv q1 m1 h
   omega
  rw [gP rfl,List.mem_singleton] at hm;subst hm;rw [aK t,r1] at F;rw [aK t,w1] at d;simp only [List.mem_cons,List.not_mem_nil,or_false] at F
  rcases F with rfl | rfl
  ·
   have X:valOf H2 y.ab K0=q0.value:=by
    rw [C,vB0,J q0 m0 v0,k0,vA0]
   have pP:=(B.c.DM q0 m0).2
   unfold aR at d
   rw [if_neg (by rw [HR];simp),e,aK e,X] at d
   simp at d
   omega
  unfold aR at d
  rw [if_pos ac8,C,fB1] at d
  simp at d
 have Y:bf.Perm [K0]:=(List.perm_ext_iff_of_nodup hw.j3 (by simp)).2 fun z=>by
  rw [h.mem jL D hk,List.mem_singleton]
  constructor
  ·
   rintro⟨g1,g2⟩
   rcases Ke Q g2 with rfl | rfl
   ·
    rfl
   exact absurd g1 Wt
  rintro rfl;exact⟨Wu,W⟩
 have I:fB b2 K1=true:=by unfold fB;rw [Kc];exact hu
 refine⟨List.perm_singleton.1 (O.trans Y),I,?_⟩;obtain⟨r,fr,vr⟩:=aT.1 hu;obtain⟨g1,g2⟩:=aL fr
 unfold fY
 rw [if_neg (by rw [Kc];simp),if_pos I,aK fr,S r g1 vr,g2,C];exact vB1
theorem smA:∀c∈[(⟨C0,z4⟩:Change)],c.small:=fun c hc=>by
 rw [List.mem_singleton.1 hc];exact⟨⟨0,by omega,by omega,rfl⟩,by decide⟩
theorem aoA(h:AO ⟨0,[],[]⟩ [⟨C0,z4⟩] y):y=⟨1,iA,[]⟩:=h.one _ rfl (by decide) (by decide)
theorem aoB(hi:b.ab=iA) (hr:b.ad=1) (h:AO b [⟨C0,z5⟩] y):y=⟨2,iB,b.ah⟩:=by
 have h1:=h.one _ rfl (by rw [hi,fA0];decide) (by rw [hr];decide);rw [h1,hi,hr]
 congr 1
 simp [fP,iw]
end
end Go.Rc

namespace Go.Rc
open Go
end Go.Rc

namespace Go.Rc
open Go
section
variable {aa:List aG}{x:cz}{s:ES}{k:Key}
end
end Go.Rc

namespace Go.Rc
open Go
section
variable {aa:List aG}{val:Key→ByteArray}{x:cz}{k m:Key}
theorem GS(h:ax k=true):ay k=false:=by
 cases hi:ay k with
 | false=>rfl
 | true=>
  exfalso
  simp only [ax,jP,ay,Bool.or_eq_true,Bool.and_eq_true,decide_eq_true_eq] at h hi
  omega
theorem B9(h:bV x.ah x.ad k=true):k8 val x k=match (bB x.ah (aA x.ah x.ad k)).find? (AX val x) with
  | none=>(0,dW)
  | some c=>(if c.dE=k then 2 else 3,c.read):=by
 obtain⟨r,h1,d,t,e⟩:=bK.1 h
 have hu:az x k=false:=by
  unfold az
  rw [h1,aK h1]
  have:¬r.av=x.ad:=by omega
  simp [this]
 unfold k8
 rw [GS d,hu,h1];simp only [Bool.or_self,Bool.false_eq_true,if_false,e]
 rfl
theorem HS(hm:m∈aA x.ah x.ad k):((k8 val x k).1=0↔(k8 val x m).1=0)∧(k8 val x k).2=(k8 val x m).2:=by
 rcases cE.1 hm with rfl | ⟨h1,d⟩
 ·
  exact⟨Iff.rfl,rfl⟩
 have e:aA x.ah x.ad m=aA x.ah x.ad k:=uQ (lN _ _ _) (lN _ _ _) (rQ h1 d);rw [B9 h1,B9 d.gA,e]
 cases (bB x.ah (aA x.ah x.ad k)).find? (AX val x) with
 | none=>exact⟨Iff.rfl,rfl⟩
 | some c=>refine⟨?_,rfl⟩;simp only;split <;> split <;> simp
end
end Go.Rc

namespace Go.Rc
open Go
theorem Ry{rev:Int}{l:List cB}(h:jg rev l) (h0:0≤rev) (k:Key):(bw l k).changed≤rev:=by
 unfold bw
 cases d:l.find? fun x=>x.key == k with
 | none=>exact h0
 | some y=>
  obtain⟨_,_,_,_,e⟩:=h.2.1 y (List.mem_of_find?_eq_some d);exact e
section
variable {rl:List aG}{b c:cz}{l:List Change}{r:Rec}{a:Key}
theorem Kf(hR:aq rl) (hb:LC rl b) (j8:∀i:Nat,i<rl.length→az b (aI rl (i:Int))=true) (d:(∃n:Nat,n≤15∧a=bX (n:Int))∨∃m:Nat,m<rl.length∧a=aI rl (m:Int)):fY b a=valOf rl b.ab a:=by
 obtain⟨H,e⟩:=hb.bh;have C:=hR.len
 rcases d with⟨n,hn,rfl⟩ | ⟨m,hm,rfl⟩
 ·
  unfold fY
  rw [if_pos (bd (by omega)),iv (by omega)]
  rfl
 obtain⟨q,h1,t,v⟩:=e.c.up (j8 m hm);have hi:=cj hm (by omega)
 have B:fB b (aI rl (m:Int))=true:=by unfold fB;rw [hi,h1,aK h1,t];simp
 unfold fY
 rw [if_neg (by rw [hi];simp),if_pos B,aK h1,v]
end
end Go.Rc

namespace Go.Rc
open Go
section
variable {rl:List aG}{val:Key→ByteArray}{b:cz}{a y:Key}{l:List Key}{i q:Nat}
end
end Go.Rc

namespace Go.Rc
open Go
section
variable {aa:List aG}{b c b2:cz}{l:List Change}{goals tC:List Key}{y a k:Key}{r:Rec}{i:Nat}
def Ww(aa:List aG) (a:Key):Prop:=(∃n:Nat,n≤15∧a=bX (n:Int))∨∃m:Nat,m<aa.length∧a=aI aa (m:Int)
theorem rU(hR:aq aa) (hb:LC aa b) (hr:r∈b.ah):∀a∈r.reads,Ww aa a:=fun a d=>by
 obtain⟨H,e⟩:=hb.bh;obtain⟨i,hi,hk⟩:=e.kr r hr;have v:=hR.len;rw [(e.c.vr r hr).2,hk] at d
 unfold l4 at d
 rw [if_neg (by rw [cj hi (by omega)];simp),ct hi (by omega)] at d
 rcases(oc hR hi d).1 with h | ⟨m,h1,t,_⟩
 ·
  exact .inl h
 exact .inr ⟨m,h1,t⟩
theorem Ww.IF(hR:aq aa) (h:Ww aa a):eA aa a∧gD aa a=true:=by
 have e:=hR.len
 rcases h with⟨n,hn,rfl⟩ | ⟨m,hm,rfl⟩
 ·
  refine⟨.cell (by omega),?_⟩;have d:=(eA.cell (aa:=aa) (n:=n) (by omega)).valid
  have hk:(bX (n:Int)).kind=30:=by unfold bX;rw [if_neg (by omega)]
  unfold gD
  rw [d,hk]
  rfl
 exact⟨.eG hm (by omega),xS hR hm⟩
theorem pA(hR:aq aa) (hb:LC aa b) (j8:∀i:Nat,i<aa.length→az b (aI aa (i:Int))=true) (hi:i<aa.length):∃r,aB b.ah (aI aa (i:Int))=some r∧r∈b.ah∧r.key=aI aa (i:Int)∧r.av=b.ad∧r.changed≤b.ad∧r.bp=false∧r.value=valOf aa b.ab (aI aa (i:Int)):=by
 obtain⟨H,d⟩:=hb.bh;obtain⟨r,h1,t,v⟩:=d.c.up (j8 i hi);obtain⟨g1,g2⟩:=aL h1;have B:=(d.c.DM r g1).2;refine⟨r,h1,g1,g2,t,by omega,?_,v⟩
 cases e:r.bp with
 | false=>rfl
 | true=>have:=d.dv r g1 e;omega
theorem Kg(hR:aq aa) (hb:LC aa b) (j8:∀i:Nat,i<aa.length→az b (aI aa (i:Int))=true) (rV:c.ah=b.ah) (t:b.ad<c.ad) (hi:i<aa.length):b.ad<aR (valOf aa c.ab) c (aI aa (i:Int))↔valOf aa b.ab (aI aa (i:Int))≠valOf aa c.ab (aI aa (i:Int)):=by
 have v:=hR.len;have d:=cj hi (by omega);obtain⟨q,h1,_,_,B,C,_,e⟩:=pA hR hb j8 hi
 unfold aR
 rw [if_neg (by rw [d];simp),rV,h1,aK h1,← e]
 have e4:¬q.av=c.ad:=by omega
 by_cases e5:valOf aa c.ab (aI aa (i:Int))=q.value
 ·
  simp [e5];omega
 simp only [e4,e5,decide_false,Bool.or_false,Bool.and_false,Bool.false_eq_true,if_false];exact⟨fun _ h=>e5 h.symm,fun _=>by omega⟩
theorem Kh{n:Nat}(hb:LC aa b) (t:LX b l c) (v:AO b l c) (D:c.ad=b.ad+1) (hn:n≤15):b.ad<aR (valOf aa c.ab) c (bX (n:Int))↔valOf aa b.ab (bX (n:Int))≠valOf aa c.ab (bX (n:Int)):=by
 have B:=bd (n:=n) (by omega);have C:=hb.lb.ok.tz.r0;have F:(bw b.ab (bX (n:Int))).changed≤b.ad:=Ry hb.lb.aD C _
 unfold aR
 rw [if_pos B,iv (by omega),iv (by omega)]
 unfold cellOf
 rcases t.how with⟨e1,_⟩ | ⟨_,e2⟩
 ·
  omega
 rcases e2 (bX (n:Int)) with h | h
 ·
  rw [h];exact⟨fun h1=>by omega,fun h1=>absurd rfl h1⟩
 rcases v.O7 (bX (n:Int)) with d | d
 ·
  rw [d] at h;omega
 exact⟨fun _ e=>d e.symm,fun _=>by omega⟩
theorem Ca(hR:aq aa) (hb:LC aa b) (j8:∀i:Nat,i<aa.length→az b (aI aa (i:Int))=true) (d:LX b l c) (e:AO b l c) (rV:c.ah=b.ah) (t:c.ad=b.ad+1) (v:Ww aa a):b.ad<aR (valOf aa c.ab) c a↔valOf aa b.ab a≠valOf aa c.ab a:=by
 rcases v with⟨n,hn,rfl⟩ | ⟨m,hm,rfl⟩
 ·
  exact Kh hb d e t hn
 exact Kg hR hb j8 rV (by omega) hm
theorem ET(hR:aq aa) (hb:LC aa b) (j8:∀i:Nat,i<aa.length→az b (aI aa (i:Int))=true) (rV:c.ah=b.ah) (d:b.ad<c.ad) (hi:i<aa.length):az c (aI aa (i:Int))=false:=by
 obtain⟨r,h1,_,_,e,_⟩:=pA hR hb j8 hi
 unfold az
 rw [rV,h1,aK h1]
 have:¬r.av=c.ad:=by omega
 simp [this]
theorem yc(hR:aq aa) (hb:LC aa b) (j8:∀i:Nat,i<aa.length→az b (aI aa (i:Int))=true) (rV:c.ah=b.ah) (d:b.ad<c.ad) (hi:i<aa.length):B2 (valOf aa c.ab) c (aI aa (i:Int))↔LS (valOf aa c.ab) c (aI aa (i:Int)):=by
 have t:=hR.len;obtain⟨r,h1,_,_,v,_,e,_⟩:=pA hR hb j8 hi
 constructor
 ·
  rintro⟨_,_,h | h | h⟩
  ·
   rw [rV,h1] at h;cases h
  ·
   rw [rV,aK h1,e] at h;cases h
  exact h
 exact fun h=>⟨cj hi (by omega),ET hR hb j8 rV d hi,.inr (.inr h)⟩
theorem yd(hw:Wy aa c ⟨b2,[],tC,0⟩) (hn:az c y=false) (hu:az b2 y=true) (d:aB c.ah y=some r) (D:r.changed<c.ad):∃r2,aB b2.ah y=some r2∧r2.av=b2.ad∧(r2.value=r.value↔r2.changed=r.changed)∧(y∉tC→r2.value=r.value):=by
 obtain⟨r2,g1,g2⟩:=aT.1 hu;have B:b2.ad=c.ad:=hw.rev;have t:=hw.ev.pt y;simp only at t;refine⟨r2,g1,g2,?_⟩
 rcases t with e | ⟨_,q,e1,_,e2,e3 | e3⟩ | ⟨⟨e1,_⟩,e2,r',e3,e4,_,e5,e6,_⟩
 ·
  rw [aT.2 ⟨r2,e.symm.trans g1,g2.trans B⟩] at hn
  cases hn
 ·
  rw [g1] at e3;rw [d] at e1
  cases e1
  cases e3
  exact⟨by simp,fun _=>rfl⟩
 ·
  rw [g1] at e3
  cases e3
  have g2:q.av=b2.ad:=g2
  omega
 rw [g1] at e3
 cases e3
 have C:=e6 r d;refine⟨?_,fun h=>absurd e1 h⟩;rw [C]
 by_cases h:r.value=r2.value
 ·
  simp [h]
 rw [if_neg h];exact⟨fun v=>absurd v.symm h,fun v=>by omega⟩
section
variable (hR:aq aa) (hb:LC aa b) (j8:∀i:Nat,i<aa.length→az b (aI aa (i:Int))=true) (rV:c.ah=b.ah) (hc:LC aa c) (hk:∀k∈goals,eA aa k) (h:gX aa (valOf aa c.ab) goals c b2 [] tC) (wK:∀i:Nat,i<aa.length→az b2 (aI aa (i:Int))=true)
include hR hb j8 rV hc hk h wK
theorem HT(d:b.ad<c.ad) (hi:i<aa.length) (hn:aI aa (i:Int)∉tC):valOf aa b.ab (aI aa (i:Int))=valOf aa c.ab (aI aa (i:Int)):=by
 obtain⟨_,_,v,hw,e⟩:=h.done hR hc hk;obtain⟨r,h1,_,B,C,D,_,t⟩:=pA hR hb j8 hi;obtain⟨r2,g1,g2,_,g3⟩:=yd hw (ET hR hb j8 rV d hi) (wK i hi) (by rw [rV];exact h1) (by omega);obtain⟨m1,m2⟩:=aL g1;rw [← t,← g3 hn,e r2 m1 g2,m2]
theorem HU(t:LX b l c) (v:AO b l c) (B:c.ad=b.ad+1) (hi:i<aa.length) (C:ax (aI aa (i:Int))=false) (hn:aI aa (i:Int)∈tC):∃a∈(aC b.ah (aI aa (i:Int))).reads,valOf aa b.ab a≠valOf aa c.ab a:=by
 obtain⟨r,h1,hm,_,D,_⟩:=pA hR hb j8 hi;obtain⟨m,a,q1,d,F,e⟩:=(yc hR hb j8 rV (by omega) hi).1 ((h.mem hR hc hk).1 hn).1;rw [gP C,List.mem_singleton] at q1;subst q1;rw [rV,aK h1] at d e;rw [D] at e;exact⟨a,by rw [aK h1];exact d,(Ca hR hb j8 t v rV B (rU hR hb hm a d)).1 e⟩
theorem EU(C:LX b l c) (D:AO b l c) (F:c.ad=b.ad+1) (hi:i<aa.length) (hn:aI aa (i:Int)∉tC):∀a∈(aC b.ah (aI aa (i:Int))).reads,valOf aa b.ab a=valOf aa c.ab a:=by
 intro a d;have W:=hR.len;obtain⟨r,h1,hm,_,G,_⟩:=pA hR hb j8 hi;rw [aK h1] at d;have v:=rU hR hb hm a d;have B:¬B2 (valOf aa c.ab) c (aI aa (i:Int)):=fun hw=>hn ((h.mem hR hc hk).2 ⟨hw,wK i hi⟩)
 by_cases t:a∈aA c.ah c.ad (aI aa (i:Int))
 ·
  rcases v with⟨n,hn,rfl⟩ | ⟨j,I,rfl⟩
  ·
   exfalso
   rcases cE.1 t with e | ⟨_,q⟩
   ·
    have:=cj hi (by omega)
    rw [← e,bd (by omega)] at this
    cases this
   obtain⟨x,_,J,_⟩:=bK.1 q.gA
   have:=GS J
   rw [bd (by omega)] at this
   cases this
  refine HT hR hb j8 rV hc hk h wK (by omega) I fun O=>B ?_;have Q:=GO.2 ((h.mem hR hc hk).1 O).1;have S:=(HS (val:=valOf aa c.ab) t).1
  exact GO.1 fun e=>Q (S.1 e)
 refine Classical.byContradiction fun V=>B ?_;refine(yc hR hb j8 rV (by omega) hi).2 ⟨_,a,eQ,by rw [rV,aK h1];exact d,t,?_⟩;rw [rV,aK h1,G];exact(Ca hR hb j8 C D rV F v).2 V
end
end
end Go.Rc

namespace Go.Rc
open Go
section
variable {aa:List aG}{b c b2:cz}{l:List Change}{goals tC:List Key}{i:Nat}
theorem Ki(h1:c.ad=b.ad) (d:c.ab=b.ab) (e:c.ah=b.ah):c=b:=by
 cases b;cases c
 simp only at h1 d e;rw [h1,d,e]
theorem stops(hR:aq aa) (hb:LC aa b) (j8:∀i:Nat,i<aa.length→az b (aI aa (i:Int))=true) (e:LX b l c) (D:AO b l c) (rV:c.ah=b.ah) (hc:LC aa c) (hk:∀k∈goals,∃i:Nat,i<aa.length∧k=aI aa (i:Int)) (h:gX aa (valOf aa c.ab) goals c b2 [] tC) (wK:∀i:Nat,i<aa.length→az b2 (aI aa (i:Int))=true) (hi:i<aa.length) :
  (aB b.ah (aI aa (i:Int))).isSome=true∧(∀a∈(aC b.ah (aI aa (i:Int))).reads,Ww aa a)∧(aC b2.ah (aI aa (i:Int))).av=b2.ad∧((aC b2.ah (aI aa (i:Int))).value=(aC b.ah (aI aa (i:Int))).value↔(aC b2.ah (aI aa (i:Int))).changed=(aC b.ah (aI aa (i:Int))).changed)∧
  (ax (aI aa (i:Int))=false→aI aa (i:Int)∈tC→((aC b.ah (aI aa (i:Int))).reads.all fun a=>decide (fY b a=valOf aa c.ab a))=false)∧
  (aI aa (i:Int)∉tC→((aC b.ah (aI aa (i:Int))).reads.all fun a=>decide (fY b a=valOf aa c.ab a))=true):=by
 have Q:=hR.len;obtain⟨r,h1,hm,_,S,V,W,X⟩:=pA hR hb j8 hi;obtain⟨r2,g1,g2⟩:=aT.1 (wK i hi);have F:=rU hR hb hm
 have t:∀k∈goals,eA aa k:=fun k v=>by
  obtain⟨j,B,rfl⟩:=hk k v;exact .eG B (by omega)
 have C:∀a∈r.reads,fY b a=valOf aa b.ab a:=fun a d=>Kf hR hb j8 (F a d);rw [aK h1,aK g1];refine⟨by rw [h1];rfl,F,g2,?_⟩
 rcases e.how with⟨e1,e2⟩ | ⟨e1,e2⟩
 ·
  have G:=Ki e1 e2 rV;subst G
  obtain⟨rfl,_,rfl⟩:=h.idle fun k v=>by
   obtain⟨j,B,rfl⟩:=hk k v;exact .inr (j8 j B)
  rw [h1] at g1
  cases g1
  exact⟨by simp,fun _ h=>(by cases h),fun _=>List.all_eq_true.2 fun a d=>by rw [C a d];simp⟩
 obtain⟨_,_,_,hw,_⟩:=h.done hR hc t;obtain⟨r3,q1,Y,I,_⟩:=yd hw (ET hR hb j8 rV (by omega) hi) (wK i hi) (by rw [rV];exact h1) (by omega);rw [g1] at q1
 cases q1
 refine⟨I,fun J hn=>?_,fun hn=>?_⟩
 ·
  obtain⟨a,d,O⟩:=HU hR hb j8 rV hc t h wK e D e1 hi J hn;rw [aK h1] at d;exact List.all_eq_false.2 ⟨a,d,by rw [C a d];simpa using O⟩
 have:=EU hR hb j8 rV hc t h wK e D e1 hi hn
 rw [aK h1] at this
 exact List.all_eq_true.2 fun a d=>by rw [C a d];simpa using this a d
end
end Go.Rc

namespace Go.Rc
open Go
section
variable {H:Type}{enc:TypeId × Value→H}{P:Program}{w:World}
theorem sU{e:TypeId}:∀{l:List (DataW H)}{d:DataW H},d∈l→∀n∈d.weights P e,n∈DataW.weightsAll P e l
 | [],_,t,_,_=>by cases t
 | x::r,d,t,n,hn=>by
  simp only [DataW.weightsAll,List.mem_append]
  rcases List.mem_cons.1 t with rfl | t
  ·
   exact .inl hn
  exact .inr (sU t n hn)
def Kj(P:Program) (t:TypeId) (d:DataW H):Prop:=∀n∈d.weights P t,n≤reachBytes
theorem Kj.len{t e:TypeId}{xs d:List (DataW H)}(h:Kj P t (.slice xs d)) (ht:P.underlying t=some (.slice e)) (hb:1≤P.bytesOf e):xs.length≤140737488355328:=by
 have h1:=h ((xs.length+d.length)*P.bytesOf e) (by simp only [DataW.weights,ht];exact List.mem_cons_self)
 unfold reachBytes at h1
 have v:xs.length*1≤(xs.length+d.length)*P.bytesOf e:=Nat.mul_le_mul (by omega) hb
 omega
theorem Kj.elem{t e:TypeId}{xs v:List (DataW H)}(h:Kj P t (.slice xs v)) (ht:P.underlying t=some (.slice e)) {d:DataW H}(B:d∈xs):Kj P e d:=fun n hn=>
 h n (by simp only [DataW.weights,ht,List.mem_cons,List.mem_append];exact .inr (.inl (sU B n hn)))
theorem Kj.each{e:List TypeId}{ds:List (DataW H)}(h:(DataW.weightsEach P e ds).all (·≤reachBytes)=true) {j:Nat}{t:TypeId}{d:DataW H}(ht:e[j]?=some t) (v:ds[j]?=some d):Kj P t d:=fun n hn=>by
 have:=List.all_eq_true.1 h n (DataW.weights_mem_each ht v n hn)
 simpa using this
theorem Nk{α:Type} [Inhabited α] {R:α→List Value→Prop}{t e:TypeId}{k fuel n c:Nat}{a:Option Addr}{d:DataW H}{p:List MemPlace}(ht:P.underlying t=some (.slice e)) (hk:P.cellsOf e=k) (DR:1≤k) (hb:1≤P.bytesOf e)
  (hR:∀(m:Nat) (cs:List Value) (d:DataW H) (p:List MemPlace),DataW.trod enc P w 0 (fun _=>true) true m e cs=some (d,p)→cs.length=k→Kj P e d→∃x:α,R x cs)
  (h:DataW.trod enc P w 0 (fun _=>true) true fuel t [.slice a n c]=some (d,p)) (hl:Kj P t d):∃xs:List α,LR (fun b=>b<w.heap.size) w k R a n xs:=by
 rcases Deep.open_slice ht h with⟨hc,_⟩ | ⟨F,len,cap,m,fu,D,Pl,hc,_,hle,_,hm,B,S⟩
 ·
  simp only [List.cons.injEq,Value.slice.injEq,and_true] at hc;obtain⟨rfl,rfl,rfl⟩:=hc;exact⟨[],⟨rfl,by omega,fun B=>by simp at B⟩⟩
 simp only [List.cons.injEq,Value.slice.injEq,and_true] at hc;obtain⟨rfl,rfl,rfl⟩:=hc;simp only [Prod.mk.injEq] at B;obtain⟨rfl,_⟩:=B;simp only [if_true] at hm
 have hn:n≤140737488355328:=by simpa using hl.len ht hb
 have each:∀i,i<n→∃q:α × List Value,w.cells? 0 (F.add (i*k)) k=some q.2∧R q.1 q.2:=fun i hi=>by
  obtain⟨V,h1,W⟩:=S i (by omega);rw [hk] at h1;obtain⟨x,B⟩:=hR _ _ _ _ W (World.cells?_some h1).2.1 (hl.elem ht (List.mem_map.2 ⟨i,by simpa using hi,rfl⟩));exact⟨(x,V),h1,B⟩
 obtain⟨q,G⟩:=Deep.choose_lt each;refine⟨(List.range n).map fun i=>(q i).1,⟨by simp,hn,fun {i x} B=>?_⟩⟩
 obtain⟨hi,rfl⟩:i<n∧(q i).1=x:=by
  rw [List.getElem?_map] at B;obtain⟨j,C,X⟩:=Option.map_eq_some_iff.1 B;rw [List.getElem?_eq_some_iff] at C;obtain⟨I,J⟩:=C
  simp at I J
  subst J;exact⟨I,X⟩
 have O:F.spot=none:=by
  obtain⟨_,UN,Y⟩:=World.cells?_some (G 0 (by omega)).1;have h0:=Y 0 (by omega);rw [List.getElem?_eq_getElem (by omega)] at h0
  have:=World.cell?_spot h0
  simpa [Addr.add] using this
 obtain⟨b,o,s⟩:=F;simp only at O;subst O;obtain⟨_,Hf,GU⟩:=World.cells?_some (G i hi).1
 have hr:w.rangeAt b (o+i*k) (q i).2:=fun j v Q=>by
  have C:j<k:=by have:=(List.getElem?_eq_some_iff.1 Q).1;omega
  have:=GU j C
  rw [WideShapes.add_plain,WideShapes.add_plain] at this;rw [this,Q]
 refine⟨b,o,(q i).2,rfl,Hf,(G i hi).2,hr,?_,?_⟩ <;>
  exact World.block_lt_of_cell? w ⟨b,_,none⟩ (hr 0 _ (List.getElem?_eq_getElem (by omega)))
end
def u9(P:Program) (w:World) (n:String):Prop:=∃(nm:String) (d:DataW Unit) (g t:Nat) (ms:Array (String × TypeId)),Lib.VarReads P w n (.iface nm d)∧P.globalNamed n=some g∧(P.globals[g]?).map (·.type)=some t∧P.underlying t=some (.interface ms)
theorem Rz{P:Program}{w:World}{g t e:Nat}(J:Lib.VarReads P w "internal/strconv.uint64pow10" (Lib.tabData .u64 Lib.pow10Tab)) (F:P.globalNamed "internal/strconv.uint64pow10" = some g) (O:(P.globals[g]?).map (·.type)=some t) (ht:P.underlying t=some (.array 20 e)) (he:P.underlying e=some (.int .u64))
  (Q:P.cellsOf e=1) (S:P.cellsOf t=20) (V:u9 P w "strconv.ErrSyntax") (W:u9 P w "strconv.ErrRange"):lA P (fun b=>b<w.heap.size) w:=by
 obtain⟨g',t',cs,fuel,p,X,Y,B,hd⟩:=J;obtain rfl:=Option.some.inj (F.symm.trans X);obtain rfl:=Option.some.inj (O.symm.trans Y);have hc:=Lib.cells_of_tab ht he Q S hd
 have hT:Lib.TabIs P w "internal/strconv.uint64pow10" .u64 Lib.pow10Tab:=by
  unfold Lib.TabIs
  rw [B,← hc]
 have G:g<w.heap.size:=by
  unfold World.var? at B
  simp only [F,Option.bind_some] at B
  split at B
  ·
   rename_i D
   exact(Array.getElem?_eq_some_iff.1 D).1
  cases B
 refine⟨⟨g,G,G,fun w' e=>?_⟩,fun n hn g2 UU=>?_⟩
 ·
  unfold Lib.TabIs World.var? at hT ⊢
  simp only [F,Option.bind_some] at hT ⊢;rw [e];exact hT
 have hE:u9 P w n:=by
  rcases hn with rfl | rfl
  ·
   exact V
  exact W
 obtain⟨nm,d,g3,t3,ms,⟨g4,t4,cs4,ajT,p4,e1,e2,C,hd4⟩,e3,e4,e5⟩:=hE;obtain rfl:=Option.some.inj (e1.symm.trans UU);obtain rfl:=Option.some.inj (e1.symm.trans e3);obtain rfl:=Option.some.inj (e2.symm.trans e4);obtain⟨_,u,v,hcs,_,_⟩:=iface_of_trod e5 hd4
 unfold World.var? at C
 simp only [e1,Option.bind_some] at C
 split at C
 ·
  rename_i c0 x0 y0 D
  obtain rfl:=Option.some.inj C;have I:=(Array.getElem?_eq_some_iff.1 D).1;refine⟨I,I,.iface u v,.inr ⟨u,v,rfl⟩,fun w' e=>?_⟩;obtain rfl:c0=#[.iface u v]:=Array.toList_inj.1 hcs
  unfold World.cell?
  simp only [e,D]
  first | done | rfl
 cases C
theorem aU.RA{w w':World}(h:aU [] w w') (B:Nat) (d:B≤w.heap.size):RowKit.Below B w w':=⟨h.os,h.tape,h.output,h.size,fun k hk=>h.block k (by omega) (by simp)⟩
end Go.Rc

namespace Go.Rc
open Go
def RB(m f:Nat):Bool:=Nat.beq (Nat.land (Nat.shiftRight m f) 1) 1
def EV(look:FuncId→Option Func) (P:Program):Nat→List FuncId→Nat→List FuncId→List FuncId
 | 0,_,_,seen=>seen.reverse
 | _,[],_,seen=>seen.reverse
 | n+1,f::todo,mask,seen=>
  match RB mask f with
  | true=>EV look P n todo mask seen
  | false=>EV look P n ((look f).elim [] P.leadsTo++todo) (Nat.lor mask (Nat.shiftLeft 1 f)) (f::seen)
theorem Nl(m f:Nat):RB m f=m.testBit f:=by
 unfold RB
 show Nat.beq ((m >>> f) &&& 1) 1=m.testBit f
 rw [Nat.testBit,Nat.and_comm];have h:=Nat.and_one_is_mod (m >>> f);rw [Nat.and_comm]
 have d:(1 &&& m >>> f)=(m >>> f) % 2:=by rw [Nat.and_comm];exact h
 rw [Nat.and_comm,d]
 rcases Nat.mod_two_eq_zero_or_one (m >>> f) with e | e <;> rw [e] <;> rfl
theorem zq{look:FuncId→Option Func}(P:Program) (hl:∀g,P.funcs[g]?=look g):∀(n:Nat) (todo:List FuncId) (mask:Nat) (seen:List FuncId),(∀x:Nat,mask.testBit x=seen.contains x)→EV look P n todo mask seen=P.closureVia n todo seen
 | 0,_,_,_,_=>by unfold EV Program.closureVia;rfl
 | n+1,[],_,_,_=>by unfold EV Program.closureVia;rfl
 | n+1,f::todo,mask,seen,h=>by
  unfold EV Program.closureVia
  rw [Nl,h f]
  cases hc:seen.contains f with
  | true=>simp only [if_true];exact zq P hl n todo mask seen h
  | false=>
   simp only [Bool.false_eq_true,if_false];rw [hl f];refine zq P hl n _ _ _ fun x=>?_
   show(mask ||| (1 <<< f)).testBit x=(f::seen).contains x
   rw [Nat.testBit_or,h x,Nat.shiftLeft_eq,Nat.one_mul,Nat.testBit_two_pow,List.contains_cons,Bool.or_comm]
   grind
theorem zs{look:FuncId→Option Func}(P:Program) (hl:∀g,P.funcs[g]?=look g) (f:FuncId):P.closure f=EV look P (1+(P.funcs.toList.map fun g=>(P.leadsTo g).length+1).sum) [f] 0 []:=by grind [Program.closure,zq]
end Go.Rc

namespace Go.Rc
open Go
def zt(P:Program):Nat→List TypeId→List TypeId
 | 0,s=>s
 | d+1,s=>match decide (P.grow s=s) with
  | true=>s
  | false=>zt P d (P.grow s)
theorem ye{P:Program}{s:List TypeId}(h:P.grow s=s):∀n,P.grown n s=s
 | 0=>rfl
 | n+1=>by
  show P.grown n (P.grow s)=s
  rw [h];exact ye h n
theorem yf(P:Program):∀(n:Nat) (s:List TypeId),P.grown n s=zt P n s
 | 0,_=>rfl
 | n+1,s=>by
  show P.grown n (P.grow s)=match decide (P.grow s=s) with | true=>s | false=>zt P n (P.grow s)
  by_cases h:P.grow s=s
  ·
   grind [ye]
  rw [decide_eq_false h];exact yf P n _
def oK(P:Program) (t:TypeId):List TypeId:=zt P P.types.size [t]
theorem ma(P:Program) (t:TypeId):P.book t=oK P t:=yf P _ _
def Kk(P:Program) (t:TypeId):Bool:=(oK P t).all fun u=>P.fineRow u && (P.partsOf u).all ((oK P t).contains ·)
theorem tU(P:Program) (t:TypeId):P.readableRec t=Kk P t:=by grind [Program.readableRec,Kk,ma]
def Kl(P:Program) (t:TypeId):Bool:=(oK P t).any fun u=>(P.partsOf u).any fun v=>(oK P v).contains u
theorem Cb(P:Program) (t:TypeId):P.loopsFrom t=Kl P t:=by grind [Program.loopsFrom,Kl,ma]
def Pf(P:Program) (t:TypeId):Bool:=(oK P t).any fun u=>match P.underlying u with | some (.map _ _)=>true | _=>false
theorem Nn(P:Program) (t:TypeId):P.mapsRec t=Pf P t:=by grind [Program.mapsRec,Pf,ma]
def GV(P:Program) (t:TypeId):Bool:=(oK P t).any fun u=>match P.underlying u with | some (.interface _)=>true | _=>false
theorem yg(P:Program) (t:TypeId):P.ifacesRec t=GV P t:=by grind [Program.ifacesRec,GV,ma]
def tV(P:Program) (t:TypeId):Bool:=(oK P t).any fun u=>match P.underlying u with | some (.func ..) | some (.chan ..) | some .unsafePointer=>true | _=>false
theorem rW(P:Program) (t:TypeId):P.veiledRec t=tV P t:=by grind [Program.veiledRec,tV,ma]
def Pg(P:Program) (t:TypeId):Bool:=
 (oK P t).any fun u=>match P.underlying u with
  | some (.map k _)=>(match P.underlying k with | some (.array _ _) | some (.struct _)=>true | _=>false)
  | _=>false
theorem Np(P:Program) (t:TypeId):P.wideKeysFrom t=Pg P t:=by grind [Program.wideKeysFrom,Pg,ma]
def pB(P:Program) (t:TypeId):Bool:=!tV P t || (let L:=P.libraryStructs;(oK P t).all fun u=>!(P.libraryStructIn L u && tV P u))
theorem qy(P:Program) (t:TypeId):P.veiledOwn t=pB P t:=by grind [Program.veiledOwn,pB,ma,rW]
def Cc(P:Program) (n:String):Bool:=
 match P.globalNamed n with
 | some g=>((P.globals[g]?).map (·.type)).any fun t=>Kk P t && pB P t
 | none=>false
theorem EW(P:Program) (n:String):P.varReadable n=Cc P n:=by grind [Program.varReadable,Cc,tU,qy]
end Go.Rc

namespace Go.Rc
open Go
def blocks{α:Type _}:Nat→List α→List (List α)
 | 0,_=>[]
 | n+1,l=>l.take 32::blocks n (l.drop 32)
def pick{α:Type _}(b:List (List α)) (t:Nat):Option α:=(b[t / 32]?).bind (·[t % 32]?)
theorem kN{α:Type _}:∀(n:Nat) (l:List α) (t:Nat),l.length≤n*32→pick (blocks n l) t=l[t]?
 | 0,l,t,h=>by grind [pick,blocks]
 | n+1,l,t,h=>by
  by_cases ht:t<32
  ·
   grind [pick,blocks]
  have h1:t / 32=(t - 32) / 32+1:=by omega
  have d:t % 32=(t - 32) % 32:=by omega
  have e:=kN n (l.drop 32) (t - 32) (by simp;omega)
  grind [pick,blocks]
def rootOf(b:List (List TypeInfo)) (t:TypeId):Option TypeDesc:=
 (pick b t).bind fun i=>match i.desc with
  | .named _ u=>(pick b u).map (·.desc)
  | d=>some d
def wide(b:List (List TypeInfo)) (t:TypeId):Nat:=((pick b t).map (·.size)).getD 0
theorem rX{P:Program}{n:Nat}(hn:P.types.size≤n*32) {t:TypeId}{i:TypeInfo}(h:pick (blocks n P.types.toList) t=some i):P.info? t=some i:=by
 rw [kN n _ t (by simpa using hn),Array.getElem?_toList] at h;have ht:t<P.types.size:=(Array.getElem?_eq_some_iff.1 h).1
 unfold Tables.info?
 rw [if_pos ht,h]
theorem Nq{P:Program}{n:Nat}(hn:P.types.size≤n*32) {t:TypeId}(h:t<P.types.size):∃i,pick (blocks n P.types.toList) t=some i:=by
 rw [kN n _ t (by simpa using hn),Array.getElem?_toList]
 simp_all
theorem rY{P:Program}{n:Nat}(hn:P.types.size≤n*32) {t:TypeId}{d:TypeDesc}(h:rootOf (blocks n P.types.toList) t=some d):P.underlying t=some d:=by
 unfold rootOf at h
 unfold Program.underlying
 cases v:pick (blocks n P.types.toList) t with
 | none=>rw [v] at h;cases h
 | some i=>
  rw [v] at h;rw [rX hn v];obtain⟨e,_⟩:=i
  grind [pick,rX]
theorem qz{P:Program}{n:Nat}(hn:P.types.size≤n*32) {t:TypeId}(h:t<P.types.size):wide (blocks n P.types.toList) t=P.cellsOf t:=by grind [Nq,wide,Program.cellsOf,rX]
def nC(b:List (List TypeInfo)) (N:Nat) (t:TypeId):Bool:=Nat.ble (t+1) N && kindOk (rootOf b t)
theorem od{b:List (List TypeInfo)}{N:Nat}{t:TypeId}(h:nC b N t=true):t<N:=by
 simp only [nC,Bool.and_eq_true] at h;exact Nat.le_of_ble_eq_true h.1
theorem oe{P:Program}{n:Nat}(hn:P.types.size≤n*32) {t:TypeId}(h:nC (blocks n P.types.toList) P.types.size t=true):isVar P t=true:=by
 have hl:=od h;simp only [nC,Bool.and_eq_true] at h
 unfold isVar
 cases hr:rootOf (blocks n P.types.toList) t with
 | none=>rw [hr] at h;cases h.2
 | some d=>grind [rY]
def qA(b:List (List TypeInfo)) (N:Nat):Nat→List Field→Bool
 | _,[]=>true
 | o,f::r=>nC b N f.type && Nat.beq f.offset o && qA b N (o+wide b f.type) r
def sumOf(b:List (List TypeInfo)):List Field→Nat
 | []=>0
 | f::r=>wide b f.type+sumOf b r
def RC(b:List (List TypeInfo)) (N:Nat) (t:TypeId):Bool:=
 match rootOf b t with
 | none=>false
 | some (.struct fs)=>qA b N 0 fs.toList && Nat.beq (wide b t) (sumOf b fs.toList)
 | some (.array k e)=>nC b N e && Nat.beq (wide b t) (k*wide b e)
 | some (.pointer e)=>nC b N e && Nat.beq (wide b t) 1
 | some (.slice e)=>nC b N e && Nat.beq (wide b t) 1
 | some (.tuple _)=>true
 | some .invalid=>true
 | some (.named _ _)=>true
 | _=>Nat.beq (wide b t) 1
def EJ(b:List (List TypeInfo)) (N:Nat) (t:TypeId):Bool:=
 match rootOf b t with
 | none=>false
 | some (.map _ e)=>Nat.ble (e+1) N
 | _=>true
theorem qB{P:Program}{n:Nat}(hn:P.types.size≤n*32):∀(fs:List Field) (o:Nat),qA (blocks n P.types.toList) P.types.size o fs=true→
  (∀f∈fs,isVar P f.type=true)∧(∀j f,fs[j]?=some f→f.offset=o+((fs.take j).map fun f=>P.cellsOf f.type).sum)∧sumOf (blocks n P.types.toList) fs=(fs.map fun f=>P.cellsOf f.type).sum
 | [],_,_=>⟨by simp,by simp,rfl⟩
 | g::r,o,h=>by
  simp only [qA,Bool.and_eq_true] at h;obtain⟨⟨h1,e⟩,d⟩:=h;rw [qz hn (od h1)] at d;obtain⟨t,i2,i3⟩:=qB hn r _ d;refine⟨fun f v=>?_,fun j f B=>?_,?_⟩
  ·
   grind [oe]
  ·
   cases j with
   | zero=>simp_all
   | succ j=>grind
  grind [sumOf,qz,od]
theorem HV{P:Program}{n:Nat}(hn:P.types.size≤n*32) {t:TypeId}(ht:t<P.types.size) (h:RC (blocks n P.types.toList) P.types.size t=true):rowFine P t=true:=by
 unfold RC at h
 rw [qz hn ht] at h
 unfold rowFine
 rw [Bool.or_eq_true]
 cases hr:rootOf (blocks n P.types.toList) t with
 | none=>rw [hr] at h;cases h
 | some d=>
  have hu:=rY hn hr;rw [hr] at h
  cases d with
  | struct fs=>
   right
   simp only [hu];simp only [Bool.and_eq_true] at h;obtain⟨h1,B,v⟩:=qB hn fs.toList 0 h.1;simp only [Bool.and_eq_true,List.all_eq_true,beq_iff_eq];refine⟨⟨h1,(Nat.eq_of_beq_eq_true h.2).trans v⟩,fun j C=>?_⟩
   grind
  | array k e=>
   right
   simp only [hu];simp only [Bool.and_eq_true] at h ⊢;rw [qz hn (od h.1)] at h;exact⟨oe hn h.1,by simp_all⟩
  | pointer e=>
   right
   simp only [hu];simp only [Bool.and_eq_true] at h ⊢;exact⟨oe hn h.1,by simp_all⟩
  | slice e=>
   right
   simp only [hu];simp only [Bool.and_eq_true] at h ⊢;exact⟨oe hn h.1,by simp_all⟩
  | tuple e=>left;simp [isVar,hu,kindOk]
  | invalid=>left;simp [isVar,hu,kindOk]
  | named a e=>left;simp [isVar,hu,kindOk]
  | _=>
   right
   simp only [hu];rw [beq_iff_eq];exact Nat.eq_of_beq_eq_true h
def Cd(f:Nat→Bool):Nat→Bool
 | 0=>true
 | n+1=>f n && Cd f n
theorem nD{f g:Nat→Bool}:∀(n:Nat),Cd f n=true→(∀t,t<n→f t=true→g t=true)→(List.range n).all g=true
 | 0,_,_=>by simp
 | n+1,h,d=>by
  simp only [Cd,Bool.and_eq_true] at h;rw [List.range_succ,List.all_append,nD n h.2 fun t ht=>d t (by omega)]
  simp [d n (by omega) h.1]
theorem HW{P:Program}{N n:Nat}(d:P.types.size=N) (hn:Nat.ble N (n*32)=true) (h:Cd (RC (blocks n P.types.toList) N) N=true):(List.range P.types.size).all (rowFine P)=true:=by
 subst d
 exact nD _ h fun t hl ht=>HV (Nat.le_of_ble_eq_true hn) hl ht
theorem EY{P:Program}{N n:Nat}(e:P.types.size=N) (hn:Nat.ble N (n*32)=true) (h:Cd (EJ (blocks n P.types.toList) N) N=true):mapsRowed P=true:=by
 subst e
 unfold mapsRowed
 refine nD _ h fun t hl ht=>?_
 unfold EJ at ht
 cases hr:rootOf (blocks n P.types.toList) t with
 | none=>rw [hr] at ht;cases ht
 | some d=>
  have hu:=rY (Nat.le_of_ble_eq_true hn) hr
  grind [Nat.le_of_ble_eq_true]
theorem EZ{P:Program}{N:Nat}(d:P.types.size=N) (h:P.globals.toList.all (fun g=>Nat.ble (g.type+1) N)=true):P.globals.all (fun g=>decide (g.type<P.types.size))=true:=by grind [Nat.le_of_ble_eq_true]
theorem HX{P:Program}{N:Nat}(d:P.types.size=N) (h:P.funcs.toList.all (fun f=>f.params.toList.all fun t=>Nat.ble (t+1) N)=true):P.funcs.all (fun f=>f.params.all fun t=>decide (t<P.types.size))=true:=by grind [Nat.le_of_ble_eq_true]
theorem Km{P:Program}(h1:(List.range P.types.size).all (rowFine P)=true) (d:P.globals.all (fun g=>decide (g.type<P.types.size))=true) (e:P.funcs.all (fun f=>f.params.all fun t=>decide (t<P.types.size))=true):laidOutB P=true:=by grind [laidOutB]
theorem both{a b:Bool}(d:a=true) (hb:b=true):(a && b)=true:=by rw [d,hb];rfl
end Go.Rc

namespace Go.Rc
open Go
theorem E0{P:Program}{N n:Nat}(d:P.funcs.size=N) (hn:Nat.ble N (n*32)=true) (g:FuncId):P.funcs[g]?=pick (blocks n P.funcs.toList) g:=by
 subst d;rw [kN n _ g (by simpa using Nat.le_of_ble_eq_true hn),Array.getElem?_toList]
def Kn(name:String):Nat→List Func→List Nat
 | _,[]=>[]
 | k,f::r=>match f.name == name with
  | true=>k::Kn name (k+1) r
  | false=>Kn name (k+1) r
theorem GW(name:String):∀(l:List Func) (k:Nat),Kn name k l=((List.range l.length).filter fun i=>(l[i]?).any (·.name == name)).map (· + k)
 | [],_=>rfl
 | f::r,k=>by
  have h:=GW name r (k+1);rw [List.length_cons,List.range_succ_eq_map,List.filter_cons,List.filter_map,List.getElem?_cons_zero]
  have e:((fun i=>((f::r)[i]?).any (·.name == name))∘Nat.succ)=fun i=>(r[i]?).any (·.name == name):=by
   funext i
   simp
  rw [e]
  have m:∀q:List Nat,(q.map Nat.succ).map (· + k)=q.map (· + (k+1)):=by
   intro q;rw [List.map_map]
   congr 1
   funext x
   show x.succ+k=x+(k+1)
   omega
  unfold Kn
  cases hb:f.name == name with
  | true=>simp only [Option.any_some,hb,if_true,List.map_cons,Nat.zero_add,m,h]
  | false=>simp only [Option.any_some,hb,Bool.false_eq_true,if_false,m,h]
theorem nE(P:Program) (name:String):P.funcNamed name=match Kn name 0 P.funcs.toList with | [i]=>some i | _=>none:=by
 unfold Program.funcNamed
 rw [GW];simp only [Nat.add_zero,List.map_id',Array.length_toList,Array.getElem?_toList]
 generalize (List.range P.funcs.size).filter (fun i=>(P.funcs[i]?).any (·.name == name))=q
 rcases q with _ | ⟨a,_ | ⟨b,r⟩⟩ <;> rfl
theorem nF(P:Program) (word:String):P.worded word=P.funcs.toList.any fun fn=>fn.body.isNone && fn.name == word:=by
 unfold Program.worded
 rw [Array.any_toList]
theorem vd(P:Program):P.laysLater=P.funcs.toList.any fun fn=>fn.body.isNone && (fn.name == "runtime.SetFinalizer" || fn.name == "runtime.AddCleanup" || fn.origin == "runtime.AddCleanup"):=by
 unfold Program.laysLater
 rw [Array.any_toList]
theorem tD(P:Program):P.stopsHeard=P.funcs.toList.all fun fn=>(Stop.rowOf fn).isNone || !fn.norace:=by
 unfold Program.stopsHeard
 rw [Array.all_toList]
def qC:List (String × DataW Unit)→List (String × DataW Unit)→Bool
 | [],[]=>true
 | (n,a)::r,(m,b)::s=>n == m && DataW.same a b && qC r s
 | _,_=>false
theorem sV:∀(l m:List (String × DataW Unit)),qC l m=true→l=m
 | [],[],_=>rfl
 | (n,a)::r,(k,b)::s,h=>by
  simp only [qC,Bool.and_eq_true,beq_iff_eq] at h;rw [h.1.1,DataW.same_eq a b h.1.2,sV r s h.2]
 | [],_::_,h=>by cases h
 | _::_,[],h=>by cases h
theorem Nr{P:Program}{n fuel M:Nat}{laid:List (String × DataW Unit)}{os:Os}{tape:Tape}{g:FuncId}(t:varsId P=g) (he:funcsListed laid=[])
  (h:(match runN P n (Machine.entering P (World.unlaid P os) tape g ⟨#[],#[],[]⟩) with
   | .ended (.done _) w=>(DataW.laidRun P w.memory fuel ((laid.filter fun x=>x.2.handleName?.isNone).map (·.1))).any fun x=>nodupBits M x.2 0 && laidRowsB P w.memory x.2 && (laid.filter fun x=>x.2.handleName?.isSome && x.2.funcsIn?.isNone).all (handleAtB P w.memory) && qC x.1 (laid.filter fun x=>x.2.handleName?.isNone)
   | _=>false)=true):doorLeaves P n fuel M laid os tape=some (laid.filter fun x=>x.2.handleName?.isNone,(funcsListed laid).map (·.2.funcsOut)):=by
 unfold doorLeaves
 rw [t]
 split at h
 ·
  rename_i v w hr
  rw [hr]
  simp only
  cases d:DataW.laidRun P w.memory fuel ((laid.filter fun x=>x.2.handleName?.isNone).map (·.1)) with
  | none=>rw [d] at h;cases h
  | some x=>
   rw [d] at h;simp only [Option.any_some,Bool.and_eq_true] at h;obtain⟨⟨⟨h1,B⟩,C⟩,D⟩:=h;have e:=sV _ _ D;rw [he];simp only [Option.bind_some,h1,B,C,Bool.and_self,if_true,List.map_nil,funcsRun,Option.map_some,← e]
 cases h
end Go.Rc

namespace Go.Rc
open Go
theorem yh:∀l:List Int,(l.map fun z=>[Value.int .i64 z]).flatten=l.map (Value.int .i64)
 | []=>rfl
 | x::r=>by rw [List.map_cons,List.map_cons,List.flatten_cons,yh r];rfl
theorem Ns{H:Type}{enc:TypeId × Value→H}{P:Program}{w:World}{r:Reach}{base:Nat}{t e:TypeId}{fuel n c:Nat}{a:Option Addr}{d:DataW H}{p:List MemPlace}(ht:P.underlying t=some (.slice e)) (k1:P.cellsOf e=1) (b1:1≤P.bytesOf e) (he:P.underlying e=some (.int .i64))
  (G:Value.okWide P w r base t (.slice a n c)) (h:DataW.trod enc P w 0 (fun _=>true) true fuel t [.slice a n c]=some (d,p)) (hl:Kj P t d):∃l:List Int,Rd RR.int 1 (fun b=>b<w.heap.size) w a n c l:=by
 obtain⟨l,B⟩:=Nk (R:=fun(z:Int) r=>r=[Value.int .i64 z]) ht k1 (Nat.le_refl _) b1 (fun m cs d p hm W _=>by
  obtain⟨z,rfl,_,_⟩:=DataW.trod_int he hm;exact⟨z,rfl⟩) h hl
 refine⟨l,B.len,l.map fun z=>[Value.int .i64 z],by simp,fun r hr=>?_,?_,fun i x r O hr=>?_⟩
 ·
  obtain⟨z,_,rfl⟩:=List.mem_map.1 hr
  rfl
 ·
  rw [yh];refine⟨by simp [B.len],B.le,fun u hu=>?_,?_⟩
  ·
   obtain⟨z,_,rfl⟩:=List.mem_map.1 hu
   rfl
  rcases Deep.open_slice ht h with⟨hc,_⟩ | ⟨q,len,cap,m,X,D,Y,hc,_,hle,Q,_⟩
  ·
   simp only [List.cons.injEq,Value.slice.injEq,and_true] at hc;exact .inl hc
  simp only [List.cons.injEq,Value.slice.injEq,and_true] at hc;obtain⟨rfl,rfl,rfl⟩:=hc
  have C:q.spot=none∧q.block<w.heap.size:=by
   simp only [Value.okWide,ht,Cell.okWide,Cell.ok] at G;obtain⟨_,_,_,S,row,cells,F,_⟩:=G;refine⟨S,?_⟩
   unfold World.shape? at F
   split at F
   ·
    rename_i V
    exact(Array.getElem?_eq_some_iff.1 V).1
   cases F
  obtain⟨b,o,s⟩:=q;obtain⟨I,hb⟩:=C;simp only at I hb;subst I;refine .inr ⟨b,o,rfl,hle,Q,hb,hb,fun j v J=>?_⟩;rw [List.getElem?_map] at J;obtain⟨z,C,rfl⟩:=Option.map_eq_some_iff.1 J;obtain⟨b',o',r',e1,_,rfl,hr,_⟩:=B.at_ C;simp only [Option.some.injEq,Addr.mk.injEq,and_true] at e1;obtain⟨rfl,rfl⟩:=e1
  have:=hr 0 _ rfl
  simpa using this
 rw [List.getElem?_map,O] at hr;exact(Option.some.inj hr).symm
end Go.Rc

