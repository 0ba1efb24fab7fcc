/- Base of the proof: frames, memory, ownership, and the plain meaning of rule systems. Conditions: as each lemma says. -/
import Derived.Test.YtjpagoacbadijaaGreatDoorJBg
import Derived.Test.YtjpagoacbadijaaGreatDoorJBf
import Derived.Shelf.SlSortCmp.WholeK
import Derived.Test.YtjpagoacbadijaaGreatDoorJBe
import Derived.Deep.Slices
import Derived.SizedLaws
import Derived.Lib.LaidU8
import Derived.Lib.LaidTab
import Derived.LaidLaws
import GoSem.ClaimFn
import Derived.JoinedOf
set_option linter.all false
namespace Go.Rc
open Go
theorem As.exc{A:As}{Z:Nat→Prop}{w w':World}(h:A.ok Z w) (c:aJ [] w w'):A.ok Z w':=A.st c.size (fun x _ t=>c.block x t (by simp)) h
theorem OE{k:Key}(h:eC k):aA k=decide (k.kind=32):=by
 have e:(decide (1≤k.kind) && decide (k.kind≤22))=false:=by
  rcases h with h | h
  ·
   grind
  grind
 unfold aA
 grind
/-! ### records in blocks -/
structure RL where
 b:Nat
 a:Option Addr
 n:Nat
 c:Nat
def WD.wc(D:WD) (v:Nat) (rev:Int) (ra:Option Addr) (rn rc:Nat):List Value:=
 [.slice D.ar D.r D.cr,.int .i64 rev,.slice D.a1 D.n1 D.c1,.slice D.a2 D.n2 D.c2,.map (some D.m),.pointer (some ⟨v,0,none⟩),.slice ra rn rc]
def As.jK(RT:Nat) (lf:Key→RL) (l:List Rec):As where
 fp x:=∃k r,ay l k=some r∧x=(lf k).b
 ok Z w:=(∀k r,ay l k=some r→bN w (lf k).b RT (r.row (lf k).a (lf k).n (lf k).c)∧Rd RR.key 2 Z w (lf k).a (lf k).n (lf k).c r.reads∧r.reads.length≤4000)∧∀k k' r r',ay l k=some r→ay l k'=some r'→(lf k).b=(lf k').b→k=k'
 lt h x hx:=by
  obtain⟨k,r,hk,rfl⟩:=hx;exact(h.1 k r hk).1.lt
 mono hZ h:=⟨fun k r hk=>by
  obtain⟨hb,hr,h4⟩:=h.1 k r hk;exact⟨hb,hr.mono hZ,h4⟩,h.2⟩
 st hs hc h:=⟨fun k r hk=>by
  obtain⟨hb,hr,h4⟩:=h.1 k r hk;exact⟨(As.blk (lf k).b RT (r.row (lf k).a (lf k).n (lf k).c)).st (Z:=fun _=>False) hs (fun x hx hl=>hc x (.inl ⟨k,r,hk,by rcases hx with hx | hx;exact hx;exact hx.elim⟩) hl) hb,hr.st hs (fun x hx=>hc x (.inr hx)),h4⟩,h.2⟩
theorem As.Bl{RT:Nat}{lf:Key→RL}{l:List Rec}{Z:Nat→Prop}{w:World}(h:(As.jK RT lf l).ok Z w):(As.jK RT lf l).ok Z w:=h
def fL(l:List Rec) (lf:Key→RL) (ml:List (Key × Value)):Prop:=∀k,ba ml k=(ay l k).map fun _=>Value.pointer (some ⟨(lf k).b,0,none⟩)
theorem fL.nil(lf:Key→RL):fL [] lf []:=fun _=>rfl
theorem fL.no{l:List Rec}{lf:Key→RL}{ml:List (Key × Value)}{k:Key}(h:fL l lf ml) (t:ay l k=none):(ba ml k).getD (.pointer none)=.pointer none:=by rw [h k,t];rfl
theorem fL.yes{l:List Rec}{lf:Key→RL}{ml:List (Key × Value)}{k:Key}{r:Rec}(h:fL l lf ml) (t:ay l k=some r):ba ml k=some (.pointer (some ⟨(lf k).b,0,none⟩)):=by rw [h k,t];rfl
def Ea(lf:Key→RL) (k:Key) (q:RL):Key→RL:=fun y=>if y=k then q else lf y
theorem jC{lf:Key→RL}{k:Key}{q:RL}:Ea lf k q k=q:=if_pos rfl
theorem j2{lf:Key→RL}{k y:Key}{q:RL}(h:¬y=k):Ea lf k q y=lf y:=if_neg h
theorem fL.put{l l':List Rec}{lf:Key→RL}{ml:List (Key × Value)}{r:Rec}{q:RL}(h:fL l lf ml) (hl:∀y,ay l' y=if y=r.key then some r else ay l y):fL l' (Ea lf r.key q) (bY ml r.key (.pointer (some ⟨q.b,0,none⟩))):=fun k=>by
 rw [cY,hl k]
 by_cases e:k=r.key
 ·
  subst e;rw [if_pos rfl,if_pos rfl,jC]
  rfl
 rw [if_neg fun h=>e h.symm,if_neg e,j2 e,h k]
section
variable {RT:Nat}{q:RL}{lf:Key→RL}{l l':List Rec}{r:Rec}{w0 w:World}{M Z:Nat→Prop}{L:List As}
theorem St.Uy(h:St w0 M Z w L) (RT:Nat) (lf:Key→RL):St w0 M Z w (As.jK RT lf []::L):=h.fact (B:=As.jK RT lf []) ⟨fun k r hk=>(by cases hk),fun k k' r A hk=>(by cases hk)⟩ fun x t=>by obtain⟨k,r,hk,_⟩:=t;cases hk
theorem St.J3(h:St w0 M Z w (As.blk q.b RT (r.row q.a q.n q.c)::As.jK RT lf l::L)) (hr:Rd RR.key 2 Z w q.a q.n q.c r.reads) (G:r.reads.length≤4000) (hl:∀y,ay l' y=if y=r.key then some r else ay l y):St w0 M Z w (As.jK RT (Ea lf r.key q) l'::L):=by
 have I:bN w q.b RT (r.row q.a q.n q.c):=h.g0;have B:(As.jK RT lf l).ok Z w:=h.g1;have D:∀k t,ay l k=some t→q.b≠(lf k).b:=fun k t hk e=>(List.pairwise_cons.1 h.oL).1 (As.jK RT lf l) M0 q.b rfl ⟨k,t,hk,e⟩;refine h.join (C:=As.jK RT (Ea lf r.key q) l') ⟨fun k t hk=>?_,fun k k' r1 r2 h1 A e=>?_⟩ fun x F=>?_
 ·
  rw [hl k] at hk
  by_cases e:k=r.key
  ·
   rw [if_pos e] at hk
   grind [jC]
  rw [if_neg e] at hk;rw [j2 e];exact B.1 k t hk
 ·
  rw [hl k] at h1;rw [hl k'] at A
  by_cases e1:k=r.key
  ·
   by_cases e2:k'=r.key
   ·
    rw [e1,e2]
   rw [if_neg e2] at A
   grind [jC,j2]
  rw [if_neg e1] at h1
  by_cases e2:k'=r.key
  ·
   rw [j2 e1,e2,jC] at e;exact absurd e.symm (D k _ h1)
  rw [if_neg e2] at A;rw [j2 e1,j2 e2] at e;exact B.2 k k' _ _ h1 A e
 obtain⟨k,t,hk,rfl⟩:=F;rw [hl k] at hk
 by_cases e:k=r.key
 ·
  rw [e,jC];exact .inl rfl
 rw [if_neg e] at hk;rw [j2 e];exact .inr ⟨k,t,hk,rfl⟩
theorem Ow.z{α:Type}{f:α→List Value}{E k n c:Nat}{a:Option Addr}{xs:List α}{Z':Nat→Prop}(h:Ow (RR.flat f) E k Z' w a n c xs):Ow (RR.flat f) E k Z w a n c xs:=by
 obtain⟨hn,rows,hl,hk,h1,t⟩:=h;exact⟨hn,rows,hl,hk,h1,t⟩
theorem St.Uz{A:As}{Z':Nat→Prop}(h:St w0 M Z' w [A]) (C:∀x,Z x→Z' x) (G:A.ok Z w):St w0 M Z w [A]:=
 ⟨h.bR,fun x t=>h.hV x (C x t),fun B D x t F=>h.jS B D x t (C x F),h.kI,h.oL,fun B D=>by grind⟩
end
theorem zr{l:List Rec}{r:Rec}(h:∀x∈l,x.key≠r.key) (y:Key):ay (l++[r]) y=if y=r.key then some r else ay l y:=by
 unfold ay
 grind
/-! ### entries of maps that are changed in place -/
section
variable {κ:Type} [DecidableEq κ] {enc:κ→Value}{P:Program}{kt:TypeId}{w w':World}{b:Nat}{l:List (κ × Value)}
def J4{κ:Type}(enc:κ→Value) (w:World) (b:Nat) (l:List (κ × Value)) (k:κ) (z:Int):Prop:=
 ∃es clock,w.heap[b]?=some (.map es clock)∧(es.toList.map (fun e=>(e.key,e.val))=l.map (fun p=>(enc p.1,p.2))∧(l.map (·.1)).Nodup∧(∀e∈es.toList,e.born<clock)∧(es.toList.map (·.born)).Nodup)∧∃(j:Nat) (v:Value) (e:MapEntry),l[j]?=some (k,v)∧es[j]?=some e∧(e.born:Int)=z
def As.zs{κ:Type}(enc:κ→Value) (b:Nat) (l:List (κ × Value)) (k:κ) (z:Int):As where
 fp x:=x=b
 ok _ w:=J4 enc w b l k z
 lt h x hx:=by
  subst hx;obtain⟨es,c,h,_⟩:=h
  grind
 mono _ h:=h
 st hs hc h:=by
  obtain⟨es,c,h,r⟩:=h;exact⟨es,c,(hc b (.inl rfl) (Array.getElem?_eq_some_iff.1 h).1).trans h,r⟩
theorem As.gmb{κ:Type}{enc:κ→Value}{b:Nat}{l:List (κ × Value)}{k:κ}{z:Int}{Z:Nat→Prop}{w:World}(h:(As.zs enc b l k z).ok Z w):J4 enc w b l k z:=h
theorem uY{e T:TypeId}{h:Value}(A:KK P kt enc) (hT:P.underlying T=some (.map kt e)) (F:∀w,(zeroValue e).run P w=.ok h w) (hb:KM enc w b l) (k:κ) :
  ∃(z:Int) (w':World),(Instr.mapEntry T (.map (some b)) (enc k)).run P w=.ok (.tuple #[(ba l k).getD h,.int .i64 z]) w'∧aJ [b] w w'∧J4 enc w' b (bY l k ((ba l k).getD h)) k z:=by
 obtain⟨es,clock,hm,he,hn,W,G⟩:=hb;have B:b<w.heap.size:=(Array.getElem?_eq_some_iff.1 hm).1
 have hlen:es.toList.length=l.length:=by simpa using congrArg List.length he
 cases t:mg l k 0 with
 | none=>
  obtain⟨h1,C⟩:=ig t;refine⟨(clock:Int),_,?_,fX w b (.map (es.push {key:=enc k,val:=h,born:=clock}) (clock+1)),?_⟩
  ·
   rw [h1];simp only [Instr.mapEntry,Sem.run_bind,run_underlying hT,Result.andThen_ok,MapKept.run_getObj_map hm,A.check,A.find l es.toList k w he,t,F,MapKept.run_setObj_map _ hm,Option.getD_none]
   rfl
  rw [h1,C];refine⟨_,_,by first | (simp [B];done) | (simp [B];exact⟨rfl,rfl⟩),⟨by simp [he],by grind [ez],?_,?_⟩,l.length,h,{key:=enc k,val:=h,born:=clock},by simp,?_,rfl⟩
  ·
   grind
  ·
   grind
  grind
 | some p=>
  obtain⟨j,v0⟩:=p;obtain⟨m,h1,C,D,X,_⟩:=gz t
  have I:j=m:=by omega
  subst I
  have J:j<es.size:=by grind
  obtain⟨y,hy⟩:∃y,es[j]?=some y:=⟨_,Array.getElem?_eq_getElem J⟩
  have O:y.key=enc k∧y.val=v0:=by
   have:=congrArg (fun x=>x[j]?) he
   grind
  have Q:(((es[j]?).map (·.key)).getD (enc k))=enc k:=by rw [hy];exact O.1
  have S:(((es[j]?).map fun x=>(x.born:Int)).getD 0)=(y.born:Int):=by rw [hy];rfl
  refine⟨(y.born:Int),_,?_,fX w b (.map (es.modify j fun e=>{e with key:=enc k}) clock),?_⟩
  ·
   rw [D];simp only [Instr.mapEntry,Sem.run_bind,run_underlying hT,Result.andThen_ok,MapKept.run_getObj_map hm,A.check,A.find l es.toList k w he,t,Instr.keyThatStays,Q,A.same,if_true,Sem.run_pure,MapKept.run_setObj_map _ hm,Option.getD_some,S]
   rfl
  rw [D]
  have V:(es.modify j fun e=>{e with key:=enc k}).toList.map (fun e=>(e.key,e.val))=(l.set j (k,v0)).map (fun p=>(enc p.1,p.2))∧(es.modify j fun e=>{e with key:=enc k}).toList.map (·.born)=es.toList.map (·.born):=by
   constructor
   ·
    apply List.ext_getElem?
    intro i;have hi:=congrArg (fun x=>x[i]?) he
    grind
   apply List.ext_getElem?
   grind
  refine⟨_,_,by first | (simp [B];done) | (simp [B];exact⟨rfl,rfl⟩),⟨by grind,ez hn k _,?_,by rw [V.2];exact G⟩,j,v0,{y with key:=enc k},?_,?_,rfl⟩
  ·
   intro x t
   have:x.born∈(es.modify j fun e=>{e with key:=enc k}).toList.map (·.born):=List.mem_map.2 ⟨x,t,rfl⟩
   grind
  ·
   grind
  grind
theorem qP{α:Type}:∀{l:List α},l.Nodup→∀{i j:Nat}{x:α},l[i]?=some x→l[j]?=some x→i=j:=fun {l} h {i j x} h1 A=>by
 obtain⟨hi,e1⟩:=List.getElem?_eq_some_iff.1 h1;obtain⟨t,e2⟩:=List.getElem?_eq_some_iff.1 A
 rcases Nat.lt_trichotomy i j with g | g | g
 ·
  exact absurd (e1.trans e2.symm) (List.pairwise_iff_getElem.1 h i j hi t g)
 ·
  exact g
 exact absurd (e2.trans e1.symm) (List.pairwise_iff_getElem.1 h j i t hi g)
theorem qQ{T:TypeId}{k:κ}{z:Int}(hb:J4 enc w b l k z) (v:Value) :
  ∃w':World,(Instr.entryStore T (.map (some b)) (.int .i64 z) v).run P w=.ok () w'∧aJ [b] w w'∧KM enc w' b (bY l k v):=by
 obtain⟨es,clock,hm,⟨he,hn,Y,I⟩,j,v0,y,C,hy,J⟩:=hb;have D:b<w.heap.size:=(Array.getElem?_eq_some_iff.1 hm).1;have O:j<es.size:=(Array.getElem?_eq_some_iff.1 hy).1
 have Q:es.findIdx? (fun e=>(e.born:Int) == z)=some j:=by
  rw [Array.findIdx?_eq_some_iff_getElem]
  have S:es[j]=y:=by grind
  refine⟨O,by rw [S];simpa using J,fun i hi=>?_⟩
  have Dp:(es[i]'(by omega)).born≠y.born:=fun e=>by
   have h1:(es.toList.map (·.born))[i]?=some y.born:=by grind
   have A:(es.toList.map (·.born))[j]?=some y.born:=by simp [hy]
   grind [qP]
  grind
 have V:∃(h:Nat),mg l k 0=some (h,v0)∧h=j:=by
  cases t:mg l k 0 with
  | none=>
   have h1:=(ig t).1;exact absurd (List.mem_map.2 ⟨(k,v0),List.mem_of_getElem? C,rfl⟩) (tn.1 h1)
  | some p=>
   obtain⟨h,v1⟩:=p;obtain⟨m,h1,A,_⟩:=gz t
   have F:(l.map (·.1))[m]?=some k:=by rw [List.getElem?_map,A];rfl
   have B:(l.map (·.1))[j]?=some k:=by rw [List.getElem?_map,C];rfl
   have h5:=qP hn F B
   grind
 obtain⟨h,t,W⟩:=V;subst W;obtain⟨m,h1,A,F,B,_⟩:=gz t
 have X:h=m:=by omega
 subst X;refine⟨_,?_,fX w b (.map (es.modify h fun e=>{e with val:=v}) clock),?_⟩
 ·
  simp only [Instr.entryStore,Sem.run_bind,Result.andThen_ok,MapKept.run_getObj_map hm,asInt,asIntOf,Sem.run_pure,Q,MapKept.run_setObj_map _ hm]
 have hyk:y.key=enc k:=by
  have:=congrArg (fun x=>x[h]?) he
  grind
 have G:(es.modify h fun e=>{e with val:=v}).toList.map (fun e=>(e.key,e.val))=(l.set h (k,v)).map (fun p=>(enc p.1,p.2))∧(es.modify h fun e=>{e with val:=v}).toList.map (·.born)=es.toList.map (·.born):=by
  constructor
  ·
   apply List.ext_getElem?
   intro i;have hi:=congrArg (fun x=>x[i]?) he
   grind
  apply List.ext_getElem?
  grind
 refine⟨_,_,by first | (simp [D];done) | (simp [D];exact⟨rfl,rfl⟩),by rw [B];exact G.1,ez hn k v,?_,by rw [G.2];exact I⟩;intro x t
 have:x.born∈(es.modify h fun e=>{e with val:=v}).toList.map (·.born):=List.mem_map.2 ⟨x,t,rfl⟩
 grind
variable {n:Nat}{kv:KV}{K:KV→World→Prop}{d:Tmp}{ty:TypeId}{pos:String}{af:Array Edge}{g:Option (Nat × Bool)}{T e:TypeId}
theorem OX.mapEntry{t v:Value}{k:κ}(C:KK P kt enc) (hT:P.underlying T=some (.map kt e)) (D:∀w,(zeroValue e).run P w=.ok t w) (hb:KM enc w b l) (F:(ba l k).getD t=v) {x y:Operand}(A:ev kv x=some (.map (some b))) (hy:ev kv y=some (enc k)) (G:Nat.blt d n=true)
  (h:∀(z:Int) w',aJ [b] w w'→J4 enc w' b (bY l k v) k z→K ((d,.tuple #[v,.int .i64 z])::kv) w'):OX P ⟨some d,.mapEntry T x y,ty,pos,af,g⟩ n kv w K:=by
 obtain⟨z,w',hr,h1,B⟩:=uY C hT D hb k;rw [F] at hr B;refine⟨rfl,G,by simp [known,opers,A,hy],?_⟩
 have I:(execOp (gX kv) ⟨some d,.mapEntry T x y,ty,pos,af,g⟩).run P w=.ok (.value (.tuple #[v,.int .i64 z])) w':=by
  simp only [execOp,aF A,aF hy,Sem.run_bind,hr,Result.andThen_ok];rfl
 rw [I];exact h z _ h1 B
theorem OX.entryStore{k:κ}{z:Int}{v:Value}(hb:J4 enc w b l k z) {x y u:Operand}(t:ev kv x=some (.map (some b))) (hy:ev kv y=some (.int .i64 z)) (hu:ev kv u=some v)
  (h:∀w',aJ [b] w w'→KM enc w' b (bY l k v)→K kv w'):OX P ⟨none,.entryStore T x y u,ty,pos,af,g⟩ n kv w K:=by
 obtain⟨w',hr,h1,A⟩:=qQ (P:=P) (T:=T) hb v;refine⟨rfl,rfl,by simp [known,opers,t,hy,hu],?_⟩
 have B:(execOp (gX kv) ⟨none,.entryStore T x y u,ty,pos,af,g⟩).run P w=.ok .skip w':=by
  simp only [execOp,aF t,aF hy,aF hu,Sem.run_bind,hr,Result.andThen_ok];rfl
 rw [B];exact h _ h1 A
end
section
variable {κ:Type}{enc:κ→Value}{w0 w w':World}{M Z:Nat→Prop}{L:List As}{b:Nat}{l l':List (κ × Value)}{k:κ}{z:Int}
theorem St.OG(h:St w0 M Z w (As.map enc b l::L)) (s:aJ [b] w w') (hm:J4 enc w' b l' k z):St w0 M Z w' (As.zs enc b l' k z::L):=h.i1 (s.p.mono fun x _ t=>by simpa [As.map] using t) hm fun x t=>.inl t
theorem St.OH(h:St w0 M Z w (As.zs enc b l k z::L)) (s:aJ [b] w w') (hm:KM enc w' b l'):St w0 M Z w' (As.map enc b l'::L):=h.i1 (s.p.mono fun x _ t=>by simpa [As.zs] using t) hm fun x t=>.inl t
end
/-! ### a map to owned slices -/
def hP(L:List RE) (k:Key):Option RE:=L.find? fun e=>decide (e.key=k)
def gg(L:List RE) (k:Key):List Key:=((hP L k).map (·.reads)).getD []
def pC(L:List RE) (ml:List (Key × Value)):Prop:=∀k,ba ml k=(hP L k).map fun e=>Value.slice e.a e.n e.c
def ns(bg:Key→List Key) (x y:Key):Key→List Key:=fun z=>if z=x then bg z++[y] else bg z
def rest(L:List RE) (x:Key):List RE:=L.filter fun e=>decide (e.key≠x)
section
variable {L:List RE}{ml:List (Key × Value)}{x y:Key}{e:RE}{a:Option Addr}{n c:Nat}{v:Value}
theorem tQ(h:hP L x=some e):e∈L∧e.key=x:=by grind [hP]
theorem pC.nil:pC [] []:=fun _=>rfl
theorem og(h:List Key) (z:Key):hP (⟨x,a,n,c,h⟩::rest L x) z=if z=x then some ⟨x,a,n,c,h⟩ else hP L z:=by
 unfold hP rest
 grind
theorem pC.put(h:pC L ml) (t:List Key):pC (⟨x,a,n,c,t⟩::rest L x) (bY (bY ml x v) x (.slice a n c)):=fun z=>by
 rw [cY,og]
 by_cases e:x=z
 ·
  subst e
  simp
 rw [if_neg e,if_neg fun h=>e h.symm,cY,if_neg e];exact h z
theorem Eb(z:Key):gg (⟨x,a,n,c,gg L x++[y]⟩::rest L x) z=ns (gg L) x y z:=by
 unfold ns
 by_cases h:z=x
 ·
  subst h;rw [if_pos rfl]
  show((hP _ z).map _).getD []=_
  rw [og,if_pos rfl]
  rfl
 rw [if_neg h]
 show((hP _ z).map _).getD []=((hP L z).map _).getD []
 rw [og,if_neg h]
theorem GR:gg (⟨x,a,n,c,gg L x++[y]⟩::rest L x)=ns (gg L) x y:=funext Eb
theorem zt(h:(L.map (·.key)).Nodup) (t:List Key):(((⟨x,a,n,c,t⟩:RE)::rest L x).map (·.key)).Nodup:=by
 rw [List.map_cons,List.nodup_cons];refine⟨fun A=>?_,((List.filter_sublist (l:=L)).map (·.key)).nodup h⟩;obtain⟨e,he,B⟩:=List.mem_map.1 A
 have:=(List.mem_filter.1 he).2
 simp at this
 exact this B
theorem tR:∀{L:List RE},(L.map (·.key)).Nodup→hP L x=some e→L.Perm (e::rest L x)
 | [],_,h=>by cases h
 | q::L,hn,h=>by
  rw [List.map_cons,List.nodup_cons] at hn
  unfold hP at h
  by_cases t:q.key=x
  ·
   rw [List.find?_cons_of_pos (by simpa using t)] at h
   cases h
   have:rest (e::L) x=L:=by
    unfold rest
    simp_all
   rw [this]
  rw [List.find?_cons_of_neg (by simpa using t)] at h
  have A:rest (q::L) x=q::rest L x:=by
   unfold rest
   grind
  rw [A];exact((tR hn.2 h).cons q).trans (.swap _ _ _)
variable {w0 w:World}{M Z:Nat→Prop}{l:List As}{EK:Nat}
theorem St.OI(hn:(L.map (·.key)).Nodup) (hm:pC L ml) (x:Key) (h:St w0 M Z w (As.many (L.map (RE.as EK))::l)):∃(a:Option Addr) (n c:Nat),(ba ml x).getD (.slice none 0 0)=.slice a n c∧St w0 M Z w (As.os RR.key EK 2 a n c (gg L x)::As.many ((rest L x).map (RE.as EK))::l):=by
 cases t:hP L x with
 | none=>
  refine⟨none,0,0,by rw [hm x,t];rfl,?_⟩
  have e1:gg L x=[]:=by unfold gg;rw [t];rfl
  have e2:rest L x=L:=by
   unfold rest
   rw [List.filter_eq_self];intro e he
   have:=List.find?_eq_none.1 t e he
   simpa using this
  rw [e1,e2];exact h.fY _ _ _
 | some e=>
  refine⟨e.a,e.n,e.c,by rw [hm x,t];rfl,?_⟩
  have e1:gg L x=e.reads:=by unfold gg;rw [t];rfl
  rw [e1];exact(St.Oq ((tR hn t).map (RE.as EK)) h).GK
theorem St.UA{t:List Key}(h:St w0 M Z w (As.os RR.key EK 2 a n c t::As.many ((rest L x).map (RE.as EK))::l)):St w0 M Z w (As.many (((⟨x,a,n,c,t⟩:RE)::rest L x).map (RE.as EK))::l):=h.JT
def UB(L:List RE):FZ where
 p Z w:=∀e∈L,Rd RR.key 2 Z w e.a e.n e.c e.reads
 mono hZ h:=fun e he=>(h e he).mono hZ
 st hs hc h:=fun e he=>(h e he).st hs hc
theorem St.bkF(hl:∀e∈L,e.reads.length≤140737488355328) (h:St w0 M Z w (As.many (L.map (RE.as EK))::l)):St w0 M (fun x=>Z x∨(As.many (L.map (RE.as EK))).fp x) w (As.fz (UB L)::l):=by
 have hm:(As.many (L.map (RE.as EK))).ok Z w:=h.ok _ M0
 refine h.freeze (B:=As.fz (UB L)) (fun e he=>?_) fun x t=>t
 have A:Ow RR.key EK 2 Z w e.a e.n e.c e.reads:=As.gs (hm.2 _ (List.mem_map_of_mem (f:=RE.as EK) he))
 exact(A.rd (hl e he)).mono fun x t=>t.imp id fun t=>⟨_,List.mem_map_of_mem (f:=RE.as EK) he,t⟩
theorem pC.read(hm:pC L ml) (t:(UB L).p Z w) (x:Key):∃(a:Option Addr) (n c:Nat),(ba ml x).getD (.slice none 0 0)=.slice a n c∧Rd RR.key 2 Z w a n c (gg L x):=by
 cases h:hP L x with
 | none=>
  refine⟨none,0,0,by rw [hm x,h];rfl,?_⟩
  grind [gg,Rd.nil]
 | some e=>
  refine⟨e.a,e.n,e.c,by rw [hm x,h];rfl,?_⟩
  have e1:gg L x=e.reads:=by unfold gg;rw [h];rfl
  rw [e1];exact t e (tQ h).1
theorem Ec(hn:(L.map (·.key)).Nodup) (he:e∈L):gg L e.key=e.reads:=by
 have:hP L e.key=some e:=by
  cases h:hP L e.key with
  | none=>
   have:=List.find?_eq_none.1 h e he
   simp at this
  | some q=>
   obtain⟨h1,A⟩:=tQ h;obtain⟨i,hi⟩:=List.mem_iff_getElem?.1 h1;obtain⟨j,t⟩:=List.mem_iff_getElem?.1 he
   have g1:(L.map (·.key))[i]?=some e.key:=by grind
   have g2:(L.map (·.key))[j]?=some e.key:=by rw [List.getElem?_map,t];rfl
   grind [qP]
 unfold gg
 rw [this]
 rfl
end
/-! ### a search there and back -/
section
variable {l:List Rec}{rev:Int}{k:Key}{bg:Key→List Key}{L:List Key}{i q:Nat}{x y:Key}
structure pD (l:List Rec) (rev:Int) (k:Key) (bg:Key→List Key) (L:List Key) (i q:Nat):Prop where
 i6:L.Nodup
 mem:k∈L
 sub:∀x∈L,x=k∨bu l rev k x
 cl:∀j y,j<i→L[j]?=some y→∀x,Ld l rev y x→x∈L∧y∈bg x
 cur:∀y,L[i]?=some y→∀x∈(aD l y).reads.take q,bD l rev x=true→x∈L∧y∈bg x
 bk:∀x y,y∈bg x→y∈L∧Ld l rev y x
 len:∀x,(bg x).length≤4000*i+q
theorem pD.start(h:∀x,bg x=[]):pD l rev k bg [k] 0 0:=
 ⟨by simp,by simp,by simp,fun j y h=>by omega,fun y _ x t=>by simp at t,fun x y hy=>(by rw [h] at hy;cases hy),fun x=>by rw [h];simp⟩
theorem pD.op(h:pD l rev k bg L i q) (t:bD l rev k=true) (A:x∈L):bD l rev x=true:=by
 rcases h.sub x A with rfl | h1
 ·
  exact t
 exact h1.eQ
theorem pD.le(h:pD l rev k bg L i q) (t:bD l rev k=true):L.length≤l.length:=by
 have:=eM h.i6 fun x A=>kL (h.op t A)
 simpa using this
theorem pD.skip(h:pD l rev k bg L i q) (hy:L[i]?=some y) (B:(aD l y).reads[q]?=some x) (C:bD l rev x=false):pD l rev k bg L i (q+1):=
 {h with
  cur:=fun G A D F t=>by
   rw [hy] at A
   cases A
   rcases kR B F with h1 | rfl
   ·
    exact h.cur y hy D h1 t
   rw [C] at t;cases t
  len:=fun x=>by have:=h.len x;omega}
theorem nt{z u:Key}(h:u∈bg z):u∈ns bg x y z:=by grind [ns]
theorem tS:y∈ns bg x y x:=by unfold ns;simp
theorem qR{z u:Key}(h:u∈ns bg x y z):u∈bg z∨(z=x∧u=y):=by grind [ns]
theorem xn(z:Key):(ns bg x y z).length≤(bg z).length+1:=by
 unfold ns
 split <;> simp
theorem pD.nT(h:pD l rev k bg L i q) (hy:L[i]?=some y) (C:(aD l y).reads[q]?=some x) (F:bD l rev x=true) (hm:x∈L):pD l rev k (ns bg x y) L i (q+1):=
 {h with
  cl:=fun j B D t A hl=>⟨(h.cl j B D t A hl).1,nt (h.cl j B D t A hl).2⟩
  cur:=fun B t A G I=>by
   rw [hy] at t
   cases t
   rcases kR C G with h1 | rfl
   ·
    have:=h.cur y hy A h1 I
    grind [nt]
   exact⟨hm,tS⟩
  bk:=fun z u hu=>by
   rcases qR hu with h1 | ⟨rfl,rfl⟩
   ·
    exact h.bk z u h1
   exact⟨List.mem_of_getElem? hy,List.mem_of_getElem? C,F⟩
  len:=fun z=>by have:=h.len z;grind [xn]}
theorem pD.new(h:pD l rev k bg L i q) (hy:L[i]?=some y) (C:(aD l y).reads[q]?=some x) (J:bD l rev x=true) (hm:x∉L):pD l rev k (ns bg x y) (L++[x]) i (q+1):=by
 have S:i<L.length:=(List.getElem?_eq_some_iff.1 hy).1;have D:Ld l rev y x:=⟨List.mem_of_getElem? C,J⟩
 have nT:∀{j z},j≤i→(L++[x])[j]?=some z→L[j]?=some z:=fun F V=>by grind
 refine⟨by grind [i6],by simp [h.mem],fun z t=>?_,fun j G F A B hl=>?_,fun G A B O Q=>?_,fun z u hu=>?_,fun z=>?_⟩
 ·
  rcases List.mem_append.1 t with t | t
  ·
   exact h.sub z t
  rw [List.mem_singleton] at t;subst t
  rcases h.sub y (List.mem_of_getElem? hy) with rfl | h1
  ·
   exact .inr (.one D)
  exact .inr (.step h1 D)
 ·
  have h1:=h.cl j G F (nT (by omega) A) B hl
  grind [nt]
 ·
  have I:=nT (Nat.le_refl _) A;rw [hy] at I
  cases I
  rcases kR C O with h1 | rfl
  ·
   have:=h.cur y hy B h1 Q
   grind [nt]
  exact⟨by simp,tS⟩
 ·
  rcases qR hu with h1 | ⟨rfl,rfl⟩
  ·
   have:=h.bk z u h1
   grind
  grind
 have:=h.len z
 grind [xn]
theorem pD.next(h:pD l rev k bg L i q) (hy:L[i]?=some y) (B:(aD l y).reads.length≤q) (F:q≤4000):pD l rev k bg L (i+1) 0:=
 {h with
  cl:=fun j C G t A hl=>by
   rcases Nat.lt_or_ge j i with h1 | h1
   ·
    exact h.cl j C h1 t A hl
   have e:j=i:=by omega
   subst e;rw [hy] at t
   cases t
   exact h.cur y hy A (by rw [List.take_of_length_le B];exact hl.1) hl.2
  cur:=fun _ _ x D=>by simp at D
  len:=fun x=>by have:=h.len x;omega}
theorem pD.done(h:pD l rev k bg L i q) (hi:L.length≤i) (x:Key):x∈L↔x=k∨bu l rev k x:=by
 have t:∀y∈L,∀x,Ld l rev y x→x∈L∧y∈bg x:=fun y hy x hl=>by
  obtain⟨j,A⟩:=List.mem_iff_getElem?.1 hy
  have:=(List.getElem?_eq_some_iff.1 A).1
  exact h.cl j y (by omega) A x hl
 refine⟨h.sub x,?_⟩;rintro(rfl | h1)
 ·
  exact h.mem
 induction h1 with
 | one h1=>exact(t _ h.mem _ h1).1
 | step _ B C=>exact(t _ C _ B).1
theorem pD.UC(h:pD l rev k bg L i q) (hi:L.length≤i) (x y:Key):y∈bg x↔(y=k∨bu l rev k y)∧Ld l rev y x:=by
 rw [← h.done hi y];refine⟨h.bk x y,fun⟨h1,A⟩=>?_⟩;obtain⟨j,t⟩:=List.mem_iff_getElem?.1 h1
 have:=(List.getElem?_eq_some_iff.1 t).1
 exact(h.cl j y (by omega) t x A).2
structure tT (l:List Rec) (rev:Int) (k:Key) (bg:Key→List Key) (L:List Key) (i q:Nat):Prop where
 i6:L.Nodup
 mem:k∈L
 sub:∀x∈L,x=k∨tM l rev k x
 cl:∀j y,j<i→L[j]?=some y→∀x∈bg y,x∈L
 cur:∀y,L[i]?=some y→∀x∈(bg y).take q,x∈L
theorem tT.start:tT l rev k bg [k] 0 0:=⟨by simp,by simp,by simp,fun j y h=>by omega,fun y _ x t=>by simp at t⟩
theorem tT.le(h:tT l rev k bg L i q) (t:bD l rev k=true):L.length≤l.length:=by
 have:=eM h.i6 fun x A=>kL (l:=l) (rev:=rev) (by
  rcases h.sub x A with rfl | h1
  ·
   exact t
  exact h1.eQ)
 simpa using this
theorem tT.has(h:tT l rev k bg L i q) (hy:L[i]?=some y) (A:(bg y)[q]?=some x) (hm:x∈L):tT l rev k bg L i (q+1):=
 {h with
  cur:=fun D t B C=>by
   rw [hy] at t
   cases t
   rcases kR A C with h1 | rfl
   ·
    exact h.cur y hy B h1
   exact hm}
theorem tT.add(h:tT l rev k bg L i q) (Q:∀x y,y∈bg x↔(y=k∨bu l rev k y)∧Ld l rev y x) (hy:L[i]?=some y) (G:(bg y)[q]?=some x) (hm:x∉L):tT l rev k bg (L++[x]) i (q+1):=by
 have W:i<L.length:=(List.getElem?_eq_some_iff.1 hy).1;obtain⟨h1,A⟩:=(Q y x).1 (List.mem_of_getElem? G)
 have S:bu l rev k x:=by grind [mem]
 have V:bu l rev x k:=by
  rcases h.sub y (List.mem_of_getElem? hy) with rfl | B
  ·
   exact .one A
  exact(bu.one A).trans B.2
 have nT:∀{j z},j≤i→(L++[x])[j]?=some z→L[j]?=some z:=fun I A=>by grind
 refine⟨by grind [i6],by simp [h.mem],fun z t=>?_,fun j J I C D F=>by simp [h.cl j J I (nT (by omega) C) D F],fun J C D F=>?_⟩
 ·
  rcases List.mem_append.1 t with t | t
  ·
   exact h.sub z t
  rw [List.mem_singleton] at t;subst t;exact .inr ⟨S,V⟩
 have O:=nT (Nat.le_refl _) C;rw [hy] at O
 cases O
 rcases kR G F with B | rfl
 ·
  simp [h.cur y hy D B]
 simp
theorem tT.next(h:tT l rev k bg L i q) (hy:L[i]?=some y) (F:(bg y).length≤q):tT l rev k bg L (i+1) 0:=
 {h with
  cl:=fun j B G t A C=>by
   rcases Nat.lt_or_ge j i with h1 | h1
   ·
    exact h.cl j B h1 t A C
   have e:j=i:=by omega
   subst e;rw [hy] at t
   cases t
   exact h.cur y hy A (by grind [List.take_of_length_le])
  cur:=fun _ _ x D=>by simp at D}
theorem tT.done(h:tT l rev k bg L i q) (D:bD l rev k=true) (F:∀x y,y∈bg x↔(y=k∨bu l rev k y)∧Ld l rev y x) (hi:L.length≤i) (x:Key):x∈L↔x∈aB l rev k:=by
 have G:∀y∈L,∀x∈bg y,x∈L:=fun y hy x t=>by
  obtain⟨j,C⟩:=List.mem_iff_getElem?.1 hy
  have:=(List.getElem?_eq_some_iff.1 C).1
  exact h.cl j y (by omega) C x t
 rw [cj]
 constructor
 ·
  intro t
  exact(h.sub x t).imp id fun h1=>⟨D,h1⟩
 rintro(rfl | ⟨_,h1,A⟩)
 ·
  exact h.mem
 have key:∀{x y:Key},bu l rev x y→(x=k∨bu l rev k x)→y∈L→x∈L:=by
  intro x y A h1
  induction A with
  | one B=>grind
  | step B I J=>
   refine fun hy=>J (G _ hy _ ((F _ _).2 ⟨.inr ?_,I⟩))
   rcases h1 with rfl | h1
   ·
    exact B
   exact h1.trans B
 exact key A (.inr h1) h.mem
theorem tT.group(h:tT l rev k bg L i q) (t:bD l rev k=true) (A:∀x y,y∈bg x↔(y=k∨bu l rev k y)∧Ld l rev y x) (hi:L.length≤i) {L':List Key}(B:JV L') (C:L'.Perm L):L'=aB l rev k:=
 zo B (oe _ _ _) fun x=>(C.mem_iff).trans (h.done t A hi x)
end
/-! ### what has changed, and why a key would be run -/
section
variable {val:Key→ByteArray}{x:cI}{k:Key}{r:Rec}
theorem J5(hi:aw k=true):aQ val x k=(bw x.ab k).changed:=by unfold aQ;rw [if_pos hi]
theorem J6(hi:aw k=false) (h:ay x.ah k=none):aQ val x k=x.ad:=by grind [aQ]
theorem J7(hi:aw k=false) (h:ay x.ah k=some r) (t:r.aq=x.ad):aQ val x k=r.changed:=by grind [aQ,aS]
theorem Bm(hi:aw k=false) (h:ay x.ah k=some r) (t:¬r.aq=x.ad):aQ val x k=if val k=r.value then r.changed else x.ad:=by
 unfold aQ
 rw [hi,aS h,h]
 grind
def Bn(val:Key→ByteArray) (x:cI) (c:nf):Bool:=decide ((aD x.ah c.eP).aq<aQ val x c.read)
noncomputable def fo(val:Key→ByteArray) (x:cI) (k:Key):Int × Key:=
 if (aw k || aI x k)=true then (0,aW)
 else match ay x.ah k with
  | none=>(1,aW)
  | some r=>if r.bq=true then (3,aW) else
   match (bU x.ah (aB x.ah x.ad k)).find? (Bn val x) with
   | none=>(0,aW)
   | some c=>(if c.eP=k then 2 else 3,c.read)
def ia(p:Int × Key):List Value:=[.int .i64 p.1,.int .i64 p.2.kind,.string p.2.text]
theorem zu(h:(aw k || aI x k)=true):fo val x k=(0,aW):=by unfold fo;rw [if_pos h]
theorem J8(h:(aw k || aI x k)=false) (t:ay x.ah k=none):fo val x k=(1,aW):=by unfold fo;rw [if_neg (by rw [h];simp),t]
theorem Cj(h:(aw k || aI x k)=false) (t:ay x.ah k=some r) (A:r.bq=true):fo val x k=(3,aW):=by
 unfold fo
 grind
theorem Ed(h:(aw k || aI x k)=false) (t:ay x.ah k=some r) (A:r.bq=false) (hn:∀j c,j<(bU x.ah (aB x.ah x.ad k)).length→(bU x.ah (aB x.ah x.ad k))[j]?=some c→Bn val x c=false):fo val x k=(0,aW):=by
 unfold fo
 rw [if_neg (by rw [h];simp),t]
 simp only
 rw [if_neg (by rw [A];simp),mU (Nat.le_refl _) hn]
theorem GS(h:(aw k || aI x k)=false) (t:ay x.ah k=some r) (A:r.bq=false) {q:Nat}{c:nf}(hc:(bU x.ah (aB x.ah x.ad k))[q]?=some c) (hn:∀j c,j<q→(bU x.ah (aB x.ah x.ad k))[j]?=some c→Bn val x c=false) (B:Bn val x c=true):fo val x k=(if c.eP=k then 2 else 3,c.read):=by
 obtain⟨h1,rfl⟩:=List.getElem?_eq_some_iff.1 hc
 unfold fo
 rw [if_neg (by rw [h];simp),t]
 simp only
 rw [if_neg (by rw [A];simp),gN h1 hn B]
def KR(aa:List az) (l:List Rec):Prop:=∀r∈l,eU aa r.key∧aw r.key=false∧∀a∈r.reads,eU aa a
theorem KR.UD{aa:List az}{l:List Rec}(h:KR aa l):∀r∈l,eC r.key:=fun r hr=>(h r hr).1.eC
theorem KR.aC{aa:List az}{l:List Rec}(h:KR aa l) (hi:aw k=true):ay l k=none:=by
 cases t:ay l k with
 | none=>rfl
 | some r=>
  obtain⟨h1,A⟩:=aT t
  have:=(h r h1).2.1
  grind
theorem GU{l:List Rec}{rev:Int}(t:ay l k=some r):∀m∈aB l rev k,∃q,ay l m=some q:=fun m hm=>by
 rcases cj.1 hm with rfl | ⟨_,h⟩
 ·
  exact⟨r,t⟩
 obtain⟨q,A,_⟩:=bK.1 h.eQ;exact⟨q,A⟩
theorem Ck{l:List Rec}(hr:∀r∈l,r.reads.length≤4000) {group:List Key}(h:group.length≤4001) (i:Nat):((group.take i).flatMap fun m=>cp group m (aD l m).reads).length≤100000000:=by
 have h1:∀s:List Key,(s.flatMap fun m=>cp group m (aD l m).reads).length≤s.length*4000:=by
  intro s
  induction s with
  | nil=>simp
  | cons m s t=>
   simp only [List.flatMap_cons,List.length_append,List.length_cons];have A:=hW group m (aD l m).reads
   have B:(aD l m).reads.length≤4000:=by
    cases C:ay l m with
    | none=>grind [aD,lN]
    | some r=>grind [aS,aT]
   rw [Nat.add_mul]
   omega
 grind
end
end Go.Rc

namespace Go.Rc
open Go
theorem kS(n:ca):∀l:List ca,(et n l false).find? (fun x=>x.key == n.key)=some n
 | []=>by simp [et]
 | x::xs=>by
  by_cases h:0≤bm x.key n.key
  ·
   simp [et,h]
  have h0:¬bm x.key n.key=0:=by omega
  have t:(x.key == n.key)=false:=by
   rw [beq_eq_false_iff_ne];intro e;rw [e,gF] at h0;exact h0 rfl
  have:=kS n xs
  simp [et,h,h0,t,this]
theorem kT(n:ca) (l:List ca):bw (et n l false) n.key=n:=by grind [bw,kS]
structure OJ (x:cI) (l:List Change) (y:cI):Prop where
 same:∀k,(∀c∈l,c.key≠k)→bw y.ab k=bw x.ab k
 how:(y.ad=x.ad∧y.ab=x.ab)∨(y.ad=x.ad+1∧∀k,bw y.ab k=bw x.ab k∨(bw y.ab k).changed=x.ad+1)
theorem OJ.refl(x:cI) (l:List Change):OJ x l x:=⟨fun _ _=>rfl,.inl ⟨rfl,rfl⟩⟩
theorem GV{rev:Int}{l li:List ca}(h:∀k,bw li k=bw l k∨(bw li k).changed=rev) (n:ca) (hn:n.changed=rev) (k:Key):bw (et n li false) k=bw l k∨(bw (et n li false) k).changed=rev:=by
 by_cases e:n.key=k
 ·
  grind [kT]
 rw [od e];exact h k
/-! ### tasks -/
section
variable {aa:List az}{H:Int→List ca}{x b:cI}{cw:List Key}{k:Key}
/-! ### cancelled tasks -/
/-! ### bases of the mill -/
structure LC (aa:List az) (x:cI):Prop where
 lb:LB aa x
 bh:Bh aa x
theorem LC.apply(h:LC aa x) {y:cI}{l:List Change}(t:OJ x l y) (hr:y.ah=x.ah) (h0:x.ad≤y.ad) (h1:y.ad≤1073741824) (A:gZ y.ad y.ab) (B:y.ab.length≤64):LC aa y:=by
 refine⟨h.lb.apply hr h0 h1 A B,?_⟩
 rcases t.how with⟨e1,e2⟩ | ⟨e1,e2⟩
 ·
  obtain⟨C,D,F⟩:=y;simp only at hr e1 e2;subst hr e1 e2;exact h.bh
 exact h.bh.apply hr e1 fun k=>by rw [e1];exact e2 k
theorem LC.S4(t:ao aa) (h:LC aa x) {goals:List Key}(D:∀k∈goals,nW aa k) (F:goals.length≤32):∃(f:Nat) (s':ES),e7 aa x goals=0∧Good aa x.ab ⟨x,[],[],0⟩∧(∀k∈goals,eU aa k)∧cD aa (valOf aa x.ab) f ⟨x,[],[],0⟩ goals=some s'∧s'.cw.length≤1000000∧LC aa (s'.base x)∧(s'.base x).ad=x.ad∧s'.e=0∧s'.base x=s'.b∧Wy aa x s'∧(∀k∈goals,aw k=false→aI s'.b k=true)∧∀r∈s'.b.ah,r.aq=s'.b.ad→r.value=valOf aa x.ab r.key:=by
 obtain⟨f,s',h1,A,B,C,G,I,J⟩:=h.lb.S4 t D F;obtain⟨g1,g2,g3,g4,g5,g6⟩:=h.bh.request t A B C
 have e:s'.base x=s'.b:=by unfold ES.base;rw [if_pos g1]
 exact⟨f,s',h1,A,B,C,G,⟨I,by rw [e];exact g2⟩,J,g1,e,g3,g5,g6⟩
theorem LC.nil(aa:List az) (y:cI) (hr:y.ah=[]) (h0:0≤y.ad) (h1:y.ad≤1073741824) (h:gZ y.ad y.ab) (t:y.ab.length≤64):LC aa y:=by
 refine⟨LB.nil y hr h0 h1 h t,?_⟩;obtain⟨A,B,C⟩:=y
 grind [Bh.new]
end
/-! ### reasons -/
section
variable {aa:List az}{x y:cI}{k:Key}{s:ES}
end
end Go.Rc

namespace Go.Rc
open Go
structure AO (x:cI) (l:List Change) (y:cI):Prop where
 one:∀c,l=[c]→(bw x.ab c.key).value≠c.value→x.ad+1≤1073741824→y=⟨x.ad+1,et ⟨c.key,c.value,x.ad+1⟩ x.ab false,x.ah⟩
 JZ:∀k,bw y.ab k=bw x.ab k∨(bw y.ab k).value≠(bw x.ab k).value
structure Cl (x:cI) (l:List Change) (i:Nat) (ch:Bool) (li:List ca):Prop where
 one:∀c,l=[c]→(i=0∧ch=false∧li=x.ab)∨(i=1∧((bw x.ab c.key).value=c.value∨(ch=true∧li=et ⟨c.key,c.value,x.ad+1⟩ x.ab false)))
 JZ:∀k,bw li k=bw x.ab k∨(bw li k).value≠(bw x.ab k).value
section
variable {x:cI}{l:List Change}{i:Nat}{ch:Bool}{li:List ca}
theorem Cl.start:Cl x l 0 false x.ab:=⟨fun _ _=>.inl ⟨rfl,rfl,rfl⟩,fun _=>.inl rfl⟩
theorem Cl.skip(h:Cl x l i ch li) (hi:i<l.length) {t:Bool}(h1:l.length=i+1→t=true) (g:(!t || decide ((bw x.ab l[i].key).value=l[i].value))=true):Cl x l (i+1) ch li:=by
 refine⟨fun c e=>?_,h.JZ⟩;subst e
 have h0:i=0:=by simpa using hi
 subst h0;rw [h1 rfl] at g;exact .inr ⟨rfl,.inl (by simpa using g)⟩
theorem Cl.put(h:Cl x l i ch li) (hi:i<l.length) {A:Bool}(g:(!A || decide ((bw x.ab l[i].key).value=l[i].value))=false):Cl x l (i+1) true (et ⟨l[i].key,l[i].value,x.ad+1⟩ li false):=by
 refine⟨fun c e=>?_,fun k=>?_⟩
 ·
  subst e
  have h0:i=0:=by simpa using hi
  subst h0
  rcases h.one c rfl with⟨_,_,e⟩ | ⟨e,_⟩
  ·
   subst e;exact .inr ⟨rfl,.inr ⟨rfl,rfl⟩⟩
  cases e
 by_cases e:l[i].key=k
 ·
  subst e;have t:=kT ⟨l[i].key,l[i].value,x.ad+1⟩ li;simp only at t;rw [t]
  simp at g
  exact .inr fun e=>g.2 e.symm
 rw [od e];exact h.JZ k
theorem Cl.same(h:Cl x l i ch li) (hi:l.length≤i) (hc:ch=false):AO x l x:=by
 refine⟨fun c e t _=>?_,fun _=>.inl rfl⟩;subst e
 rcases h.one c rfl with⟨e,_⟩ | ⟨_,e | ⟨e,_⟩⟩
 ·
  subst e;simp at hi
 ·
  exact absurd e t
 rw [hc] at e;cases e
theorem Cl.done(h:Cl x l i ch li) (hi:l.length≤i):AO x l ⟨x.ad+1,li,x.ah⟩:=by
 refine⟨fun c e t _=>?_,h.JZ⟩;subst e
 rcases h.one c rfl with⟨e,_⟩ | ⟨_,e | ⟨_,e⟩⟩
 ·
  subst e;simp at hi
 ·
  exact absurd e t
 rw [e]
end
end Go.Rc

namespace Go.Rc
open Go
instance:Inhabited Key:=⟨aW⟩
theorem Cm{w w':World}(h:aJ [] w w'):∃q os,w'=Sort.grow (w.drewN q) os:=by
 refine⟨w'.drawn - w.drawn,w'.heap.extract w.heap.size w'.heap.size,?_⟩;obtain⟨B,ht,hu,C,D,hb⟩:=h
 have t:w'.heap=w.heap++w'.heap.extract w.heap.size w'.heap.size:=by grind
 have A:w'.drawn=w.drawn+(w'.drawn - w.drawn):=by omega
 generalize w'.heap.extract w.heap.size w'.heap.size=os at t
 generalize w'.drawn - w.drawn=q at A
 cases w'
 cases w
 simp only at B ht hu t A;subst B ht hu t A
 rfl
section
variable {α:Type} [Inhabited α] {row:α→List Value}{k:Nat}{key:α→Key}
theorem GW:Sort.SWO (Proofs.ltOf fun x y=>bm (key x) (key y)):=by
 refine⟨fun x=>?_,fun x y z h1 h=>?_,fun x y z h1 h=>?_⟩
 ·
  grind [Proofs.ltOf,gF]
 ·
  unfold Proofs.ltOf at *
  rw [decide_eq_true_eq] at *;exact fK h1 h
 grind [Proofs.ltOf,gG,fK,jZ]
theorem uZ(hk:∀x,(row x).length=k) (l:List α):(l.map row).flatten.length=l.length*k:=by
 induction l with
 | nil=>simp
 | cons x r h=>simp only [List.map_cons,List.flatten_cons,List.length_append,List.length_cons,Nat.add_mul,h,hk];omega
theorem xo(hk:∀x,(row x).length=k) (l:List α) (t:Nat) (ht:t<l.length*k):(l.map row).flatten[t]?=some ((row (l.toArray[t / k]!))[t % k]!):=by
 have h0:0<k:=by rcases Nat.eq_zero_or_pos k with h | h;subst h;omega;exact h
 have hi:t / k<l.length:=(Nat.div_lt_iff_lt_mul h0).2 ht
 have hr:(l.map row)[t / k]?=some (row l[t / k]):=by grind
 have e:t=t / k*k+t % k:=by rw [Nat.mul_comm];exact(Nat.div_add_mod t k).symm
 have h1:(l.toArray[t / k]!)=l[t / k]:=by simp [hi]
 rw [h1];have hm:t % k<k:=Nat.mod_lt _ h0
 have h:=kE (l.map row) k (t / k) _ (fun r hr=>by obtain⟨x,_,rfl⟩:=List.mem_map.1 hr;exact hk x) hr (t % k) ((row l[t / k])[t % k]!) (by
  rw [List.getElem?_eq_getElem (by rw [hk];exact hm),getElem!_pos])
 rw [← e] at h;exact h
theorem Cn(hk:∀x,(row x).length=k) {w:World}{b E:Nat}{cur:Array Value}{l:List α}(hb:w.heap[b]?=some (.cells cur E (0,0))) (ht:cur.toList.take (l.length*k)=(l.map row).flatten):Sort.HoldsK row k w b 0 l.toArray:=by
 unfold Sort.HoldsK
 intro j h;rw [Sort.size_flatK,List.size_toArray] at h;have h1:=xo hk l j h;rw [← ht,List.getElem?_take,if_pos h,Array.getElem?_toList] at h1;refine⟨?_,?_⟩
 ·
  unfold World.cell?
  simp only [hb,Nat.zero_add]
  grind [Sort.get_flatK]
 grind [World.frozen?]
theorem GX(hk:∀x,(row x).length=k) {w:World}{b E m:Nat}{os:Array Obj}{cur:Array Value}{l l':List α}(hb:w.heap[b]?=some (.cells cur E (0,0))) (ht:cur.toList.take (l.length*k)=(l.map row).flatten) (hl:l'.length=l.length):∃mf:Array Value,(Proofs.sortWorldK row k w b 0 m l'.toArray os).heap[b]?=some (.cells mf E (0,0))∧mf.size=cur.size∧mf.toList.take (l'.length*k)=(l'.map row).flatten:=by
 have A:b<w.heap.size:=(Array.getElem?_eq_some_iff.1 hb).1;refine⟨Sort.putCells id 0 (Sort.flatK row k l'.toArray) cur,?_,by unfold Sort.putCells;simp,?_⟩
 ·
  unfold Proofs.sortWorldK
  rw [Sort.heap_grow_old _ _ (by grind [Sort.putRowK,Sort.putRow,Sort.mapBlock,Sort.ahead])]
  unfold Sort.putRowK Sort.putRow Sort.mapBlock Sort.ahead
  simp only [Array.getElem?_modify,if_true,hb]
  rfl
 have hlen:l.length*k≤cur.size:=by
  have h1:=congrArg List.length ht;have B:=uZ hk l
  grind
 apply List.ext_getElem?
 intro t
 by_cases h:t<l'.length*k
 ·
  rw [xo hk l' t h,List.getElem?_take,if_pos h,Array.getElem?_toList]
  unfold Sort.putCells
  rw [hl] at h;rw [Array.getElem?_mapIdx,Array.getElem?_eq_getElem (by omega),Option.map_some];rw [if_pos ⟨Nat.zero_le _,by simp_all⟩,Nat.sub_zero,Sort.get_flatK _ _ _ _ (by rw [List.size_toArray,hl];exact h)]
  rfl
 rw [List.getElem?_eq_none (by rw [List.length_take];omega),List.getElem?_eq_none (by rw [uZ hk];omega)]
theorem Ee{w:World}{b m:Nat}{os:Array Obj}{d:Array α}:aJ [b] w (Proofs.sortWorldK row k w b 0 m d os):=by
 refine⟨rfl,rfl,rfl,?_,?_,fun k hk hn=>?_⟩
 ·
  unfold Proofs.sortWorldK Sort.grow Sort.putRowK Sort.putRow Sort.mapBlock Sort.ahead
  simp
 ·
  exact Nat.le_add_right _ _
 unfold Proofs.sortWorldK
 rw [Sort.heap_grow_old _ _ (by grind [Sort.putRowK,Sort.putRow,Sort.mapBlock,Sort.ahead])]
 unfold Sort.putRowK Sort.putRow Sort.mapBlock Sort.ahead
 grind
theorem Co{P:Program}{F g E:Nat}(hk:∀x,(row x).length=k) (h1:∀x,∀v∈row x,v.oneCell'=true) (I:∀(blk cap:Nat) (d:Array α) (w:World),Proofs.CmpLays P g #[] row k (fun x y=>bm (key x) (key y)) blk 0 d.size w→Sort.HoldsK row k w blk 0 d→blk<w.heap.size→d.size<4611686018427387904→Calls P F #[.slice (some ⟨blk,0,none⟩) d.size cap,.func (.func g) #[] #[]] w fun e w'=>e=.returned (.tuple #[])∧∃d' n os,Sort.PermIn 0 d.size d d'∧Sort.SortedIn (Proofs.ltOf fun x y=>bm (key x) (key y)) 0 d.size d'∧w'=Proofs.sortWorldK row k w blk 0 n d' os)
  (hcmp:∀(x y:α) (w:World),Calls P g #[.agg (row x).toArray,.agg (row y).toArray] w fun e w'=>e=.returned (.int .i64 (bm (key x) (key y)))∧aJ [] w w')
  {l:List α}{a:Option Addr}{n c:Nat}{w:World}{M Z:Nat→Prop}(B:St w M Z w [As.os (RR.flat row) E k a n c l]) (h0:l≠[]) (hn:l.length≤1000000):Calls P F #[.slice a n c,.func (.func g) #[] #[]] w fun e w'=>e=.returned (.tuple #[])∧∃l',l'.Perm l∧(l'.Pairwise fun x y=>¬bm (key y) (key x)<0)∧St w M Z w' [As.os (RR.flat row) E k a n c l']:=by
 have J:=As.gs B.g0;obtain⟨t,rows,C7,Nf,O,Q⟩:=id J
 have S:rows=l.map row:=by
  apply List.ext_getElem?
  intro i;rw [List.getElem?_map]
  by_cases hi:i<l.length
  ·
   rw [List.getElem?_eq_getElem (by omega),List.getElem?_eq_getElem hi]
   have:=Q i l[i] rows[i] (List.getElem?_eq_getElem hi) (List.getElem?_eq_getElem (by omega))
   rw [RR.bX this]
   rfl
  grind
 rcases O.cases with⟨g1,g2,_⟩ | ⟨b,cur,rfl,Ng,hb,V,W,X,ht⟩
 ·
  grind
 rw [S,t] at ht;have Y:b<w.heap.size:=(Array.getElem?_eq_some_iff.1 hb).1
 have hc:Proofs.CmpLays P g #[] row k (fun x y=>bm (key x) (key y)) b 0 l.toArray.size w:=fun m os dk _ x y=>(hcmp x y _).mono fun e w' ⟨h1,h2⟩=>⟨h1,Cm h2⟩
 have C:=I b c l.toArray w hc (Cn hk hb ht) Y (by rw [List.size_toArray];omega);rw [List.size_toArray,← t] at C;refine C.mono ?_;rintro e w' ⟨rfl,d',m,os,⟨A,_,hd3⟩,D,rfl⟩;rw [t] at hd3 D
 have A:d'.size=l.length:=by rw [A,List.size_toArray]
 have G:d'.toList.Perm l:=by grind [Array.extract_size]
 obtain⟨l',rfl⟩:∃l':List α,d'=l'.toArray:=⟨d'.toList,by simp⟩
 have hl:l'.length=l.length:=by simpa using A
 simp only at G;obtain⟨mf,g1,g2,g3⟩:=GX hk (m:=m) (os:=os) hb ht hl;refine⟨rfl,l',G,?_,?_⟩
 ·
  rw [List.pairwise_iff_getElem];intro i j hi hj hij;have h1:=D i j (Nat.zero_le _) hij (by omega)
  grind [Proofs.ltOf]
 refine B.mX (w':=Proofs.sortWorldK row k w b 0 m l'.toArray os) (Ee.mono fun x h=>by simpa [bl] using h) ?_ (fun x h=>.inl h);refine⟨by omega,l'.map row,by simp,fun r hr=>by obtain⟨x,_,rfl⟩:=List.mem_map.1 hr;exact hk x,?_,fun i x r h hr=>?_⟩
 ·
  refine⟨fun u hu=>?_,?_,.inr ⟨b,c,mf,rfl,Nat.zero_le _,g1,V,W,by rw [g2];exact X,by grind⟩⟩
  ·
   obtain⟨r,hr,hu⟩:=List.mem_flatten.1 hu;obtain⟨x,_,rfl⟩:=List.mem_map.1 hr;exact h1 x u hu
  rw [uZ hk]
  grind
 rw [List.getElem?_map,h] at hr
 cases hr
 rfl
end
end Go.Rc

namespace Go.Rc
open Go
section
variable {w0 w:World}{M Z:Nat→Prop}{l:List As}
theorem St.g16{A B C D F G I J O Q S V W X Y Iq t:As}(h:St w0 M Z w (A::B::C::D::F::G::I::J::O::Q::S::V::W::X::Y::Iq::t::l)):t.ok Z w:=h.ok _ (by simp)
theorem St.g17{A B C D F G I J O Q S V W X Y Iq Nb t:As}(h:St w0 M Z w (A::B::C::D::F::G::I::J::O::Q::S::V::W::X::Y::Iq::Nb::t::l)):t.ok Z w:=h.ok _ (by simp)
theorem St.g18{A B C D F G I J O Q S V W X Y Iq Nb S3 t:As}(h:St w0 M Z w (A::B::C::D::F::G::I::J::O::Q::S::V::W::X::Y::Iq::Nb::S3::t::l)):t.ok Z w:=h.ok _ (by simp)
theorem St.g19{A B C D F G I J O Q S V W X Y Iq Nb S3 A18 t:As}(h:St w0 M Z w (A::B::C::D::F::G::I::J::O::Q::S::V::W::X::Y::Iq::Nb::S3::A18::t::l)):t.ok Z w:=h.ok _ (by simp)
end
section
variable {α:Type}{R:RR α}{P:Program}{E k n c b i:Nat}{a:Option Addr}{xs:List α}{Z:Nat→Prop}{w:World}
variable {N:Nat}{kv:KV}{K:KV→World→Prop}{ty:TypeId}{pos:String}{af:Array Edge}{g:Option (Nat × Bool)}{T:TypeId}
end
section
variable {p:Rec→Bool}{xs xs1:List Rec}{i j:Nat}{x:Rec}
end
theorem kQ.kr{aa:List az}{x:cI}(h:kQ aa x):KR aa x.ah:=fun r hr=>by
 obtain⟨h1,t,A,_⟩:=h.2.2.2.2.2.1 r hr;exact⟨h1,t,A⟩
theorem kQ.r4{aa:List az}{x:cI}(h:kQ aa x):∀r∈x.ah,r.reads.length≤4000:=fun r hr=>by
 obtain⟨_,_,_,t⟩:=h.2.2.2.2.2.1 r hr
 grind [eG]
section
variable {aa:List az}{x:cI}{s:ES}
end
section
variable {aa:List az}{x y:cI}{s:ES}{kp:List (List Key)}{l:List Key}
end
end Go.Rc

namespace Go.Rc
open Go
section
variable {aa:List az}{x y:cI}{cw:List Key}{k:Key}{r:Rec}
end
end Go.Rc

namespace Go.Rc
open Go
section
variable {val:Key→ByteArray}{x:cI}{i:Nat}{k:Key}{o:List Key}
noncomputable def hh(val:Key→ByteArray) (x:cI) (i:Nat):List Key:=((x.ah.take i).filter fun r=>decide ((fo val x r.key).1≠0)).map (·.key)
noncomputable def mB(val:Key→ByteArray) (x:cI):List Key:=(x.ah.filter fun r=>decide ((fo val x r.key).1≠0)).map (·.key)
theorem xp:hh val x 0=[]:=rfl
theorem zv(val:Key→ByteArray) (x:cI) (i:Nat):(hh val x i).length≤i:=by grind [hh]
theorem zw(hi:i<x.ah.length) (h:(fo val x x.ah[i].key).1≠0):hh val x (i+1)=hh val x i++[x.ah[i].key]:=by
 unfold hh
 rw [List.take_succ_eq_append_getElem hi,List.filter_append,List.map_append,List.filter_cons,if_pos (decide_eq_true h)]
 rfl
theorem Cp(hi:i<x.ah.length) (h:(fo val x x.ah[i].key).1=0):hh val x (i+1)=hh val x i:=by
 unfold hh
 rw [List.take_succ_eq_append_getElem hi,List.filter_append,List.map_append,List.filter_cons,if_neg (by simpa using h)]
 simp
theorem zx(hi:x.ah.length≤i):hh val x i=mB val x:=by grind [hh,mB,List.take_of_length_le]
noncomputable def fM(val:Key→ByteArray) (x:cI):Nat→Key→List Key→List Key
 | 0,_,o=>o
 | n+1,k,o=>if k=aW∨k∈o then o else fM val x n (fo val x k).2 (o++[k])
theorem zy(h:k=aW∨k∈o) (n:Nat):fM val x n k o=o:=by
 cases n with
 | zero=>rfl
 | succ n=>unfold fM;rw [if_pos h]
theorem j3(h:¬(k=aW∨k∈o)) (n:Nat):fM val x (n+1) k o=fM val x n (fo val x k).2 (o++[k]):=by
 rw [fM,if_neg h]
theorem J9(h:(fo val x k).2≠aW):k∈x.ah.map (·.key):=by
 unfold fo at h
 split at h
 ·
  exact absurd rfl h
 split at h
 ·
  exact absurd rfl h
 rename_i r hr
 exact List.mem_map.2 ⟨r,(aT hr).1,(aT hr).2⟩
structure Ef (val:Key→ByteArray) (x:cI) (k0 k:Key) (o:List Key) (n:Nat):Prop where
 i6:o.Nodup
 rcs:k=aW∨∀y∈o,y∈x.ah.map (·.key)
 fuel:o.length+n=x.ah.length+1
 eq:fM val x n k o=fM val x (x.ah.length+1) k0 []
theorem Ef.start:Ef val x k k [] (x.ah.length+1):=⟨.nil,.inr fun y hy=>(by cases hy),by simp,rfl⟩
theorem Ef.pos{k0:Key}{n:Nat}(h:Ef val x k0 k o n) (hk:k≠aW):o.length≤x.ah.length∧0<n:=by
 have h1:=eM h.i6 (h.rcs.resolve_left hk)
 grind [fuel]
theorem Ef.next{k0:Key}{n:Nat}(h:Ef val x k0 k o (n+1)) (hk:k≠aW) (t:k∉o):Ef val x k0 (fo val x k).2 (o++[k]) n:=by
 refine⟨?_,?_,by grind [fuel],by rw [← j3 (fun e=>e.elim hk t)];exact h.eq⟩
 ·
  grind [i6]
 by_cases hb:(fo val x k).2=aW
 ·
  exact .inl hb
 refine .inr fun y hy=>?_
 rcases List.mem_append.1 hy with hy | hy
 ·
  exact h.rcs.resolve_left hk y hy
 grind [J9]
theorem Ef.done{k0:Key}{n:Nat}(h:Ef val x k0 k o n) (t:k=aW∨k∈o):o=fM val x (x.ah.length+1) k0 []:=by
 rw [← h.eq,zy t]
end
end Go.Rc
namespace Go.Rc
open Go
theorem PV.Ka{P:Program}{kv:KV}{w:World}{T ty:TypeId}{f off k:Nat}{fs:List Field}{fd:Field}(hu:P.underlying T=some (.struct fs.toArray)) (t:fs[f]?=some fd) (A:fd.offset=off) (h1:∀w,(isAgg fd.type).run P w=.ok true w) (B:∀w,(sizeOf fd.type).run P w=.ok k w)
  {x:Operand}{us vs:List Value}(h:ev kv x=some (.agg us.toArray)) (C:(us.drop off).take k=vs):PV P (.field T x f) ty kv w (.agg vs.toArray):=by
 subst A
 have D:fs.toArray[f]?=some fd:=by simpa using t
 refine⟨rfl,by simp [known,opers,h],fun _ _ _ _=>?_⟩
 simp [execOp,aF h,Instr.field,run_underlying hu,D,part,h1 w,B w,asAgg]
 exact C
end Go.Rc

namespace Go.Rc
open Go
def r3:az:=⟨false,[],1,3⟩
abbrev K0:Key:=⟨31,itoa ((0:Nat):Int)⟩
abbrev v3:ByteArray:=itoa 3
theorem GY:gQ ⟨0,[],[]⟩:=⟨fun i y h=>by simp at h,fun i r h=>by simp at h,by decide,by decide,by simp,by simp,fun i x h=>by simp at h⟩
theorem OK{aa:List az}:Good aa [] ⟨⟨0,[],[]⟩,[],[],0⟩:=⟨rfl,by simp,by simp,by simp,by simp,fun k=>.inl rfl⟩
abbrev s1:ES:=⟨⟨0,[],[Ur 0 v3]⟩,[],[K0],0⟩
end Go.Rc
namespace Go.Rc
open Go
abbrev v4:ByteArray:=⟨#[52]⟩
end Go.Rc

namespace Go.Rc
open Go
section
variable {P:Program}{kv:KV}{w:World}{T U ty:TypeId}{x y:Operand}
end
end Go.Rc
namespace Go.Rc
open Go
end Go.Rc

namespace Go.Rc
open Go
end Go.Rc

namespace Go.Rc
open Go
abbrev q0:az:=⟨false,[⟨true,false,0,0⟩],1,0⟩
abbrev q1:az:=⟨false,[⟨false,false,0,0⟩],1,0⟩
abbrev Q2:List az:=[q0,q1]
abbrev K1:Key:=⟨31,itoa ((1:Nat):Int)⟩
abbrev C0:Key:=bB ((0:Nat):Int)
theorem Bo:C0=⟨30,⟨#[48]⟩⟩:=by simp [bB,itoa,Lib.itoa,Lib.decDigits]
theorem qS:K0=⟨31,⟨#[48]⟩⟩:=by simp [itoa,Lib.itoa,Lib.decDigits]
theorem tU:K1=⟨31,⟨#[49]⟩⟩:=by simp [itoa,Lib.itoa,Lib.decDigits]
theorem lU:ao Q2:=by
 refine⟨by simp,fun i r h=>?_⟩
 have hi:i=0∨i=1:=by have:=(List.getElem?_eq_some_iff.1 h).1;simp at this;omega
 rcases hi with rfl | rfl
 ·
  simp at h;subst h
  refine⟨by simp,fun k x t=>?_,rfl⟩
  have hk:k=0:=by have:=(List.getElem?_eq_some_iff.1 t).1;simp at this;omega
  subst hk;simp at t;subst t;decide
 simp at h;subst h
 refine⟨by simp,fun k x t=>?_,rfl⟩
 have hk:k=0:=by have:=(List.getElem?_eq_some_iff.1 t).1;simp at this;omega
 subst hk;simp at t;subst t;decide
theorem tV:aH Q2 ((0:Nat):Int)=K0:=by
 unfold aH
 rw [if_neg (by simp)]
 simp [ax]
theorem qT:aH Q2 ((1:Nat):Int)=K1:=by
 unfold aH
 rw [if_neg (by simp)]
 simp [ax]
theorem u0:number K0=((0:Nat):Int):=by rw [← tV];exact bE (by simp) (by omega)
theorem qU:number K1=((1:Nat):Int):=by rw [← qT];exact bE (by simp) (by omega)
theorem Kb:eU Q2 K0:=by rw [← tV];exact .fl (by simp) (by omega)
theorem Eg:eU Q2 K1:=by rw [← qT];exact .fl (by simp) (by omega)
theorem Eh:eh Q2 K1=true:=by
 have h:=qT
 simp [eh,dW,qU] at h ⊢
 exact h
theorem Kc:e7 Q2 ⟨0,[],[]⟩ [K1]=0:=by
 unfold e7
 rw [if_neg (fun h=>h lU),if_neg (fun h=>h GY),if_neg (by simp),if_pos (by simp [Eh])]
theorem t0a:cm Q2 K0 []=⟨false,⟨#[]⟩,C0⟩:=by
 rw [ju (i:=0) u0 (by simp) (by rw [u0];exact tV) (by simp)]
 rfl
theorem t0b(v:ByteArray):cm Q2 K0 [v]=⟨true,itoa (cO 1 0 [bZ v]),aW⟩:=by
 rw [jt (i:=0) u0 (by simp) (by rw [u0];exact tV) (by simp)]
 rfl
theorem t1a:cm Q2 K1 []=⟨false,⟨#[]⟩,K0⟩:=by
 rw [ju (i:=1) qU (by simp) (by rw [qU];exact qT) (by simp)];rw [← tV];rfl
theorem t1b(v:ByteArray):cm Q2 K1 [v]=⟨true,itoa (cO 1 0 [bZ v]),aW⟩:=by
 rw [jt (i:=1) qU (by simp) (by rw [qU];exact qT) (by simp)]
 rfl
abbrev z0:ByteArray:=⟨#[48]⟩
abbrev z5:ByteArray:=⟨#[53]⟩
theorem it0:itoa ((0:Nat):Int)=z0:=by simp [itoa,Lib.itoa,Lib.decDigits]
theorem it5:itoa ((5:Nat):Int)=z5:=by simp [itoa,Lib.itoa,Lib.decDigits]
theorem fv(v:ByteArray) (n:Nat) (h:bZ v=n) (hn:n<1000):itoa (cO 1 0 [bZ v])=itoa n:=by
 rw [h];simp [cO,pq,Nat.mod_eq_of_lt hn]
theorem vs0:bZ z0=0:=by decide
theorem vs5:bZ z5=5:=by decide
theorem vsE:bZ ⟨#[]⟩=0:=by decide
theorem OM{aC:List ca}{n:Nat}(h:bZ (cellOf aC C0)=n) (hn:n<1000):valOf Q2 aC K0=itoa n:=by
 have e:=fI (aC:=aC) lU (i:=0) (by simp);rw [show cH Q2 0=1 from rfl,tV] at e;simp only [dT,List.nil_append] at e;rw [t0a,t0b,iO (by omega),fv _ n h hn] at e
 injection e with _ e2 _
 exact e2.symm
abbrev gU(i:Nat) (a:Key):Rec:=⟨⟨31,itoa (i:Int)⟩,z0,[a],0,0,2,false⟩
abbrev bQ:cI:=⟨0,[],[gU 0 C0,gU 1 K0]⟩
abbrev sQ:ES:=⟨bQ,[],[K0,K1],0⟩
theorem u0a:bC Q2 K0 []=⟨false,⟨#[]⟩,C0⟩:=by unfold bC;rw [if_pos (.inl rfl)];exact t0a
theorem u0b:bC Q2 K0 [⟨#[]⟩]=⟨true,z0,aW⟩:=by unfold bC;rw [if_pos (.inl rfl),t0b,fv _ 0 vsE (by omega),it0]
theorem u1a:bC Q2 K1 []=⟨false,⟨#[]⟩,K0⟩:=by unfold bC;rw [if_pos (.inl rfl)];exact t1a
theorem u1b:bC Q2 K1 [z0]=⟨true,z0,aW⟩:=by unfold bC;rw [if_pos (.inl rfl),t1b,fv _ 0 vs0 (by omega),it0]
theorem GZ:aw C0=true:=aZ (n:=0) (by omega)
theorem G0:aw K0=false:=rfl
theorem UE:aw K1=false:=rfl
theorem Ke:(K0 == K1)=false:=by rw [qS,tU];decide
theorem UF:(K1 == K0)=false:=by rw [qS,tU];decide
theorem kpC(val:Key→ByteArray):dm val ⟨0,[],[]⟩ C0=⟨#[]⟩:=by
 unfold dm dO
 rw [if_neg (by rw [Bo];decide),if_pos GZ]
 rfl
theorem UG:ay [gU 0 C0] K0=some (gU 0 C0):=by simp [ay]
theorem kpK(val:Key→ByteArray):dm val ⟨0,[],[gU 0 C0]⟩ K0=z0:=by
 have h:eO ⟨0,[],[gU 0 C0]⟩ K0=true:=by unfold eO;rw [G0,UG,aS UG];rfl
 unfold dm dO
 rw [if_neg (by rw [qS];decide),if_neg (by rw [G0];simp),if_pos h,aS UG]
theorem UH:cZ ⟨0,[],[]⟩ K0 z0 [C0]=gU 0 C0:=rfl
theorem UI:cZ ⟨0,[],[gU 0 C0]⟩ K1 z0 [K0]=gU 1 K0:=by
 have h:ay [gU 0 C0] K1=none:=by simp only [ay,List.find?_cons];rw [show((gU 0 C0).key == K1)=false from Ke];rfl
 unfold cZ
 simp only [h]
 rfl
theorem UJ:eA [] (gU 0 C0)=[gU 0 C0]:=rfl
theorem UK:eA [gU 0 C0] (gU 1 K0)=[gU 0 C0,gU 1 K0]:=by
 have h:bm K0 K1 = -1:=by rw [qS,tU];decide
 unfold eA
 simp only [dG,h]
 rfl
section
variable {aa:List az}{val:Key→ByteArray}{k c:Key}{z u:ByteArray}{s s':ES}{rs:List Key}{an:List ByteArray}{f:Nat}
theorem Bp(h0:s.e=0) (a1:bC aa k an=⟨false,⟨#[]⟩,c⟩) (hu:hM aa val f s c=some s') (h1:s'.e=0) (e:dm val s'.b c=u):ei aa val (f+1) s k rs an=ei aa val f s' k (rs++[c]) (an++[u]):=by
 rw [ei,if_neg (by rw [h0];simp),a1,if_neg (by simp),hu,Option.bind_some,if_pos h1,e]
theorem Bq(h0:s.e=0) (a1:bC aa k an=⟨true,z,aW⟩) (hn:s.b.ah.length<4000) {r:Rec}{l:List Rec}(m:cZ s.b k z rs=r) (p:eA s.b.ah r=l):ei aa val (f+1) s k rs an=some {s with b:={s.b with ah:=l},cw:=s.cw++[k]}:=by
 rw [ei,if_neg (by rw [h0];simp),a1,if_pos rfl,if_neg (by simp;omega),m,p]
theorem Kf(h:aw k=true):hM aa val (f+1) s k=some s:=by rw [hM,if_pos (.inr h)]
theorem Ei(h0:s.e=0) (hi:aw k=false) (h:ay s.b.ah k=none) (t:s.on k=false) (hr:ei aa val (f+1) {s with busy:=bY s.busy k (.bool true)} k [] []=some s'):hM aa val (f+2) s k=some {s' with busy:=fF s'.busy k}:=by
 have A:aI s.b k=false:=by unfold aI;rw [h];rfl
 rw [hM,if_neg (by rw [h0,hi];simp),if_neg (by rw [A];simp),if_neg (by rw [t];simp),cc,if_neg (by simp [h0]),if_pos (by simp [h]),Option.bind_some,if_pos rfl,hr,Option.bind_some]
end
theorem UL{aa:List az}{val:Key→ByteArray}{k0 k1 c:Key}{z u:ByteArray}{r0 r1:Rec}(a1:bC aa k0 []=⟨false,⟨#[]⟩,c⟩) (a2:bC aa k0 [u]=⟨true,z,aW⟩) (a3:bC aa k1 []=⟨false,⟨#[]⟩,k0⟩) (a4:bC aa k1 [z]=⟨true,z,aW⟩)
  (i0:aw c=true) (A:aw k0=false) (i2:aw k1=false) (e1:dm val ⟨0,[],[]⟩ c=u) (e2:dm val ⟨0,[],[r0]⟩ k0=z) (m0:cZ ⟨0,[],[]⟩ k0 z [c]=r0) (m1:cZ ⟨0,[],[r0]⟩ k1 z [k0]=r1)
  (p0:eA [] r0=[r0]) (p1:eA [r0] r1=[r0,r1]) (f1:ay [r0] k1=none) (t:¬k1=k0):cD aa val 10 ⟨⟨0,[],[]⟩,[],[],0⟩ [k1]=some ⟨⟨0,[],[r0,r1]⟩,[],[k0,k1],0⟩:=by
 have h0:hM aa val 8 ⟨⟨0,[],[]⟩,[(k1,.bool true)],[],0⟩ k0=some ⟨⟨0,[],[r0]⟩,[(k1,.bool true)],[k0],0⟩:=by
  have h:=(Bp (rs:=[]) (an:=[]) (s:=⟨⟨0,[],[]⟩,bY [(k1,.bool true)] k0 (.bool true),[],0⟩) (f:=6) rfl a1 (Kf i0) rfl e1).trans (Bq rfl a2 (by simp) m0 p0);rw [Ei (f:=6) (s':=_) rfl A rfl (by simp [ES.on,ba,t]) h]
  simp [bY,fF,t]
 have h1:hM aa val 10 ⟨⟨0,[],[]⟩,[],[],0⟩ k1=some ⟨⟨0,[],[r0,r1]⟩,[],[k0,k1],0⟩:=by
  have h:=(Bp (rs:=[]) (an:=[]) (s:=⟨⟨0,[],[]⟩,[(k1,.bool true)],[],0⟩) (f:=8) rfl a3 h0 rfl e2).trans (Bq rfl a4 (by simp) m1 p1);rw [Ei (f:=8) (s':=_) rfl i2 rfl rfl h]
  simp [fF]
 simp only [cD,h1,Option.bind_some]
theorem OO(val:Key→ByteArray):cD Q2 val 10 ⟨⟨0,[],[]⟩,[],[],0⟩ [K1]=some sQ:=
 UL u0a u0b u1a u1b GZ G0 UE (kpC val) (kpK val) UH UI UJ UK (by simp only [ay,List.find?_cons];rw [show((gU 0 C0).key == K1)=false from Ke];rfl) (by have:=UF;simpa using this)
end Go.Rc

namespace Go.Rc
open Go
section
variable {val:Key→ByteArray}{x:cI}{k a:Key}{r:Rec}
theorem xr(hc:aA k=false) (hi:aw k=false) (h:ay x.ah k=some r) (t:r.bq=false) (hr:r.reads=[a]) (A:a≠k) (B:r.aq≠x.ad) (C:r.aq<aQ val x a):fo val x k=(2,a):=by
 have hu:aI x k=false:=by unfold aI;rw [h,aS h];simp [B]
 have D:bU x.ah (aB x.ah x.ad k)=[⟨k,a⟩]:=by
  rw [gS hc]
  simp [bU,cp,aS h,hr,A]
 unfold fo
 rw [hi,hu,h,D]
 have F:Bn val x ⟨k,a⟩=true:=by unfold Bn;rw [aS h];exact decide_eq_true C
 simp [t,F]
end
abbrev iQ:List ca:=[⟨C0,z5,1⟩]
abbrev yQ:cI:=⟨1,iQ,[gU 0 C0,gU 1 K0]⟩
theorem nC0:C0≠aW:=by rw [Bo];decide
theorem nK0:K0≠aW:=by rw [qS];decide
theorem nK1:K1≠aW:=by rw [tU];decide
theorem OP:C0≠K0:=by rw [Bo,qS];decide
theorem UM:C0≠K1:=by rw [Bo,tU];decide
theorem OQ:K0≠K1:=by rw [qS,tU];decide
theorem fC:bw iQ C0=⟨C0,z5,1⟩:=by unfold bw;rw [List.find?_cons];simp
theorem v0:valOf Q2 iQ K0=z5:=by rw [OM (n:=5) (by unfold cellOf;rw [fC];exact vs5) (by omega),it5]
theorem f0:ay yQ.ah K0=some (gU 0 C0):=by simp [ay]
theorem f1:ay yQ.ah K1=some (gU 1 K0):=by simp only [ay,List.find?_cons];rw [show((gU 0 C0).key == K1)=false from Ke,show((gU 1 K0).key == K1)=true from beq_self_eq_true K1]
theorem cC:aQ (valOf Q2 iQ) yQ C0=1:=by unfold aQ;rw [if_pos GZ,fC]
theorem cK:aQ (valOf Q2 iQ) yQ K0=1:=by
 unfold aQ
 rw [if_neg (by rw [G0];simp),if_neg];rw [aS f0,v0]
 simp
theorem OS:fo (valOf Q2 iQ) yQ K1=(2,K0):=xr rfl rfl f1 rfl rfl OQ (by decide) (by rw [cK];decide)
theorem Kg:fo (valOf Q2 iQ) yQ K0=(2,C0):=xr rfl rfl f0 rfl rfl OP (by decide) (by rw [cC];decide)
theorem UN:fo (valOf Q2 iQ) yQ C0=(0,aW):=zu (by rw [GZ];rfl)
theorem Kh:fM (valOf Q2 iQ) yQ (yQ.ah.length+1) K1 []=[K1,K0,C0]:=by
 show fM _ _ 3 _ _=_
 rw [j3 (by simp [nK1]),OS]
 show fM _ _ 2 K0 [K1]=_
 rw [j3 (fun e=>e.elim nK0 fun h=>OQ (List.mem_singleton.1 h)),Kg]
 show fM _ _ 1 C0 [K1,K0]=_
 rw [j3 (fun e=>e.elim nC0 fun h=>by(rcases List.mem_cons.1 h with h | h;exact UM h;exact OP (List.mem_singleton.1 h))),UN]
 rfl
theorem G1:mB (valOf Q2 iQ) yQ=[K0,K1]:=by
 unfold mB
 rw [List.filter_cons,if_pos (by rw [show(gU 0 C0).key=K0 from rfl,Kg];rfl),List.filter_cons,if_pos (by rw [show(gU 1 K0).key=K1 from rfl,OS];rfl)]
 rfl
theorem aoQ{y:cI}(h:AO bQ [⟨C0,z5⟩] y):y=yQ:=h.one _ rfl (by decide) (by decide)
theorem UO:LC Q2 bQ:=by
 obtain⟨f,s',_,_,_,h,_,t,_⟩:=(LC.nil Q2 ⟨0,[],[]⟩ rfl (by decide) (by decide) (gZ.nil _) (by simp)).S4 lU (goals:=[K1]) (fun k hk=>.inr ⟨1,by simp,by rw [List.mem_singleton.1 hk];exact qT.symm⟩) (by simp);have e:=(j0 (Nat.le_max_left f 10) h).symm.trans (j0 (Nat.le_max_right f 10) (OO _));have e2:s'=sQ:=Option.some.inj e;subst e2;exact t
theorem smQ:∀c∈[(⟨C0,z5⟩:Change)],c.small:=fun c hc=>by
 rw [List.mem_singleton.1 hc];exact⟨⟨0,by omega,by omega,rfl⟩,by decide⟩
theorem G2:sQ.base ⟨0,[],[]⟩=bQ:=rfl
end Go.Rc

namespace Go.Rc
open Go
section
variable {P:Program}{T:TypeId}
theorem G3{A B:TypeId}{f0 f1:Field}(hu:P.underlying T=some (.struct #[f0,f1])) (D:f0.type=A) (F:f1.type=B) (G:f0.offset=0) (I:f1.offset=1) (Q:f0.name≠ "_") (S:f1.name≠ "_")
  (h0:P.underlying A=some (.int .i64)) (h1:P.underlying B=some .string) (a0:∀w,(isAgg A).run P w=.ok false w) (a1:∀w,(isAgg B).run P w=.ok false w)
  (J:P.stoodInHeld T=false) (n:Nat) (a b:Int) (s t:ByteArray) (w:World):(Op.equalIn (n+2) T (.agg #[.int .i64 a,.string s]) (.agg #[.int .i64 b,.string t])).run P w=.ok (decide (a=b) && decide (s=t)) w:=by
 subst D F
 have C:P.fieldsOf T=#[f0,f1]:=by simp [Program.fieldsOf,hu]
 rw [run_equalIn_struct (P:=P) w (n+1) T _ _ (by rw [C];exact hu) J,C]
 have e:(s.toList == t.toList)=decide (s=t):=by
  by_cases e:s=t
  ·
   simp [e]
  grind [ByteArray.ext,Array.toList_inj,ByteArray.toList_eq]
 have e2:(a == b)=decide (a=b):=by by_cases h:a=b <;> simp [h]
 have r0:=run_equalIn_int (P:=P) w n f0.type .i64 .i64 a b h0;have r1:=run_equalIn_string (P:=P) w n f1.type s t h1;rw [e2] at r0;rw [e] at r1;simp only [Op.eqFields,G,I,part,Sem.run_bind,a0,a1,Result.andThen_ok]
 by_cases O:a=b
 ·
  subst O
  by_cases V:s=t
  ·
   simp_all
  simp_all
 simp_all
structure S9 (P:Program) (T:TypeId):Prop where
 eq:∀(a b c d:Int) (s t:ByteArray) (w:World),(Op.equalIn 10000 T (.agg #[.int .i64 a,.int .i64 c,.string s]) (.agg #[.int .i64 b,.int .i64 d,.string t])).run P w=.ok (decide (a=b) && (decide (c=d) && decide (s=t))) w
 guard:P.eqGuardType P.depth T=false
theorem Ki{K A:TypeId}{g0 g1:Field}(hk:∀(a b:Int) (s t:ByteArray) (w:World),(Op.equalIn 9999 K (.agg #[.int .i64 a,.string s]) (.agg #[.int .i64 b,.string t])).run P w=.ok (decide (a=b) && decide (s=t)) w)
  (hu:P.underlying T=some (.struct #[g0,g1])) (C:g0.type=A) (D:g1.type=K) (F:g0.offset=0) (G:g1.offset=1) (S:g0.name≠ "_") (V:g1.name≠ "_")
  (h0:P.underlying A=some (.int .i64)) (a0:∀w,(isAgg A).run P w=.ok false w) (a1:∀w,(isAgg K).run P w=.ok true w) (I:∀w,(sizeOf K).run P w=.ok 2 w)
  (J:P.stoodInHeld T=false) (O:P.eqGuardType P.depth T=false):S9 P T:=by
 refine⟨fun a b c d s t w=>?_,O⟩;subst C D
 have B:P.fieldsOf T=#[g0,g1]:=by simp [Program.fieldsOf,hu]
 rw [show(10000:Nat)=9999+1 from rfl,run_equalIn_struct (P:=P) w 9999 T _ _ (by rw [B];exact hu) J,B]
 have e2:(a == b)=decide (a=b):=by by_cases h:a=b <;> simp [h]
 have r0:=run_equalIn_int (P:=P) w 9998 g0.type .i64 .i64 a b h0;rw [e2] at r0;rw [show(9998+1:Nat)=9999 from rfl] at r0;have r1:=hk c d s t w;simp only [Op.eqFields,F,G,part,Sem.run_bind,a0,a1,I,Result.andThen_ok]
 by_cases Q:a=b
 ·
  subst Q
  by_cases W:c=d∧s=t
  ·
   simp_all [asAgg]
  simp_all [asAgg]
 simp_all
def Nh(p:Int × Key):Value:=.agg #[.int .i64 p.1,.int .i64 p.2.kind,.string p.2.text]
variable {kv:KV}{w:World}{ty:TypeId}
theorem PV.UP(hT:S9 P T) {U:TypeId}{x y:Operand}{p q:Int × Key}(h:ev kv x=some (Nh p)) (hy:ev kv y=some (Nh q)) :
  PV P (.binOp .eql T x y U) ty kv w (.bool (decide (p=q))):=by
 refine⟨rfl,by simp [known,opers,h,hy],fun _ _ _ _=>?_⟩
 have e:(decide (p.1=q.1) && (decide (p.2.kind=q.2.kind) && decide (p.2.text=q.2.text)))=decide (p=q):=by
  obtain⟨a,c,s⟩:=p;obtain⟨b,d,t⟩:=q;simp [Bool.decide_and]
 simp only [execOp,aF h,aF hy,Nh]
 simp [run_eqGuard_agg w .eql T _ _ _ _ hT.guard,run_eql_struct,hT.eq,e]
theorem PV.UQ(hT:S9 P T) {U:TypeId}{x y:Operand}{p q:Int × Key}(A:ev kv x=some (Nh p)) (hy:ev kv y=some (Nh q)) :
  PV P (.binOp .neq T x y U) ty kv w (.bool (decide (p≠q))):=by
 refine⟨rfl,by simp [known,opers,A,hy],fun _ _ _ _=>?_⟩
 have e:(decide (p.1=q.1) && (decide (p.2.kind=q.2.kind) && decide (p.2.text=q.2.text)))=decide (p=q):=by
  obtain⟨a,c,s⟩:=p;obtain⟨b,d,t⟩:=q;simp [Bool.decide_and]
 simp only [execOp,aF A,aF hy,Nh];simp only [Sem.run_bind,run_eqGuard_agg w .neq T _ _ _ _ hT.guard,run_neq_struct,hT.eq,e,Result.andThen_ok]
 by_cases h:p=q <;> simp [h]
end
end Go.Rc

namespace Go.Rc
open Go
section
variable {aa:List az}{x:cI}{s:ES}{k:Key}
end
end Go.Rc

namespace Go.Rc
open Go
section
variable {aa:List az}{val:Key→ByteArray}{x:cI}{k m:Key}
end
end Go.Rc

namespace Go.Rc
open Go
def Ej(i:Nat) (r:az):az:=if r.ring then ⟨false,[⟨true,false,(i:Int) % 4,0⟩],2,i⟩ else r
theorem Kj{rev:Int}{l:List ca}(h:gZ rev l) (h0:0≤rev) (k:Key):(bw l k).changed≤rev:=by
 unfold bw
 cases t:l.find? fun x=>x.key == k with
 | none=>exact h0
 | some y=>
  obtain⟨_,_,_,_,e⟩:=h.2.1 y (List.mem_of_find?_eq_some t);exact e
theorem OT{aa rl:List az}(A:ao aa) (hl:rl.length=aa.length) (h:∀j r,aa[j]?=some r→rl[j]?=some (Ej j r)):ao rl∧∀i,ax rl i=false:=by
 have hn:∀i,ax rl i=false:=fun i=>by
  unfold ax
  cases hi:aa[i]? with
  | none=>
   have:rl[i]?=none:=List.getElem?_eq_none (by rw [hl];exact List.getElem?_eq_none_iff.1 hi)
   rw [this];rfl
  | some r=>
   rw [h i r hi]
   unfold Ej
   by_cases e:r.ring=true <;> simp [e]
 refine⟨⟨by rw [hl];exact A.1,fun i G hr=>?_⟩,hn⟩
 have hi:i<aa.length:=by rw [← hl];exact(List.getElem?_eq_some_iff.1 hr).1
 have D:aa[i]?=some aa[i]:=ae hi;have e:=h i _ D;rw [hr] at e;have e:=Option.some.inj e;subst e;have I:=A.1;have B:=A.2 i _ D
 unfold Ej
 by_cases C:aa[i].ring=true
 ·
  rw [if_pos C];refine⟨by simp,fun k x t=>?_,?_⟩
  ·
   have hk:k=0:=by have:=(List.getElem?_eq_some_iff.1 t).1;simp at this;omega
   subst hk
   simp at t
   subst t;have h1:=Int.emod_nonneg (i:Int) (show(4:Int)≠0 by decide);have J:=Int.emod_lt_of_pos (i:Int) (show(0:Int)<4 by decide)
   simp [dF,ef]
   omega
  simp [fq];omega
 rw [if_neg C];refine⟨B.1,fun k x t=>?_,B.2.2⟩;have F:=B.2.1 k x t
 have e1:du rl i=du aa i:=by
  have r1:ax aa i=false:=by rw [bA hi];simpa using C
  unfold du
  rw [ni hi,ni (by rw [hl];exact hi),hn i,r1]
  rfl
 simp only [dF,ef,e1] at F ⊢;exact F
section
variable {rl:List az}{b c:cI}{l:List Change}{r:Rec}{a:Key}
theorem xt(A:ao rl) (C:∀i,ax rl i=false) (hb:LC rl b) (hr:r∈b.ah):∃i:Nat,i<rl.length∧r.key=aH rl (i:Int)∧∀a∈r.reads,(∃n:Nat,n≤15∧a=bB (n:Int))∨∃m:Nat,m<i∧a=aH rl (m:Int):=by
 obtain⟨H,B⟩:=hb.bh;obtain⟨i,hi,hk⟩:=B.kr r hr;have G:=A.len;refine⟨i,hi,hk,fun a t=>?_⟩;rw [(B.c.vr r hr).2,hk] at t
 unfold n9 at t
 rw [if_neg (by rw [bT hi (by omega)];simp),bE hi (by omega)] at t
 rcases(tO A hi t).1 with h | ⟨m,h1,D,_,F,_⟩
 ·
  exact .inl h
 exact .inr ⟨m,F (C i),D⟩
theorem Ek(h:ao rl) (hb:LC rl b) (t:∀i:Nat,i<rl.length→aI b (aH rl (i:Int))=true) (A:(∃n:Nat,n≤15∧a=bB (n:Int))∨∃m:Nat,m<rl.length∧a=aH rl (m:Int)):dO b a=valOf rl b.ab a:=by
 obtain⟨H,B⟩:=hb.bh;have G:=h.len
 rcases A with⟨n,hn,rfl⟩ | ⟨m,hm,rfl⟩
 ·
  unfold dO
  rw [if_pos (aZ (by omega)),iO (by omega)]
  rfl
 obtain⟨q,h1,C,D⟩:=B.c.up (t m hm);have hi:=bT hm (by omega)
 have F:eO b (aH rl (m:Int))=true:=by unfold eO;rw [hi,h1,aS h1,C];simp
 unfold dO
 rw [if_neg (by rw [hi];simp),if_pos F,aS h1,D]
def nu(val:Key→ByteArray) (b:cI) (reads:List Key):Int × Key:=match reads.find? fun a=>decide (dO b a≠val a) with
 | none=>(0,aW)
 | some a=>(2,a)
theorem zz(I:ao rl) (S:∀i,ax rl i=false) (hb:LC rl b) (J:∀i:Nat,i<rl.length→aI b (aH rl (i:Int))=true) (X:OJ b l c) (Y:AO b l c) (D:c.ah=b.ah) (hr:r∈b.ah) :
  fo (valOf rl c.ab) c r.key=nu (valOf rl c.ab) b r.reads:=by
 obtain⟨i,hi,hk,O⟩:=xt I S hb hr;obtain⟨H,F⟩:=hb.bh;have C3:=I.len;have B:ay b.ah r.key=some r:=iz F.st hr
 have eS:aw r.key=false:=by rw [hk];exact bT hi (by omega)
 have hu:=J i hi;rw [← hk] at hu;obtain⟨q,G,hqv⟩:=bV.1 hu;rw [B] at G;have G:=Option.some.inj G;subst G
 have hd:r.bq=false:=by
  cases e:r.bq with
  | false=>rfl
  | true=>have:=F.dv r hr e;omega
 have V:∀a∈r.reads,dO b a=valOf rl b.ab a:=fun a A=>Ek I hb J ((O a A).imp id fun⟨m,h1,C⟩=>⟨m,by omega,C⟩);have C8:=hb.lb.ok.Bg.r0
 rcases X.how with⟨e1,e2⟩ | ⟨e1,e2⟩
 ·
  have hw:nu (valOf rl c.ab) b r.reads=(0,aW):=by
   unfold nu
   rw [List.find?_eq_none.2 fun a A=>by rw [e2,V a A];simp]
  rw [hw];exact zu (by unfold aI;rw [D,B,aS B,e1,hqv];simp)
 have Dp:∀a∈r.reads,a≠r.key:=fun a A e=>by
  rcases O a A with⟨n,hn,h1⟩ | ⟨m,hm,h1⟩
  ·
   rw [← e,h1,aZ (by omega)] at eS;cases eS
  have C:number a=(i:Int):=by rw [e,hk];exact bE hi (by omega)
  rw [h1,bE (by omega) (by omega)] at C
  omega
 have se:bU c.ah (aB c.ah c.ad r.key)=r.reads.map fun a=>(⟨r.key,a⟩:nf):=by
  rw [gS (by rw [hk,bf hi (by omega)];exact S i),D];simp only [bU,cp,List.flatMap_cons,List.flatMap_nil,List.append_nil,aS B];rw [List.filter_eq_self.2 fun a A=>by simpa using Dp a A]
 have UR:∀a∈r.reads,Bn (valOf rl c.ab) c ⟨r.key,a⟩=decide (dO b a≠valOf rl c.ab a):=fun a A=>by
  unfold Bn
  rw [D,aS B,decide_eq_decide,V a A]
  rcases O a A with⟨n,hn,rfl⟩ | ⟨m,hm,rfl⟩
  ·
   have Q:=aZ (n:=n) (by omega);have adJ:(bw b.ab (bB (n:Int))).changed≤b.ad:=Kj hb.lb.aC C8 _
   unfold aQ
   rw [if_pos Q,iO (by omega),iO (by omega)]
   unfold cellOf
   rcases e2 (bB (n:Int)) with h | h
   ·
    rw [h];exact⟨fun h1=>by(have h1:r.aq<(bw b.ab (bB (n:Int))).changed:=h1;omega),fun h1=>absurd rfl h1⟩
   rcases Y.JZ (bB (n:Int)) with C | C
   ·
    rw [C] at h;omega
   exact⟨fun _ e=>C e.symm,fun _=>by(show r.aq<(bw c.ab (bB (n:Int))).changed;omega)⟩
  have W:m<rl.length:=by omega
  have Q:=bT W (by omega);obtain⟨q,h1,C,h3⟩:=F.c.up (J m W);have hv:=(F.c.Ce q (aT h1).1).2
  unfold aQ
  rw [if_neg (by rw [Q];simp),D,h1,aS h1,← h3]
  have e4:¬q.aq=c.ad:=by omega
  by_cases e5:valOf rl c.ab (aH rl (m:Int))=q.value
  ·
   simp [e5];omega
  simp only [e4,e5,decide_false,Bool.or_false,Bool.and_false,Bool.false_eq_true,if_false];exact⟨fun _ h=>e5 h.symm,fun _=>by omega⟩
 have Nd:aI c r.key=false:=by
  unfold aI
  rw [D,B,aS B]
  have:¬r.aq=c.ad:=by omega
  simp [this]
 unfold fo nu
 rw [eS,Nd,se,D,B];simp only [Bool.or_self,Bool.false_eq_true,if_false,hd];rw [List.find?_map]
 have e6:r.reads.find? ((Bn (valOf rl c.ab) c)∘fun a=>(⟨r.key,a⟩:nf))=r.reads.find? fun a=>decide (dO b a≠valOf rl c.ab a):=by
  have:∀l:List Key,(∀a∈l,a∈r.reads)→l.find? ((Bn (valOf rl c.ab) c)∘fun a=>(⟨r.key,a⟩:nf))=l.find? fun a=>decide (dO b a≠valOf rl c.ab a):=by
   intro l
   induction l with
   | nil=>intro _;rfl
   | cons a t ih=>
    intro h;rw [List.find?_cons,List.find?_cons,Function.comp,UR a (h a (by simp)),ih fun x hx=>h x (by simp [hx])]
  exact this _ fun _ h=>h
 rw [e6]
 cases r.reads.find? fun a=>decide (dO b a≠valOf rl c.ab a) with
 | none=>rfl
 | some a=>simp
end
end Go.Rc

namespace Go.Rc
open Go
theorem Kk{aa rl:List az}{i:Nat}(h:∀(j:Nat) (r:az),aa[j]?=some r→rl[j]?=some (if j<i then Ej j r else r)) (hi:i<aa.length) (A:aa[i].ring=true):∀(j:Nat) (r:az),aa[j]?=some r→(rl.set i ⟨false,[⟨true,false,(i:Int).tmod 4,0⟩],2,i⟩)[j]?=some (if j<i+1 then Ej j r else r):=fun j r t=>by
 have hl:i<rl.length:=(List.getElem?_eq_some_iff.1 (h i _ (ae hi))).1
 by_cases e:j=i
 ·
  subst e
  have B:aa[j]=r:=by rw [ae hi] at t;exact Option.some.inj t
  rw [List.getElem?_set_self hl,if_pos (by omega)]
  unfold Ej
  rw [← B,if_pos A,Int.tmod_eq_emod_of_nonneg (by omega)]
 rw [List.getElem?_set_ne (fun h=>e h.symm),h j r t]
 by_cases e2:j<i
 ·
  rw [if_pos e2,if_pos (by omega)]
 rw [if_neg e2,if_neg (by omega)]
theorem G4{aa rl:List az}{i:Nat}(h:∀(j:Nat) (r:az),aa[j]?=some r→rl[j]?=some (if j<i then Ej j r else r)) (hi:i<aa.length) (A:aa[i].ring=false):∀(j:Nat) (r:az),aa[j]?=some r→rl[j]?=some (if j<i+1 then Ej j r else r):=fun j r t=>by
 rw [h j r t]
 by_cases e:j=i
 ·
  subst e
  have B:aa[j]=r:=by rw [ae hi] at t;exact Option.some.inj t
  rw [if_neg (by omega),if_pos (by omega)]
  unfold Ej
  rw [← B,if_neg (by rw [A];simp)]
 by_cases e2:j<i
 ·
  rw [if_pos e2,if_pos (by omega)]
 rw [if_neg e2,if_neg (by omega)]
section
variable {rl:List az}{val:Key→ByteArray}{b:cI}{a y:Key}{l:List Key}{i q:Nat}
theorem qV(t:ao rl) (hi:i<rl.length) (h:(∃n:Nat,n≤15∧a=bB (n:Int))∨∃m:Nat,m<i∧a=aH rl (m:Int)):eU rl a∧eh rl a=true:=by
 have B:=t.len
 rcases h with⟨n,hn,rfl⟩ | ⟨m,hm,rfl⟩
 ·
  refine⟨.cell (by omega),?_⟩;have A:=(eU.cell (aa:=rl) (n:=n) (by omega)).valid
  have hk:(bB (n:Int)).kind=30:=by unfold bB;rw [if_neg (by omega)]
  unfold eh
  rw [A,hk]
  rfl
 exact⟨.fl (by omega) (by omega),tL t (by omega)⟩
theorem xu(A:ao rl) (hi:i<rl.length) (h:(∃n:Nat,n≤15∧a=bB (n:Int))∨∃m:Nat,m<i∧a=aH rl (m:Int)):a≠aW:=fun e=>by
 have t:=(qV A hi h).1.valid;rw [e] at t
 revert t
 decide
def oh(val:Key→ByteArray) (b:cI) (l:List Key):Key:=(l.find? fun a=>decide (dO b a≠val a)).getD aW
theorem xv(h:∀a∈l,a≠aW) (he:oh val b l=aW):l.find? (fun a=>decide (dO b a≠val a))=none:=by
 unfold oh at he
 cases t:l.find? fun a=>decide (dO b a≠val a) with
 | none=>rfl
 | some y=>rw [t] at he;exact absurd he (h y (List.mem_of_find?_eq_some t))
theorem G5(t:q<l.length) (hy:y=oh val b (l.take q)) (h:∀a∈l,a≠aW) (g:(decide (dO b l[q]≠val l[q]) && decide (y=aW))=true):l[q]=oh val b (l.take (q+1)):=by
 rw [Bool.and_eq_true,decide_eq_true_eq,decide_eq_true_eq] at g;have h1:=xv (fun a A=>h a (List.mem_of_mem_take A)) (hy.symm.trans g.2)
 unfold oh
 rw [List.take_succ_eq_append_getElem t,List.find?_append,h1,List.find?_cons,decide_eq_true g.1]
 rfl
theorem Kl(t:q<l.length) (hy:y=oh val b (l.take q)) (h:∀a∈l,a≠aW) (g:(decide (dO b l[q]≠val l[q]) && decide (y=aW))=false):y=oh val b (l.take (q+1)):=by
 rw [hy]
 unfold oh
 rw [List.take_succ_eq_append_getElem t,List.find?_append]
 cases A:(l.take q).find? fun a=>decide (dO b a≠val a) with
 | some z=>rfl
 | none=>
  have e:y=aW:=by rw [hy];unfold oh;rw [A];rfl
  rw [e,decide_eq_true rfl,Bool.and_true] at g;rw [List.find?_cons,g]
  rfl
theorem G6(hy:y=oh val b l) (h:∀a∈l,a≠aW) (e:y=aW):((0:Int),aW)=nu val b l:=by
 unfold nu
 rw [xv h (hy.symm.trans e)]
theorem El(hy:y=oh val b l) (e:y≠aW):((2:Int),y)=nu val b l:=by
 unfold nu
 unfold oh at hy
 cases h:l.find? fun a=>decide (dO b a≠val a) with
 | none=>rw [h] at hy;exact absurd hy e
 | some z=>rw [h] at hy;rw [hy];rfl
end
end Go.Rc

namespace Go.Rc
open Go
section
variable {H:Type}{enc:TypeId × Value→H}{P:Program}{w:World}
theorem oW{e:TypeId}:∀{l:List (DataW H)}{d:DataW H},d∈l→∀n∈d.weights P e,n∈DataW.weightsAll P e l
 | [],_,h,_,_=>by cases h
 | x::r,d,h,n,hn=>by
  simp only [DataW.weightsAll,List.mem_append]
  rcases List.mem_cons.1 h with rfl | h
  ·
   exact .inl hn
  exact .inr (oW h n hn)
def Em(P:Program) (t:TypeId) (d:DataW H):Prop:=∀n∈d.weights P t,n≤reachBytes
theorem Em.len{t e:TypeId}{xs A:List (DataW H)}(h:Em P t (.slice xs A)) (ht:P.underlying t=some (.slice e)) (hb:1≤P.bytesOf e):xs.length≤140737488355328:=by
 have h1:=h ((xs.length+A.length)*P.bytesOf e) (by simp only [DataW.weights,ht];exact List.mem_cons_self)
 unfold reachBytes at h1
 have B:xs.length*1≤(xs.length+A.length)*P.bytesOf e:=Nat.mul_le_mul (by omega) hb
 omega
theorem Em.elem{t e:TypeId}{xs A:List (DataW H)}(h:Em P t (.slice xs A)) (ht:P.underlying t=some (.slice e)) {d:DataW H}(B:d∈xs):Em P e d:=fun n hn=>
 h n (by simp only [DataW.weights,ht,List.mem_cons,List.mem_append];exact .inr (.inl (oW B n hn)))
theorem Em.each{A:List TypeId}{ds:List (DataW H)}(h:(DataW.weightsEach P A ds).all (·≤reachBytes)=true) {j:Nat}{t:TypeId}{d:DataW H}(ht:A[j]?=some t) (B:ds[j]?=some d):Em P t d:=fun n hn=>by
 have:=List.all_eq_true.1 h n (DataW.weights_mem_each ht B n hn)
 simpa using this
theorem G7{α:Type} [Inhabited α] {R:α→List Value→Prop}{t e:TypeId}{k fuel n c:Nat}{a:Option Addr}{d:DataW H}{p:List MemPlace}(ht:P.underlying t=some (.slice e)) (hk:P.cellsOf e=k) (En:1≤k) (hb:1≤P.bytesOf e)
  (Q:∀(m:Nat) (cs:List Value) (d:DataW H) (p:List MemPlace),DataW.trod enc P w 0 (fun _=>true) true m e cs=some (d,p)→cs.length=k→Em P e d→∃x:α,R x cs)
  (h:DataW.trod enc P w 0 (fun _=>true) true fuel t [.slice a n c]=some (d,p)) (hl:Em P t d):∃xs:List α,LR (fun b=>b<w.heap.size) w k R a n xs:=by
 rcases Deep.open_slice ht h with⟨hc,_⟩ | ⟨C,len,cap,m,fu,D,Pl,hc,_,hle,_,hm,A,S⟩
 ·
  simp only [List.cons.injEq,Value.slice.injEq,and_true] at hc;obtain⟨rfl,rfl,rfl⟩:=hc;exact⟨[],⟨rfl,by omega,fun A=>by simp at A⟩⟩
 simp only [List.cons.injEq,Value.slice.injEq,and_true] at hc;obtain⟨rfl,rfl,rfl⟩:=hc;simp only [Prod.mk.injEq] at A;obtain⟨rfl,_⟩:=A;simp only [if_true] at hm
 have hn:n≤140737488355328:=by simpa using hl.len ht hb
 have each:∀i,i<n→∃q:α × List Value,w.cells? 0 (C.add (i*k)) k=some q.2∧R q.1 q.2:=fun i hi=>by
  obtain⟨V,h1,W⟩:=S i (by omega);rw [hk] at h1;obtain⟨x,A⟩:=Q _ _ _ _ W (World.cells?_some h1).2.1 (hl.elem ht (List.mem_map.2 ⟨i,by simpa using hi,rfl⟩));exact⟨(x,V),h1,A⟩
 obtain⟨q,F⟩:=Deep.choose_lt each;refine⟨(List.range n).map fun i=>(q i).1,⟨by simp,hn,fun {i x} A=>?_⟩⟩
 obtain⟨hi,rfl⟩:i<n∧(q i).1=x:=by
  rw [List.getElem?_map] at A;obtain⟨j,B,X⟩:=Option.map_eq_some_iff.1 A;rw [List.getElem?_eq_some_iff] at B;obtain⟨G,I⟩:=B
  simp at G I
  subst I;exact⟨G,X⟩
 have J:C.spot=none:=by
  obtain⟨_,MT,Y⟩:=World.cells?_some (F 0 (by omega)).1;have h0:=Y 0 (by omega);rw [List.getElem?_eq_getElem (by omega)] at h0
  have:=World.cell?_spot h0
  simpa [Addr.add] using this
 obtain⟨b,o,s⟩:=C;simp only at J;subst J;obtain⟨_,BN,Br⟩:=World.cells?_some (F i hi).1
 have hr:w.rangeAt b (o+i*k) (q i).2:=fun j v O=>by
  have B:j<k:=by have:=(List.getElem?_eq_some_iff.1 O).1;omega
  have:=Br j B
  rw [WideShapes.add_plain,WideShapes.add_plain] at this;rw [this,O]
 refine⟨b,o,(q i).2,rfl,BN,(F i hi).2,hr,?_,?_⟩ <;>
  exact World.block_lt_of_cell? w ⟨b,_,none⟩ (hr 0 _ (List.getElem?_eq_getElem (by omega)))
end
def qW(P:Program) (w:World) (n:String):Prop:=∃(nm:String) (d:DataW Unit) (g t:Nat) (ms:Array (String × TypeId)),Lib.VarReads P w n (.iface nm d)∧P.globalNamed n=some g∧(P.globals[g]?).map (·.type)=some t∧P.underlying t=some (.interface ms)
theorem Km{P:Program}{w:World}{g t e:Nat}(G:Lib.VarReads P w "internal/strconv.uint64pow10" (Lib.tabData .u64 Lib.pow10Tab)) (C:P.globalNamed "internal/strconv.uint64pow10" = some g) (I:(P.globals[g]?).map (·.type)=some t) (ht:P.underlying t=some (.array 20 e)) (he:P.underlying e=some (.int .u64))
  (J:P.cellsOf e=1) (O:P.cellsOf t=20) (Q:qW P w "strconv.ErrSyntax") (S:qW P w "strconv.ErrRange"):jM P (fun b=>b<w.heap.size) w:=by
 obtain⟨g',t',cs,fuel,p,V,W,h,X⟩:=G;obtain rfl:=Option.some.inj (C.symm.trans V);obtain rfl:=Option.some.inj (I.symm.trans W);have hc:=Lib.cells_of_tab ht he J O X
 have hT:Lib.TabIs P w "internal/strconv.uint64pow10" .u64 Lib.pow10Tab:=by
  unfold Lib.TabIs
  rw [h,← hc]
 have D:g<w.heap.size:=by
  unfold World.var? at h
  simp only [C,Option.bind_some] at h
  split at h
  ·
   rename_i B
   exact(Array.getElem?_eq_some_iff.1 B).1
  cases h
 refine⟨⟨g,D,D,fun w' e=>?_⟩,fun n hn g2 Y=>?_⟩
 ·
  unfold Lib.TabIs World.var? at hT ⊢
  simp only [C,Option.bind_some] at hT ⊢;rw [e];exact hT
 have hE:qW P w n:=by
  rcases hn with rfl | rfl
  ·
   exact Q
  exact S
 obtain⟨nm,d,g3,t3,ms,⟨g4,t4,cs4,aas,p4,e1,e2,A,hd4⟩,e3,e4,e5⟩:=hE;obtain rfl:=Option.some.inj (e1.symm.trans Y);obtain rfl:=Option.some.inj (e1.symm.trans e3);obtain rfl:=Option.some.inj (e2.symm.trans e4);obtain⟨_,u,v,hcs,_,_⟩:=iface_of_trod e5 hd4
 unfold World.var? at A
 simp only [e1,Option.bind_some] at A
 split at A
 ·
  rename_i c0 x0 y0 B
  obtain rfl:=Option.some.inj A;have F:=(Array.getElem?_eq_some_iff.1 B).1;refine⟨F,F,.iface u v,.inr ⟨u,v,rfl⟩,fun w' e=>?_⟩;obtain rfl:c0=#[.iface u v]:=Array.toList_inj.1 hcs
  unfold World.cell?
  simp only [e,B]
  first | done | rfl
 cases A
theorem aJ.Kn{w w':World}(h:aJ [] w w') (B:Nat) (t:B≤w.heap.size):RowKit.Below B w w':=⟨h.os,h.tape,h.output,h.size,fun k hk=>h.block k (by omega) (by simp)⟩
end Go.Rc

namespace Go.Rc
open Go
def Ko(m f:Nat):Bool:=Nat.beq (Nat.land (Nat.shiftRight m f) 1) 1
def zA(look:FuncId→Option Func) (P:Program):Nat→List FuncId→Nat→List FuncId→List FuncId
 | 0,_,_,seen=>seen.reverse
 | _,[],_,seen=>seen.reverse
 | n+1,f::todo,mask,seen=>
  match Ko mask f with
  | true=>zA look P n todo mask seen
  | false=>zA look P n ((look f).elim [] P.leadsTo++todo) (Nat.lor mask (Nat.shiftLeft 1 f)) (f::seen)
theorem G8(m f:Nat):Ko m f=m.testBit f:=by
 unfold Ko
 show Nat.beq ((m >>> f) &&& 1) 1=m.testBit f
 rw [Nat.testBit,Nat.and_comm];have h:=Nat.and_one_is_mod (m >>> f);rw [Nat.and_comm]
 have t:(1 &&& m >>> f)=(m >>> f) % 2:=by rw [Nat.and_comm];exact h
 rw [Nat.and_comm,t]
 rcases Nat.mod_two_eq_zero_or_one (m >>> f) with e | e <;> rw [e] <;> rfl
theorem u4{look:FuncId→Option Func}(P:Program) (hl:∀g,P.funcs[g]?=look g):∀(n:Nat) (todo:List FuncId) (mask:Nat) (seen:List FuncId),(∀x:Nat,mask.testBit x=seen.contains x)→zA look P n todo mask seen=P.closureVia n todo seen
 | 0,_,_,_,_=>by unfold zA Program.closureVia;rfl
 | n+1,[],_,_,_=>by unfold zA Program.closureVia;rfl
 | n+1,f::todo,mask,seen,h=>by
  unfold zA Program.closureVia
  rw [G8,h f]
  cases hc:seen.contains f with
  | true=>simp only [if_true];exact u4 P hl n todo mask seen h
  | false=>
   simp only [Bool.false_eq_true,if_false];rw [hl f];refine u4 P hl n _ _ _ fun x=>?_
   show(mask ||| (1 <<< f)).testBit x=(f::seen).contains x
   rw [Nat.testBit_or,h x,Nat.shiftLeft_eq,Nat.one_mul,Nat.testBit_two_pow,List.contains_cons,Bool.or_comm]
   grind
theorem u5{look:FuncId→Option Func}(P:Program) (hl:∀g,P.funcs[g]?=look g) (f:FuncId):P.closure f=zA look P (1+(P.funcs.toList.map fun g=>(P.leadsTo g).length+1).sum) [f] 0 []:=by grind [Program.closure,u4]
end Go.Rc

namespace Go.Rc
open Go
def u6(P:Program):Nat→List TypeId→List TypeId
 | 0,s=>s
 | d+1,s=>match decide (P.grow s=s) with
  | true=>s
  | false=>u6 P d (P.grow s)
theorem tW{P:Program}{s:List TypeId}(h:P.grow s=s):∀n,P.grown n s=s
 | 0=>rfl
 | n+1=>by
  show P.grown n (P.grow s)=s
  rw [h];exact tW h n
theorem tX(P:Program):∀(n:Nat) (s:List TypeId),P.grown n s=u6 P n s
 | 0,_=>rfl
 | n+1,s=>by
  show P.grown n (P.grow s)=match decide (P.grow s=s) with | true=>s | false=>u6 P n (P.grow s)
  by_cases h:P.grow s=s
  ·
   grind [tW]
  rw [decide_eq_false h];exact tX P n _
def lV(P:Program) (t:TypeId):List TypeId:=u6 P P.types.size [t]
theorem j4(P:Program) (t:TypeId):P.book t=lV P t:=tX P _ _
def Eo(P:Program) (t:TypeId):Bool:=(lV P t).all fun u=>P.fineRow u && (P.partsOf u).all ((lV P t).contains ·)
theorem pU(P:Program) (t:TypeId):P.readableRec t=Eo P t:=by grind [Program.readableRec,Eo,j4]
def Ep(P:Program) (t:TypeId):Bool:=(lV P t).any fun u=>(P.partsOf u).any fun v=>(lV P v).contains u
theorem xw(P:Program) (t:TypeId):P.loopsFrom t=Ep P t:=by grind [Program.loopsFrom,Ep,j4]
def Is(P:Program) (t:TypeId):Bool:=(lV P t).any fun u=>match P.underlying u with | some (.map _ _)=>true | _=>false
theorem G9(P:Program) (t:TypeId):P.mapsRec t=Is P t:=by grind [Program.mapsRec,Is,j4]
def Bs(P:Program) (t:TypeId):Bool:=(lV P t).any fun u=>match P.underlying u with | some (.interface _)=>true | _=>false
theorem tY(P:Program) (t:TypeId):P.ifacesRec t=Bs P t:=by grind [Program.ifacesRec,Bs,j4]
def pV(P:Program) (t:TypeId):Bool:=(lV P t).any fun u=>match P.underlying u with | some (.func ..) | some (.chan ..) | some .unsafePointer=>true | _=>false
theorem oi(P:Program) (t:TypeId):P.veiledRec t=pV P t:=by grind [Program.veiledRec,pV,j4]
def It(P:Program) (t:TypeId):Bool:=
 (lV P t).any fun u=>match P.underlying u with
  | some (.map k _)=>(match P.underlying k with | some (.array _ _) | some (.struct _)=>true | _=>false)
  | _=>false
theorem Ha(P:Program) (t:TypeId):P.wideKeysFrom t=It P t:=by grind [Program.wideKeysFrom,It,j4]
def mC(P:Program) (t:TypeId):Bool:=!pV P t || (let L:=P.libraryStructs;(lV P t).all fun u=>!(P.libraryStructIn L u && pV P u))
theorem nv(P:Program) (t:TypeId):P.veiledOwn t=mC P t:=by grind [Program.veiledOwn,mC,j4,oi]
def xx(P:Program) (n:String):Bool:=
 match P.globalNamed n with
 | some g=>((P.globals[g]?).map (·.type)).any fun t=>Eo P t && mC P t
 | none=>false
theorem zB(P:Program) (n:String):P.varReadable n=xx P n:=by grind [Program.varReadable,xx,pU,nv]
end Go.Rc

