/- Base of the proof: frames, memory, ownership, and the plain meaning of rule systems. Conditions: as each lemma says. -/
import Derived.Test.YtilldnlhckpbjaaGreatDoorEBg
import Derived.Test.YtilldnlhckpbjaaGreatDoorEBf
import Derived.Shelf.SlSortCmp.WholeK
set_option linter.all false
namespace Go.Rc
open Go
theorem As.exc{A:As}{Z:Nat→Prop}{w w':World}(h:A.ok Z w) (c:aK [] w w'):A.ok Z w':=A.st c.size (fun x _ p=>c.block x p (by simp)) h
theorem PE{k:Key}(h:eP k):aB k=decide (k.kind=32):=by
 have e:(decide (1≤k.kind) && decide (k.kind≤22))=false:=by
  rcases h with h | h
  ·
   grind
  grind
 unfold aB
 grind
/-! ### records in blocks -/
structure RL where
 b:Nat
 a:Option Addr
 n:Nat
 c:Nat
def WD.wc(D:WD) (v:Nat) (rev:Int) (ra:Option Addr) (rn rc:Nat):List Value:=
 [.slice D.ar D.r D.cr,.int .i64 rev,.slice D.a1 D.n1 D.c1,.slice D.a2 D.n2 D.c2,.map (some D.m),.pointer (some ⟨v,0,none⟩),.slice ra rn rc]
def As.jO(RT:Nat) (lf:Key→RL) (l:List Rec):As where
 fp x:=∃k r,az l k=some r∧x=(lf k).b
 ok Z w:=(∀k r,az l k=some r→bM w (lf k).b RT (r.row (lf k).a (lf k).n (lf k).c)∧Rd RR.key 2 Z w (lf k).a (lf k).n (lf k).c r.reads∧r.reads.length≤4000)∧∀k k' r r',az l k=some r→az l k'=some r'→(lf k).b=(lf k').b→k=k'
 lt h x hx:=by
  obtain⟨k,r,hk,rfl⟩:=hx;exact(h.1 k r hk).1.lt
 mono hZ h:=⟨fun k r hk=>by
  obtain⟨hb,hr,h4⟩:=h.1 k r hk;exact⟨hb,hr.mono hZ,h4⟩,h.2⟩
 st hs hc h:=⟨fun k r hk=>by
  obtain⟨hb,hr,h4⟩:=h.1 k r hk;exact⟨(As.blk (lf k).b RT (r.row (lf k).a (lf k).n (lf k).c)).st (Z:=fun _=>False) hs (fun x hx hl=>hc x (.inl ⟨k,r,hk,by rcases hx with hx | hx;exact hx;exact hx.elim⟩) hl) hb,hr.st hs (fun x hx=>hc x (.inr hx)),h4⟩,h.2⟩
theorem As.BJ{RT:Nat}{lf:Key→RL}{l:List Rec}{Z:Nat→Prop}{w:World}(h:(As.jO RT lf l).ok Z w):(As.jO RT lf l).ok Z w:=h
def fO(l:List Rec) (lf:Key→RL) (ml:List (Key × Value)):Prop:=∀k,aX ml k=(az l k).map fun _=>Value.pointer (some ⟨(lf k).b,0,none⟩)
theorem fO.nil(lf:Key→RL):fO [] lf []:=fun _=>rfl
theorem fO.no{l:List Rec}{lf:Key→RL}{ml:List (Key × Value)}{k:Key}(h:fO l lf ml) (p:az l k=none):(aX ml k).getD (.pointer none)=.pointer none:=by rw [h k,p];rfl
theorem fO.yes{l:List Rec}{lf:Key→RL}{ml:List (Key × Value)}{k:Key}{r:Rec}(h:fO l lf ml) (p:az l k=some r):aX ml k=some (.pointer (some ⟨(lf k).b,0,none⟩)):=by rw [h k,p];rfl
def ED(lf:Key→RL) (k:Key) (q:RL):Key→RL:=fun y=>if y=k then q else lf y
theorem jH{lf:Key→RL}{k:Key}{q:RL}:ED lf k q k=q:=if_pos rfl
theorem j7{lf:Key→RL}{k y:Key}{q:RL}(h:¬y=k):ED lf k q y=lf y:=if_neg h
theorem fO.put{l l':List Rec}{lf:Key→RL}{ml:List (Key × Value)}{r:Rec}{q:RL}(h:fO l lf ml) (hl:∀y,az l' y=if y=r.key then some r else az l y):fO l' (ED lf r.key q) (bZ ml r.key (.pointer (some ⟨q.b,0,none⟩))):=fun k=>by
 rw [cZ,hl k]
 by_cases e:k=r.key
 ·
  subst e;rw [if_pos rfl,if_pos rfl,jH]
  rfl
 rw [if_neg fun h=>e h.symm,if_neg e,j7 e,h k]
section
variable {RT:Nat}{q:RL}{lf:Key→RL}{l l':List Rec}{r:Rec}{w0 w:World}{M Z:Nat→Prop}{L:List As}
theorem St.Vn(h:St w0 M Z w L) (RT:Nat) (lf:Key→RL):St w0 M Z w (As.jO RT lf []::L):=h.fact (B:=As.jO RT lf []) ⟨fun k r hk=>(by cases hk),fun k k' r t hk=>(by cases hk)⟩ fun x p=>by obtain⟨k,r,hk,_⟩:=p;cases hk
theorem St.KS(h:St w0 M Z w (As.blk q.b RT (r.row q.a q.n q.c)::As.jO RT lf l::L)) (hr:Rd RR.key 2 Z w q.a q.n q.c r.reads) (D:r.reads.length≤4000) (hl:∀y,az l' y=if y=r.key then some r else az l y):St w0 M Z w (As.jO RT (ED lf r.key q) l'::L):=by
 have E:bM w q.b RT (r.row q.a q.n q.c):=h.g0;have hR:(As.jO RT lf l).ok Z w:=h.g1;have A:∀k p,az l k=some p→q.b≠(lf k).b:=fun k p hk e=>(List.pairwise_cons.1 h.pd).1 (As.jO RT lf l) M0 q.b rfl ⟨k,p,hk,e⟩;refine h.join (C:=As.jO RT (ED lf r.key q) l') ⟨fun k p hk=>?_,fun k k' r1 r2 h1 t e=>?_⟩ fun x B=>?_
 ·
  rw [hl k] at hk
  by_cases e:k=r.key
  ·
   rw [if_pos e] at hk
   grind [jH]
  rw [if_neg e] at hk;rw [j7 e];exact hR.1 k p hk
 ·
  rw [hl k] at h1;rw [hl k'] at t
  by_cases e1:k=r.key
  ·
   by_cases e2:k'=r.key
   ·
    rw [e1,e2]
   rw [if_neg e2] at t
   grind [jH,j7]
  rw [if_neg e1] at h1
  by_cases e2:k'=r.key
  ·
   rw [j7 e1,e2,jH] at e;exact absurd e.symm (A k _ h1)
  rw [if_neg e2] at t;rw [j7 e1,j7 e2] at e;exact hR.2 k k' _ _ h1 t e
 obtain⟨k,p,hk,rfl⟩:=B;rw [hl k] at hk
 by_cases e:k=r.key
 ·
  rw [e,jH];exact .inl rfl
 rw [if_neg e] at hk;rw [j7 e];exact .inr ⟨k,p,hk,rfl⟩
theorem Ow.z{α:Type}{f:α→List Value}{E k n c:Nat}{a:Option Addr}{xs:List α}{Z':Nat→Prop}(h:Ow (RR.flat f) E k Z' w a n c xs):Ow (RR.flat f) E k Z w a n c xs:=by
 obtain⟨hn,rows,hl,hk,h1,p⟩:=h;exact⟨hn,rows,hl,hk,h1,p⟩
theorem St.Vo{A:As}{Z':Nat→Prop}(h:St w0 M Z' w [A]) (t:∀x,Z x→Z' x) (E:A.ok Z w):St w0 M Z w [A]:=
 ⟨h.bS,fun x p=>h.hV x (t x p),fun B C x p D=>h.jV B C x p (t x D),h.kU,h.pd,fun B C=>by grind⟩
end
theorem zN{l:List Rec}{r:Rec}(h:∀x∈l,x.key≠r.key) (y:Key):az (l++[r]) y=if y=r.key then some r else az l y:=by
 unfold az
 grind
/-! ### entries of maps that are changed in place -/
section
variable {κ:Type} [DecidableEq κ] {enc:κ→Value}{P:Program}{kt:TypeId}{w w':World}{b:Nat}{l:List (κ × Value)}
def KT{κ:Type}(enc:κ→Value) (w:World) (b:Nat) (l:List (κ × Value)) (k:κ) (z:Int):Prop:=
 ∃es clock,w.heap[b]?=some (.map es clock)∧(es.toList.map (fun e=>(e.key,e.val))=l.map (fun p=>(enc p.1,p.2))∧(l.map (·.1)).Nodup∧(∀e∈es.toList,e.born<clock)∧(es.toList.map (·.born)).Nodup)∧∃(j:Nat) (v:Value) (e:MapEntry),l[j]?=some (k,v)∧es[j]?=some e∧(e.born:Int)=z
def As.zO{κ:Type}(enc:κ→Value) (b:Nat) (l:List (κ × Value)) (k:κ) (z:Int):As where
 fp x:=x=b
 ok _ w:=KT enc w b l k z
 lt h x hx:=by
  subst hx;obtain⟨es,c,h,_⟩:=h
  grind
 mono _ h:=h
 st hs hc h:=by
  obtain⟨es,c,h,r⟩:=h;exact⟨es,c,(hc b (.inl rfl) (Array.getElem?_eq_some_iff.1 h).1).trans h,r⟩
theorem As.gmb{κ:Type}{enc:κ→Value}{b:Nat}{l:List (κ × Value)}{k:κ}{z:Int}{Z:Nat→Prop}{w:World}(h:(As.zO enc b l k z).ok Z w):KT enc w b l k z:=h
theorem vo{e T:TypeId}{h:Value}(A:KK P kt enc) (hT:P.underlying T=some (.map kt e)) (E:∀w,(zeroValue e).run P w=.ok h w) (hb:KM enc w b l) (k:κ) :
  ∃(z:Int) (w':World),(Instr.mapEntry T (.map (some b)) (enc k)).run P w=.ok (.tuple #[(aX l k).getD h,.int .i64 z]) w'∧aK [b] w w'∧KT enc w' b (bZ l k ((aX l k).getD h)) k z:=by
 obtain⟨es,clock,hm,he,hn,R,F⟩:=hb;have B:b<w.heap.size:=(Array.getElem?_eq_some_iff.1 hm).1
 have hlen:es.toList.length=l.length:=by simpa using congrArg List.length he
 cases t:mF l k 0 with
 | none=>
  obtain⟨h1,C⟩:=iw t;refine⟨(clock:Int),_,?_,gg w b (.map (es.push {key:=enc k,val:=h,born:=clock}) (clock+1)),?_⟩
  ·
   rw [h1];simp only [Instr.mapEntry,Sem.run_bind,run_underlying hT,Result.andThen_ok,MapKept.run_getObj_map hm,A.check,A.find l es.toList k w he,t,E,MapKept.run_setObj_map _ hm,Option.getD_none]
   rfl
  rw [h1,C];refine⟨_,_,by first | (simp [B];done) | (simp [B];exact⟨rfl,rfl⟩),⟨by simp [he],by grind [eM],?_,?_⟩,l.length,h,{key:=enc k,val:=h,born:=clock},by simp,?_,rfl⟩
  ·
   grind
  ·
   grind
  grind
 | some p=>
  obtain⟨j,v0⟩:=p;obtain⟨m,h1,C,D,S,_⟩:=gy t
  have G:j=m:=by omega
  subst G
  have I:j<es.size:=by grind
  obtain⟨y,hy⟩:∃y,es[j]?=some y:=⟨_,Array.getElem?_eq_getElem I⟩
  have J:y.key=enc k∧y.val=v0:=by
   have:=congrArg (fun x=>x[j]?) he
   grind
  have N:(((es[j]?).map (·.key)).getD (enc k))=enc k:=by rw [hy];exact J.1
  have O:(((es[j]?).map fun x=>(x.born:Int)).getD 0)=(y.born:Int):=by rw [hy];rfl
  refine⟨(y.born:Int),_,?_,gg w b (.map (es.modify j fun e=>{e with key:=enc k}) clock),?_⟩
  ·
   rw [D];simp only [Instr.mapEntry,Sem.run_bind,run_underlying hT,Result.andThen_ok,MapKept.run_getObj_map hm,A.check,A.find l es.toList k w he,t,Instr.keyThatStays,N,A.same,if_true,Sem.run_pure,MapKept.run_setObj_map _ hm,Option.getD_some,O]
   rfl
  rw [D]
  have Q:(es.modify j fun e=>{e with key:=enc k}).toList.map (fun e=>(e.key,e.val))=(l.set j (k,v0)).map (fun p=>(enc p.1,p.2))∧(es.modify j fun e=>{e with key:=enc k}).toList.map (·.born)=es.toList.map (·.born):=by
   constructor
   ·
    apply List.ext_getElem?
    intro i;have hi:=congrArg (fun x=>x[i]?) he
    grind
   apply List.ext_getElem?
   grind
  refine⟨_,_,by first | (simp [B];done) | (simp [B];exact⟨rfl,rfl⟩),⟨by grind,eM hn k _,?_,by rw [Q.2];exact F⟩,j,v0,{y with key:=enc k},?_,?_,rfl⟩
  ·
   intro x t
   have:x.born∈(es.modify j fun e=>{e with key:=enc k}).toList.map (·.born):=List.mem_map.2 ⟨x,t,rfl⟩
   grind
  ·
   grind
  grind
theorem rB{α:Type}:∀{l:List α},l.Nodup→∀{i j:Nat}{x:α},l[i]?=some x→l[j]?=some x→i=j:=fun {l} h {i j x} h1 t=>by
 obtain⟨hi,e1⟩:=List.getElem?_eq_some_iff.1 h1;obtain⟨p,e2⟩:=List.getElem?_eq_some_iff.1 t
 rcases Nat.lt_trichotomy i j with g | g | g
 ·
  exact absurd (e1.trans e2.symm) (List.pairwise_iff_getElem.1 h i j hi p g)
 ·
  exact g
 exact absurd (e2.trans e1.symm) (List.pairwise_iff_getElem.1 h j i p hi g)
theorem rC{T:TypeId}{k:κ}{z:Int}(hb:KT enc w b l k z) (v:Value) :
  ∃w':World,(Instr.entryStore T (.map (some b)) (.int .i64 z) v).run P w=.ok () w'∧aK [b] w w'∧KM enc w' b (bZ l k v):=by
 obtain⟨es,clock,hm,⟨he,hn,V,G⟩,j,v0,y,C,hy,I⟩:=hb;have D:b<w.heap.size:=(Array.getElem?_eq_some_iff.1 hm).1;have J:j<es.size:=(Array.getElem?_eq_some_iff.1 hy).1
 have N:es.findIdx? (fun e=>(e.born:Int) == z)=some j:=by
  rw [Array.findIdx?_eq_some_iff_getElem]
  have O:es[j]=y:=by grind
  refine⟨J,by rw [O];simpa using I,fun i hi=>?_⟩
  have W:(es[i]'(by omega)).born≠y.born:=fun e=>by
   have h1:(es.toList.map (·.born))[i]?=some y.born:=by grind
   have A:(es.toList.map (·.born))[j]?=some y.born:=by simp [hy]
   grind [rB]
  grind
 have Q:∃(h:Nat),mF l k 0=some (h,v0)∧h=j:=by
  cases t:mF l k 0 with
  | none=>
   have h1:=(iw t).1;exact absurd (List.mem_map.2 ⟨(k,v0),List.mem_of_getElem? C,rfl⟩) (tP.1 h1)
  | some p=>
   obtain⟨h,v1⟩:=p;obtain⟨m,h1,A,_⟩:=gy t
   have E:(l.map (·.1))[m]?=some k:=by rw [List.getElem?_map,A];rfl
   have B:(l.map (·.1))[j]?=some k:=by rw [List.getElem?_map,C];rfl
   have X:=rB hn E B
   grind
 obtain⟨h,t,R⟩:=Q;subst R;obtain⟨m,h1,A,E,B,_⟩:=gy t
 have S:h=m:=by omega
 subst S;refine⟨_,?_,gg w b (.map (es.modify h fun e=>{e with val:=v}) clock),?_⟩
 ·
  simp only [Instr.entryStore,Sem.run_bind,Result.andThen_ok,MapKept.run_getObj_map hm,asInt,asIntOf,Sem.run_pure,N,MapKept.run_setObj_map _ hm]
 have Y:y.key=enc k:=by
  have:=congrArg (fun x=>x[h]?) he
  grind
 have F:(es.modify h fun e=>{e with val:=v}).toList.map (fun e=>(e.key,e.val))=(l.set h (k,v)).map (fun p=>(enc p.1,p.2))∧(es.modify h fun e=>{e with val:=v}).toList.map (·.born)=es.toList.map (·.born):=by
  constructor
  ·
   apply List.ext_getElem?
   intro i;have hi:=congrArg (fun x=>x[i]?) he
   grind
  apply List.ext_getElem?
  grind
 refine⟨_,_,by first | (simp [D];done) | (simp [D];exact⟨rfl,rfl⟩),by rw [B];exact F.1,eM hn k v,?_,by rw [F.2];exact G⟩;intro x t
 have:x.born∈(es.modify h fun e=>{e with val:=v}).toList.map (·.born):=List.mem_map.2 ⟨x,t,rfl⟩
 grind
variable {n:Nat}{kv:KV}{K:KV→World→Prop}{d:Tmp}{ty:TypeId}{pos:String}{af:Array Edge}{g:Option (Nat × Bool)}{T e:TypeId}
theorem OX.mapEntry{p v:Value}{k:κ}(B:KK P kt enc) (hT:P.underlying T=some (.map kt e)) (C:∀w,(zeroValue e).run P w=.ok p w) (hb:KM enc w b l) (D:(aX l k).getD p=v) {x y:Operand}(t:ev kv x=some (.map (some b))) (hy:ev kv y=some (enc k)) (E:Nat.blt d n=true)
  (h:∀(z:Int) w',aK [b] w w'→KT enc w' b (bZ l k v) k z→K ((d,.tuple #[v,.int .i64 z])::kv) w'):OX P ⟨some d,.mapEntry T x y,ty,pos,af,g⟩ n kv w K:=by
 obtain⟨z,w',hr,h1,A⟩:=vo B hT C hb k;rw [D] at hr A;refine⟨rfl,E,by simp [known,opers,t,hy],?_⟩
 have F:(execOp (gZ kv) ⟨some d,.mapEntry T x y,ty,pos,af,g⟩).run P w=.ok (.value (.tuple #[v,.int .i64 z])) w':=by
  simp only [execOp,aG t,aG hy,Sem.run_bind,hr,Result.andThen_ok];rfl
 rw [F];exact h z _ h1 A
theorem OX.entryStore{k:κ}{z:Int}{v:Value}(hb:KT enc w b l k z) {x y u:Operand}(p:ev kv x=some (.map (some b))) (hy:ev kv y=some (.int .i64 z)) (hu:ev kv u=some v)
  (h:∀w',aK [b] w w'→KM enc w' b (bZ l k v)→K kv w'):OX P ⟨none,.entryStore T x y u,ty,pos,af,g⟩ n kv w K:=by
 obtain⟨w',hr,h1,t⟩:=rC (P:=P) (T:=T) hb v;refine⟨rfl,rfl,by simp [known,opers,p,hy,hu],?_⟩
 have A:(execOp (gZ kv) ⟨none,.entryStore T x y u,ty,pos,af,g⟩).run P w=.ok .skip w':=by
  simp only [execOp,aG p,aG hy,aG hu,Sem.run_bind,hr,Result.andThen_ok];rfl
 rw [A];exact h _ h1 t
end
section
variable {κ:Type}{enc:κ→Value}{w0 w w':World}{M Z:Nat→Prop}{L:List As}{b:Nat}{l l':List (κ × Value)}{k:κ}{z:Int}
theorem St.PF(h:St w0 M Z w (As.map enc b l::L)) (s:aK [b] w w') (hm:KT enc w' b l' k z):St w0 M Z w' (As.zO enc b l' k z::L):=h.jd (s.p.mono fun x _ t=>by simpa [As.map] using t) hm fun x t=>.inl t
theorem St.PG(h:St w0 M Z w (As.zO enc b l k z::L)) (s:aK [b] w w') (hm:KM enc w' b l'):St w0 M Z w' (As.map enc b l'::L):=h.jd (s.p.mono fun x _ t=>by simpa [As.zO] using t) hm fun x t=>.inl t
end
/-! ### a map to owned slices -/
def ia(L:List RE) (k:Key):Option RE:=L.find? fun e=>decide (e.key=k)
def gi(L:List RE) (k:Key):List Key:=((ia L k).map (·.reads)).getD []
def pZ(L:List RE) (ml:List (Key × Value)):Prop:=∀k,aX ml k=(ia L k).map fun e=>Value.slice e.a e.n e.c
def nO(bg:Key→List Key) (x y:Key):Key→List Key:=fun z=>if z=x then bg z++[y] else bg z
def rest(L:List RE) (x:Key):List RE:=L.filter fun e=>decide (e.key≠x)
section
variable {L:List RE}{ml:List (Key × Value)}{x y:Key}{e:RE}{a:Option Addr}{n c:Nat}{v:Value}
theorem uo(h:ia L x=some e):e∈L∧e.key=x:=by grind [ia]
theorem pZ.nil:pZ [] []:=fun _=>rfl
theorem oE(h:List Key) (z:Key):ia (⟨x,a,n,c,h⟩::rest L x) z=if z=x then some ⟨x,a,n,c,h⟩ else ia L z:=by
 unfold ia rest
 grind
theorem pZ.put(h:pZ L ml) (p:List Key):pZ (⟨x,a,n,c,p⟩::rest L x) (bZ (bZ ml x v) x (.slice a n c)):=fun z=>by
 rw [cZ,oE]
 by_cases e:x=z
 ·
  subst e
  simp
 rw [if_neg e,if_neg fun h=>e h.symm,cZ,if_neg e];exact h z
theorem EE(z:Key):gi (⟨x,a,n,c,gi L x++[y]⟩::rest L x) z=nO (gi L) x y z:=by
 unfold nO
 by_cases h:z=x
 ·
  subst h;rw [if_pos rfl]
  show((ia _ z).map _).getD []=_
  rw [oE,if_pos rfl]
  rfl
 rw [if_neg h]
 show((ia _ z).map _).getD []=((ia L z).map _).getD []
 rw [oE,if_neg h]
theorem Hn:gi (⟨x,a,n,c,gi L x++[y]⟩::rest L x)=nO (gi L) x y:=funext EE
theorem zP(h:(L.map (·.key)).Nodup) (p:List Key):(((⟨x,a,n,c,p⟩:RE)::rest L x).map (·.key)).Nodup:=by
 rw [List.map_cons,List.nodup_cons];refine⟨fun t=>?_,((List.filter_sublist (l:=L)).map (·.key)).nodup h⟩;obtain⟨e,he,A⟩:=List.mem_map.1 t
 have:=(List.mem_filter.1 he).2
 simp at this
 exact this A
theorem uq:∀{L:List RE},(L.map (·.key)).Nodup→ia L x=some e→L.Perm (e::rest L x)
 | [],_,h=>by cases h
 | q::L,hn,h=>by
  rw [List.map_cons,List.nodup_cons] at hn
  unfold ia at h
  by_cases p:q.key=x
  ·
   rw [List.find?_cons_of_pos (by simpa using p)] at h
   cases h
   have:rest (e::L) x=L:=by
    unfold rest
    simp_all
   rw [this]
  rw [List.find?_cons_of_neg (by simpa using p)] at h
  have t:rest (q::L) x=q::rest L x:=by
   unfold rest
   grind
  rw [t];exact((uq hn.2 h).cons q).trans (.swap _ _ _)
variable {w0 w:World}{M Z:Nat→Prop}{l:List As}{EK:Nat}
theorem St.PH(hn:(L.map (·.key)).Nodup) (hm:pZ L ml) (x:Key) (h:St w0 M Z w (As.many (L.map (RE.as EK))::l)):∃(a:Option Addr) (n c:Nat),(aX ml x).getD (.slice none 0 0)=.slice a n c∧St w0 M Z w (As.os RR.key EK 2 a n c (gi L x)::As.many ((rest L x).map (RE.as EK))::l):=by
 cases p:ia L x with
 | none=>
  refine⟨none,0,0,by rw [hm x,p];rfl,?_⟩
  have e1:gi L x=[]:=by unfold gi;rw [p];rfl
  have e2:rest L x=L:=by
   unfold rest
   rw [List.filter_eq_self];intro e he
   have:=List.find?_eq_none.1 p e he
   simpa using this
  rw [e1,e2];exact h.fD _ _ _
 | some e=>
  refine⟨e.a,e.n,e.c,by rw [hm x,p];rfl,?_⟩
  have e1:gi L x=e.reads:=by unfold gi;rw [p];rfl
  rw [e1];exact(St.Pp ((uq hn p).map (RE.as EK)) h).Hf
theorem St.Vp{p:List Key}(h:St w0 M Z w (As.os RR.key EK 2 a n c p::As.many ((rest L x).map (RE.as EK))::l)):St w0 M Z w (As.many (((⟨x,a,n,c,p⟩:RE)::rest L x).map (RE.as EK))::l):=h.KF
def Vq(L:List RE):FZ where
 p Z w:=∀e∈L,Rd RR.key 2 Z w e.a e.n e.c e.reads
 mono hZ h:=fun e he=>(h e he).mono hZ
 st hs hc h:=fun e he=>(h e he).st hs hc
theorem St.bkF(hl:∀e∈L,e.reads.length≤140737488355328) (h:St w0 M Z w (As.many (L.map (RE.as EK))::l)):St w0 M (fun x=>Z x∨(As.many (L.map (RE.as EK))).fp x) w (As.fz (Vq L)::l):=by
 have hm:(As.many (L.map (RE.as EK))).ok Z w:=h.ok _ M0
 refine h.freeze (B:=As.fz (Vq L)) (fun e he=>?_) fun x p=>p
 have t:Ow RR.key EK 2 Z w e.a e.n e.c e.reads:=As.gs (hm.2 _ (List.mem_map_of_mem (f:=RE.as EK) he))
 exact(t.rd (hl e he)).mono fun x p=>p.imp id fun p=>⟨_,List.mem_map_of_mem (f:=RE.as EK) he,p⟩
theorem pZ.read(hm:pZ L ml) (t:(Vq L).p Z w) (x:Key):∃(a:Option Addr) (n c:Nat),(aX ml x).getD (.slice none 0 0)=.slice a n c∧Rd RR.key 2 Z w a n c (gi L x):=by
 cases h:ia L x with
 | none=>
  refine⟨none,0,0,by rw [hm x,h];rfl,?_⟩
  grind [gi,Rd.nil]
 | some e=>
  refine⟨e.a,e.n,e.c,by rw [hm x,h];rfl,?_⟩
  have e1:gi L x=e.reads:=by unfold gi;rw [h];rfl
  rw [e1];exact t e (uo h).1
theorem EG(hn:(L.map (·.key)).Nodup) (he:e∈L):gi L e.key=e.reads:=by
 have:ia L e.key=some e:=by
  cases h:ia L e.key with
  | none=>
   have:=List.find?_eq_none.1 h e he
   simp at this
  | some q=>
   obtain⟨h1,t⟩:=uo h;obtain⟨i,hi⟩:=List.mem_iff_getElem?.1 h1;obtain⟨j,p⟩:=List.mem_iff_getElem?.1 he
   have g1:(L.map (·.key))[i]?=some e.key:=by grind
   have g2:(L.map (·.key))[j]?=some e.key:=by rw [List.getElem?_map,p];rfl
   grind [rB]
 unfold gi
 rw [this]
 rfl
end
/-! ### a search there and back -/
section
variable {l:List Rec}{rev:Int}{k:Key}{bg:Key→List Key}{L:List Key}{i q:Nat}{x y:Key}
structure qa (l:List Rec) (rev:Int) (k:Key) (bg:Key→List Key) (L:List Key) (i q:Nat):Prop where
 ie:L.Nodup
 mem:k∈L
 sub:∀x∈L,x=k∨bj l rev k x
 cl:∀j y,j<i→L[j]?=some y→∀x,Ld l rev y x→x∈L∧y∈bg x
 cur:∀y,L[i]?=some y→∀x∈(aF l y).reads.take q,bD l rev x=true→x∈L∧y∈bg x
 bk:∀x y,y∈bg x→y∈L∧Ld l rev y x
 len:∀x,(bg x).length≤4000*i+q
theorem qa.start(h:∀x,bg x=[]):qa l rev k bg [k] 0 0:=
 ⟨by simp,by simp,by simp,fun j y h=>by omega,fun y _ x p=>by simp at p,fun x y hy=>(by rw [h] at hy;cases hy),fun x=>by rw [h];simp⟩
theorem qa.op(h:qa l rev k bg L i q) (p:bD l rev k=true) (t:x∈L):bD l rev x=true:=by
 rcases h.sub x t with rfl | h1
 ·
  exact p
 exact h1.eY
theorem qa.le(h:qa l rev k bg L i q) (p:bD l rev k=true):L.length≤l.length:=by
 have:=ez h.ie fun x t=>k7 (h.op p t)
 simpa using this
theorem qa.skip(h:qa l rev k bg L i q) (hy:L[i]?=some y) (A:(aF l y).reads[q]?=some x) (B:bD l rev x=false):qa l rev k bg L i (q+1):=
 {h with
  cur:=fun E t C D p=>by
   rw [hy] at t
   cases t
   rcases iH A D with h1 | rfl
   ·
    exact h.cur y hy C h1 p
   rw [B] at p;cases p
  len:=fun x=>by have:=h.len x;omega}
theorem nP{z u:Key}(h:u∈bg z):u∈nO bg x y z:=by grind [nO]
theorem ur:y∈nO bg x y x:=by unfold nO;simp
theorem rD{z u:Key}(h:u∈nO bg x y z):u∈bg z∨(z=x∧u=y):=by grind [nO]
theorem xM(z:Key):(nO bg x y z).length≤(bg z).length+1:=by
 unfold nO
 split <;> simp
theorem qa.nh(h:qa l rev k bg L i q) (hy:L[i]?=some y) (B:(aF l y).reads[q]?=some x) (D:bD l rev x=true) (hm:x∈L):qa l rev k (nO bg x y) L i (q+1):=
 {h with
  cl:=fun j A C p t hl=>⟨(h.cl j A C p t hl).1,nP (h.cl j A C p t hl).2⟩
  cur:=fun A p t E F=>by
   rw [hy] at p
   cases p
   rcases iH B E with h1 | rfl
   ·
    have:=h.cur y hy t h1 F
    grind [nP]
   exact⟨hm,ur⟩
  bk:=fun z u hu=>by
   rcases rD hu with h1 | ⟨rfl,rfl⟩
   ·
    exact h.bk z u h1
   exact⟨List.mem_of_getElem? hy,List.mem_of_getElem? B,D⟩
  len:=fun z=>by have:=h.len z;grind [xM]}
theorem qa.new(h:qa l rev k bg L i q) (hy:L[i]?=some y) (B:(aF l y).reads[q]?=some x) (G:bD l rev x=true) (hm:x∉L):qa l rev k (nO bg x y) (L++[x]) i (q+1):=by
 have N:i<L.length:=(List.getElem?_eq_some_iff.1 hy).1;have C:Ld l rev y x:=⟨List.mem_of_getElem? B,G⟩
 have nh:∀{j z},j≤i→(L++[x])[j]?=some z→L[j]?=some z:=fun D O=>by grind
 refine⟨by grind [ie],by simp [h.mem],fun z p=>?_,fun j E D t A hl=>?_,fun E t A I J=>?_,fun z u hu=>?_,fun z=>?_⟩
 ·
  rcases List.mem_append.1 p with p | p
  ·
   exact h.sub z p
  rw [List.mem_singleton] at p;subst p
  rcases h.sub y (List.mem_of_getElem? hy) with rfl | h1
  ·
   exact .inr (.one C)
  exact .inr (.step h1 C)
 ·
  have h1:=h.cl j E D (nh (by omega) t) A hl
  grind [nP]
 ·
  have F:=nh (Nat.le_refl _) t;rw [hy] at F
  cases F
  rcases iH B I with h1 | rfl
  ·
   have:=h.cur y hy A h1 J
   grind [nP]
  exact⟨by simp,ur⟩
 ·
  rcases rD hu with h1 | ⟨rfl,rfl⟩
  ·
   have:=h.bk z u h1
   grind
  grind
 have:=h.len z
 grind [xM]
theorem qa.next(h:qa l rev k bg L i q) (hy:L[i]?=some y) (A:(aF l y).reads.length≤q) (D:q≤4000):qa l rev k bg L (i+1) 0:=
 {h with
  cl:=fun j B E p t hl=>by
   rcases Nat.lt_or_ge j i with h1 | h1
   ·
    exact h.cl j B h1 p t hl
   have e:j=i:=by omega
   subst e;rw [hy] at p
   cases p
   exact h.cur y hy t (by rw [List.take_of_length_le A];exact hl.1) hl.2
  cur:=fun _ _ x C=>by simp at C
  len:=fun x=>by have:=h.len x;omega}
theorem qa.done(h:qa l rev k bg L i q) (hi:L.length≤i) (x:Key):x∈L↔x=k∨bj l rev k x:=by
 have p:∀y∈L,∀x,Ld l rev y x→x∈L∧y∈bg x:=fun y hy x hl=>by
  obtain⟨j,t⟩:=List.mem_iff_getElem?.1 hy
  have:=(List.getElem?_eq_some_iff.1 t).1
  exact h.cl j y (by omega) t x hl
 refine⟨h.sub x,?_⟩;rintro(rfl | h1)
 ·
  exact h.mem
 induction h1 with
 | one h1=>exact(p _ h.mem _ h1).1
 | step _ A B=>exact(p _ B _ A).1
theorem qa.Vr(h:qa l rev k bg L i q) (hi:L.length≤i) (x y:Key):y∈bg x↔(y=k∨bj l rev k y)∧Ld l rev y x:=by
 rw [← h.done hi y];refine⟨h.bk x y,fun⟨h1,t⟩=>?_⟩;obtain⟨j,p⟩:=List.mem_iff_getElem?.1 h1
 have:=(List.getElem?_eq_some_iff.1 p).1
 exact(h.cl j y (by omega) p x t).2
structure uu (l:List Rec) (rev:Int) (k:Key) (bg:Key→List Key) (L:List Key) (i q:Nat):Prop where
 ie:L.Nodup
 mem:k∈L
 sub:∀x∈L,x=k∨uj l rev k x
 cl:∀j y,j<i→L[j]?=some y→∀x∈bg y,x∈L
 cur:∀y,L[i]?=some y→∀x∈(bg y).take q,x∈L
theorem uu.start:uu l rev k bg [k] 0 0:=⟨by simp,by simp,by simp,fun j y h=>by omega,fun y _ x p=>by simp at p⟩
theorem uu.le(h:uu l rev k bg L i q) (p:bD l rev k=true):L.length≤l.length:=by
 have:=ez h.ie fun x t=>k7 (l:=l) (rev:=rev) (by
  rcases h.sub x t with rfl | h1
  ·
   exact p
  exact h1.eY)
 simpa using this
theorem uu.has(h:uu l rev k bg L i q) (hy:L[i]?=some y) (t:(bg y)[q]?=some x) (hm:x∈L):uu l rev k bg L i (q+1):=
 {h with
  cur:=fun C p A B=>by
   rw [hy] at p
   cases p
   rcases iH t B with h1 | rfl
   ·
    exact h.cur y hy A h1
   exact hm}
theorem uu.add(h:uu l rev k bg L i q) (J:∀x y,y∈bg x↔(y=k∨bj l rev k y)∧Ld l rev y x) (hy:L[i]?=some y) (E:(bg y)[q]?=some x) (hm:x∉L):uu l rev k bg (L++[x]) i (q+1):=by
 have Q:i<L.length:=(List.getElem?_eq_some_iff.1 hy).1;obtain⟨h1,t⟩:=(J y x).1 (List.mem_of_getElem? E)
 have N:bj l rev k x:=by grind [mem]
 have O:bj l rev x k:=by
  rcases h.sub y (List.mem_of_getElem? hy) with rfl | A
  ·
   exact .one t
  exact(bj.one t).trans A.2
 have nh:∀{j z},j≤i→(L++[x])[j]?=some z→L[j]?=some z:=fun F t=>by grind
 refine⟨by grind [ie],by simp [h.mem],fun z p=>?_,fun j G F B C D=>by simp [h.cl j G F (nh (by omega) B) C D],fun G B C D=>?_⟩
 ·
  rcases List.mem_append.1 p with p | p
  ·
   exact h.sub z p
  rw [List.mem_singleton] at p;subst p;exact .inr ⟨N,O⟩
 have I:=nh (Nat.le_refl _) B;rw [hy] at I
 cases I
 rcases iH E D with A | rfl
 ·
  simp [h.cur y hy C A]
 simp
theorem uu.next(h:uu l rev k bg L i q) (hy:L[i]?=some y) (D:(bg y).length≤q):uu l rev k bg L (i+1) 0:=
 {h with
  cl:=fun j A E p t B=>by
   rcases Nat.lt_or_ge j i with h1 | h1
   ·
    exact h.cl j A h1 p t B
   have e:j=i:=by omega
   subst e;rw [hy] at p
   cases p
   exact h.cur y hy t (by grind [List.take_of_length_le])
  cur:=fun _ _ x C=>by simp at C}
theorem uu.done(h:uu l rev k bg L i q) (C:bD l rev k=true) (D:∀x y,y∈bg x↔(y=k∨bj l rev k y)∧Ld l rev y x) (hi:L.length≤i) (x:Key):x∈L↔x∈aC l rev k:=by
 have E:∀y∈L,∀x∈bg y,x∈L:=fun y hy x p=>by
  obtain⟨j,B⟩:=List.mem_iff_getElem?.1 hy
  have:=(List.getElem?_eq_some_iff.1 B).1
  exact h.cl j y (by omega) B x p
 rw [bH]
 constructor
 ·
  intro p
  exact(h.sub x p).imp id fun h1=>⟨C,h1⟩
 rintro(rfl | ⟨_,h1,t⟩)
 ·
  exact h.mem
 have key:∀{x y:Key},bj l rev x y→(x=k∨bj l rev k x)→y∈L→x∈L:=by
  intro x y t h1
  induction t with
  | one A=>grind
  | step A F G=>
   refine fun hy=>G (E _ hy _ ((D _ _).2 ⟨.inr ?_,F⟩))
   rcases h1 with rfl | h1
   ·
    exact A
   exact h1.trans A
 exact key t (.inr h1) h.mem
theorem uu.group(h:uu l rev k bg L i q) (p:bD l rev k=true) (t:∀x y,y∈bg x↔(y=k∨bj l rev k y)∧Ld l rev y x) (hi:L.length≤i) {L':List Key}(A:KH L') (B:L'.Perm L):L'=aC l rev k:=
 zK A (oD _ _ _) fun x=>(B.mem_iff).trans (h.done p t hi x)
end
/-! ### what has changed, and why a key would be run -/
section
variable {val:Key→ByteArray}{x:cW}{k:Key}{r:Rec}
theorem KU(hi:aw k=true):aP val x k=(bs x.ab k).changed:=by unfold aP;rw [if_pos hi]
theorem KW(hi:aw k=false) (h:az x.ah k=none):aP val x k=x.ad:=by grind [aP]
theorem KX(hi:aw k=false) (h:az x.ah k=some r) (p:r.av=x.ad):aP val x k=r.changed:=by grind [aP,aS]
theorem BL(hi:aw k=false) (h:az x.ah k=some r) (p:¬r.av=x.ad):aP val x k=if val k=r.value then r.changed else x.ad:=by
 unfold aP
 rw [hi,aS h,h]
 grind
def yY(val:Key→ByteArray) (x:cW) (c:ph):Bool:=decide ((aF x.ah c.eQ).av<aP val x c.read)
noncomputable def dx(val:Key→ByteArray) (x:cW) (k:Key):Int × Key:=
 if (aw k || aI x k)=true then (0,bO)
 else match az x.ah k with
  | none=>(1,bO)
  | some r=>if r.bp=true then (3,bO) else
   match (bP x.ah (aC x.ah x.ad k)).find? (yY val x) with
   | none=>(0,bO)
   | some c=>(if c.eQ=k then 2 else 3,c.read)
def lO(p:Int × Key):List Value:=[.int .i64 p.1,.int .i64 p.2.kind,.string p.2.text]
theorem oF(h:(aw k || aI x k)=true):dx val x k=(0,bO):=by unfold dx;rw [if_pos h]
theorem EH(h:(aw k || aI x k)=false) (p:az x.ah k=none):dx val x k=(1,bO):=by unfold dx;rw [if_neg (by rw [h];simp),p]
theorem uv(h:(aw k || aI x k)=false) (p:az x.ah k=some r) (t:r.bp=true):dx val x k=(3,bO):=by
 unfold dx
 grind
theorem xN(h:(aw k || aI x k)=false) (p:az x.ah k=some r) (t:r.bp=false) (hn:∀j c,j<(bP x.ah (aC x.ah x.ad k)).length→(bP x.ah (aC x.ah x.ad k))[j]?=some c→yY val x c=false):dx val x k=(0,bO):=by
 unfold dx
 rw [if_neg (by rw [h];simp),p]
 simp only
 rw [if_neg (by rw [t];simp),nv (Nat.le_refl _) hn]
theorem Ho(h:(aw k || aI x k)=false) (p:az x.ah k=some r) (t:r.bp=false) {q:Nat}{c:ph}(hc:(bP x.ah (aC x.ah x.ad k))[q]?=some c) (hn:∀j c,j<q→(bP x.ah (aC x.ah x.ad k))[j]?=some c→yY val x c=false) (A:yY val x c=true):dx val x k=(if c.eQ=k then 2 else 3,c.read):=by
 obtain⟨h1,rfl⟩:=List.getElem?_eq_some_iff.1 hc
 unfold dx
 rw [if_neg (by rw [h];simp),p]
 simp only
 rw [if_neg (by rw [t];simp),gN h1 hn A]
def KR(aa:List aD) (l:List Rec):Prop:=∀r∈l,eB aa r.key∧aw r.key=false∧∀a∈r.reads,eB aa a
theorem KR.Vs{aa:List aD}{l:List Rec}(h:KR aa l):∀r∈l,eP r.key:=fun r hr=>(h r hr).1.eP
theorem KR.aA{aa:List aD}{l:List Rec}(h:KR aa l) (hi:aw k=true):az l k=none:=by
 cases p:az l k with
 | none=>rfl
 | some r=>
  obtain⟨h1,t⟩:=aO p
  have:=(h r h1).2.1
  grind
theorem Hp{l:List Rec}{rev:Int}(p:az l k=some r):∀m∈aC l rev k,∃q,az l m=some q:=fun m hm=>by
 rcases bH.1 hm with rfl | ⟨_,h⟩
 ·
  exact⟨r,p⟩
 obtain⟨q,t,_⟩:=bC.1 h.eY;exact⟨q,t⟩
theorem CI{l:List Rec}(hr:∀r∈l,r.reads.length≤4000) {group:List Key}(h:group.length≤4001) (i:Nat):((group.take i).flatMap fun m=>ct group m (aF l m).reads).length≤100000000:=by
 have h1:∀s:List Key,(s.flatMap fun m=>ct group m (aF l m).reads).length≤s.length*4000:=by
  intro s
  induction s with
  | nil=>simp
  | cons m s p=>
   simp only [List.flatMap_cons,List.length_append,List.length_cons];have t:=ig group m (aF l m).reads
   have A:(aF l m).reads.length≤4000:=by
    cases B:az l m with
    | none=>grind [aF,l8]
    | some r=>grind [aS,aO]
   rw [Nat.add_mul]
   omega
 grind
end
end Go.Rc

namespace Go.Rc
open Go
theorem ll(n:cj):∀l:List cj,(eK n l false).find? (fun x=>x.key == n.key)=some n
 | []=>by simp [eK]
 | x::xs=>by
  by_cases h:0≤bl x.key n.key
  ·
   simp [eK,h]
  have h0:¬bl x.key n.key=0:=by omega
  have p:(x.key == n.key)=false:=by
   rw [beq_eq_false_iff_ne];intro e;rw [e,gD] at h0;exact h0 rfl
  have:=ll n xs
  simp [eK,h,h0,p,this]
theorem iI(n:cj) (l:List cj):bs (eK n l false) n.key=n:=by grind [bs,ll]
structure Je (x:cW) (l:List Change) (y:cW):Prop where
 same:∀k,(∀c∈l,c.key≠k)→bs y.ab k=bs x.ab k
 how:(y.ad=x.ad∧y.ab=x.ab)∨(y.ad=x.ad+1∧∀k,bs y.ab k=bs x.ab k∨(bs y.ab k).changed=x.ad+1)
theorem Je.refl(x:cW) (l:List Change):Je x l x:=⟨fun _ _=>rfl,.inl ⟨rfl,rfl⟩⟩
theorem Hq{rev:Int}{l li:List cj}(h:∀k,bs li k=bs l k∨(bs li k).changed=rev) (n:cj) (hn:n.changed=rev) (k:Key):bs (eK n li false) k=bs l k∨(bs (eK n li false) k).changed=rev:=by
 by_cases e:n.key=k
 ·
  grind [iI]
 rw [lK e];exact h k
/-! ### tasks -/
section
variable {aa:List aD}{H:Int→List cj}{x b:cW}{cz:List Key}{k:Key}
/-! ### cancelled tasks -/
/-! ### bases of the mill -/
structure LC (aa:List aD) (x:cW):Prop where
 lb:LB aa x
 bh:Bh aa x
theorem LC.apply(h:LC aa x) {y:cW}{l:List Change}(p:Je x l y) (hr:y.ah=x.ah) (h0:x.ad≤y.ad) (h1:y.ad≤1073741824) (t:hK y.ad y.ab) (A:y.ab.length≤64):LC aa y:=by
 refine⟨h.lb.apply hr h0 h1 t A,?_⟩
 rcases p.how with⟨e1,e2⟩ | ⟨e1,e2⟩
 ·
  obtain⟨B,C,D⟩:=y;simp only at hr e1 e2;subst hr e1 e2;exact h.bh
 exact h.bh.apply hr e1 fun k=>by rw [e1];exact e2 k
theorem LC.Pq(hR:ao aa) (h:LC aa x) {goals:List Key}(B:∀k∈goals,oq aa k) (C:goals.length≤32):∃(f:Nat) (s':ES),fk aa x goals=0∧Good aa x.ab ⟨x,[],[],0⟩∧(∀k∈goals,eB aa k)∧cI aa (valOf aa x.ab) f ⟨x,[],[],0⟩ goals=some s'∧s'.cz.length≤1000000∧LC aa (s'.base x)∧(s'.base x).ad=x.ad∧s'.e=0∧s'.base x=s'.b∧Wy aa x s'∧(∀k∈goals,aw k=false→aI s'.b k=true)∧∀r∈s'.b.ah,r.av=s'.b.ad→r.value=valOf aa x.ab r.key:=by
 obtain⟨f,s',h1,p,t,A,D,E,F⟩:=h.lb.Pq hR B C;obtain⟨g1,g2,g3,g4,g5,g6⟩:=h.bh.request hR p t A
 have e:s'.base x=s'.b:=by unfold ES.base;rw [if_pos g1]
 exact⟨f,s',h1,p,t,A,D,⟨E,by rw [e];exact g2⟩,F,g1,e,g3,g5,g6⟩
theorem LC.nil(aa:List aD) (y:cW) (hr:y.ah=[]) (h0:0≤y.ad) (h1:y.ad≤1073741824) (h:hK y.ad y.ab) (p:y.ab.length≤64):LC aa y:=by
 refine⟨LB.nil y hr h0 h1 h p,?_⟩;obtain⟨t,A,B⟩:=y
 grind [Bh.new]
end
/-! ### reasons -/
section
variable {aa:List aD}{x y:cW}{k:Key}{s:ES}
theorem BM{val:Key→ByteArray}:(dx val x k).1≠0↔Jc val x k:=by
 unfold Jc
 cases gJ:aw k || aI x k with
 | true=>
  rw [oF gJ]
  grind
 | false=>
  have B:=gJ;rw [Bool.or_eq_false_iff] at gJ
  cases C:az x.ah k with
  | none=>
   rw [EH B C]
   grind
  | some r=>
   cases E:r.bp with
   | true=>grind [uv,aS]
   | false=>
    by_cases p:∀c∈bP x.ah (aC x.ah x.ad k),yY val x c=false
    ·
     rw [xN B C E fun j c _ hc=>p c (List.mem_of_getElem? hc)];refine⟨fun h=>absurd rfl h,?_⟩;rintro⟨_,_,h | h | ⟨m,a,h1,t,A,F⟩⟩
     ·
      cases h
     ·
      grind [aS]
     have:=p ⟨m,a⟩ (fo.2 ⟨h1,t,A⟩)
     grind [yY]
    have hex:∃c,c∈bP x.ah (aC x.ah x.ad k)∧yY val x c=true:=Classical.byContradiction fun hn=>p fun c hc=>by grind
    have hw:(dx val x k).1≠0:=by
     unfold dx
     grind
    refine⟨fun _=>⟨gJ.1,gJ.2,.inr (.inr ?_)⟩,fun _=>hw⟩;obtain⟨c,hc,D⟩:=hex;obtain⟨h1,t,A⟩:=fo.1 hc;exact⟨c.eQ,c.read,h1,t,A,by unfold yY at D;exact of_decide_eq_true D⟩
theorem Wy.runs(h:Wy aa x s) (hw:Jc (valOf aa x.ab) x k) (hu:aI s.b k=true):k∈s.cz:=by
 obtain⟨_,hn,hc⟩:=hw
 rcases h.TS k hn hu with h1 | h1
 ·
  exact h1
 have p:=h.ev.pt k
 have t:∀r,az s.b.ah k=some r→r.av=x.ad:=fun r hr=>by grind [bU,rev]
 rcases p with e | ⟨_,r,e1,e2,e3,_⟩ | ⟨⟨e1,_⟩,_⟩
 ·
  grind [bU]
 ·
  grind [aS]
 exact e1
end
end Go.Rc

namespace Go.Rc
open Go
structure AO (x:cW) (l:List Change) (y:cW):Prop where
 one:∀c,l=[c]→(bs x.ab c.key).value≠c.value→x.ad+1≤1073741824→y=⟨x.ad+1,eK ⟨c.key,c.value,x.ad+1⟩ x.ab false,x.ah⟩
 KN:∀k,bs y.ab k=bs x.ab k∨(bs y.ab k).value≠(bs x.ab k).value
 src:∀k,bs y.ab k=bs x.ab k∨∃c∈l,(bs y.ab k).value=c.value
structure CJ (x:cW) (l:List Change) (i:Nat) (ch:Bool) (li:List cj):Prop where
 one:∀c,l=[c]→(i=0∧ch=false∧li=x.ab)∨(i=1∧((bs x.ab c.key).value=c.value∨(ch=true∧li=eK ⟨c.key,c.value,x.ad+1⟩ x.ab false)))
 KN:∀k,bs li k=bs x.ab k∨(bs li k).value≠(bs x.ab k).value
 src:∀k,bs li k=bs x.ab k∨∃c∈l,(bs li k).value=c.value
section
variable {x:cW}{l:List Change}{i:Nat}{ch:Bool}{li:List cj}
theorem CJ.start:CJ x l 0 false x.ab:=⟨fun _ _=>.inl ⟨rfl,rfl,rfl⟩,fun _=>.inl rfl,fun _=>.inl rfl⟩
theorem CJ.skip(h:CJ x l i ch li) (hi:i<l.length) {p:Bool}(h1:l.length=i+1→p=true) (g:(!p || decide ((bs x.ab l[i].key).value=l[i].value))=true):CJ x l (i+1) ch li:=by
 refine⟨fun c e=>?_,h.KN,h.src⟩;subst e
 have h0:i=0:=by simpa using hi
 subst h0;rw [h1 rfl] at g;exact .inr ⟨rfl,.inl (by simpa using g)⟩
theorem CJ.put(h:CJ x l i ch li) (hi:i<l.length) {t:Bool}(g:(!t || decide ((bs x.ab l[i].key).value=l[i].value))=false):CJ x l (i+1) true (eK ⟨l[i].key,l[i].value,x.ad+1⟩ li false):=by
 refine⟨fun c e=>?_,fun k=>?_,fun k=>?_⟩
 ·
  subst e
  have h0:i=0:=by simpa using hi
  subst h0
  rcases h.one c rfl with⟨_,_,e⟩ | ⟨e,_⟩
  ·
   subst e;exact .inr ⟨rfl,.inr ⟨rfl,rfl⟩⟩
  cases e
 ·
  by_cases e:l[i].key=k
  ·
   subst e;have p:=iI ⟨l[i].key,l[i].value,x.ad+1⟩ li;simp only at p;rw [p]
   simp at g
   exact .inr fun e=>g.2 e.symm
  rw [lK e];exact h.KN k
 by_cases e:l[i].key=k
 ·
  subst e;have p:=iI ⟨l[i].key,l[i].value,x.ad+1⟩ li;simp only at p;rw [p];exact .inr ⟨l[i],List.getElem_mem hi,rfl⟩
 rw [lK e];exact h.src k
theorem CJ.same(h:CJ x l i ch li) (hi:l.length≤i) (hc:ch=false):AO x l x:=by
 refine⟨fun c e p _=>?_,fun _=>.inl rfl,fun _=>.inl rfl⟩;subst e
 rcases h.one c rfl with⟨e,_⟩ | ⟨_,e | ⟨e,_⟩⟩
 ·
  subst e;simp at hi
 ·
  exact absurd e p
 rw [hc] at e;cases e
theorem CJ.done(h:CJ x l i ch li) (hi:l.length≤i):AO x l ⟨x.ad+1,li,x.ah⟩:=by
 refine⟨fun c e p _=>?_,h.KN,h.src⟩;subst e
 rcases h.one c rfl with⟨e,_⟩ | ⟨_,e | ⟨_,e⟩⟩
 ·
  subst e;simp at hi
 ·
  exact absurd e p
 rw [e]
end
end Go.Rc

namespace Go.Rc
open Go
instance:Inhabited Key:=⟨bO⟩
theorem CK{w w':World}(h:aK [] w w'):∃q os,w'=Sort.grow (w.drewN q) os:=by
 refine⟨w'.drawn - w.drawn,w'.heap.extract w.heap.size w'.heap.size,?_⟩;obtain⟨A,ht,hu,B,C,hb⟩:=h
 have p:w'.heap=w.heap++w'.heap.extract w.heap.size w'.heap.size:=by grind
 have t:w'.drawn=w.drawn+(w'.drawn - w.drawn):=by omega
 generalize w'.heap.extract w.heap.size w'.heap.size=os at p
 generalize w'.drawn - w.drawn=q at t
 cases w'
 cases w
 simp only at A ht hu p t;subst A ht hu p t
 rfl
section
variable {α:Type} [Inhabited α] {row:α→List Value}{k:Nat}{key:α→Key}
theorem Hr:Sort.SWO (Proofs.ltOf fun x y=>bl (key x) (key y)):=by
 refine⟨fun x=>?_,fun x y z h1 h=>?_,fun x y z h1 h=>?_⟩
 ·
  grind [Proofs.ltOf,gD]
 ·
  unfold Proofs.ltOf at *
  rw [decide_eq_true_eq] at *;exact fN h1 h
 grind [Proofs.ltOf,gE,fN,j3]
theorem vp(hk:∀x,(row x).length=k) (l:List α):(l.map row).flatten.length=l.length*k:=by
 induction l with
 | nil=>simp
 | cons x r h=>simp only [List.map_cons,List.flatten_cons,List.length_append,List.length_cons,Nat.add_mul,h,hk];omega
theorem xO(hk:∀x,(row x).length=k) (l:List α) (t:Nat) (ht:t<l.length*k):(l.map row).flatten[t]?=some ((row (l.toArray[t / k]!))[t % k]!):=by
 have h0:0<k:=by rcases Nat.eq_zero_or_pos k with h | h;subst h;omega;exact h
 have hi:t / k<l.length:=(Nat.div_lt_iff_lt_mul h0).2 ht
 have hr:(l.map row)[t / k]?=some (row l[t / k]):=by grind
 have e:t=t / k*k+t % k:=by rw [Nat.mul_comm];exact(Nat.div_add_mod t k).symm
 have h1:(l.toArray[t / k]!)=l[t / k]:=by simp [hi]
 rw [h1];have hm:t % k<k:=Nat.mod_lt _ h0
 have h:=kO (l.map row) k (t / k) _ (fun r hr=>by obtain⟨x,_,rfl⟩:=List.mem_map.1 hr;exact hk x) hr (t % k) ((row l[t / k])[t % k]!) (by
  rw [List.getElem?_eq_getElem (by rw [hk];exact hm),getElem!_pos])
 rw [← e] at h;exact h
theorem CL(hk:∀x,(row x).length=k) {w:World}{b E:Nat}{cur:Array Value}{l:List α}(hb:w.heap[b]?=some (.cells cur E (0,0))) (ht:cur.toList.take (l.length*k)=(l.map row).flatten):Sort.HoldsK row k w b 0 l.toArray:=by
 unfold Sort.HoldsK
 intro j h;rw [Sort.size_flatK,List.size_toArray] at h;have h1:=xO hk l j h;rw [← ht,List.getElem?_take,if_pos h,Array.getElem?_toList] at h1;refine⟨?_,?_⟩
 ·
  unfold World.cell?
  simp only [hb,Nat.zero_add]
  grind [Sort.get_flatK]
 grind [World.frozen?]
theorem Hs(hk:∀x,(row x).length=k) {w:World}{b E m:Nat}{os:Array Obj}{cur:Array Value}{l l':List α}(hb:w.heap[b]?=some (.cells cur E (0,0))) (ht:cur.toList.take (l.length*k)=(l.map row).flatten) (hl:l'.length=l.length):∃mE:Array Value,(Proofs.sortWorldK row k w b 0 m l'.toArray os).heap[b]?=some (.cells mE E (0,0))∧mE.size=cur.size∧mE.toList.take (l'.length*k)=(l'.map row).flatten:=by
 have p:b<w.heap.size:=(Array.getElem?_eq_some_iff.1 hb).1;refine⟨Sort.putCells id 0 (Sort.flatK row k l'.toArray) cur,?_,by unfold Sort.putCells;simp,?_⟩
 ·
  unfold Proofs.sortWorldK
  rw [Sort.heap_grow_old _ _ (by grind [Sort.putRowK,Sort.putRow,Sort.mapBlock,Sort.ahead])]
  unfold Sort.putRowK Sort.putRow Sort.mapBlock Sort.ahead
  simp only [Array.getElem?_modify,if_true,hb]
  rfl
 have hlen:l.length*k≤cur.size:=by
  have h1:=congrArg List.length ht;have A:=vp hk l
  grind
 apply List.ext_getElem?
 intro t
 by_cases h:t<l'.length*k
 ·
  rw [xO hk l' t h,List.getElem?_take,if_pos h,Array.getElem?_toList]
  unfold Sort.putCells
  rw [hl] at h;rw [Array.getElem?_mapIdx,Array.getElem?_eq_getElem (by omega),Option.map_some];rw [if_pos ⟨Nat.zero_le _,by simp_all⟩,Nat.sub_zero,Sort.get_flatK _ _ _ _ (by rw [List.size_toArray,hl];exact h)]
  rfl
 rw [List.getElem?_eq_none (by rw [List.length_take];omega),List.getElem?_eq_none (by rw [vp hk];omega)]
theorem EJ{w:World}{b m:Nat}{os:Array Obj}{d:Array α}:aK [b] w (Proofs.sortWorldK row k w b 0 m d os):=by
 refine⟨rfl,rfl,rfl,?_,?_,fun k hk hn=>?_⟩
 ·
  unfold Proofs.sortWorldK Sort.grow Sort.putRowK Sort.putRow Sort.mapBlock Sort.ahead
  simp
 ·
  exact Nat.le_add_right _ _
 unfold Proofs.sortWorldK
 rw [Sort.heap_grow_old _ _ (by grind [Sort.putRowK,Sort.putRow,Sort.mapBlock,Sort.ahead])]
 unfold Sort.putRowK Sort.putRow Sort.mapBlock Sort.ahead
 grind
theorem CN{P:Program}{F g E:Nat}(hk:∀x,(row x).length=k) (h1:∀x,∀v∈row x,v.oneCell'=true) (G:∀(blk cap:Nat) (d:Array α) (w:World),Proofs.CmpLays P g #[] row k (fun x y=>bl (key x) (key y)) blk 0 d.size w→Sort.HoldsK row k w blk 0 d→blk<w.heap.size→d.size<4611686018427387904→Calls P F #[.slice (some ⟨blk,0,none⟩) d.size cap,.func (.func g) #[] #[]] w fun e w'=>e=.returned (.tuple #[])∧∃d' n os,Sort.PermIn 0 d.size d d'∧Sort.SortedIn (Proofs.ltOf fun x y=>bl (key x) (key y)) 0 d.size d'∧w'=Proofs.sortWorldK row k w blk 0 n d' os)
  (hcmp:∀(x y:α) (w:World),Calls P g #[.agg (row x).toArray,.agg (row y).toArray] w fun e w'=>e=.returned (.int .i64 (bl (key x) (key y)))∧aK [] w w')
  {l:List α}{a:Option Addr}{n c:Nat}{w:World}{M Z:Nat→Prop}(A:St w M Z w [As.os (RR.flat row) E k a n c l]) (h0:l≠[]) (hn:l.length≤1000000):Calls P F #[.slice a n c,.func (.func g) #[] #[]] w fun e w'=>e=.returned (.tuple #[])∧∃l',l'.Perm l∧(l'.Pairwise fun x y=>¬bl (key y) (key x)<0)∧St w M Z w' [As.os (RR.flat row) E k a n c l']:=by
 have I:=As.gs A.g0;obtain⟨p,rows,Jf,Oc,J,N⟩:=id I
 have O:rows=l.map row:=by
  apply List.ext_getElem?
  intro i;rw [List.getElem?_map]
  by_cases hi:i<l.length
  ·
   rw [List.getElem?_eq_getElem (by omega),List.getElem?_eq_getElem hi]
   have:=N i l[i] rows[i] (List.getElem?_eq_getElem hi) (List.getElem?_eq_getElem (by omega))
   rw [RR.bT this]
   rfl
  grind
 rcases J.cases with⟨g1,g2,_⟩ | ⟨b,cur,rfl,Od,hb,Q,R,S,ht⟩
 ·
  grind
 rw [O,p] at ht;have V:b<w.heap.size:=(Array.getElem?_eq_some_iff.1 hb).1
 have hc:Proofs.CmpLays P g #[] row k (fun x y=>bl (key x) (key y)) b 0 l.toArray.size w:=fun m os dk _ x y=>(hcmp x y _).mono fun e w' ⟨h1,W⟩=>⟨h1,CK W⟩
 have B:=G b c l.toArray w hc (CL hk hb ht) V (by rw [List.size_toArray];omega);rw [List.size_toArray,← p] at B;refine B.mono ?_;rintro e w' ⟨rfl,d',m,os,⟨t,_,X⟩,C,rfl⟩;rw [p] at X C
 have t:d'.size=l.length:=by rw [t,List.size_toArray]
 have D:d'.toList.Perm l:=by grind [Array.extract_size]
 obtain⟨l',rfl⟩:∃l':List α,d'=l'.toArray:=⟨d'.toList,by simp⟩
 have hl:l'.length=l.length:=by simpa using t
 simp only at D;obtain⟨mE,g1,g2,g3⟩:=Hs hk (m:=m) (os:=os) hb ht hl;refine⟨rfl,l',D,?_,?_⟩
 ·
  rw [List.pairwise_iff_getElem];intro i j hi hj Y;have h1:=C i j (Nat.zero_le _) Y (by omega)
  grind [Proofs.ltOf]
 refine A.lT (w':=Proofs.sortWorldK row k w b 0 m l'.toArray os) (EJ.mono fun x h=>by simpa [aZ] using h) ?_ (fun x h=>.inl h);refine⟨by omega,l'.map row,by simp,fun r hr=>by obtain⟨x,_,rfl⟩:=List.mem_map.1 hr;exact hk x,?_,fun i x r h hr=>?_⟩
 ·
  refine⟨fun u hu=>?_,?_,.inr ⟨b,c,mE,rfl,Nat.zero_le _,g1,Q,R,by rw [g2];exact S,by grind⟩⟩
  ·
   obtain⟨r,hr,hu⟩:=List.mem_flatten.1 hu;obtain⟨x,_,rfl⟩:=List.mem_map.1 hr;exact h1 x u hu
  rw [vp hk]
  grind
 rw [List.getElem?_map,h] at hr
 cases hr
 rfl
end
end Go.Rc

namespace Go.Rc
open Go
section
variable {w0 w:World}{M Z:Nat→Prop}{l:List As}
theorem St.g16{t A B C D E F G I J N O Q R S V p:As}(h:St w0 M Z w (t::A::B::C::D::E::F::G::I::J::N::O::Q::R::S::V::p::l)):p.ok Z w:=h.ok _ (by simp)
theorem St.g20{t A B C D E F G I J N O Q R S V W X Y PI p:As}(h:St w0 M Z w (t::A::B::C::D::E::F::G::I::J::N::O::Q::R::S::V::W::X::Y::PI::p::l)):p.ok Z w:=h.ok _ (by simp)
theorem St.g21{t A B C D E F G I J N O Q R S V W X Y PI Vt p:As}(h:St w0 M Z w (t::A::B::C::D::E::F::G::I::J::N::O::Q::R::S::V::W::X::Y::PI::Vt::p::l)):p.ok Z w:=h.ok _ (by simp)
theorem St.g22{t A B C D E F G I J N O Q R S V W X Y PI Vt A21 p:As}(h:St w0 M Z w (t::A::B::C::D::E::F::G::I::J::N::O::Q::R::S::V::W::X::Y::PI::Vt::A21::p::l)):p.ok Z w:=h.ok _ (by simp)
end
theorem lj.kr{aa:List aD}{x:cW}(h:lj aa x):KR aa x.ah:=fun r hr=>by
 obtain⟨h1,p,t,_⟩:=h.2.2.2.2.2.1 r hr;exact⟨h1,p,t⟩
theorem lj.r4{aa:List aD}{x:cW}(h:lj aa x):∀r∈x.ah,r.reads.length≤4000:=fun r hr=>by
 obtain⟨_,_,_,p⟩:=h.2.2.2.2.2.1 r hr
 grind [eS]
end Go.Rc

namespace Go.Rc
open Go
end Go.Rc

namespace Go.Rc
open Go
section
variable {val:Key→ByteArray}{x:cW}{i:Nat}{k:Key}{o:List Key}
noncomputable def hM(val:Key→ByteArray) (x:cW) (i:Nat):List Key:=((x.ah.take i).filter fun r=>decide ((dx val x r.key).1≠0)).map (·.key)
noncomputable def mU(val:Key→ByteArray) (x:cW):List Key:=(x.ah.filter fun r=>decide ((dx val x r.key).1≠0)).map (·.key)
theorem xP:hM val x 0=[]:=rfl
theorem zQ(val:Key→ByteArray) (x:cW) (i:Nat):(hM val x i).length≤i:=by grind [hM]
theorem zR(hi:i<x.ah.length) (h:(dx val x x.ah[i].key).1≠0):hM val x (i+1)=hM val x i++[x.ah[i].key]:=by
 unfold hM
 rw [List.take_succ_eq_append_getElem hi,List.filter_append,List.map_append,List.filter_cons,if_pos (decide_eq_true h)]
 rfl
theorem CO(hi:i<x.ah.length) (h:(dx val x x.ah[i].key).1=0):hM val x (i+1)=hM val x i:=by
 unfold hM
 rw [List.take_succ_eq_append_getElem hi,List.filter_append,List.map_append,List.filter_cons,if_neg (by simpa using h)]
 simp
theorem zS(hi:x.ah.length≤i):hM val x i=mU val x:=by grind [hM,mU,List.take_of_length_le]
noncomputable def eH(val:Key→ByteArray) (x:cW):Nat→Key→List Key→List Key
 | 0,_,o=>o
 | n+1,k,o=>if k=bO∨k∈o then o else eH val x n (dx val x k).2 (o++[k])
theorem rE(h:k=bO∨k∈o) (n:Nat):eH val x n k o=o:=by
 cases n with
 | zero=>rfl
 | succ n=>unfold eH;rw [if_pos h]
theorem iJ(h:¬(k=bO∨k∈o)) (n:Nat):eH val x (n+1) k o=eH val x n (dx val x k).2 (o++[k]):=by
 rw [eH,if_neg h]
theorem EL(h:(dx val x k).2≠bO):k∈x.ah.map (·.key):=by
 unfold dx at h
 split at h
 ·
  exact absurd rfl h
 split at h
 ·
  exact absurd rfl h
 rename_i r hr
 exact List.mem_map.2 ⟨r,(aO hr).1,(aO hr).2⟩
structure EM (val:Key→ByteArray) (x:cW) (k0 k:Key) (o:List Key) (n:Nat):Prop where
 ie:o.Nodup
 rcs:k=bO∨∀y∈o,y∈x.ah.map (·.key)
 fuel:o.length+n=x.ah.length+1
 eq:eH val x n k o=eH val x (x.ah.length+1) k0 []
theorem EM.start:EM val x k k [] (x.ah.length+1):=⟨.nil,.inr fun y hy=>(by cases hy),by simp,rfl⟩
theorem EM.pos{k0:Key}{n:Nat}(h:EM val x k0 k o n) (hk:k≠bO):o.length≤x.ah.length∧0<n:=by
 have h1:=ez h.ie (h.rcs.resolve_left hk)
 grind [fuel]
theorem EM.next{k0:Key}{n:Nat}(h:EM val x k0 k o (n+1)) (hk:k≠bO) (p:k∉o):EM val x k0 (dx val x k).2 (o++[k]) n:=by
 refine⟨?_,?_,by grind [fuel],by rw [← iJ (fun e=>e.elim hk p)];exact h.eq⟩
 ·
  grind [ie]
 by_cases hb:(dx val x k).2=bO
 ·
  exact .inl hb
 refine .inr fun y hy=>?_
 rcases List.mem_append.1 hy with hy | hy
 ·
  exact h.rcs.resolve_left hk y hy
 grind [EL]
theorem EM.done{k0:Key}{n:Nat}(h:EM val x k0 k o n) (p:k=bO∨k∈o):o=eH val x (x.ah.length+1) k0 []:=by
 rw [← h.eq,rE p]
end
end Go.Rc
namespace Go.Rc
open Go
theorem PV.KY{P:Program}{kv:KV}{w:World}{T ty:TypeId}{f off k:Nat}{fs:List Field}{fd:Field}(hu:P.underlying T=some (.struct fs.toArray)) (p:fs[f]?=some fd) (t:fd.offset=off) (h1:∀w,(isAgg fd.type).run P w=.ok true w) (A:∀w,(sizeOf fd.type).run P w=.ok k w)
  {x:Operand}{us vs:List Value}(h:ev kv x=some (.agg us.toArray)) (B:(us.drop off).take k=vs):PV P (.field T x f) ty kv w (.agg vs.toArray):=by
 subst t
 have C:fs.toArray[f]?=some fd:=by simpa using p
 refine⟨rfl,by simp [known,opers,h],fun _ _ _ _=>?_⟩
 simp [execOp,aG h,Instr.field,run_underlying hu,C,part,h1 w,A w,asAgg]
 exact B
end Go.Rc

namespace Go.Rc
open Go
def r3:aD:=⟨false,[],1,3⟩
abbrev K0:Key:=⟨31,itoa ((0:Nat):Int)⟩
abbrev v3:ByteArray:=itoa 3
theorem Ht:fR ⟨0,[],[]⟩:=⟨fun i y h=>by simp at h,fun i r h=>by simp at h,by decide,by decide,by simp,by simp,fun i x h=>by simp at h⟩
theorem PJ{aa:List aD}:Good aa [] ⟨⟨0,[],[]⟩,[],[],0⟩:=⟨rfl,by simp,by simp,by simp,by simp,fun k=>.inl rfl⟩
abbrev s1:ES:=⟨⟨0,[],[Vf 0 v3]⟩,[],[K0],0⟩
end Go.Rc
namespace Go.Rc
open Go
abbrev v4:ByteArray:=⟨#[52]⟩
end Go.Rc

namespace Go.Rc
open Go
section
variable {P:Program}{kv:KV}{w:World}{T U ty:TypeId}{x y:Operand}
theorem PV.Vu{p q:Bool}(hT:P.underlying T=some .bool) (t:ev kv x=some (.bool p)) (hy:ev kv y=some (.bool q)) (h:p=q):PV P (.binOp .neq T x y U) ty kv w (.bool false):=by
 refine⟨rfl,by simp [known,opers,t,hy],fun _ _ _ _=>?_⟩
 have he:(Op.equalIn 10000 T (.bool p) (.bool q)).run P w=.ok (p == q) w:=by
  rw [show(10000:Nat)=9999+1 from rfl]
  unfold Op.equalIn
  simp [run_underlying hT]
 subst h;simp only [execOp,aG t,aG hy]
 simp [eqGuard,binOp,Op.equal,Op.maxDepth,he]
end
end Go.Rc
namespace Go.Rc
open Go
end Go.Rc

namespace Go.Rc
open Go
end Go.Rc

namespace Go.Rc
open Go
abbrev q0:aD:=⟨false,[⟨true,false,0,0⟩],1,0⟩
abbrev q1:aD:=⟨false,[⟨false,false,0,0⟩],1,0⟩
abbrev Q2:List aD:=[q0,q1]
abbrev K1:Key:=⟨31,itoa ((1:Nat):Int)⟩
abbrev C0:Key:=bz ((0:Nat):Int)
theorem BN:C0=⟨30,⟨#[48]⟩⟩:=by simp [bz,itoa,Lib.itoa,Lib.decDigits]
theorem rF:K0=⟨31,⟨#[48]⟩⟩:=by simp [itoa,Lib.itoa,Lib.decDigits]
theorem uw:K1=⟨31,⟨#[49]⟩⟩:=by simp [itoa,Lib.itoa,Lib.decDigits]
theorem mf:ao Q2:=by
 refine⟨by simp,fun i r h=>?_⟩
 have hi:i=0∨i=1:=by have:=(List.getElem?_eq_some_iff.1 h).1;simp at this;omega
 rcases hi with rfl | rfl
 ·
  simp at h;subst h
  refine⟨by simp,fun k x p=>?_,rfl⟩
  have hk:k=0:=by have:=(List.getElem?_eq_some_iff.1 p).1;simp at this;omega
  subst hk;simp at p;subst p;decide
 simp at h;subst h
 refine⟨by simp,fun k x p=>?_,rfl⟩
 have hk:k=0:=by have:=(List.getElem?_eq_some_iff.1 p).1;simp at this;omega
 subst hk;simp at p;subst p;decide
theorem ux:aH Q2 ((0:Nat):Int)=K0:=by
 unfold aH
 rw [if_neg (by simp)]
 simp [ax]
theorem rG:aH Q2 ((1:Nat):Int)=K1:=by
 unfold aH
 rw [if_neg (by simp)]
 simp [ax]
theorem vq:number K0=((0:Nat):Int):=by rw [← ux];exact bG (by simp) (by omega)
theorem rH:number K1=((1:Nat):Int):=by rw [← rG];exact bG (by simp) (by omega)
theorem KZ:eB Q2 K0:=by rw [← ux];exact .eF (by simp) (by omega)
theorem EN:eB Q2 K1:=by rw [← rG];exact .eF (by simp) (by omega)
theorem EO:eu Q2 K1=true:=by
 have h:=rG
 simp [eu,el,rH] at h ⊢
 exact h
theorem K2:fk Q2 ⟨0,[],[]⟩ [K1]=0:=by
 unfold fk
 rw [if_neg (fun h=>h mf),if_neg (fun h=>h Ht),if_neg (by simp),if_pos (by simp [EO])]
theorem t0a:ca Q2 K0 []=⟨false,⟨#[]⟩,C0⟩:=by
 rw [jB (i:=0) vq (by simp) (by rw [vq];exact ux) (by simp)]
 rfl
theorem t0b(v:ByteArray):ca Q2 K0 [v]=⟨true,itoa (cV 1 0 [cc v]),bO⟩:=by
 rw [jA (i:=0) vq (by simp) (by rw [vq];exact ux) (by simp)]
 rfl
theorem t1a:ca Q2 K1 []=⟨false,⟨#[]⟩,K0⟩:=by
 rw [jB (i:=1) rH (by simp) (by rw [rH];exact rG) (by simp)];rw [← ux];rfl
theorem t1b(v:ByteArray):ca Q2 K1 [v]=⟨true,itoa (cV 1 0 [cc v]),bO⟩:=by
 rw [jA (i:=1) rH (by simp) (by rw [rH];exact rG) (by simp)]
 rfl
abbrev z0:ByteArray:=⟨#[48]⟩
abbrev z5:ByteArray:=⟨#[53]⟩
theorem it0:itoa ((0:Nat):Int)=z0:=by simp [itoa,Lib.itoa,Lib.decDigits]
theorem it5:itoa ((5:Nat):Int)=z5:=by simp [itoa,Lib.itoa,Lib.decDigits]
theorem fv(v:ByteArray) (n:Nat) (h:cc v=n) (hn:n<1000):itoa (cV 1 0 [cc v])=itoa n:=by
 rw [h];simp [cV,pS,Nat.mod_eq_of_lt hn]
theorem vs0:cc z0=0:=by decide
theorem vs5:cc z5=5:=by decide
theorem vsE:cc ⟨#[]⟩=0:=by decide
theorem PK{aA:List cj}{n:Nat}(h:cc (cellOf aA C0)=n) (hn:n<1000):valOf Q2 aA K0=itoa n:=by
 have e:=fL (aA:=aA) mf (i:=0) (by simp);rw [show cy Q2 0=1 from rfl,ux] at e;simp only [dG,List.nil_append] at e;rw [t0a,t0b,kY (by omega),fv _ n h hn] at e
 injection e with _ e2 _
 exact e2.symm
abbrev gR(i:Nat) (a:Key):Rec:=⟨⟨31,itoa (i:Int)⟩,z0,[a],0,0,2,false⟩
abbrev bQ:cW:=⟨0,[],[gR 0 C0,gR 1 K0]⟩
abbrev sQ:ES:=⟨bQ,[],[K0,K1],0⟩
theorem u0a:bB Q2 K0 []=⟨false,⟨#[]⟩,C0⟩:=by unfold bB;rw [if_pos (.inl rfl)];exact t0a
theorem u0b:bB Q2 K0 [⟨#[]⟩]=⟨true,z0,bO⟩:=by unfold bB;rw [if_pos (.inl rfl),t0b,fv _ 0 vsE (by omega),it0]
theorem u1a:bB Q2 K1 []=⟨false,⟨#[]⟩,K0⟩:=by unfold bB;rw [if_pos (.inl rfl)];exact t1a
theorem u1b:bB Q2 K1 [z0]=⟨true,z0,bO⟩:=by unfold bB;rw [if_pos (.inl rfl),t1b,fv _ 0 vs0 (by omega),it0]
theorem Hu:aw C0=true:=aN (n:=0) (by omega)
theorem Hv:aw K0=false:=rfl
theorem Vv:aw K1=false:=rfl
theorem K3:(K0 == K1)=false:=by rw [rF,uw];decide
theorem Vw:(K1 == K0)=false:=by rw [rF,uw];decide
theorem kpC(val:Key→ByteArray):dt val ⟨0,[],[]⟩ C0=⟨#[]⟩:=by
 unfold dt nG
 rw [if_neg (by rw [BN];decide),if_pos Hu]
 rfl
theorem Vx:az [gR 0 C0] K0=some (gR 0 C0):=by simp [az]
theorem kpK(val:Key→ByteArray):dt val ⟨0,[],[gR 0 C0]⟩ K0=z0:=by
 have h:jh ⟨0,[],[gR 0 C0]⟩ K0=true:=by unfold jh;rw [Hv,Vx,aS Vx];rfl
 unfold dt nG
 rw [if_neg (by rw [rF];decide),if_neg (by rw [Hv];simp),if_pos h,aS Vx]
theorem Vy:di ⟨0,[],[]⟩ K0 z0 [C0]=gR 0 C0:=rfl
theorem Vz:di ⟨0,[],[gR 0 C0]⟩ K1 z0 [K0]=gR 1 K0:=by
 have h:az [gR 0 C0] K1=none:=by simp only [az,List.find?_cons];rw [show((gR 0 C0).key == K1)=false from K3];rfl
 unfold di
 simp only [h]
 rfl
theorem VB:eN [] (gR 0 C0)=[gR 0 C0]:=rfl
theorem VC:eN [gR 0 C0] (gR 1 K0)=[gR 0 C0,gR 1 K0]:=by
 have h:bl K0 K1 = -1:=by rw [rF,uw];decide
 unfold eN
 simp only [dH,h]
 rfl
section
variable {aa:List aD}{val:Key→ByteArray}{k c:Key}{z u:ByteArray}{s s':ES}{rs:List Key}{an:List ByteArray}{f:Nat}
theorem BO(h0:s.e=0) (a1:bB aa k an=⟨false,⟨#[]⟩,c⟩) (hu:hY aa val f s c=some s') (h1:s'.e=0) (e:dt val s'.b c=u):eG aa val (f+1) s k rs an=eG aa val f s' k (rs++[c]) (an++[u]):=by
 rw [eG,if_neg (by rw [h0];simp),a1,if_neg (by simp),hu,Option.bind_some,if_pos h1,e]
theorem BP(h0:s.e=0) (a1:bB aa k an=⟨true,z,bO⟩) (hn:s.b.ah.length<4000) {r:Rec}{l:List Rec}(m:di s.b k z rs=r) (p:eN s.b.ah r=l):eG aa val (f+1) s k rs an=some {s with b:={s.b with ah:=l},cz:=s.cz++[k]}:=by
 rw [eG,if_neg (by rw [h0];simp),a1,if_pos rfl,if_neg (by simp;omega),m,p]
theorem K4(h:aw k=true):hY aa val (f+1) s k=some s:=by rw [hY,if_pos (.inr h)]
theorem EP(h0:s.e=0) (hi:aw k=false) (h:az s.b.ah k=none) (p:s.on k=false) (hr:eG aa val (f+1) {s with busy:=bZ s.busy k (.bool true)} k [] []=some s'):hY aa val (f+2) s k=some {s' with busy:=fI s'.busy k}:=by
 have gJ:aI s.b k=false:=by unfold aI;rw [h];rfl
 rw [hY,if_neg (by rw [h0,hi];simp),if_neg (by rw [gJ];simp),if_neg (by rw [p];simp),cm,if_neg (by simp [h0]),if_pos (by simp [h]),Option.bind_some,if_pos rfl,hr,Option.bind_some]
end
theorem VD{aa:List aD}{val:Key→ByteArray}{k0 k1 c:Key}{z u:ByteArray}{r0 r1:Rec}(a1:bB aa k0 []=⟨false,⟨#[]⟩,c⟩) (a2:bB aa k0 [u]=⟨true,z,bO⟩) (a3:bB aa k1 []=⟨false,⟨#[]⟩,k0⟩) (a4:bB aa k1 [z]=⟨true,z,bO⟩)
  (i0:aw c=true) (t:aw k0=false) (i2:aw k1=false) (e1:dt val ⟨0,[],[]⟩ c=u) (e2:dt val ⟨0,[],[r0]⟩ k0=z) (m0:di ⟨0,[],[]⟩ k0 z [c]=r0) (m1:di ⟨0,[],[r0]⟩ k1 z [k0]=r1)
  (p0:eN [] r0=[r0]) (p1:eN [r0] r1=[r0,r1]) (f1:az [r0] k1=none) (p:¬k1=k0):cI aa val 10 ⟨⟨0,[],[]⟩,[],[],0⟩ [k1]=some ⟨⟨0,[],[r0,r1]⟩,[],[k0,k1],0⟩:=by
 have h0:hY aa val 8 ⟨⟨0,[],[]⟩,[(k1,.bool true)],[],0⟩ k0=some ⟨⟨0,[],[r0]⟩,[(k1,.bool true)],[k0],0⟩:=by
  have h:=(BO (rs:=[]) (an:=[]) (s:=⟨⟨0,[],[]⟩,bZ [(k1,.bool true)] k0 (.bool true),[],0⟩) (f:=6) rfl a1 (K4 i0) rfl e1).trans (BP rfl a2 (by simp) m0 p0);rw [EP (f:=6) (s':=_) rfl t rfl (by simp [ES.on,aX,p]) h]
  simp [bZ,fI,p]
 have h1:hY aa val 10 ⟨⟨0,[],[]⟩,[],[],0⟩ k1=some ⟨⟨0,[],[r0,r1]⟩,[],[k0,k1],0⟩:=by
  have h:=(BO (rs:=[]) (an:=[]) (s:=⟨⟨0,[],[]⟩,[(k1,.bool true)],[],0⟩) (f:=8) rfl a3 h0 rfl e2).trans (BP rfl a4 (by simp) m1 p1);rw [EP (f:=8) (s':=_) rfl i2 rfl rfl h]
  simp [fI]
 simp only [cI,h1,Option.bind_some]
theorem PN(val:Key→ByteArray):cI Q2 val 10 ⟨⟨0,[],[]⟩,[],[],0⟩ [K1]=some sQ:=
 VD u0a u0b u1a u1b Hu Hv Vv (kpC val) (kpK val) Vy Vz VB VC (by simp only [az,List.find?_cons];rw [show((gR 0 C0).key == K1)=false from K3];rfl) (by have:=Vw;simpa using this)
end Go.Rc

namespace Go.Rc
open Go
section
variable {val:Key→ByteArray}{x:cW}{k a:Key}{r:Rec}
theorem xQ(hc:aB k=false) (hi:aw k=false) (h:az x.ah k=some r) (p:r.bp=false) (hr:r.reads=[a]) (t:a≠k) (A:r.av≠x.ad) (B:r.av<aP val x a):dx val x k=(2,a):=by
 have hu:aI x k=false:=by unfold aI;rw [h,aS h];simp [A]
 have C:bP x.ah (aC x.ah x.ad k)=[⟨k,a⟩]:=by
  rw [iX hc]
  simp [bP,ct,aS h,hr,t]
 unfold dx
 rw [hi,hu,h,C]
 have D:yY val x ⟨k,a⟩=true:=by unfold yY;rw [aS h];exact decide_eq_true B
 simp [p,D]
end
abbrev iQ:List cj:=[⟨C0,z5,1⟩]
abbrev yQ:cW:=⟨1,iQ,[gR 0 C0,gR 1 K0]⟩
theorem nC0:C0≠bO:=by rw [BN];decide
theorem nK0:K0≠bO:=by rw [rF];decide
theorem nK1:K1≠bO:=by rw [uw];decide
theorem PO:C0≠K0:=by rw [BN,rF];decide
theorem VE:C0≠K1:=by rw [BN,uw];decide
theorem PQ:K0≠K1:=by rw [rF,uw];decide
theorem fC:bs iQ C0=⟨C0,z5,1⟩:=by unfold bs;rw [List.find?_cons];simp
theorem v0:valOf Q2 iQ K0=z5:=by rw [PK (n:=5) (by unfold cellOf;rw [fC];exact vs5) (by omega),it5]
theorem f0:az yQ.ah K0=some (gR 0 C0):=by simp [az]
theorem f1:az yQ.ah K1=some (gR 1 K0):=by simp only [az,List.find?_cons];rw [show((gR 0 C0).key == K1)=false from K3,show((gR 1 K0).key == K1)=true from beq_self_eq_true K1]
theorem cC:aP (valOf Q2 iQ) yQ C0=1:=by unfold aP;rw [if_pos Hu,fC]
theorem cK:aP (valOf Q2 iQ) yQ K0=1:=by
 unfold aP
 rw [if_neg (by rw [Hv];simp),if_neg];rw [aS f0,v0]
 simp
theorem PR:dx (valOf Q2 iQ) yQ K1=(2,K0):=xQ rfl rfl f1 rfl rfl PQ (by decide) (by rw [cK];decide)
theorem K5:dx (valOf Q2 iQ) yQ K0=(2,C0):=xQ rfl rfl f0 rfl rfl PO (by decide) (by rw [cC];decide)
theorem VF:dx (valOf Q2 iQ) yQ C0=(0,bO):=oF (by rw [Hu];rfl)
theorem K6:eH (valOf Q2 iQ) yQ (yQ.ah.length+1) K1 []=[K1,K0,C0]:=by
 show eH _ _ 3 _ _=_
 rw [iJ (by simp [nK1]),PR]
 show eH _ _ 2 K0 [K1]=_
 rw [iJ (fun e=>e.elim nK0 fun h=>PQ (List.mem_singleton.1 h)),K5]
 show eH _ _ 1 C0 [K1,K0]=_
 rw [iJ (fun e=>e.elim nC0 fun h=>by(rcases List.mem_cons.1 h with h | h;exact VE h;exact PO (List.mem_singleton.1 h))),VF]
 rfl
theorem Hw:mU (valOf Q2 iQ) yQ=[K0,K1]:=by
 unfold mU
 rw [List.filter_cons,if_pos (by rw [show(gR 0 C0).key=K0 from rfl,K5];rfl),List.filter_cons,if_pos (by rw [show(gR 1 K0).key=K1 from rfl,PR];rfl)]
 rfl
theorem aoQ{y:cW}(h:AO bQ [⟨C0,z5⟩] y):y=yQ:=h.one _ rfl (by decide) (by decide)
theorem VG:LC Q2 bQ:=by
 obtain⟨f,s',_,_,_,h,_,p,_⟩:=(LC.nil Q2 ⟨0,[],[]⟩ rfl (by decide) (by decide) (hK.nil _) (by simp)).Pq mf (goals:=[K1]) (fun k hk=>.inr ⟨1,by simp,by rw [List.mem_singleton.1 hk];exact rG.symm⟩) (by simp);have e:=(j5 (Nat.le_max_left f 10) h).symm.trans (j5 (Nat.le_max_right f 10) (PN _));have e2:s'=sQ:=Option.some.inj e;subst e2;exact p
theorem smQ:∀c∈[(⟨C0,z5⟩:Change)],c.small:=fun c hc=>by
 rw [List.mem_singleton.1 hc];exact⟨⟨0,by omega,by omega,rfl⟩,by decide⟩
theorem Hx:sQ.base ⟨0,[],[]⟩=bQ:=rfl
end Go.Rc

namespace Go.Rc
open Go
section
variable {P:Program}{T:TypeId}
theorem Hy{p A:TypeId}{f0 f1:Field}(hu:P.underlying T=some (.struct #[f0,f1])) (C:f0.type=p) (D:f1.type=A) (E:f0.offset=0) (F:f1.offset=1) (J:f0.name≠ "_") (N:f1.name≠ "_")
  (h0:P.underlying p=some (.int .i64)) (h1:P.underlying A=some .string) (a0:∀w,(isAgg p).run P w=.ok false w) (a1:∀w,(isAgg A).run P w=.ok false w)
  (G:P.stoodInHeld T=false) (n:Nat) (a b:Int) (s t:ByteArray) (w:World):(Op.equalIn (n+2) T (.agg #[.int .i64 a,.string s]) (.agg #[.int .i64 b,.string t])).run P w=.ok (decide (a=b) && decide (s=t)) w:=by
 subst C D
 have B:P.fieldsOf T=#[f0,f1]:=by simp [Program.fieldsOf,hu]
 rw [run_equalIn_struct (P:=P) w (n+1) T _ _ (by rw [B];exact hu) G,B]
 have e:(s.toList == t.toList)=decide (s=t):=by
  by_cases e:s=t
  ·
   simp [e]
  grind [ByteArray.ext,Array.toList_inj,ByteArray.toList_eq]
 have e2:(a == b)=decide (a=b):=by by_cases h:a=b <;> simp [h]
 have r0:=run_equalIn_int (P:=P) w n f0.type .i64 .i64 a b h0;have r1:=run_equalIn_string (P:=P) w n f1.type s t h1;rw [e2] at r0;rw [e] at r1;simp only [Op.eqFields,E,F,part,Sem.run_bind,a0,a1,Result.andThen_ok]
 by_cases I:a=b
 ·
  subst I
  by_cases O:s=t
  ·
   simp_all
  simp_all
 simp_all
structure VH (P:Program) (T:TypeId):Prop where
 eq:∀(a b c d:Int) (s t:ByteArray) (w:World),(Op.equalIn 10000 T (.agg #[.int .i64 a,.int .i64 c,.string s]) (.agg #[.int .i64 b,.int .i64 d,.string t])).run P w=.ok (decide (a=b) && (decide (c=d) && decide (s=t))) w
 guard:P.eqGuardType P.depth T=false
theorem K7{K p:TypeId}{g0 g1:Field}(hk:∀(a b:Int) (s t:ByteArray) (w:World),(Op.equalIn 9999 K (.agg #[.int .i64 a,.string s]) (.agg #[.int .i64 b,.string t])).run P w=.ok (decide (a=b) && decide (s=t)) w)
  (hu:P.underlying T=some (.struct #[g0,g1])) (B:g0.type=p) (C:g1.type=K) (D:g0.offset=0) (E:g1.offset=1) (N:g0.name≠ "_") (O:g1.name≠ "_")
  (h0:P.underlying p=some (.int .i64)) (a0:∀w,(isAgg p).run P w=.ok false w) (a1:∀w,(isAgg K).run P w=.ok true w) (F:∀w,(sizeOf K).run P w=.ok 2 w)
  (G:P.stoodInHeld T=false) (I:P.eqGuardType P.depth T=false):VH P T:=by
 refine⟨fun a b c d s t w=>?_,I⟩;subst B C
 have A:P.fieldsOf T=#[g0,g1]:=by simp [Program.fieldsOf,hu]
 rw [show(10000:Nat)=9999+1 from rfl,run_equalIn_struct (P:=P) w 9999 T _ _ (by rw [A];exact hu) G,A]
 have e2:(a == b)=decide (a=b):=by by_cases h:a=b <;> simp [h]
 have r0:=run_equalIn_int (P:=P) w 9998 g0.type .i64 .i64 a b h0;rw [e2] at r0;rw [show(9998+1:Nat)=9999 from rfl] at r0;have r1:=hk c d s t w;simp only [Op.eqFields,D,E,part,Sem.run_bind,a0,a1,F,Result.andThen_ok]
 by_cases J:a=b
 ·
  subst J
  by_cases Q:c=d∧s=t
  ·
   simp_all [asAgg]
  simp_all [asAgg]
 simp_all
def VI(p:Int × Key):Value:=.agg #[.int .i64 p.1,.int .i64 p.2.kind,.string p.2.text]
variable {kv:KV}{w:World}{ty:TypeId}
theorem PV.VJ(hT:VH P T) {U:TypeId}{x y:Operand}{p q:Int × Key}(h:ev kv x=some (VI p)) (hy:ev kv y=some (VI q)) :
  PV P (.binOp .eql T x y U) ty kv w (.bool (decide (p=q))):=by
 refine⟨rfl,by simp [known,opers,h,hy],fun _ _ _ _=>?_⟩
 have e:(decide (p.1=q.1) && (decide (p.2.kind=q.2.kind) && decide (p.2.text=q.2.text)))=decide (p=q):=by
  obtain⟨a,c,s⟩:=p;obtain⟨b,d,t⟩:=q;simp [Bool.decide_and]
 simp only [execOp,aG h,aG hy,VI]
 simp [run_eqGuard_agg w .eql T _ _ _ _ hT.guard,run_eql_struct,hT.eq,e]
end
end Go.Rc

namespace Go.Rc
open Go
end Go.Rc

namespace Go.Rc
open Go
/-! ### own slices that lose their last -/
/-! ### what the frames of a stack own -/
/-! ### what a stack finds -/
/-! ### a step of the work -/
end Go.Rc

namespace Go.Rc
open Go
end Go.Rc

namespace Go.Rc
open Go
end Go.Rc

namespace Go.Rc
open Go
end Go.Rc

namespace Go.Rc
open Go
end Go.Rc

namespace Go.Rc
open Go
section
variable {aa:List aD}{x:cW}{s:ES}{k:Key}
theorem ET(h:Wy aa x s) (hu:aI s.b k=true):decide ((dx (valOf aa x.ab) x k).1≠0)=decide (k∈gP s.cz):=by
 rw [decide_eq_decide,iz];exact⟨fun hw=>h.runs (BM.1 hw) hu,fun hm=>BM.2 (h.cz k hm)⟩
end
end Go.Rc

namespace Go.Rc
open Go
end Go.Rc

namespace Go.Rc
open Go
theorem K8{rev:Int}{l:List cj}(h:hK rev l) (h0:0≤rev) (k:Key):(bs l k).changed≤rev:=by
 unfold bs
 cases p:l.find? fun x=>x.key == k with
 | none=>exact h0
 | some y=>
  obtain⟨_,_,_,_,e⟩:=h.2.1 y (List.mem_of_find?_eq_some p);exact e
end Go.Rc

namespace Go.Rc
open Go
end Go.Rc

namespace Go.Rc
open Go
section
variable {aa:List aD}{b c b2:cW}{l:List Change}{goals aeQ:List Key}{y a k:Key}{r:Rec}{i:Nat}
def CP(aa:List aD) (a:Key):Prop:=(∃n:Nat,n≤15∧a=bz (n:Int))∨∃m:Nat,m<aa.length∧a=aH aa (m:Int)
theorem CQ(hR:ao aa) (hb:LC aa b) (hr:r∈b.ah):∀a∈r.reads,CP aa a:=fun a p=>by
 obtain⟨H,t⟩:=hb.bh;obtain⟨i,hi,hk⟩:=t.kr r hr;have B:=hR.len;rw [(t.c.vr r hr).2,hk] at p
 unfold cX at p
 rw [if_neg (by grind),bG hi (by omega)] at p
 rcases(lN hR hi p).1 with h | ⟨m,h1,A,_⟩
 ·
  exact .inl h
 exact .inr ⟨m,h1,A⟩
theorem CP.vf(hR:ao aa) (h:CP aa a):eB aa a∧eu aa a=true:=by
 have p:=hR.len
 rcases h with⟨n,hn,rfl⟩ | ⟨m,hm,rfl⟩
 ·
  refine⟨.cell (by omega),?_⟩;have t:=(eB.cell (aa:=aa) (n:=n) (by omega)).valid
  have hk:(bz (n:Int)).kind=30:=by unfold bz;rw [if_neg (by omega)]
  grind [eu]
 exact⟨.eF hm (by omega),oC hR hm⟩
theorem mV(hR:ao aa) (hb:LC aa b) (gJ:∀i:Nat,i<aa.length→aI b (aH aa (i:Int))=true) (hi:i<aa.length):∃r,az b.ah (aH aa (i:Int))=some r∧r∈b.ah∧r.key=aH aa (i:Int)∧r.av=b.ad∧r.changed≤b.ad∧r.bp=false∧r.value=valOf aa b.ab (aH aa (i:Int)):=by
 obtain⟨H,h⟩:=hb.bh;obtain⟨r,h1,p,t⟩:=h.c.up (gJ i hi);obtain⟨g1,g2⟩:=aO h1;have A:=(h.c.CC r g1).2;refine⟨r,h1,g1,g2,p,by omega,?_,t⟩
 cases e:r.bp with
 | false=>rfl
 | true=>have:=h.dv r g1 e;omega
theorem EU(hR:ao aa) (hb:LC aa b) (gJ:∀i:Nat,i<aa.length→aI b (aH aa (i:Int))=true) (oi:c.ah=b.ah) (t:b.ad<c.ad) (hi:i<aa.length):b.ad<aP (valOf aa c.ab) c (aH aa (i:Int))↔valOf aa b.ab (aH aa (i:Int))≠valOf aa c.ab (aH aa (i:Int)):=by
 have A:=hR.len;have h:=bX hi (by omega);obtain⟨q,h1,_,_,B,C,_,p⟩:=mV hR hb gJ hi
 unfold aP
 rw [if_neg (by rw [h];simp),oi,h1,aS h1,← p]
 grind
theorem EV{n:Nat}(hb:LC aa b) (Dz:Je b l c) (EW:AO b l c) (B:c.ad=b.ad+1) (hn:n≤15):b.ad<aP (valOf aa c.ab) c (bz (n:Int))↔valOf aa b.ab (bz (n:Int))≠valOf aa c.ab (bz (n:Int)):=by
 have t:=aN (n:=n) (by omega);have A:=hb.lb.ok.BE.r0;have C:(bs b.ab (bz (n:Int))).changed≤b.ad:=K8 hb.lb.aA A _
 unfold aP
 rw [if_pos t,kY (by omega),kY (by omega)]
 unfold cellOf
 rcases Dz.how with⟨e1,_⟩ | ⟨_,e2⟩
 ·
  omega
 rcases e2 (bz (n:Int)) with h | h
 ·
  grind
 rcases EW.KN (bz (n:Int)) with p | p
 ·
  rw [p] at h;omega
 grind
theorem EY(hR:ao aa) (hb:LC aa b) (gJ:∀i:Nat,i<aa.length→aI b (aH aa (i:Int))=true) (Dz:Je b l c) (EW:AO b l c) (oi:c.ah=b.ah) (p:c.ad=b.ad+1) (h:CP aa a):b.ad<aP (valOf aa c.ab) c a↔valOf aa b.ab a≠valOf aa c.ab a:=by
 rcases h with⟨n,hn,rfl⟩ | ⟨m,hm,rfl⟩
 ·
  grind [EV]
 grind [EU]
theorem EZ(hR:ao aa) (hb:LC aa b) (gJ:∀i:Nat,i<aa.length→aI b (aH aa (i:Int))=true) (oi:c.ah=b.ah) (h:b.ad<c.ad) (hi:i<aa.length):aI c (aH aa (i:Int))=false:=by
 obtain⟨r,h1,_,_,p,_⟩:=mV hR hb gJ hi
 unfold aI
 rw [oi,h1,aS h1]
 grind
end
end Go.Rc

namespace Go.Rc
open Go
end Go.Rc

namespace Go.Rc
open Go
end Go.Rc

namespace Go.Rc
open Go
end Go.Rc

namespace Go.Rc
open Go
end Go.Rc

namespace Go.Rc
open Go
end Go.Rc

namespace Go.Rc
open Go
end Go.Rc

namespace Go.Rc
open Go
end Go.Rc

namespace Go.Rc
open Go
section
variable {aa:List aD}{aA:List cj}{b c:cW}{l:List Change}{rl:List Rec}{rev:Int}{i j:Nat}{a k y m:Key}
theorem xR(hR:ao aa) (hi:i<aa.length) (p:j<aa.length) (h:aH aa (j:Int)∈cX aa aA (aH aa (i:Int))):j4 aa j≤j4 aa i∧(j4 aa j=j4 aa i→ax aa i=true∧ax aa j=true):=by
 have C:=hR.len;rw [dL hR hi] at h;obtain⟨h1,B⟩:=lN hR hi h;have t:=(B j p rfl).1;have A:=nJ hR (k:=aH aa (j:Int)) h1;rw [bG p (by omega),bX p (by omega)] at A;have hb:=ew aa j
 unfold Lw at t
 cases e1:ax aa j <;> cases e2:ax aa i <;> simp [j4,e1,e2] at t A ⊢ <;> omega
theorem Hz(hR:ao aa) (hi:i<aa.length) (hl:∀p q:Nat,p<aa.length→q<aa.length→ax aa p=true→ax aa q=true→aH aa (q:Int)∈cX aa aA (aH aa (p:Int))→Ld rl rev (aH aa (p:Int)) (aH aa (q:Int))) (h:sX aa aA (aH aa (i:Int)) y) :
  aw y=true∨∃j:Nat,j<aa.length∧y=aH aa (j:Int)∧j4 aa j≤j4 aa i∧(j4 aa j=j4 aa i→j=i∨bj rl rev (aH aa (i:Int)) (aH aa (j:Int))):=by
 have I:=hR.len
 induction h with
 | refl=>exact .inr ⟨i,hi,rfl,Nat.le_refl _,fun _=>.inl rfl⟩
 | step _ hy D=>
  rename_i x y
  rcases D with eJ | ⟨j,t,rfl,h1,E⟩
  ·
   rw [nL eJ] at hy;cases hy
  have B:=hy;rw [dL hR t] at B
  rcases(lN hR t B).1 with⟨n,hn,rfl⟩ | ⟨q,A,rfl,_⟩
  ·
   exact .inl (aN (by omega))
  obtain⟨J,F⟩:=xR hR t A hy;refine .inr ⟨q,A,rfl,by omega,fun e=>?_⟩;obtain⟨r1,r2⟩:=F (by omega);have C:=hl j q t A r1 r2 hy
  rcases E (by omega) with rfl | G
  ·
   exact .inr (.one C)
  exact .inr (.step G C)
section
variable (hR:ao aa) (hb:LC aa b) (gJ:∀i:Nat,i<aa.length→aI b (aH aa (i:Int))=true) (oi:c.ah=b.ah) (hc:LC aa c) (Dz:Je b l c) (EW:AO b l c)
include hR hb gJ
theorem rI(hi:i<aa.length):(aF b.ah (aH aa (i:Int))).reads=cX aa b.ab (aH aa (i:Int)):=by
 obtain⟨H,h⟩:=hb.bh;obtain⟨r,h1,hm,hk,p,_⟩:=mV hR hb gJ hi;rw [aS h1,(h.c.vr r hm).2,p,h.c.now,hk]
include oi
theorem uy(p:b.ad<c.ad) (hi:i<aa.length) (hr:ax aa i=true):bD c.ah c.ad (aH aa (i:Int))=true:=by
 have t:=hR.len;obtain⟨r,h1,_,_,A,_,h,_⟩:=mV hR hb gJ hi;exact bC.2 ⟨r,by rw [oi];exact h1,by rw [bd hi (by omega)];exact hr,by omega,h⟩
include hc
theorem E0(A:b.ad<c.ad) (hi:i<aa.length) (B:valOf aa b.ab (aH aa (i:Int))≠valOf aa c.ab (aH aa (i:Int))):(dx (valOf aa c.ab) c (aH aa (i:Int))).1≠0:=by
 intro h0;have G:=hR.len;obtain⟨f,s',_,_,_,_,_,_,_,_,_,p,C,D⟩:=hc.Pq hR (goals:=[aH aa (i:Int)]) (fun k hk=>.inr ⟨i,hi,List.mem_singleton.1 hk⟩) (by simp);have hu:=C _ (List.mem_singleton.2 rfl) (bX hi (by omega))
 have hn:aH aa (i:Int)∉s'.cz:=fun h=>by
  have:=ET p hu
  rw [h0] at this
  simp [iz,h] at this
 obtain⟨r,h1,_,hk,I,J,_,E⟩:=mV hR hb gJ hi;have N:=EZ hR hb gJ oi A hi;obtain⟨r2,g1,g2⟩:=bU.1 hu;have g3:=D r2 (aO g1).1 g2;have O:=p.rev;have t:=p.ev.pt (aH aa (i:Int));rw [oi,h1] at t
 have F:r2.value=r.value:=by
  rcases t with e | ⟨_,q,e1,_,e2,e3 | e3⟩ | ⟨⟨e1,_⟩,e2,Q,e3,e4,_,e5,R,_⟩
  ·
   grind
  ·
   grind
  ·
   grind
  grind
 rw [(aO g1).2] at g3;exact B (by rw [← E,← F,g3])
include Dz EW
theorem BQ(hi:i<aa.length) (hw:(dx (valOf aa c.ab) c (aH aa (i:Int))).1≠0):∃a,(dx (valOf aa c.ab) c (aH aa (i:Int))).2=a∧b.ad<c.ad∧CP aa a∧sX aa b.ab (aH aa (i:Int)) a∧¬sX aa b.ab a (aH aa (i:Int))∧valOf aa b.ab a≠valOf aa c.ab a:=by
 have Cs:=hR.len;have eJ:=bX hi (by omega);obtain⟨r,h1,_,hk,C,h5,t,h3⟩:=mV hR hb gJ hi
 have VK:c.ad=b.ad+1:=by
  rcases Dz.how with⟨e,_⟩ | ⟨e,_⟩
  ·
   exfalso
   refine hw ?_;rw [oF (by rw [eJ];unfold aI;rw [oi,h1,aS h1,e,C];simp)]
  exact e
 have hnu:=EZ hR hb gJ oi (by omega) hi
 have S:az c.ah (aH aa (i:Int))=some r:=by rw [oi];exact h1
 unfold dx at hw ⊢
 rw [if_neg (by rw [eJ,hnu];simp),S] at hw ⊢;simp only [t,Bool.false_eq_true,if_false] at hw ⊢
 cases G:(bP c.ah (aC c.ah c.ad (aH aa (i:Int)))).find? (yY (valOf aa c.ab) c) with
 | none=>rw [G] at hw;exact absurd rfl hw
 | some ck=>
  refine⟨_,rfl,by omega,?_⟩;have V:=List.mem_of_find?_eq_some G;have I:=List.find?_some G
  unfold bP at V
  obtain⟨m,hm,W⟩:=List.mem_flatMap.1 V
  unfold ct at W
  obtain⟨a,A,rfl⟩:=List.mem_map.1 W;obtain⟨A,X⟩:=List.mem_filter.1 A;simp only [Bool.not_eq_true',decide_eq_false_iff_not] at X
  simp only
  have Y:Live c.ah c.ad (aH aa (i:Int)):=⟨r,S,t,by omega⟩;obtain⟨H,hB⟩:=hb.bh;obtain⟨qr,D,_⟩:=lL Y hm;rw [oi] at D;obtain⟨J,B,hkm⟩:=hB.kr qr (aO D).1;rw [(aO D).2] at hkm;subst hkm;rw [oi] at A
  have N:CP aa a:=by
   have:=CQ hR hb (aO D).1
   rw [aS D] at A;exact this a A
  have O:a∈cX aa b.ab (aH aa (J:Int)):=by rw [← rI hR hb gJ B];exact A
  have oG:valOf aa b.ab a≠valOf aa c.ab a:=by
   refine(EY hR hb gJ Dz EW oi VK N).1 ?_;obtain⟨q2,f1,_,_,f2,_⟩:=mV hR hb gJ B;simp only [yY,decide_eq_true_eq] at I;rw [oi,aS f1,f2] at I;exact I
  have K9:∀p q:Nat,p<aa.length→q<aa.length→ax aa p=true→ax aa q=true→aH aa (q:Int)∈cX aa b.ab (aH aa (p:Int))→Ld c.ah c.ad (aH aa (p:Int)) (aH aa (q:Int)):=fun p q E hq _ Oe h=>⟨by rw [oi,rI hR hb gJ E];exact h,uy hR hb gJ oi (by omega) hq Oe⟩
  have lr:∀x z,(∃p:Nat,p<aa.length∧x=aH aa (p:Int))→bj c.ah c.ad x z→sX aa b.ab x z:=fun x z ⟨p,E,hx⟩ h=>by
   have kX:∀z,bj c.ah c.ad x z→(∃p:Nat,p<aa.length∧z=aH aa (p:Int))∧sX aa b.ab x z:=fun z h=>by
    have on:∀y z,(∃p:Nat,p<aa.length∧y=aH aa (p:Int))→Ld c.ah c.ad y z→(∃p:Nat,p<aa.length∧z=aH aa (p:Int))∧z∈cX aa b.ab y:=fun y z ⟨p,E,hy⟩ t=>by
     subst hy;obtain⟨d1,d2⟩:=t;rw [oi,rI hR hb gJ E] at d1;obtain⟨q,q1,_⟩:=bC.1 d2;rw [oi] at q1;obtain⟨u,hu,hu2⟩:=hB.kr q (aO q1).1;exact⟨⟨u,hu,by rw [← hu2,(aO q1).2]⟩,d1⟩
    induction h with
    | one t=>obtain⟨h1,C⟩:=on _ _ ⟨p,E,hx⟩ t;exact⟨h1,.step .refl C⟩
    | step _ t F=>obtain⟨h1,C⟩:=on _ _ F.1 t;exact⟨h1,.step F.2 C⟩
   exact(kX z h).2
  have hym:sX aa b.ab (aH aa (i:Int)) (aH aa (J:Int)):=by
   rcases bH.1 hm with e | ⟨_,m1,_⟩
   ·
    rw [e];exact .refl
   exact lr _ _ ⟨i,hi,rfl⟩ m1
  refine⟨N,.step hym O,fun Jg=>X ?_,oG⟩
  rcases N with⟨n,hn,rfl⟩ | ⟨ja,Q,rfl⟩
  ·
   have BR:∀z,sX aa b.ab (bz (n:Int)) z→z=bz (n:Int):=fun z h=>by
    induction h with
    | refl=>rfl
    | step _ h F=>subst F;rw [nL (aN (by omega))] at h;cases h
   have:=BR _ Jg
   rw [this,aN (by omega)] at eJ;cases eJ
  obtain⟨l1,l2⟩:=xR hR B Q O;obtain⟨Hc,hBc⟩:=hc.bh;have l3:=(BG hR hBc hi B Y hm).1
  rcases Hz hR Q K9 Jg with h | ⟨j,hj,e,l4,l5⟩
  ·
   rw [eJ] at h;cases h
  have e:=dh hR hi hj e;subst e;obtain⟨r1,r2⟩:=l2 (by omega);have R:=K9 J ja B Q r1 r2 O
  rcases l5 (by omega) with rfl | h6
  ·
   exact lk
  rcases bH.1 hm with e | ⟨ho,m1,_⟩
  ·
   rw [e] at R;have e2:=dh hR B hi e;subst e2;exact bH.2 (.inr ⟨uy hR hb gJ oi (by omega) hi r1,.one R,h6⟩)
  exact bH.2 (.inr ⟨ho,.step m1 R,h6⟩)
end
theorem E1{val:Key→ByteArray}(h:(dx val c k).1=0):(dx val c k).2=bO:=by
 unfold dx at h ⊢
 split
 ·
  rfl
 rename_i h1
 rw [if_neg h1] at h
 split at h <;> (try (simp at h;done))
 split at h <;> (try (simp at h;done))
 rename_i r hr p
 rw [if_neg p] at *
 split at h
 ·
  rfl
 exfalso;revert h;simp only;split <;> simp
theorem CP.ne(hR:ao aa) (h:CP aa k):k≠bO:=by
 have p:=hR.len;intro e
 rcases h with⟨n,hn,rfl⟩ | ⟨m,hm,rfl⟩
 ·
  have hk:(bz (n:Int)).kind=30:=by unfold bz;rw [if_neg (by omega)]
  rw [e] at hk;exact absurd hk (by decide)
 have h1:=oC hR hm;rw [e] at h1;exact absurd (bG hm (by omega)) (by have:=(eB.eF (aa:=aa) hm (by omega)).valid;rw [e] at this;exact absurd this (by decide))
theorem uz{val:Key→ByteArray}:∀(n:Nat) (k:Key) (o:List Key),(eH val c n k o).length≤o.length+n
 | 0,_,_=>Nat.le_refl _
 | n+1,k,o=>by
  rw [eH]
  split
  ·
   omega
  have:=uz (val:=val) n (dx val c k).2 (o++[k])
  rw [List.length_append] at this
  simp at this;omega
inductive Cn (val:Key→ByteArray) (c:cW):Key→List Key→Prop where
 | last {k:Key}:(dx val c k).1=0→Cn val c k [k]
 | more {k:Key}{L:List Key}:(dx val c k).1≠0→Cn val c (dx val c k).2 L→Cn val c k (k::L)
section
variable (hR:ao aa) (hb:LC aa b) (gJ:∀i:Nat,i<aa.length→aI b (aH aa (i:Int))=true) (oi:c.ah=b.ah) (hc:LC aa c) (Dz:Je b l c) (EW:AO b l c)
include hR hb gJ oi hc Dz EW
theorem xS:∀(n:Nat) (k:Key) (o:List Key),CP aa k→o.Nodup→(∀y∈o,y∈c.ah.map (·.key))→o.length+n=c.ah.length+1→(∀y∈o,¬sX aa b.ab k y)→∃L,eH (valOf aa c.ab) c n k o=o++L∧Cn (valOf aa c.ab) c k L
 | 0,k,o,_,hn,hk,hl,_=>by
  have:=ez hn hk
  rw [List.length_map] at this
  omega
 | n+1,k,o,hr,hn,hk,hl,A=>by
  have B:k∉o:=fun h=>A k h .refl;rw [iJ (fun e=>e.elim (hr.ne hR) B)]
  by_cases h0:(dx (valOf aa c.ab) c k).1=0
  ·
   exact⟨[k],by rw [E1 h0,rE (.inl rfl)],.last h0⟩
  rcases hr with⟨m,hm,rfl⟩ | ⟨i,hi,rfl⟩
  ·
   exact absurd (by rw [oF (by rw [aN (by omega)];rfl)]) h0
  obtain⟨a,p,_,h1,C,D,_⟩:=BQ hR hb gJ oi hc Dz EW hi h0;rw [p]
  obtain⟨L,e,E⟩:=xS n a (o++[aH aa (i:Int)]) h1 (by rw [List.nodup_append];exact⟨hn,by simp,fun x F y hy e=>B (by rw [List.mem_singleton.1 hy] at e;rw [← e];exact F)⟩) (fun y hy=>by
   rcases List.mem_append.1 hy with hy | hy
   ·
    exact hk y hy
   ·
    rw [List.mem_singleton.1 hy];exact EL (by rw [p];exact h1.ne hR)) (by rw [List.length_append];simp;omega) (fun y hy t=>by
   rcases List.mem_append.1 hy with hy | hy
   ·
    exact A y hy (C.trans t)
   rw [List.mem_singleton.1 hy] at t;exact D t)
  exact⟨_,by rw [e,List.append_assoc];rfl,.more h0 (by rw [p];exact E)⟩
theorem Cn.all{L:List Key}(h:Cn (valOf aa c.ab) c k L):CP aa k→(∃T,L=k::T∧(T=[]↔(dx (valOf aa c.ab) c k).1=0))∧(∀y∈L,CP aa y)∧(∀(n:Nat) (h:n+1<L.length),valOf aa b.ab L[n+1]≠valOf aa c.ab L[n+1]∧sX aa b.ab L[n] L[n+1])∧(1<L.length→∃a,L.getLast?=some a∧aw a=true):=by
 induction h with
 | last h=>exact fun hr=>⟨⟨[],rfl,by simp [h]⟩,by simpa using hr,fun n h=>by simp at h,fun h=>by simp at h⟩
 | @more k L h G p=>
  intro hr
  rcases hr with⟨m,hm,rfl⟩ | ⟨i,hi,rfl⟩
  ·
   exact absurd (by rw [oF (by rw [aN (by omega)];rfl)]) h
  obtain⟨a,A,B,h1,C,_,t⟩:=BQ hR hb gJ oi hc Dz EW hi h;rw [A] at p;obtain⟨⟨T,rfl,hT⟩,i2,i3,i4⟩:=p h1;refine⟨⟨_,rfl,by simp [h]⟩,fun y hy=>?_,fun n hn=>?_,fun _=>?_⟩
  ·
   rcases List.mem_cons.1 hy with rfl | hy
   ·
    exact .inr ⟨i,hi,rfl⟩
   exact i2 y hy
  ·
   cases n with
   | zero=>exact⟨t,C⟩
   | succ n=>exact i3 n (by simpa using hn)
  cases T with
  | nil=>
   refine⟨a,rfl,?_⟩;have D:=hT.1 rfl
   rcases h1 with⟨m,hm,rfl⟩ | ⟨j,E,rfl⟩
   ·
    exact aN (by omega)
   exact absurd D (E0 hR hb gJ oi hc B E t)
  | cons z T=>
   obtain⟨q,e,F⟩:=i4 (by simp);exact⟨q,by rw [List.getLast?_cons_cons];exact e,F⟩
theorem zT(hi:i<aa.length) {C:List Key}(p:eH (valOf aa c.ab) c (c.ah.length+1) (aH aa (i:Int)) []=C):C[0]?=some (aH aa (i:Int))∧(1<C.length↔(dx (valOf aa c.ab) c (aH aa (i:Int))).1≠0)∧(∀y∈C,CP aa y)∧(∀(n:Nat) (h:n+1<C.length),valOf aa b.ab C[n+1]≠valOf aa c.ab C[n+1]∧sX aa b.ab C[n] C[n+1])∧(∀h:1<C.length,aw C[C.length - 1]=true):=by
 obtain⟨L,e,t⟩:=xS hR hb gJ oi hc Dz EW (c.ah.length+1) (aH aa (i:Int)) [] (.inr ⟨i,hi,rfl⟩) .nil (fun y hy=>by cases hy) (by simp) (fun y hy=>by cases hy);rw [p,List.nil_append] at e;subst e;obtain⟨⟨T,rfl,hT⟩,A,B,D⟩:=t.all hR hb gJ oi hc Dz EW (.inr ⟨i,hi,rfl⟩);refine⟨rfl,?_,A,B,fun h=>?_⟩
 ·
  cases T with
  | nil=>simp [hT.1 rfl]
  | cons z T=>exact⟨fun _ h=>(by cases hT.2 h),fun _=>by simp⟩
 obtain⟨a,e,E⟩:=D h;rw [List.getLast?_eq_getElem?] at e;rw [List.getElem?_eq_getElem (by omega)] at e;rw [Option.some.inj e];exact E
end
end
end Go.Rc

namespace Go.Rc
open Go
end Go.Rc

namespace Go.Rc
open Go
end Go.Rc

