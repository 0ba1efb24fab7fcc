/- Base of the proof: frames, memory, ownership, and the plain meaning of rule systems. Conditions: as each lemma says. -/
import Derived.Test.YtilldnlhckpbjaaGreatDoorQBf
import Derived.Test.YtilldnlhckpbjaaGreatDoorQBe
import Derived.Shelf.SlSortCmp.WholeK
set_option linter.all false
namespace Go.Rc
open Go
theorem As.Uf{A:As}{Z:Nat→Prop}{w w':World}(h:A.ok Z w) (c:aQ [] w w'):A.ok Z w':=A.st c.size (fun x _ m=>c.block x m (by simp)) h
theorem xA{k:Key}(h:cx k):ax k=decide (k.kind=32):=by
 have e:(decide (1≤k.kind) && decide (k.kind≤22))=false:=by
  rcases h with h | h
  ·
   grind
  grind
 unfold ax
 grind
/-! ### records in blocks -/
structure RL where
 b:Nat
 a:Option Addr
 n:Nat
 c:Nat
def WD.wc(D:WD) (v:Nat) (rev:Int) (ra:Option Addr) (rn rc:Nat):List Value:=
 [.slice D.ar D.r D.cr,.int .i64 rev,.slice D.a1 D.n1 D.c1,.slice D.a2 D.n2 D.c2,.map (some D.m),.pointer (some ⟨v,0,none⟩),.slice ra rn rc]
def As.eR(RT:Nat) (lf:Key→RL) (l:List Rec):As where
 fp x:=∃k r,ay l k=some r∧x=(lf k).b
 ok Z w:=(∀k r,ay l k=some r→bJ w (lf k).b RT (r.row (lf k).a (lf k).n (lf k).c)∧Rd RR.key 2 Z w (lf k).a (lf k).n (lf k).c r.reads∧r.reads.length≤4000)∧∀k k' r r',ay l k=some r→ay l k'=some r'→(lf k).b=(lf k').b→k=k'
 lt h x hx:=by
  obtain⟨k,r,hk,rfl⟩:=hx;exact(h.1 k r hk).1.lt
 mono hZ h:=⟨fun k r hk=>by
  obtain⟨hb,hr,h4⟩:=h.1 k r hk;exact⟨hb,hr.mono hZ,h4⟩,h.2⟩
 st hs hc h:=⟨fun k r hk=>by
  obtain⟨hb,hr,h4⟩:=h.1 k r hk;exact⟨(As.blk (lf k).b RT (r.row (lf k).a (lf k).n (lf k).c)).st (Z:=fun _=>False) hs (fun x hx hl=>hc x (.inl ⟨k,r,hk,by rcases hx with hx | hx;exact hx;exact hx.elim⟩) hl) hb,hr.st hs (fun x hx=>hc x (.inr hx)),h4⟩,h.2⟩
theorem As.o7{RT:Nat}{lf:Key→RL}{l:List Rec}{Z:Nat→Prop}{w:World}(h:(As.eR RT lf l).ok Z w):(As.eR RT lf l).ok Z w:=h
def cQ(l:List Rec) (lf:Key→RL) (ml:List (Key × Value)):Prop:=∀k,bq ml k=(ay l k).map fun _=>Value.pointer (some ⟨(lf k).b,0,none⟩)
theorem cQ.nil(lf:Key→RL):cQ [] lf []:=fun _=>rfl
theorem cQ.no{l:List Rec}{lf:Key→RL}{ml:List (Key × Value)}{k:Key}(h:cQ l lf ml) (m:ay l k=none):(bq ml k).getD (.pointer none)=.pointer none:=by rw [h k,m];rfl
theorem cQ.yes{l:List Rec}{lf:Key→RL}{ml:List (Key × Value)}{k:Key}{r:Rec}(h:cQ l lf ml) (m:ay l k=some r):bq ml k=some (.pointer (some ⟨(lf k).b,0,none⟩)):=by rw [h k,m];rfl
def sF(lf:Key→RL) (k:Key) (q:RL):Key→RL:=fun y=>if y=k then q else lf y
theorem jA{lf:Key→RL}{k:Key}{q:RL}:sF lf k q k=q:=if_pos rfl
theorem jV{lf:Key→RL}{k y:Key}{q:RL}(h:¬y=k):sF lf k q y=lf y:=if_neg h
theorem cQ.put{l l':List Rec}{lf:Key→RL}{ml:List (Key × Value)}{r:Rec}{q:RL}(h:cQ l lf ml) (hl:∀y,ay l' y=if y=r.key then some r else ay l y):cQ l' (sF lf r.key q) (cF ml r.key (.pointer (some ⟨q.b,0,none⟩))):=fun k=>by
 rw [dz,hl k]
 by_cases e:k=r.key
 ·
  subst e;rw [if_pos rfl,if_pos rfl,jA]
  rfl
 rw [if_neg fun h=>e h.symm,if_neg e,jV e,h k]
section
variable {RT:Nat}{q:RL}{lf:Key→RL}{l l':List Rec}{r:Rec}{w0 w:World}{M Z:Nat→Prop}{L:List As}
theorem St.Ug(h:St w0 M Z w L) (RT:Nat) (lf:Key→RL):St w0 M Z w (As.eR RT lf []::L):=h.fact (B:=As.eR RT lf []) ⟨fun k r hk=>(by cases hk),fun k k' r r' hk=>(by cases hk)⟩ fun x m=>by obtain⟨k,r,hk,_⟩:=m;cases hk
theorem St.uU(h:St w0 M Z w (As.blk q.b RT (r.row q.a q.n q.c)::As.eR RT lf l::L)) (hr:Rd RR.key 2 Z w q.a q.n q.c r.reads) (B:r.reads.length≤4000) (hl:∀y,ay l' y=if y=r.key then some r else ay l y):St w0 M Z w (As.eR RT (sF lf r.key q) l'::L):=by
 have D:bJ w q.b RT (r.row q.a q.n q.c):=h.g0;have o:(As.eR RT lf l).ok Z w:=h.g1;have t:∀k r',ay l k=some r'→q.b≠(lf k).b:=fun k r' hk e=>(List.pairwise_cons.1 h.sq).1 (As.eR RT lf l) M0 q.b rfl ⟨k,r',hk,e⟩;refine h.join (C:=As.eR RT (sF lf r.key q) l') ⟨fun k r' hk=>?_,fun k k' r1 r2 h1 m e=>?_⟩ fun x u=>?_
 ·
  rw [hl k] at hk
  by_cases e:k=r.key
  ·
   rw [if_pos e] at hk
   grind [jA]
  rw [if_neg e] at hk;rw [jV e];exact o.1 k r' hk
 ·
  rw [hl k] at h1;rw [hl k'] at m
  by_cases e1:k=r.key
  ·
   by_cases e2:k'=r.key
   ·
    rw [e1,e2]
   rw [if_neg e2] at m
   grind [jA,jV]
  rw [if_neg e1] at h1
  by_cases e2:k'=r.key
  ·
   rw [jV e1,e2,jA] at e;exact absurd e.symm (t k _ h1)
  rw [if_neg e2] at m;rw [jV e1,jV e2] at e;exact o.2 k k' _ _ h1 m e
 obtain⟨k,r',hk,rfl⟩:=u;rw [hl k] at hk
 by_cases e:k=r.key
 ·
  rw [e,jA];exact .inl rfl
 rw [if_neg e] at hk;rw [jV e];exact .inr ⟨k,r',hk,rfl⟩
theorem Ow.z{α:Type}{f:α→List Value}{E k n c:Nat}{a:Option Addr}{xs:List α}{Z':Nat→Prop}(h:Ow (RR.flat f) E k Z' w a n c xs):Ow (RR.flat f) E k Z w a n c xs:=by
 obtain⟨hn,rows,hl,hk,h1,m⟩:=h;exact⟨hn,rows,hl,hk,h1,m⟩
theorem St.Uh{A:As}{Z':Nat→Prop}(h:St w0 M Z' w [A]) (o:∀x,Z x→Z' x) (C:A.ok Z w):St w0 M Z w [A]:=
 ⟨h.cq,fun x m=>h.jC x (o x m),fun B t x m u=>h.lx B t x m (o x u),h.lV,h.sq,fun B t=>by grind⟩
end
theorem zy{l:List Rec}{r:Rec}(h:∀x∈l,x.key≠r.key) (y:Key):ay (l++[r]) y=if y=r.key then some r else ay l y:=by
 unfold ay
 grind
/-! ### entries of maps that are changed in place -/
section
variable {κ:Type} [DecidableEq κ] {enc:κ→Value}{P:Program}{kt:TypeId}{w w':World}{b:Nat}{l:List (κ × Value)}
def Kh{κ:Type}(enc:κ→Value) (w:World) (b:Nat) (l:List (κ × Value)) (k:κ) (z:Int):Prop:=
 ∃es clock,w.heap[b]?=some (.map es clock)∧(es.toList.map (fun e=>(e.key,e.val))=l.map (fun p=>(enc p.1,p.2))∧(l.map (·.1)).Nodup∧(∀e∈es.toList,e.born<clock)∧(es.toList.map (·.born)).Nodup)∧∃(j:Nat) (v:Value) (e:MapEntry),l[j]?=some (k,v)∧es[j]?=some e∧(e.born:Int)=z
def As.zz{κ:Type}(enc:κ→Value) (b:Nat) (l:List (κ × Value)) (k:κ) (z:Int):As where
 fp x:=x=b
 ok _ w:=Kh enc w b l k z
 lt h x hx:=by
  subst hx;obtain⟨es,c,h,_⟩:=h
  grind
 mono _ h:=h
 st hs hc h:=by
  obtain⟨es,c,h,r⟩:=h;exact⟨es,c,(hc b (.inl rfl) (Array.getElem?_eq_some_iff.1 h).1).trans h,r⟩
theorem As.gmb{κ:Type}{enc:κ→Value}{b:Nat}{l:List (κ × Value)}{k:κ}{z:Int}{Z:Nat→Prop}{w:World}(h:(As.zz enc b l k z).ok Z w):Kh enc w b l k z:=h
theorem uV{e T:TypeId}{h:Value}(t:KK P kt enc) (hT:P.underlying T=some (.map kt e)) (D:∀w,(zeroValue e).run P w=.ok h w) (hb:KM enc w b l) (k:κ) :
  ∃(z:Int) (w':World),(Instr.mapEntry T (.map (some b)) (enc k)).run P w=.ok (.tuple #[(bq l k).getD h,.int .i64 z]) w'∧aQ [b] w w'∧Kh enc w' b (cF l k ((bq l k).getD h)) k z:=by
 obtain⟨es,clock,hm,he,hn,S,F⟩:=hb;have u:b<w.heap.size:=(Array.getElem?_eq_some_iff.1 hm).1
 have hlen:es.toList.length=l.length:=by simpa using congrArg List.length he
 cases o:mo l k 0 with
 | none=>
  obtain⟨h1,B⟩:=ij o;refine⟨(clock:Int),_,?_,fY w b (.map (es.push {key:=enc k,val:=h,born:=clock}) (clock+1)),?_⟩
  ·
   rw [h1];simp only [Instr.mapEntry,Sem.run_bind,run_underlying hT,Result.andThen_ok,MapKept.run_getObj_map hm,t.check,t.find l es.toList k w he,o,D,MapKept.run_setObj_map _ hm,Option.getD_none]
   rfl
  rw [h1,B];refine⟨_,_,by first | (simp [u];done) | (simp [u];exact⟨rfl,rfl⟩),⟨by simp [he],by grind [fl],?_,?_⟩,l.length,h,{key:=enc k,val:=h,born:=clock},by simp,?_,rfl⟩
  ·
   grind
  ·
   grind
  grind
 | some p=>
  obtain⟨j,v0⟩:=p;obtain⟨m,h1,B,C,U,_⟩:=gA o
  have G:j=m:=by omega
  subst G
  have I:j<es.size:=by grind
  obtain⟨y,hy⟩:∃y,es[j]?=some y:=⟨_,Array.getElem?_eq_getElem I⟩
  have J:y.key=enc k∧y.val=v0:=by
   have:=congrArg (fun x=>x[j]?) he
   grind
  have N:(((es[j]?).map (·.key)).getD (enc k))=enc k:=by rw [hy];exact J.1
  have O:(((es[j]?).map fun x=>(x.born:Int)).getD 0)=(y.born:Int):=by rw [hy];rfl
  refine⟨(y.born:Int),_,?_,fY w b (.map (es.modify j fun e=>{e with key:=enc k}) clock),?_⟩
  ·
   rw [C];simp only [Instr.mapEntry,Sem.run_bind,run_underlying hT,Result.andThen_ok,MapKept.run_getObj_map hm,t.check,t.find l es.toList k w he,o,Instr.keyThatStays,N,t.same,if_true,Sem.run_pure,MapKept.run_setObj_map _ hm,Option.getD_some,O]
   rfl
  rw [C]
  have Q:(es.modify j fun e=>{e with key:=enc k}).toList.map (fun e=>(e.key,e.val))=(l.set j (k,v0)).map (fun p=>(enc p.1,p.2))∧(es.modify j fun e=>{e with key:=enc k}).toList.map (·.born)=es.toList.map (·.born):=by
   constructor
   ·
    apply List.ext_getElem?
    intro i;have hi:=congrArg (fun x=>x[i]?) he
    grind
   apply List.ext_getElem?
   grind
  refine⟨_,_,by first | (simp [u];done) | (simp [u];exact⟨rfl,rfl⟩),⟨by grind,fl hn k _,?_,by rw [Q.2];exact F⟩,j,v0,{y with key:=enc k},?_,?_,rfl⟩
  ·
   intro x o
   have:x.born∈(es.modify j fun e=>{e with key:=enc k}).toList.map (·.born):=List.mem_map.2 ⟨x,o,rfl⟩
   grind
  ·
   grind
  grind
theorem qX{α:Type}:∀{l:List α},l.Nodup→∀{i j:Nat}{x:α},l[i]?=some x→l[j]?=some x→i=j:=fun {l} h {i j x} h1 o=>by
 obtain⟨hi,e1⟩:=List.getElem?_eq_some_iff.1 h1;obtain⟨m,e2⟩:=List.getElem?_eq_some_iff.1 o
 rcases Nat.lt_trichotomy i j with g | g | g
 ·
  exact absurd (e1.trans e2.symm) (List.pairwise_iff_getElem.1 h i j hi m g)
 ·
  exact g
 exact absurd (e2.trans e1.symm) (List.pairwise_iff_getElem.1 h j i m hi g)
theorem qY{T:TypeId}{k:κ}{z:Int}(hb:Kh enc w b l k z) (v:Value) :
  ∃w':World,(Instr.entryStore T (.map (some b)) (.int .i64 z) v).run P w=.ok () w'∧aQ [b] w w'∧KM enc w' b (cF l k v):=by
 obtain⟨es,clock,hm,⟨he,hn,V,G⟩,j,v0,y,B,hy,I⟩:=hb;have C:b<w.heap.size:=(Array.getElem?_eq_some_iff.1 hm).1;have J:j<es.size:=(Array.getElem?_eq_some_iff.1 hy).1
 have N:es.findIdx? (fun e=>(e.born:Int) == z)=some j:=by
  rw [Array.findIdx?_eq_some_iff_getElem]
  have O:es[j]=y:=by grind
  refine⟨J,by rw [O];simpa using I,fun i hi=>?_⟩
  have W:(es[i]'(by omega)).born≠y.born:=fun e=>by
   have h1:(es.toList.map (·.born))[i]?=some y.born:=by grind
   have t:(es.toList.map (·.born))[j]?=some y.born:=by simp [hy]
   grind [qX]
  grind
 have Q:∃(h:Nat),mo l k 0=some (h,v0)∧h=j:=by
  cases o:mo l k 0 with
  | none=>
   have h1:=(ij o).1;exact absurd (List.mem_map.2 ⟨(k,v0),List.mem_of_getElem? B,rfl⟩) (lq.1 h1)
  | some p=>
   obtain⟨h,v1⟩:=p;obtain⟨m,h1,t,_⟩:=gA o
   have D:(l.map (·.1))[m]?=some k:=by rw [List.getElem?_map,t];rfl
   have u:(l.map (·.1))[j]?=some k:=by rw [List.getElem?_map,B];rfl
   have X:=qX hn D u
   grind
 obtain⟨h,o,S⟩:=Q;subst S;obtain⟨m,h1,t,D,u,_⟩:=gA o
 have U:h=m:=by omega
 subst U;refine⟨_,?_,fY w b (.map (es.modify h fun e=>{e with val:=v}) clock),?_⟩
 ·
  simp only [Instr.entryStore,Sem.run_bind,Result.andThen_ok,MapKept.run_getObj_map hm,asInt,asIntOf,Sem.run_pure,N,MapKept.run_setObj_map _ hm]
 have Y:y.key=enc k:=by
  have:=congrArg (fun x=>x[h]?) he
  grind
 have F:(es.modify h fun e=>{e with val:=v}).toList.map (fun e=>(e.key,e.val))=(l.set h (k,v)).map (fun p=>(enc p.1,p.2))∧(es.modify h fun e=>{e with val:=v}).toList.map (·.born)=es.toList.map (·.born):=by
  constructor
  ·
   apply List.ext_getElem?
   intro i;have hi:=congrArg (fun x=>x[i]?) he
   grind
  apply List.ext_getElem?
  grind
 refine⟨_,_,by first | (simp [C];done) | (simp [C];exact⟨rfl,rfl⟩),by rw [u];exact F.1,fl hn k v,?_,by rw [F.2];exact G⟩;intro x o
 have:x.born∈(es.modify h fun e=>{e with val:=v}).toList.map (·.born):=List.mem_map.2 ⟨x,o,rfl⟩
 grind
variable {n:Nat}{kv:KV}{K:KV→World→Prop}{d:Tmp}{ty:TypeId}{pos:String}{af:Array Edge}{g:Option (Nat × Bool)}{T e:TypeId}
theorem OX.mapEntry{m v:Value}{k:κ}(u:KK P kt enc) (hT:P.underlying T=some (.map kt e)) (B:∀w,(zeroValue e).run P w=.ok m w) (hb:KM enc w b l) (C:(bq l k).getD m=v) {x y:Operand}(o:ev kv x=some (.map (some b))) (hy:ev kv y=some (enc k)) (D:Nat.blt d n=true)
  (h:∀(z:Int) w',aQ [b] w w'→Kh enc w' b (cF l k v) k z→K ((d,.tuple #[v,.int .i64 z])::kv) w'):OX P ⟨some d,.mapEntry T x y,ty,pos,af,g⟩ n kv w K:=by
 obtain⟨z,w',hr,h1,t⟩:=uV u hT B hb k;rw [C] at hr t;refine⟨rfl,D,by simp [known,opers,o,hy],?_⟩
 have F:(execOp (hh kv) ⟨some d,.mapEntry T x y,ty,pos,af,g⟩).run P w=.ok (.value (.tuple #[v,.int .i64 z])) w':=by
  simp only [execOp,aI o,aI hy,Sem.run_bind,hr,Result.andThen_ok];rfl
 rw [F];exact h z _ h1 t
theorem OX.entryStore{k:κ}{z:Int}{v:Value}(hb:Kh enc w b l k z) {x y u:Operand}(m:ev kv x=some (.map (some b))) (hy:ev kv y=some (.int .i64 z)) (hu:ev kv u=some v)
  (h:∀w',aQ [b] w w'→KM enc w' b (cF l k v)→K kv w'):OX P ⟨none,.entryStore T x y u,ty,pos,af,g⟩ n kv w K:=by
 obtain⟨w',hr,h1,o⟩:=qY (P:=P) (T:=T) hb v;refine⟨rfl,rfl,by simp [known,opers,m,hy,hu],?_⟩
 have t:(execOp (hh kv) ⟨none,.entryStore T x y u,ty,pos,af,g⟩).run P w=.ok .skip w':=by
  simp only [execOp,aI m,aI hy,aI hu,Sem.run_bind,hr,Result.andThen_ok];rfl
 rw [t];exact h _ h1 o
end
section
variable {κ:Type}{enc:κ→Value}{w0 w w':World}{M Z:Nat→Prop}{L:List As}{b:Nat}{l l':List (κ × Value)}{k:κ}{z:Int}
theorem St.OI(h:St w0 M Z w (As.map enc b l::L)) (s:aQ [b] w w') (hm:Kh enc w' b l' k z):St w0 M Z w' (As.zz enc b l' k z::L):=h.iL (s.p.mono fun x _ m=>by simpa [As.map] using m) hm fun x m=>.inl m
theorem St.OJ(h:St w0 M Z w (As.zz enc b l k z::L)) (s:aQ [b] w w') (hm:KM enc w' b l'):St w0 M Z w' (As.map enc b l'::L):=h.iL (s.p.mono fun x _ m=>by simpa [As.zz] using m) hm fun x m=>.inl m
end
/-! ### a map to owned slices -/
def hP(L:List RE) (k:Key):Option RE:=L.find? fun e=>decide (e.key=k)
def gi(L:List RE) (k:Key):List Key:=((hP L k).map (·.reads)).getD []
def pJ(L:List RE) (ml:List (Key × Value)):Prop:=∀k,bq ml k=(hP L k).map fun e=>Value.slice e.a e.n e.c
def nv(bg:Key→List Key) (x y:Key):Key→List Key:=fun z=>if z=x then bg z++[y] else bg z
def rest(L:List RE) (x:Key):List RE:=L.filter fun e=>decide (e.key≠x)
section
variable {L:List RE}{ml:List (Key × Value)}{x y:Key}{e:RE}{a:Option Addr}{n c:Nat}{v:Value}
theorem tP(h:hP L x=some e):e∈L∧e.key=x:=by grind [hP]
theorem pJ.nil:pJ [] []:=fun _=>rfl
theorem og(h:List Key) (z:Key):hP (⟨x,a,n,c,h⟩::rest L x) z=if z=x then some ⟨x,a,n,c,h⟩ else hP L z:=by
 unfold hP rest
 grind
theorem pJ.put(h:pJ L ml) (m:List Key):pJ (⟨x,a,n,c,m⟩::rest L x) (cF (cF ml x v) x (.slice a n c)):=fun z=>by
 rw [dz,og]
 by_cases e:x=z
 ·
  subst e
  simp
 rw [if_neg e,if_neg fun h=>e h.symm,dz,if_neg e];exact h z
theorem DT(z:Key):gi (⟨x,a,n,c,gi L x++[y]⟩::rest L x) z=nv (gi L) x y z:=by
 unfold nv
 by_cases h:z=x
 ·
  subst h;rw [if_pos rfl]
  show((hP _ z).map _).getD []=_
  rw [og,if_pos rfl]
  rfl
 rw [if_neg h]
 show((hP _ z).map _).getD []=((hP L z).map _).getD []
 rw [og,if_neg h]
theorem GL:gi (⟨x,a,n,c,gi L x++[y]⟩::rest L x)=nv (gi L) x y:=funext DT
theorem zA(h:(L.map (·.key)).Nodup) (m:List Key):(((⟨x,a,n,c,m⟩:RE)::rest L x).map (·.key)).Nodup:=by
 rw [List.map_cons,List.nodup_cons];refine⟨fun o=>?_,((List.filter_sublist (l:=L)).map (·.key)).nodup h⟩;obtain⟨e,he,t⟩:=List.mem_map.1 o
 have:=(List.mem_filter.1 he).2
 simp at this
 exact this t
theorem tQ:∀{L:List RE},(L.map (·.key)).Nodup→hP L x=some e→L.Perm (e::rest L x)
 | [],_,h=>by cases h
 | q::L,hn,h=>by
  rw [List.map_cons,List.nodup_cons] at hn
  unfold hP at h
  by_cases m:q.key=x
  ·
   rw [List.find?_cons_of_pos (by simpa using m)] at h
   cases h
   have:rest (e::L) x=L:=by
    unfold rest
    simp_all
   rw [this]
  rw [List.find?_cons_of_neg (by simpa using m)] at h
  have o:rest (q::L) x=q::rest L x:=by
   unfold rest
   grind
  rw [o];exact((tQ hn.2 h).cons q).trans (.swap _ _ _)
variable {w0 w:World}{M Z:Nat→Prop}{l:List As}{EK:Nat}
theorem St.OK(hn:(L.map (·.key)).Nodup) (hm:pJ L ml) (x:Key) (h:St w0 M Z w (As.many (L.map (RE.as EK))::l)):∃(a:Option Addr) (n c:Nat),(bq ml x).getD (.slice none 0 0)=.slice a n c∧St w0 M Z w (As.os RR.key EK 2 a n c (gi L x)::As.many ((rest L x).map (RE.as EK))::l):=by
 cases m:hP L x with
 | none=>
  refine⟨none,0,0,by rw [hm x,m];rfl,?_⟩
  have e1:gi L x=[]:=by unfold gi;rw [m];rfl
  have e2:rest L x=L:=by
   unfold rest
   rw [List.filter_eq_self];intro e he
   have:=List.find?_eq_none.1 m e he
   simpa using this
  rw [e1,e2];exact h.fV _ _ _
 | some e=>
  refine⟨e.a,e.n,e.c,by rw [hm x,m];rfl,?_⟩
  have e1:gi L x=e.reads:=by unfold gi;rw [m];rfl
  rw [e1];exact(St.Ou ((tQ hn m).map (RE.as EK)) h).uP
theorem St.Ui{m:List Key}(h:St w0 M Z w (As.os RR.key EK 2 a n c m::As.many ((rest L x).map (RE.as EK))::l)):St w0 M Z w (As.many (((⟨x,a,n,c,m⟩:RE)::rest L x).map (RE.as EK))::l):=h.zp
def Uj(L:List RE):FZ where
 p Z w:=∀e∈L,Rd RR.key 2 Z w e.a e.n e.c e.reads
 mono hZ h:=fun e he=>(h e he).mono hZ
 st hs hc h:=fun e he=>(h e he).st hs hc
theorem St.bkF(hl:∀e∈L,e.reads.length≤140737488355328) (h:St w0 M Z w (As.many (L.map (RE.as EK))::l)):St w0 M (fun x=>Z x∨(As.many (L.map (RE.as EK))).fp x) w (As.fz (Uj L)::l):=by
 have hm:(As.many (L.map (RE.as EK))).ok Z w:=h.ok _ M0
 refine h.freeze (B:=As.fz (Uj L)) (fun e he=>?_) fun x m=>m
 have o:Ow RR.key EK 2 Z w e.a e.n e.c e.reads:=As.gs (hm.2 _ (List.mem_map_of_mem (f:=RE.as EK) he))
 exact(o.rd (hl e he)).mono fun x m=>m.imp id fun m=>⟨_,List.mem_map_of_mem (f:=RE.as EK) he,m⟩
theorem pJ.read(hm:pJ L ml) (m:(Uj L).p Z w) (x:Key):∃(a:Option Addr) (n c:Nat),(bq ml x).getD (.slice none 0 0)=.slice a n c∧Rd RR.key 2 Z w a n c (gi L x):=by
 cases h:hP L x with
 | none=>
  refine⟨none,0,0,by rw [hm x,h];rfl,?_⟩
  grind [gi,Rd.nil]
 | some e=>
  refine⟨e.a,e.n,e.c,by rw [hm x,h];rfl,?_⟩
  have e1:gi L x=e.reads:=by unfold gi;rw [h];rfl
  rw [e1];exact m e (tP h).1
theorem DU(hn:(L.map (·.key)).Nodup) (he:e∈L):gi L e.key=e.reads:=by
 have:hP L e.key=some e:=by
  cases h:hP L e.key with
  | none=>
   have:=List.find?_eq_none.1 h e he
   simp at this
  | some q=>
   obtain⟨h1,o⟩:=tP h;obtain⟨i,hi⟩:=List.mem_iff_getElem?.1 h1;obtain⟨j,m⟩:=List.mem_iff_getElem?.1 he
   have g1:(L.map (·.key))[i]?=some e.key:=by grind
   have g2:(L.map (·.key))[j]?=some e.key:=by rw [List.getElem?_map,m];rfl
   grind [qX]
 unfold gi
 rw [this]
 rfl
end
/-! ### a search there and back -/
section
variable {l:List Rec}{rev:Int}{k:Key}{bg:Key→List Key}{L:List Key}{i q:Nat}{x y:Key}
structure pK (l:List Rec) (rev:Int) (k:Key) (bg:Key→List Key) (L:List Key) (i q:Nat):Prop where
 jq:L.Nodup
 mem:k∈L
 sub:∀x∈L,x=k∨bK l rev k x
 cl:∀j y,j<i→L[j]?=some y→∀x,Ld l rev y x→x∈L∧y∈bg x
 cur:∀y,L[i]?=some y→∀x∈(aF l y).reads.take q,bU l rev x=true→x∈L∧y∈bg x
 bk:∀x y,y∈bg x→y∈L∧Ld l rev y x
 len:∀x,(bg x).length≤4000*i+q
theorem pK.start(h:∀x,bg x=[]):pK l rev k bg [k] 0 0:=
 ⟨by simp,by simp,by simp,fun j y h=>by omega,fun y _ x m=>by simp at m,fun x y hy=>(by rw [h] at hy;cases hy),fun x=>by rw [h];simp⟩
theorem pK.op(h:pK l rev k bg L i q) (m:bU l rev k=true) (o:x∈L):bU l rev x=true:=by
 rcases h.sub x o with rfl | h1
 ·
  exact m
 exact h1.kA
theorem pK.le(h:pK l rev k bg L i q) (m:bU l rev k=true):L.length≤l.length:=by
 have:=eV h.jq fun x o=>qJ (h.op m o)
 simpa using this
theorem pK.skip(h:pK l rev k bg L i q) (hy:L[i]?=some y) (t:(aF l y).reads[q]?=some x) (u:bU l rev x=false):pK l rev k bg L i (q+1):=
 {h with
  cur:=fun D o B C m=>by
   rw [hy] at o
   cases o
   rcases iC t C with h1 | rfl
   ·
    exact h.cur y hy B h1 m
   rw [u] at m;cases m
  len:=fun x=>by have:=h.len x;omega}
theorem ny{z u:Key}(h:u∈bg z):u∈nv bg x y z:=by grind [nv]
theorem tR:y∈nv bg x y x:=by unfold nv;simp
theorem qZ{z u:Key}(h:u∈nv bg x y z):u∈bg z∨(z=x∧u=y):=by grind [nv]
theorem xB(z:Key):(nv bg x y z).length≤(bg z).length+1:=by
 unfold nv
 split <;> simp
theorem pK.mO(h:pK l rev k bg L i q) (hy:L[i]?=some y) (B:(aF l y).reads[q]?=some x) (D:bU l rev x=true) (hm:x∈L):pK l rev k (nv bg x y) L i (q+1):=
 {h with
  cl:=fun j t C m o hl=>⟨(h.cl j t C m o hl).1,ny (h.cl j t C m o hl).2⟩
  cur:=fun t m o F G=>by
   rw [hy] at m
   cases m
   rcases iC B F with h1 | rfl
   ·
    have:=h.cur y hy o h1 G
    grind [ny]
   exact⟨hm,tR⟩
  bk:=fun z u hu=>by
   rcases qZ hu with h1 | ⟨rfl,rfl⟩
   ·
    exact h.bk z u h1
   exact⟨List.mem_of_getElem? hy,List.mem_of_getElem? B,D⟩
  len:=fun z=>by have:=h.len z;grind [xB]}
theorem pK.new(h:pK l rev k bg L i q) (hy:L[i]?=some y) (B:(aF l y).reads[q]?=some x) (I:bU l rev x=true) (hm:x∉L):pK l rev k (nv bg x y) (L++[x]) i (q+1):=by
 have O:i<L.length:=(List.getElem?_eq_some_iff.1 hy).1;have C:Ld l rev y x:=⟨List.mem_of_getElem? B,I⟩
 have mO:∀{j z},j≤i→(L++[x])[j]?=some z→L[j]?=some z:=fun D Q=>by grind
 refine⟨by grind [jq],by simp [h.mem],fun z m=>?_,fun j F D o t hl=>?_,fun F o t J N=>?_,fun z u hu=>?_,fun z=>?_⟩
 ·
  rcases List.mem_append.1 m with m | m
  ·
   exact h.sub z m
  rw [List.mem_singleton] at m;subst m
  rcases h.sub y (List.mem_of_getElem? hy) with rfl | h1
  ·
   exact .inr (.one C)
  exact .inr (.step h1 C)
 ·
  have h1:=h.cl j F D (mO (by omega) o) t hl
  grind [ny]
 ·
  have G:=mO (Nat.le_refl _) o;rw [hy] at G
  cases G
  rcases iC B J with h1 | rfl
  ·
   have:=h.cur y hy t h1 N
   grind [ny]
  exact⟨by simp,tR⟩
 ·
  rcases qZ hu with h1 | ⟨rfl,rfl⟩
  ·
   have:=h.bk z u h1
   grind
  grind
 have:=h.len z
 grind [xB]
theorem pK.next(h:pK l rev k bg L i q) (hy:L[i]?=some y) (t:(aF l y).reads.length≤q) (C:q≤4000):pK l rev k bg L (i+1) 0:=
 {h with
  cl:=fun j u D m o hl=>by
   rcases Nat.lt_or_ge j i with h1 | h1
   ·
    exact h.cl j u h1 m o hl
   have e:j=i:=by omega
   subst e;rw [hy] at m
   cases m
   exact h.cur y hy o (by rw [List.take_of_length_le t];exact hl.1) hl.2
  cur:=fun _ _ x B=>by simp at B
  len:=fun x=>by have:=h.len x;omega}
theorem pK.done(h:pK l rev k bg L i q) (hi:L.length≤i) (x:Key):x∈L↔x=k∨bK l rev k x:=by
 have m:∀y∈L,∀x,Ld l rev y x→x∈L∧y∈bg x:=fun y hy x hl=>by
  obtain⟨j,o⟩:=List.mem_iff_getElem?.1 hy
  have:=(List.getElem?_eq_some_iff.1 o).1
  exact h.cl j y (by omega) o x hl
 refine⟨h.sub x,?_⟩;rintro(rfl | h1)
 ·
  exact h.mem
 induction h1 with
 | one h1=>exact(m _ h.mem _ h1).1
 | step _ t u=>exact(m _ u _ t).1
theorem pK.Uk(h:pK l rev k bg L i q) (hi:L.length≤i) (x y:Key):y∈bg x↔(y=k∨bK l rev k y)∧Ld l rev y x:=by
 rw [← h.done hi y];refine⟨h.bk x y,fun⟨h1,o⟩=>?_⟩;obtain⟨j,m⟩:=List.mem_iff_getElem?.1 h1
 have:=(List.getElem?_eq_some_iff.1 m).1
 exact(h.cl j y (by omega) m x o).2
structure tS (l:List Rec) (rev:Int) (k:Key) (bg:Key→List Key) (L:List Key) (i q:Nat):Prop where
 jq:L.Nodup
 mem:k∈L
 sub:∀x∈L,x=k∨tN l rev k x
 cl:∀j y,j<i→L[j]?=some y→∀x∈bg y,x∈L
 cur:∀y,L[i]?=some y→∀x∈(bg y).take q,x∈L
theorem tS.start:tS l rev k bg [k] 0 0:=⟨by simp,by simp,by simp,fun j y h=>by omega,fun y _ x m=>by simp at m⟩
theorem tS.le(h:tS l rev k bg L i q) (m:bU l rev k=true):L.length≤l.length:=by
 have:=eV h.jq fun x o=>qJ (l:=l) (rev:=rev) (by
  rcases h.sub x o with rfl | h1
  ·
   exact m
  exact h1.kA)
 simpa using this
theorem tS.has(h:tS l rev k bg L i q) (hy:L[i]?=some y) (o:(bg y)[q]?=some x) (hm:x∈L):tS l rev k bg L i (q+1):=
 {h with
  cur:=fun B m t u=>by
   rw [hy] at m
   cases m
   rcases iC o u with h1 | rfl
   ·
    exact h.cur y hy t h1
   exact hm}
theorem tS.add(h:tS l rev k bg L i q) (J:∀x y,y∈bg x↔(y=k∨bK l rev k y)∧Ld l rev y x) (hy:L[i]?=some y) (D:(bg y)[q]?=some x) (hm:x∉L):tS l rev k bg (L++[x]) i (q+1):=by
 have Q:i<L.length:=(List.getElem?_eq_some_iff.1 hy).1;obtain⟨h1,o⟩:=(J y x).1 (List.mem_of_getElem? D)
 have N:bK l rev k x:=by grind [mem]
 have O:bK l rev x k:=by
  rcases h.sub y (List.mem_of_getElem? hy) with rfl | t
  ·
   exact .one o
  exact(bK.one o).trans t.2
 have mO:∀{j z},j≤i→(L++[x])[j]?=some z→L[j]?=some z:=fun F o=>by grind
 refine⟨by grind [jq],by simp [h.mem],fun z m=>?_,fun j G F u B C=>by simp [h.cl j G F (mO (by omega) u) B C],fun G u B C=>?_⟩
 ·
  rcases List.mem_append.1 m with m | m
  ·
   exact h.sub z m
  rw [List.mem_singleton] at m;subst m;exact .inr ⟨N,O⟩
 have I:=mO (Nat.le_refl _) u;rw [hy] at I
 cases I
 rcases iC D C with t | rfl
 ·
  simp [h.cur y hy B t]
 simp
theorem tS.next(h:tS l rev k bg L i q) (hy:L[i]?=some y) (C:(bg y).length≤q):tS l rev k bg L (i+1) 0:=
 {h with
  cl:=fun j t D m o u=>by
   rcases Nat.lt_or_ge j i with h1 | h1
   ·
    exact h.cl j t h1 m o u
   have e:j=i:=by omega
   subst e;rw [hy] at m
   cases m
   exact h.cur y hy o (by grind [List.take_of_length_le])
  cur:=fun _ _ x B=>by simp at B}
theorem tS.done(h:tS l rev k bg L i q) (B:bU l rev k=true) (C:∀x y,y∈bg x↔(y=k∨bK l rev k y)∧Ld l rev y x) (hi:L.length≤i) (x:Key):x∈L↔x∈aB l rev k:=by
 have D:∀y∈L,∀x∈bg y,x∈L:=fun y hy x m=>by
  obtain⟨j,u⟩:=List.mem_iff_getElem?.1 hy
  have:=(List.getElem?_eq_some_iff.1 u).1
  exact h.cl j y (by omega) u x m
 rw [bD]
 constructor
 ·
  intro m
  exact(h.sub x m).imp id fun h1=>⟨B,h1⟩
 rintro(rfl | ⟨_,h1,o⟩)
 ·
  exact h.mem
 have key:∀{x y:Key},bK l rev x y→(x=k∨bK l rev k x)→y∈L→x∈L:=by
  intro x y o h1
  induction o with
  | one t=>grind
  | step t F G=>
   refine fun hy=>G (D _ hy _ ((C _ _).2 ⟨.inr ?_,F⟩))
   rcases h1 with rfl | h1
   ·
    exact t
   exact h1.trans t
 exact key o (.inr h1) h.mem
theorem tS.group(h:tS l rev k bg L i q) (m:bU l rev k=true) (o:∀x y,y∈bg x↔(y=k∨bK l rev k y)∧Ld l rev y x) (hi:L.length≤i) {L':List Key}(t:sD L') (u:L'.Perm L):L'=aB l rev k:=
 qV t (oa _ _ _) fun x=>(u.mem_iff).trans (h.done m o hi x)
end
/-! ### what has changed, and why a key would be run -/
section
variable {val:Key→ByteArray}{x:cB}{k:Key}{r:Rec}
theorem Ki(hi:aw k=true):aZ val x k=(bf x.ab k).changed:=by unfold aZ;rw [if_pos hi]
theorem Kj(hi:aw k=false) (h:ay x.ai k=none):aZ val x k=x.ad:=by grind [aZ]
theorem Kk(hi:aw k=false) (h:ay x.ai k=some r) (m:r.aq=x.ad):aZ val x k=r.changed:=by grind [aZ,aK]
theorem Bg(hi:aw k=false) (h:ay x.ai k=some r) (m:¬r.aq=x.ad):aZ val x k=if val k=r.value then r.changed else x.ad:=by
 unfold aZ
 rw [hi,aK h,h]
 grind
def DV(val:Key→ByteArray) (x:cB) (c:oU):Bool:=decide ((aF x.ai c.fm).aq<aZ val x c.read)
noncomputable def GM(val:Key→ByteArray) (x:cB) (k:Key):Int × Key:=
 if (aw k || az x k)=true then (0,dA)
 else match ay x.ai k with
  | none=>(1,dA)
  | some r=>if r.bV=true then (3,dA) else
   match (cj x.ai (aB x.ai x.ad k)).find? (DV val x) with
   | none=>(0,dA)
   | some c=>(if c.fm=k then 2 else 3,c.read)
def KR(aa:List aG) (l:List Rec):Prop:=∀r∈l,dU aa r.key∧aw r.key=false∧∀a∈r.reads,dU aa a
theorem KR.Ul{aa:List aG}{l:List Rec}(h:KR aa l):∀r∈l,cx r.key:=fun r hr=>(h r hr).1.cx
theorem KR.aD{aa:List aG}{l:List Rec}(h:KR aa l) (hi:aw k=true):ay l k=none:=by
 cases m:ay l k with
 | none=>rfl
 | some r=>
  obtain⟨h1,o⟩:=aH m
  have:=(h r h1).2.1
  grind
theorem Bj{l:List Rec}{rev:Int}(o:ay l k=some r):∀m∈aB l rev k,∃q,ay l m=some q:=fun m hm=>by
 rcases bD.1 hm with rfl | ⟨_,h⟩
 ·
  exact⟨r,o⟩
 obtain⟨q,t,_⟩:=bw.1 h.kA;exact⟨q,t⟩
theorem Ce{l:List Rec}(hr:∀r∈l,r.reads.length≤4000) {group:List Key}(h:group.length≤4001) (i:Nat):((group.take i).flatMap fun m=>cN group m (aF l m).reads).length≤100000000:=by
 have h1:∀s:List Key,(s.flatMap fun m=>cN group m (aF l m).reads).length≤s.length*4000:=by
  intro s
  induction s with
  | nil=>simp
  | cons m s o=>
   simp only [List.flatMap_cons,List.length_append,List.length_cons];have t:=jO group m (aF l m).reads
   have u:(aF l m).reads.length≤4000:=by
    cases B:ay l m with
    | none=>grind [aF,na]
    | some r=>grind [aK,aH]
   rw [Nat.add_mul]
   omega
 grind
end
end Go.Rc

namespace Go.Rc
open Go
theorem kR(n:bW):∀l:List bW,(eu n l false).find? (fun x=>x.key == n.key)=some n
 | []=>by simp [eu]
 | x::xs=>by
  by_cases h:0≤bl x.key n.key
  ·
   simp [eu,h]
  have h0:¬bl x.key n.key=0:=by omega
  have m:(x.key == n.key)=false:=by
   rw [beq_eq_false_iff_ne];intro e;rw [e,fA] at h0;exact h0 rfl
  have:=kR n xs
  simp [eu,h,h0,m,this]
theorem iE(n:bW) (l:List bW):bf (eu n l false) n.key=n:=by grind [bf,kR]
structure S0 (x:cB) (l:List Change) (y:cB):Prop where
 same:∀k,(∀c∈l,c.key≠k)→bf y.ab k=bf x.ab k
 how:(y.ad=x.ad∧y.ab=x.ab)∨(y.ad=x.ad+1∧∀k,bf y.ab k=bf x.ab k∨(bf y.ab k).changed=x.ad+1)
theorem S0.refl(x:cB) (l:List Change):S0 x l x:=⟨fun _ _=>rfl,.inl ⟨rfl,rfl⟩⟩
theorem GN{rev:Int}{l li:List bW}(h:∀k,bf li k=bf l k∨(bf li k).changed=rev) (n:bW) (hn:n.changed=rev) (k:Key):bf (eu n li false) k=bf l k∨(bf (eu n li false) k).changed=rev:=by
 by_cases e:n.key=k
 ·
  grind [iE]
 rw [lD e];exact h k
/-! ### tasks -/
section
variable {aa:List aG}{H:Int→List bW}{x b:cB}{bG:List Key}{k:Key}
theorem TI.begin(F:ao aa) (h:TI aa H x b [] bG) (hk:dU aa k) (hn:da b [] k=true):TI aa H x b [⟨k,false,0,[],[]⟩] bG:=by
 have G:¬(aw k=true∨fe [] k=true∨az b k=true):=fun h=>by grind [fO]
 have h1:aw k=false:=by grind
 have t:az b k=false:=by grind
 obtain⟨m,hm,u,_⟩:=hk.fW h1;refine⟨h.bi.T7 fun y hy=>?_,h.wy,?_,fun f o=>?_⟩
 ·
  simp [fe] at hy
 ·
  have:=TI.snoc (aa:=aa) (H:=H) (b0:=x) (b:=b) (p:=[]) (f:=⟨k,false,0,[],[]⟩) (fun p1 g q B=>by cases p1 <;> cases B) ⟨⟨m,hm,u⟩,rfl,fun i j _ _ _ C=>(by simp [fe] at C),fun hc=>(by cases hc),fun _=>⟨rfl,rfl,Int.le_refl _,fun _ j c D=>(by simp at D)⟩⟩
  exact this
 rw [List.mem_singleton] at o;subst o;refine⟨fun hr=>?_,h.wy.Be t⟩
 have:=h.wy.ID k hr
 grind
def TO(aa:List aG) (x:cB) (t:Ov):Prop:=∃H:Int→List bW,TI aa H x t.base t.stack t.bG
theorem TO.start(h:Bh aa x) (goals:List Key):TO aa x ⟨aa,x,goals,[],[]⟩:=by
 obtain⟨H,h⟩:=h;exact⟨H,h.T7 fun k hk=>(by cases hk),Wy.start x,fun p f q m=>(by cases p <;> cases m),fun f o=>(by cases o)⟩
/-! ### cancelled tasks -/
def fB(l:List bZ) (rs:List Rec):List Rec:=l.foldl (fun rs f=>if ax f.key then hK rs f.key else rs) rs
theorem zB(rs:List Rec) (k:Key):(hK rs k).Sublist rs:=by grind [hK,List.filter_sublist]
theorem kS:∀(l:List bZ) (rs:List Rec),(fB l rs).Sublist rs∧∀r,r∈fB l rs↔r∈rs∧(fe l r.key && ax r.key)=false
 | [],rs=>⟨List.Sublist.refl _,fun r=>by simp [fB,fe]⟩
 | f::l,rs=>by
  have e:fB (f::l) rs=fB l (if ax f.key then hK rs f.key else rs):=rfl;obtain⟨h1,h⟩:=kS l (if ax f.key then hK rs f.key else rs);rw [e];refine⟨h1.trans ?_,fun r=>?_⟩
  ·
   grind [zB]
  rw [h r]
  have m:fe (f::l) r.key=(decide (f.key=r.key) || fe l r.key):=by simp [fe]
  rw [m]
  by_cases hc:ax f.key=true
  ·
   rw [if_pos hc]
   unfold hK
   grind
  grind
theorem TO.cancel{t:Ov}(h:TO aa x t):Bh aa ⟨t.base.ad,t.base.ab,fB t.stack t.base.ai⟩∧(∀y∈t.bG,az ⟨t.base.ad,t.base.ab,fB t.stack t.base.ai⟩ y=true)∧(∀y,az x y=true→az ⟨t.base.ad,t.base.ab,fB t.stack t.base.ai⟩ y=true)∧(∀y∈t.bG,aw y=false∧az x y=false)∧t.bG.Nodup:=by
 obtain⟨H,h⟩:=h;obtain⟨h1,u⟩:=kS t.stack t.base.ai
 have hb:=h.bi.drop h1 fun r hr=>((u r).1 hr).2
 have C:mR (fB t.stack t.base.ai):=hb.st
 have kK:∀y,az t.base y=true→fe t.stack y=false→az ⟨t.base.ad,t.base.ab,fB t.stack t.base.ai⟩ y=true:=fun y hu hn=>by
  obtain⟨r,hr,D⟩:=aL.1 hu;obtain⟨g1,g2⟩:=aH hr
  grind [aL,eT]
 have o:∀y,(∀f∈t.stack,f.key≠y)→fe t.stack y=false:=fun y hy=>by grind [fe]
 refine⟨⟨H,hb⟩,fun y hy=>kK y (h.wy.ID y hy) (o y fun f m e=>?_),fun y hy=>kK y ?_ (o y fun f m e=>?_),fun y hy=>⟨(h.wy.bG y hy).1,(h.wy.bG y hy).2.1⟩,h.wy.jq⟩
 ·
  rw [← e] at hy;exact(h.nr f m).1 hy
 ·
  have:=h.wy.ev
  have B:t.base.ad=x.ad:=h.wy.rev;exact this.az B hy
 have:=(h.nr f m).2
 rw [e,hy] at this
 cases this
/-! ### bases of the mill -/
structure LC (aa:List aG) (x:cB):Prop where
 lb:LB aa x
 bh:Bh aa x
theorem LC.apply(h:LC aa x) {y:cB}{l:List Change}(m:S0 x l y) (hr:y.ai=x.ai) (h0:x.ad≤y.ad) (h1:y.ad≤1073741824) (o:hW y.ad y.ab) (t:y.ab.length≤64):LC aa y:=by
 refine⟨h.lb.apply hr h0 h1 o t,?_⟩
 rcases m.how with⟨e1,e2⟩ | ⟨e1,e2⟩
 ·
  obtain⟨u,B,C⟩:=y;simp only at hr e1 e2;subst hr e1 e2;exact h.bh
 exact h.bh.apply hr e1 fun k=>by rw [e1];exact e2 k
theorem LC.task{t:Ov}(h:LC aa x) (hb:BK aa x.ab x.ad t.base) (ht:TO aa x t):LC aa ⟨t.base.ad,t.base.ab,fB t.stack t.base.ai⟩:=⟨h.lb.task hb (kS _ _).1,ht.cancel.1⟩
theorem LC.nil(aa:List aG) (y:cB) (hr:y.ai=[]) (h0:0≤y.ad) (h1:y.ad≤1073741824) (h:hW y.ad y.ab) (m:y.ab.length≤64):LC aa y:=by
 refine⟨LB.nil y hr h0 h1 h m,?_⟩;obtain⟨o,t,u⟩:=y
 grind [Bh.new]
end
/-! ### reasons -/
section
variable {aa:List aG}{x y:cB}{k:Key}{s:ES}
theorem Wy.runs(h:Wy aa x s) (hw:zu (valOf aa x.ab) x k) (hu:az s.b k=true):k∈s.bG:=by
 obtain⟨_,hn,hc⟩:=hw
 rcases h.mrk k hn hu with h1 | h1
 ·
  exact h1
 have m:=h.ev.pt k
 have o:∀r,ay s.b.ai k=some r→r.aq=x.ad:=fun r hr=>by grind [aL,rev]
 rcases m with e | ⟨_,r,e1,e2,e3,_⟩ | ⟨⟨e1,_⟩,_⟩
 ·
  grind [aL]
 ·
  grind [aK]
 exact e1
end
end Go.Rc

namespace Go.Rc
open Go
structure AO (x:cB) (l:List Change) (y:cB):Prop where
 one:∀c,l=[c]→(bf x.ab c.key).value≠c.value→x.ad+1≤1073741824→y=⟨x.ad+1,eu ⟨c.key,c.value,x.ad+1⟩ x.ab false,x.ai⟩
 Nl:∀k,bf y.ab k=bf x.ab k∨(bf y.ab k).value≠(bf x.ab k).value
 src:∀k,bf y.ab k=bf x.ab k∨∃c∈l,(bf y.ab k).value=c.value
structure Cf (x:cB) (l:List Change) (i:Nat) (ch:Bool) (li:List bW):Prop where
 one:∀c,l=[c]→(i=0∧ch=false∧li=x.ab)∨(i=1∧((bf x.ab c.key).value=c.value∨(ch=true∧li=eu ⟨c.key,c.value,x.ad+1⟩ x.ab false)))
 Nl:∀k,bf li k=bf x.ab k∨(bf li k).value≠(bf x.ab k).value
 src:∀k,bf li k=bf x.ab k∨∃c∈l,(bf li k).value=c.value
section
variable {x:cB}{l:List Change}{i:Nat}{ch:Bool}{li:List bW}
theorem Cf.start:Cf x l 0 false x.ab:=⟨fun _ _=>.inl ⟨rfl,rfl,rfl⟩,fun _=>.inl rfl,fun _=>.inl rfl⟩
theorem Cf.skip(h:Cf x l i ch li) (hi:i<l.length) {m:Bool}(h1:l.length=i+1→m=true) (g:(!m || decide ((bf x.ab l[i].key).value=l[i].value))=true):Cf x l (i+1) ch li:=by
 refine⟨fun c e=>?_,h.Nl,h.src⟩;subst e
 have h0:i=0:=by simpa using hi
 subst h0;rw [h1 rfl] at g;exact .inr ⟨rfl,.inl (by simpa using g)⟩
theorem Cf.put(h:Cf x l i ch li) (hi:i<l.length) {o:Bool}(g:(!o || decide ((bf x.ab l[i].key).value=l[i].value))=false):Cf x l (i+1) true (eu ⟨l[i].key,l[i].value,x.ad+1⟩ li false):=by
 refine⟨fun c e=>?_,fun k=>?_,fun k=>?_⟩
 ·
  subst e
  have h0:i=0:=by simpa using hi
  subst h0
  rcases h.one c rfl with⟨_,_,e⟩ | ⟨e,_⟩
  ·
   subst e;exact .inr ⟨rfl,.inr ⟨rfl,rfl⟩⟩
  cases e
 ·
  by_cases e:l[i].key=k
  ·
   subst e;have m:=iE ⟨l[i].key,l[i].value,x.ad+1⟩ li;simp only at m;rw [m]
   simp at g
   exact .inr fun e=>g.2 e.symm
  rw [lD e];exact h.Nl k
 by_cases e:l[i].key=k
 ·
  subst e;have m:=iE ⟨l[i].key,l[i].value,x.ad+1⟩ li;simp only at m;rw [m];exact .inr ⟨l[i],List.getElem_mem hi,rfl⟩
 rw [lD e];exact h.src k
theorem Cf.same(h:Cf x l i ch li) (hi:l.length≤i) (hc:ch=false):AO x l x:=by
 refine⟨fun c e m _=>?_,fun _=>.inl rfl,fun _=>.inl rfl⟩;subst e
 rcases h.one c rfl with⟨e,_⟩ | ⟨_,e | ⟨e,_⟩⟩
 ·
  subst e;simp at hi
 ·
  exact absurd e m
 rw [hc] at e;cases e
theorem Cf.done(h:Cf x l i ch li) (hi:l.length≤i):AO x l ⟨x.ad+1,li,x.ai⟩:=by
 refine⟨fun c e m _=>?_,h.Nl,h.src⟩;subst e
 rcases h.one c rfl with⟨e,_⟩ | ⟨_,e | ⟨_,e⟩⟩
 ·
  subst e;simp at hi
 ·
  exact absurd e m
 rw [e]
end
end Go.Rc

namespace Go.Rc
open Go
instance:Inhabited Key:=⟨dA⟩
theorem Cg{w w':World}(h:aQ [] w w'):∃q os,w'=Sort.grow (w.drewN q) os:=by
 refine⟨w'.drawn - w.drawn,w'.heap.extract w.heap.size w'.heap.size,?_⟩;obtain⟨t,ht,hu,u,B,hb⟩:=h
 have m:w'.heap=w.heap++w'.heap.extract w.heap.size w'.heap.size:=by grind
 have o:w'.drawn=w.drawn+(w'.drawn - w.drawn):=by omega
 generalize w'.heap.extract w.heap.size w'.heap.size=os at m
 generalize w'.drawn - w.drawn=q at o
 cases w'
 cases w
 simp only at t ht hu m o;subst t ht hu m o
 rfl
section
variable {α:Type} [Inhabited α] {row:α→List Value}{k:Nat}{key:α→Key}
theorem Bk:Sort.SWO (Proofs.ltOf fun x y=>bl (key x) (key y)):=by
 refine⟨fun x=>?_,fun x y z h1 h=>?_,fun x y z h1 h=>?_⟩
 ·
  grind [Proofs.ltOf,fA]
 ·
  unfold Proofs.ltOf at *
  rw [decide_eq_true_eq] at *;exact fN h1 h
 grind [Proofs.ltOf,gF,fN,jR]
theorem uW(hk:∀x,(row x).length=k) (l:List α):(l.map row).flatten.length=l.length*k:=by
 induction l with
 | nil=>simp
 | cons x r h=>simp only [List.map_cons,List.flatten_cons,List.length_append,List.length_cons,Nat.add_mul,h,hk];omega
theorem xC(hk:∀x,(row x).length=k) (l:List α) (t:Nat) (ht:t<l.length*k):(l.map row).flatten[t]?=some ((row (l.toArray[t / k]!))[t % k]!):=by
 have h0:0<k:=by rcases Nat.eq_zero_or_pos k with h | h;subst h;omega;exact h
 have hi:t / k<l.length:=(Nat.div_lt_iff_lt_mul h0).2 ht
 have hr:(l.map row)[t / k]?=some (row l[t / k]):=by grind
 have e:t=t / k*k+t % k:=by rw [Nat.mul_comm];exact(Nat.div_add_mod t k).symm
 have h1:(l.toArray[t / k]!)=l[t / k]:=by simp [hi]
 rw [h1];have hm:t % k<k:=Nat.mod_lt _ h0
 have h:=kE (l.map row) k (t / k) _ (fun r hr=>by obtain⟨x,_,rfl⟩:=List.mem_map.1 hr;exact hk x) hr (t % k) ((row l[t / k])[t % k]!) (by
  rw [List.getElem?_eq_getElem (by rw [hk];exact hm),getElem!_pos])
 rw [← e] at h;exact h
theorem Ch(hk:∀x,(row x).length=k) {w:World}{b E:Nat}{cur:Array Value}{l:List α}(hb:w.heap[b]?=some (.cells cur E (0,0))) (ht:cur.toList.take (l.length*k)=(l.map row).flatten):Sort.HoldsK row k w b 0 l.toArray:=by
 unfold Sort.HoldsK
 intro j h;rw [Sort.size_flatK,List.size_toArray] at h;have h1:=xC hk l j h;rw [← ht,List.getElem?_take,if_pos h,Array.getElem?_toList] at h1;refine⟨?_,?_⟩
 ·
  unfold World.cell?
  simp only [hb,Nat.zero_add]
  grind [Sort.get_flatK]
 grind [World.frozen?]
theorem GO(hk:∀x,(row x).length=k) {w:World}{b E m:Nat}{os:Array Obj}{cur:Array Value}{l l':List α}(hb:w.heap[b]?=some (.cells cur E (0,0))) (ht:cur.toList.take (l.length*k)=(l.map row).flatten) (hl:l'.length=l.length):∃mn:Array Value,(Proofs.sortWorldK row k w b 0 m l'.toArray os).heap[b]?=some (.cells mn E (0,0))∧mn.size=cur.size∧mn.toList.take (l'.length*k)=(l'.map row).flatten:=by
 have o:b<w.heap.size:=(Array.getElem?_eq_some_iff.1 hb).1;refine⟨Sort.putCells id 0 (Sort.flatK row k l'.toArray) cur,?_,by unfold Sort.putCells;simp,?_⟩
 ·
  unfold Proofs.sortWorldK
  rw [Sort.heap_grow_old _ _ (by grind [Sort.putRowK,Sort.putRow,Sort.mapBlock,Sort.ahead])]
  unfold Sort.putRowK Sort.putRow Sort.mapBlock Sort.ahead
  simp only [Array.getElem?_modify,if_true,hb]
  rfl
 have hlen:l.length*k≤cur.size:=by
  have h1:=congrArg List.length ht;have u:=uW hk l
  grind
 apply List.ext_getElem?
 intro t
 by_cases h:t<l'.length*k
 ·
  rw [xC hk l' t h,List.getElem?_take,if_pos h,Array.getElem?_toList]
  unfold Sort.putCells
  rw [hl] at h;rw [Array.getElem?_mapIdx,Array.getElem?_eq_getElem (by omega),Option.map_some];rw [if_pos ⟨Nat.zero_le _,by simp_all⟩,Nat.sub_zero,Sort.get_flatK _ _ _ _ (by rw [List.size_toArray,hl];exact h)]
  rfl
 rw [List.getElem?_eq_none (by rw [List.length_take];omega),List.getElem?_eq_none (by rw [uW hk];omega)]
theorem DX{w:World}{b m:Nat}{os:Array Obj}{d:Array α}:aQ [b] w (Proofs.sortWorldK row k w b 0 m d os):=by
 refine⟨rfl,rfl,rfl,?_,?_,fun k hk hn=>?_⟩
 ·
  unfold Proofs.sortWorldK Sort.grow Sort.putRowK Sort.putRow Sort.mapBlock Sort.ahead
  simp
 ·
  exact Nat.le_add_right _ _
 unfold Proofs.sortWorldK
 rw [Sort.heap_grow_old _ _ (by grind [Sort.putRowK,Sort.putRow,Sort.mapBlock,Sort.ahead])]
 unfold Sort.putRowK Sort.putRow Sort.mapBlock Sort.ahead
 grind
theorem tT{P:Program}{F g E:Nat}(hk:∀x,(row x).length=k) (h1:∀x,∀v∈row x,v.oneCell'=true) (I:∀(blk cap:Nat) (d:Array α) (w:World),Proofs.CmpLays P g #[] row k (fun x y=>bl (key x) (key y)) blk 0 d.size w→Sort.HoldsK row k w blk 0 d→blk<w.heap.size→d.size<4611686018427387904→Calls P F #[.slice (some ⟨blk,0,none⟩) d.size cap,.func (.func g) #[] #[]] w fun e w'=>e=.returned (.tuple #[])∧∃d' n os,Sort.PermIn 0 d.size d d'∧Sort.SortedIn (Proofs.ltOf fun x y=>bl (key x) (key y)) 0 d.size d'∧w'=Proofs.sortWorldK row k w blk 0 n d' os)
  (hcmp:∀(x y:α) (w:World),Calls P g #[.agg (row x).toArray,.agg (row y).toArray] w fun e w'=>e=.returned (.int .i64 (bl (key x) (key y)))∧aQ [] w w')
  {l:List α}{a:Option Addr}{n c:Nat}{w:World}{M Z:Nat→Prop}(B:St w M Z w [As.os (RR.flat row) E k a n c l]) (h0:l≠[]) (hn:l.length≤1000000):Calls P F #[.slice a n c,.func (.func g) #[] #[]] w fun e w'=>e=.returned (.tuple #[])∧∃l',l'.Perm l∧(l'.Pairwise fun x y=>¬bl (key y) (key x)<0)∧St w M Z w' [As.os (RR.flat row) E k a n c l']:=by
 have J:=As.gs B.g0;obtain⟨o,rows,OM,hrk,N,O⟩:=id J
 have Q:rows=l.map row:=by
  apply List.ext_getElem?
  intro i;rw [List.getElem?_map]
  by_cases hi:i<l.length
  ·
   rw [List.getElem?_eq_getElem (by omega),List.getElem?_eq_getElem hi]
   have:=O i l[i] rows[i] (List.getElem?_eq_getElem hi) (List.getElem?_eq_getElem (by omega))
   rw [RR.bt this]
   rfl
  grind
 rcases N.cases with⟨g1,g2,_⟩ | ⟨b,cur,rfl,Np,hb,S,U,V,ht⟩
 ·
  grind
 rw [Q,o] at ht;have W:b<w.heap.size:=(Array.getElem?_eq_some_iff.1 hb).1
 have hc:Proofs.CmpLays P g #[] row k (fun x y=>bl (key x) (key y)) b 0 l.toArray.size w:=fun m os dk _ x y=>(hcmp x y _).mono fun e w' ⟨h1,X⟩=>⟨h1,Cg X⟩
 have C:=I b c l.toArray w hc (Ch hk hb ht) W (by rw [List.size_toArray];omega);rw [List.size_toArray,← o] at C;refine C.mono ?_;rintro e w' ⟨rfl,d',m,os,⟨t,_,Y⟩,D,rfl⟩;rw [o] at Y D
 have t:d'.size=l.length:=by rw [t,List.size_toArray]
 have G:d'.toList.Perm l:=by grind [Array.extract_size]
 obtain⟨l',rfl⟩:∃l':List α,d'=l'.toArray:=⟨d'.toList,by simp⟩
 have hl:l'.length=l.length:=by simpa using t
 simp only at G;obtain⟨mn,g1,g2,g3⟩:=GO hk (m:=m) (os:=os) hb ht hl;refine⟨rfl,l',G,?_,?_⟩
 ·
  rw [List.pairwise_iff_getElem];intro i j hi hj hij;have h1:=D i j (Nat.zero_le _) hij (by omega)
  grind [Proofs.ltOf]
 refine B.gN (w':=Proofs.sortWorldK row k w b 0 m l'.toArray os) (DX.mono fun x h=>by simpa [bA] using h) ?_ (fun x h=>.inl h);refine⟨by omega,l'.map row,by simp,fun r hr=>by obtain⟨x,_,rfl⟩:=List.mem_map.1 hr;exact hk x,?_,fun i x r h hr=>?_⟩
 ·
  refine⟨fun u hu=>?_,?_,.inr ⟨b,c,mn,rfl,Nat.zero_le _,g1,S,U,by rw [g2];exact V,by grind⟩⟩
  ·
   obtain⟨r,hr,hu⟩:=List.mem_flatten.1 hu;obtain⟨x,_,rfl⟩:=List.mem_map.1 hr;exact h1 x u hu
  rw [uW hk]
  grind
 rw [List.getElem?_map,h] at hr
 cases hr
 rfl
end
end Go.Rc

namespace Go.Rc
open Go
inductive dD (aa:List aG) (val:Key→ByteArray) (goals:List Key) (x:cB):cB→List bZ→List Key→Prop where
 | start:dD aa val goals x x [] []
 | take {b:cB}{bG:List Key}{k:Key}:dD aa val goals x b [] bG→k∈goals→da b [] k=true→dD aa val goals x b [⟨k,false,0,[],[]⟩] bG
 | step {b b':cB}{p l':List bZ}{f:bZ}{bG rk:List Key}:dD aa val goals x b (p++[f]) bG→FS aa val b p f b' l' rk 0→l'≠p++[f]→dD aa val goals x b' l' (bG++rk)
section
variable {aa:List aG}{H:Int→List bW}{x b b':cB}{p q l l':List bZ}{f g:bZ}{bG rk goals:List Key}{k y:Key}{val:Key→ByteArray}{er:Int}
theorem FS.IH(h:FS aa val b p f b' l' rk er) (hu:az b y=true):az b' y=true:=by
 have hm:∀G,az (eG b G false) y=true:=fun G=>by grind [aL,aY,bE,eG]
 cases h with
 | put=>
  obtain⟨r,hr,m⟩:=aL.1 hu;rw [aL];simp only [ck]
  by_cases e:y=(bY b f.key (aM aa f.key f.ae).value f.reads).key
  ·
   rw [if_pos e];exact⟨_,rfl,rfl⟩
  grind
 | mark=>exact hm _
 | fail=>grind [kQ]
 | _=>exact hu
theorem FS.bot(h:FS aa val b p f b' l' rk er) (hb:az b k=true∨∃g q,p++[f]=g::q∧g.key=k):az b' k=true∨∃g q,l'=g::q∧g.key=k:=by
 rcases hb with hb | ⟨g,q,e,hk⟩
 ·
  exact .inl (h.IH hb)
 have key:∀{z:bZ}{r:List bZ},z.key=f.key→∃g q,p++z::r=g::q∧g.key=k:=fun {z r} t=>by
  cases p with
  | nil=>grind
  | cons a o=>grind
 have m:az b' f.key=true→az b' k=true∨∃g q,p=g::q∧g.key=k:=fun hu=>by
  cases p with
  | nil=>grind
  | cons a o=>grind
 cases h with
 | put=>exact m (jS (r:=bY b f.key (aM aa f.key f.ae).value f.reads) rfl)
 | up _ hu=>exact m hu
 | mark _ hl=>
  obtain⟨r,h1,_⟩:=hl
  grind [gh,fq]
 | push=>grind
 | o0=>grind
 | _=>exact .inr (key rfl)
theorem FS.keeps(o:ao aa) {aD:List bW}{rev:Int}(hb:BK aa aD rev b) (u:∀g∈p++[f],gP aa g) (F:FS aa val b p f b' l' rk 0) (hn:(!(ay b.ai f.key).isSome && decide (4000≤b.ai.length))=false):BK aa aD rev b'∧∀g∈l',gP aa g:=by
 have h:gP aa f:=u f (by simp);have B:∀g∈p,gP aa g:=fun g C=>u g (List.mem_append_left _ C)
 have t:∀{z:bZ},gP aa z→∀g∈p++[z],gP aa g:=fun G g C=>by grind
 have I:∀{z:bZ},gP aa z→∀g∈p++[f]++[z],gP aa g:=fun G g C=>by grind
 cases F with
 | stay=>exact⟨hb,u⟩
 | put hr m=>
  have hl:=h.len;have J:=h.fW.le o;exact⟨hb.put h.key ⟨by show f.reads.length≤4000;omega,h.zh⟩ hn (zm o hb.tL h.fW m h.len h.zh) (Int.le_refl _),B⟩
 | push hr m hl=>
  obtain⟨D,h1⟩:=h.fW.next o m
  grind [gP.new,qQ]
 | read hr m h1 N=>
  obtain⟨D,h1⟩:=h.fW.next o m;exact⟨hb,t (h.read h1 D)⟩
 | up=>exact⟨hb,B⟩
 | start=>exact⟨hb,t h.runs⟩
 | mark=>exact⟨hb.DJ _,B⟩
 | o0 c hr hl hc hk=>exact⟨hb,I (gP.new (DE hb.gO hc) (qQ hk))⟩
 | pass=>exact⟨hb,t h.step⟩
 | fail=>
  refine⟨?_,t h.runs⟩
  split
  ·
   rename_i hc
   exact hb.DK (zl hc)
  exact hb
/-! ### the end -/
theorem TI.nodup(h:TI aa H x b l bG):(l.map (·.key)).Nodup:=by
 refine List.pairwise_iff_getElem.2 fun i j hi m t=>?_;simp only [List.length_map] at hi m;simp only [List.getElem_map];intro e;have o:=h.fr (l.take j) l[j] (l.drop (j+1)) (by simp);have hn:=o.new
 unfold fe at hn
 rw [List.any_eq_false] at hn;refine hn l[i] (List.mem_take_iff_getElem.2 ⟨i,by omega,rfl⟩) ?_
 simpa using e
theorem TI.dM(h:TI aa H x b l bG) (m:f∈l):∃i:Nat,i<aa.length∧f.key=aN aa (i:Int):=by
 obtain⟨p1,q1,o⟩:=List.append_of_mem m;exact(h.fr p1 f q1 o).key
theorem TI.zC(h:TI aa H x b l bG):l.length≤aa.length:=by
 have:=eV h.nodup (S:=(List.range aa.length).map fun i:Nat=>aN aa (i:Int)) fun k hk=>by
  obtain⟨f,m,rfl⟩:=List.mem_map.1 hk;obtain⟨i,hi,e⟩:=h.dM m
  grind
 simpa using this
def wC(aa:List aG) (b:cB):Nat:=IA (fun i=>!az b (aN aa (i:Int))) aa.length
def tU(f:bZ):Nat:=if f.running then 10000 - f.reads.length else 10001+(200000000 - f.at_.toNat)
def Nq(aa:List aG) (b:cB) (l:List bZ):Nat:=
 ((wC aa b*100+l.countP fun f=>az b f.key)*100+(50 - l.countP fun f=>!az b f.key))*1000000000+(l.getLast?.map tU).getD 0
theorem Kl(f:bZ):tU f≤200010001:=by
 unfold tU
 split <;> omega
theorem DY(h:bZ→Bool) (l:List bZ):l.countP h+l.countP (fun f=>!h f)=l.length:=by
 induction l with
 | nil=>rfl
 | cons a l m=>grind
theorem DZ{n u v t o m v' B:Nat}(h1:u+v≤24) (C:m+v'≤24) (ht:B≤200010001) (h:o<n∨o=n∧(m<u∨m=u∧(v<v'∨v'=v∧B<t))):((o*100+m)*100+(50 - v'))*1000000000+B<((n*100+u)*100+(50 - v))*1000000000+t:=by omega
theorem Km(h:∀y,az b y=true→az b' y=true):wC aa b'≤wC aa b:=zi fun i _ m=>by grind
theorem D0(h:∀y,az b y=true→az b' y=true) {i:Nat}(hi:i<aa.length) (h0:az b (aN aa (i:Int))=false) (h1:az b' (aN aa (i:Int))=true):wC aa b'<wC aa b:=
 DF (j:=i) (fun i _ m=>by grind) hi (by rw [h0];rfl) (by rw [h1];rfl)
theorem Ci(F:ao aa) (h:TI aa H x b (p++[f]) bG) (I:TI aa H x b' l' (bG++rk)) (J:∀G:List Key,G.length≤4001→(cj b.ai G).length≤100000000) (hlen:b.ai.length≤4000) (W:f.reads.length<4000) (B:FS aa val b p f b' l' rk 0) (N:l'≠p++[f]):Nq aa b' l'<Nq aa b (p++[f]):=by
 have X:=F.1;have Y:=h.zC;have hh':=I.zC;have hc:=DY (fun f=>az b f.key) (p++[f]);have hc':=DY (fun f=>az b' f.key) l'
 have O:(l'.getLast?.map tU).getD 0≤200010001:=by grind [Kl]
 have o:=fun y=>B.IH (y:=y);obtain⟨i,hi,t⟩:=h.top.key;have adn:wC aa b'≤wC aa b:=Km o
 unfold Nq
 refine DZ (by omega) (by omega) O ?_
 have Q:((p++[f]).getLast?.map tU).getD 0=tU f:=by simp
 rw [Q]
 have Um:∀z:bZ,((p++[z]).getLast?.map tU).getD 0=tU z:=fun z=>by simp
 have same:∀{z:bZ},z.key=f.key→tU z<tU f→wC aa b<wC aa b∨wC aa b=wC aa b∧((p++[z]).countP (fun f=>az b f.key)<(p++[f]).countP (fun f=>az b f.key)∨(p++[z]).countP (fun f=>az b f.key)=(p++[f]).countP (fun f=>az b f.key)∧((p++[f]).countP (fun f=>!az b f.key)<(p++[z]).countP (fun f=>!az b f.key)∨(p++[z]).countP (fun f=>!az b f.key)=(p++[f]).countP (fun f=>!az b f.key)∧((p++[z]).getLast?.map tU).getD 0<tU f)):=fun {z} S C=>by grind
 have push:∀{z:bZ},az b z.key=false→wC aa b<wC aa b∨wC aa b=wC aa b∧((p++[f]++[z]).countP (fun f=>az b f.key)<(p++[f]).countP (fun f=>az b f.key)∨(p++[f]++[z]).countP (fun f=>az b f.key)=(p++[f]).countP (fun f=>az b f.key)∧((p++[f]).countP (fun f=>!az b f.key)<(p++[f]++[z]).countP (fun f=>!az b f.key)∨(p++[f]++[z]).countP (fun f=>!az b f.key)=(p++[f]).countP (fun f=>!az b f.key)∧((p++[f]++[z]).getLast?.map tU).getD 0<tU f)):=fun {z} S=>by grind
 have hgl:=qK b.ai b.ad f.key;have ado:=J (aB b.ai b.ad f.key) (by omega)
 cases B with
 | stay=>exact absurd rfl N
 | put hr D=>
  obtain⟨_,m,_⟩:=h.top.run hr;rw [t] at m;refine .inl (D0 o hi m ?_);rw [← t];exact jS (r:=bY b f.key (aM aa f.key f.ae).value f.reads) rfl
 | push hr D hl=>exact push (qW hl).2.2
 | read hr D h1 h3=>
  refine same (z:={f with reads:=f.reads++[(aM aa f.key f.ae).ask],ae:=f.ae++[cS val b (aM aa f.key f.ae).ask]}) rfl ?_
  unfold tU
  simp only [hr,if_true,List.length_append,List.length_singleton]
  omega
 | up hr hu=>grind
 | start hr hu hx=>
  refine same (z:={f with running:=true,at_:=0}) rfl ?_
  unfold tU
  grind
 | mark hr hl hn=>
  obtain⟨r,g1,_,g3⟩:=hl;have m:=oc g1 g3;rw [t] at m;refine .inl (D0 o hi m ?_)
  grind [gh,fq]
 | o0 c hr hl u hk=>exact push (qW hk).2.2
 | pass c hr hl u U V hle=>
  have h5:=(h.top.BV hr).2.2.1;have h6:=(List.getElem?_eq_some_iff.1 u).1;refine same (z:={f with at_:=f.at_+1}) rfl ?_
  unfold tU
  simp only [hr]
  simp
  omega
 | fail c hr hl u U V C=>
  have C:tU {f with running:=true,at_:=0}<tU f:=by
   unfold tU
   grind
  split
  ·
   have he:∀y,az (eG b (aB b.ai b.ad f.key) true) y=az b y:=fun y=>kQ
   have hn:wC aa (eG b (aB b.ai b.ad f.key) true)=wC aa b:=by unfold wC;simp only [he]
   simp_all
  grind
/-! ### what is known of what a request reaches -/
theorem dD.inv(m:ao aa) (C:LC aa x) (hk:∀k∈goals,dU aa k) (h:dD aa (valOf aa x.ab) goals x b l bG):(∃H,TI aa H x b l bG)∧BK aa x.ab x.ad b∧∀f∈l,gP aa f:=by
 induction h with
 | start=>exact⟨TO.start C.bh [],C.lb.ok,fun f o=>by cases o⟩
 | @take b bG k h1 G hn B=>
  obtain⟨⟨H,t⟩,u,D⟩:=B;refine⟨⟨H,t.begin m (hk _ G) hn⟩,u,fun f o=>?_⟩;rw [List.mem_singleton] at o;subst o
  have I:¬(aw k=true∨fe [] k=true∨az b k=true):=fun h=>by grind [fO]
  grind [gP.new]
 | step h1 F I B=>
  obtain⟨⟨H,t⟩,u,D⟩:=B;have hl:=t.bi.len;have O:=m.1;obtain⟨J,N⟩:=FS.keeps m u D F (by simp;intro;omega);exact⟨⟨H,(mC m t u.gO F).2⟩,J,N⟩
theorem dD.less(m:ao aa) (C:LC aa x) (hk:∀k∈goals,dU aa k) (h:dD aa (valOf aa x.ab) goals x b (p++[f]) bG) (t:FS aa (valOf aa x.ab) b p f b' l' rk 0) (D:l'≠p++[f]):Nq aa b' l'<Nq aa b (p++[f]):=by
 obtain⟨⟨H,u⟩,o,F⟩:=h.inv m C hk;have B:=F f (by simp);have hl:=B.len;have J:=B.fW.le m;exact Ci m u (mC m u o.gO t).2 (fun G I=>Gt o.gO I) o.gO.len (by omega) t D
theorem dD.OO(m:ao aa) (o:LC aa x) (hk:∀k∈goals,dU aa k) (h:dD aa (valOf aa x.ab) goals x b (p++[f]) bG) (t:FS aa (valOf aa x.ab) b p f b' l' rk er):er=0:=by
 obtain⟨⟨H,u⟩,B,C⟩:=h.inv m o hk;exact(mC m u B.gO t).1
theorem dD.IH(h:dD aa val goals x b l bG) (hu:az x y=true):az b y=true:=by
 induction h with
 | start=>exact hu
 | take _ _ _ m=>exact m
 | step _ o _ m=>exact o.IH m
end
end Go.Rc

namespace Go.Rc
open Go
theorem q4(l:List Rec) (k y:Key):ay (hK l k) y=if y=k then none else ay l y:=by
 unfold ay hK
 grind
section
variable {RT:Nat}{q:RL}{lf:Key→RL}{l l':List Rec}{r r':Rec}{k:Key}{ml:List (Key × Value)}{w0 w:World}{M Z:Nat→Prop}{L:List As}
theorem dJ{y:Key}(h:ay (hK l k) y=some r):y≠k∧ay l y=some r:=by grind [q4]
theorem As.uX{w:World}{Z:Nat→Prop}(h:(As.eR RT lf l).ok Z w) (k:Key):(As.eR RT lf (Rc.hK l k)).ok Z w:=⟨fun y r hy=>h.1 y r (dJ hy).2,fun y m r r' h1 o=>h.2 y m r r' (dJ h1).2 (dJ o).2⟩
theorem St.uX(h:St w0 M Z w (As.eR RT lf l::L)) (k:Key):St w0 M Z w (As.eR RT lf (Rc.hK l k)::L):=
 h.conv (As.uX h.g0 k) fun x ⟨y,r,hy,e⟩=>⟨y,r,(dJ hy).2,e⟩
theorem St.D1(h:St w0 M Z w (As.eR RT lf l::L)) (hk:ay l k=some r):St w0 M Z w (As.blk (lf k).b RT (r.row (lf k).a (lf k).n (lf k).c)::As.eR RT lf (Rc.hK l k)::L):=by
 have m:(As.eR RT lf l).ok Z w:=h.g0;refine h.split (m.1 k r hk).1 (As.uX m k) (fun x o=>⟨k,r,hk,o⟩) (fun x ⟨y,r,hy,e⟩=>⟨y,r,(dJ hy).2,e⟩) fun x o ⟨y,r2,hy,e⟩=>?_;obtain⟨h1,t⟩:=dJ hy;exact h1 (m.2 y k _ _ t hk (e.symm.trans o))
theorem GP:sF lf k (lf k)=lf:=by
 funext y
 unfold sF
 grind
theorem St.Bl(h:St w0 M Z w (As.blk (lf k).b RT (r'.row (lf k).a (lf k).n (lf k).c)::As.eR RT lf (Rc.hK l k)::L)) (hk:r'.key=k) (hr:Rd RR.key 2 Z w (lf k).a (lf k).n (lf k).c r'.reads) (m:r'.reads.length≤4000) (hl:∀y,ay l' y=if y=k then some r' else ay l y):St w0 M Z w (As.eR RT lf l'::L):=by
 subst hk
 have:=St.uU (q:=lf r'.key) (l':=l') h hr m fun y=>by grind [q4]
 rwa [GP] at this
theorem cQ.mark(h:cQ l lf ml) (rev:Int) (G:List Key) (d:Bool):cQ (l.map (aY rev G d)) lf ml:=fun y=>by
 rw [h y,bE]
 cases ay l y <;> rfl
theorem cQ.len(h:cQ l lf ml) (hn:(ml.map (·.1)).Nodup):ml.length≤l.length:=by
 have h1:=eV hn (S:=l.map (·.key)) fun x o=>by
  cases m:ay l x with
  | none=>
   have t:bq ml x=none:=by rw [h x,m];rfl
   grind [lq]
  | some r=>
   obtain⟨g1,g2⟩:=aH m
   grind
 simpa using h1
theorem o8{rev:Int}{G:List Key}{i:Nat}(hi:i<G.length) (d:Bool) (h:ay (l.map (aY rev (G.take i) d)) G[i]=some r) (y:Key):ay (l.map (aY rev (G.take (i+1)) d)) y=if y=G[i] then some (if d then {r with bV:=true} else {r with aq:=rev}) else ay (l.map (aY rev (G.take i) d)) y:=by
 have hT:G.take (i+1)=G.take i++[G[i]]:=List.take_succ_eq_append_getElem hi;rw [bE,bE,hT];rw [bE] at h
 by_cases e:y=G[i]
 ·
  rw [if_pos e,e]
  cases hr:ay l G[i] with
  | none=>rw [hr] at h;cases h
  | some q=>
   rw [hr] at h;simp only [Option.map_some,Option.some.injEq] at h ⊢;have m:=(aH hr).2;subst h
   unfold aY
   grind
 rw [if_neg e]
 cases hr:ay l y with
 | none=>rfl
 | some q=>
  have m:=(aH hr).2
  grind [aY]
theorem q5{rev:Int}{G:List Key}{d:Bool}:l.map (aY rev (G.take 0) d)=l:=by
 simp only [List.take_zero]
 unfold aY
 simp
theorem q6{rev:Int}{g:List Key}{d:Bool}(h:∃r,ay l k=some r):∃r,ay (l.map (aY rev g d)) k=some r∧r.key=k:=by grind [ay,bE]
end
/-! ### own slices that lose their last -/
section
variable {α:Type}{R:RR α}{E k n c:Nat}{a:Option Addr}{xs:List α}{x:α}{w0 w:World}{M Z:Nat→Prop}{L:List As}
theorem Ow.pop(h:Ow R E k Z w a n c (xs++[x])):Ow R E k Z w a xs.length c xs:=by
 obtain⟨hn,rows,hl,hk,m,o⟩:=h
 rcases List.eq_nil_or_concat rows with rfl | ⟨rs,r,rfl⟩
 ·
  simp at hl
 rw [List.concat_eq_append] at hl hk m o
 have B:rs.length=xs.length:=by simpa using hl
 have hr:r.length=k:=hk r (by simp)
 have C:rs.flatten.length=xs.length*k:=by
  have:∀(q:List (List Value)),(∀r∈q,r.length=k)→q.flatten.length=q.length*k:=by
   intro q I
   induction q with
   | nil=>simp
   | cons a q J=>grind
  grind
 refine⟨rfl,rs,B,fun r hr=>hk r (by simp [hr]),?_,fun i y s h1 D=>o i y s (by grind) (by grind)⟩;have h1:=m.1
 rcases m.cases with⟨rfl,rfl,rfl,N⟩ | ⟨g,cur,rfl,hb,F,O,G,hsz,t⟩
 ·
  simp at hn
 simp only [List.flatten_append,List.flatten_cons,List.flatten_nil,List.append_nil] at t h1;simp only [List.length_append,List.length_singleton] at hn
 have ht:cur.toList.take (xs.length*k)=rs.flatten:=by
  have D:=congrArg (List.take (xs.length*k)) t
  grind
 refine⟨fun u hu=>h1 u (List.mem_append_left _ hu),C,.inr ⟨g,c,cur,rfl,hb,F,by omega,G,hsz,ht⟩⟩
theorem St.Kn(h:St w0 M Z w (As.os R E k a n c (xs++[x])::L)):St w0 M Z w (As.os R E k a xs.length c xs::L):=h.conv (Ow.pop h.g0) fun _ h=>h
end
/-! ### what the frames of a stack own -/
def tV(EK ES:Nat) (L:List (bZ × fo)):List As:=L.reverse.flatMap fun e=>[As.os RR.key EK 2 e.2.a e.2.n e.2.c e.1.reads,As.os RR.str ES 1 e.2.a2 e.2.n2 e.2.c2 e.1.ae]
theorem q7(EK ES:Nat) (L:List (bZ × fo)) (f:bZ) (A:fo):tV EK ES (L++[(f,A)])=As.os RR.key EK 2 A.a A.n A.c f.reads::As.os RR.str ES 1 A.a2 A.n2 A.c2 f.ae::tV EK ES L:=by simp [tV]
section
variable {EK ES:Nat}{L:List (bZ × fo)}{f g:bZ}{A:fo}{w0 w:World}{M Z:Nat→Prop}{l:List As}
theorem St.II(h:St w0 M Z w (As.many (tV EK ES (L++[(f,A)]))::l)):St w0 M Z w (As.os RR.key EK 2 A.a A.n A.c f.reads::As.os RR.str ES 1 A.a2 A.n2 A.c2 f.ae::As.many (tV EK ES L)::l):=by
 rw [q7] at h;exact h.uP.p1.uP.p2
theorem St.GQ(h:St w0 M Z w (As.os RR.key EK 2 A.a A.n A.c f.reads::As.os RR.str ES 1 A.a2 A.n2 A.c2 f.ae::As.many (tV EK ES L)::l)):St w0 M Z w (As.many (tV EK ES (L++[(f,A)]))::l):=by
 rw [q7];exact h.p2.p2.zp.p1.zp
theorem St.D2(h:St w0 M Z w (As.many (tV EK ES L)::l)) (hr:g.reads=[]) (m:g.ae=[]):St w0 M Z w (As.many (tV EK ES (L++[(g,⟨none,0,0,none,0,0⟩)]))::l):=by
 refine St.GQ ?_;rw [hr,m];exact(h.fV RR.str ES 1).fV RR.key EK 2
theorem D3(h1:g.reads=f.reads) (h:g.ae=f.ae):tV EK ES (L++[(g,A)])=tV EK ES (L++[(f,A)]):=by grind [q7]
end
/-! ### what a stack finds -/
section
variable {x:cB}{l:List bZ}{k:Key}{val:Key→ByteArray}{r:Rec}
theorem GR(L:List (bZ × fo)) (k:Key):(L.any fun x=>decide (x.1.key=k))=fe (L.map Prod.fst) k:=by grind [fe]
theorem D4(h:(fe l k && !ax k)=true):bF x l [] k=3:=by
 rw [fT,if_pos (by rw [Bool.and_comm];exact h)]
theorem D5(h:(fe l k && !ax k)=false) (m:(fe l k || (aw k || az x k))=true):bF x l [] k=0:=by
 have hn:da x l k=false:=fO.2 (by grind);rw [fT,if_neg (by rw [Bool.and_comm,h];simp),hn]
 rfl
theorem D6(h:(fe l k && !ax k)=false) (m:(fe l k || (aw k || az x k))=false):bF x l [] k=1:=by
 have hn:da x l k=true:=by grind [fO]
 rw [fT,if_neg (by rw [Bool.and_comm,h];simp),hn]
 rfl
theorem Cj:bF x [] [] k=if da x [] k=true then 1 else 0:=by rw [fT];simp [fe]
theorem Ko(hi:aw k=true):cS val x k=(bf x.ab k).value:=by grind [ax,aw,iR,cS,jw]
theorem GS(hc:ax k=true):cS val x k=val k:=if_pos hc
theorem GU(hi:aw k=false) (hc:ax k=false) (h:ay x.ai k=some r) (m:r.aq=x.ad):cS val x k=r.value:=by grind [cS,jw,gg,aK]
theorem D7{v:ByteArray}{rd:List Key}(h:ay x.ai k=none):bY x k v rd=⟨k,v,rd,x.ad,x.ad,1+(rd.length:Int),false⟩:=by
 unfold bY
 rw [h]
 rfl
theorem D8{v:ByteArray}{rd:List Key}(h:ay x.ai k=some r):bY x k v rd=⟨k,v,rd,if r.value=v then r.changed else x.ad,x.ad,1+(rd.length:Int),false⟩:=by grind [bY,aK]
end
/-! ### a step of the work -/
section
variable {aa:List aG}{val:Key→ByteArray}{b b':cB}{L L':List (bZ × fo)}{f g:bZ}{A:fo}{rk:List Key}{er:Int}{k:Key}
def FT(aa:List aG) (val:Key→ByteArray) (b:cB) (L:List (bZ × fo)) (f:bZ) (A:fo) (b':cB) (L':List (bZ × fo)) (rk:List Key) (er:Int):Prop:=
 FS aa val b (L.map Prod.fst) f b' (L'.map Prod.fst) rk er∧(er=0→L'.map Prod.fst≠L.map Prod.fst++[f])∧(L'=L∨(∃g,L'=L++[(g,A)]∧g.reads=f.reads∧g.ae=f.ae)∨∃k,L'=L++[(f,A)]++[(⟨k,false,0,[],[]⟩,⟨none,0,0,none,0,0⟩)])
theorem FT.pop(h:FS aa val b (L.map Prod.fst) f b' (L.map Prod.fst) rk er):FT aa val b L f A b' L rk er:=⟨h,fun _ e=>by simpa using congrArg List.length e,.inl rfl⟩
theorem FT.same(h:FS aa val b (L.map Prod.fst) f b' (L.map Prod.fst++[g]) rk er) (m:g≠f) (h1:g.reads=f.reads) (o:g.ae=f.ae):FT aa val b L f A b' (L++[(g,A)]) rk er:=
 ⟨by simpa using h,fun _ e=>by simp at e;exact m e,.inr (.inl ⟨g,rfl,h1,o⟩)⟩
theorem FT.push(h:FS aa val b (L.map Prod.fst) f b' (L.map Prod.fst++[f]++[⟨k,false,0,[],[]⟩]) rk er):FT aa val b L f A b' (L++[(f,A)]++[(⟨k,false,0,[],[]⟩,⟨none,0,0,none,0,0⟩)]) rk er:=
 ⟨by simpa using h,fun _ e=>by simp at e,.inr (.inr ⟨k,rfl⟩)⟩
theorem FT.err(h:FS aa val b (L.map Prod.fst) f b' (L.map Prod.fst++[f]) rk er) (he:er≠0):FT aa val b L f A b' (L++[(f,A)]) rk er:=
 ⟨by simpa using h,fun e=>absurd e he,.inr (.inl ⟨f,rfl,rfl,rfl⟩)⟩
theorem tW{x:cB}{l:List bZ}:bF x l [] k≠2:=by grind [fT]
theorem Ck{x:cB}{c:oU}(h:DV val x c=false):aZ val x c.read≤(aF x.ai c.fm).aq:=by grind [DV]
theorem D9{x:cB}{c:oU}(h:DV val x c=true):(aF x.ai c.fm).aq<aZ val x c.read:=by grind [DV]
end
section
variable {EK ES:Nat}{L L':List (bZ × fo)}{f:bZ}{A:fo}{w0 w:World}{M Z:Nat→Prop}{l:List As}
theorem St.Un(h:St w0 M Z w (As.many (tV EK ES (L++[(f,A)]))::l)) (m:L'=L∨(∃g,L'=L++[(g,A)]∧g.reads=f.reads∧g.ae=f.ae)∨∃k,L'=L++[(f,A)]++[(⟨k,false,0,[],[]⟩,⟨none,0,0,none,0,0⟩)]):St w0 M Z w (As.many (tV EK ES L')::l):=by
 rcases m with rfl | ⟨g,rfl,h1,o⟩ | ⟨k,rfl⟩
 ·
  exact h.II.drop.drop
 ·
  grind [D3]
 exact h.D2 rfl rfl
end
end Go.Rc

namespace Go.Rc
open Go
def Rec.uY(x:Rec × RL):List Value:=x.1.row x.2.a x.2.n x.2.c
def RR.zD:RR (Rec × RL):=RR.flat Rec.uY
theorem Rec.Kp(x:Rec × RL):∀u∈Rec.uY x,u.oneCell'=true:=by simp [Rec.uY,Rec.row,Value.oneCell']
def oh(L:List (Rec × RL)):FZ:=
 ⟨fun Z w=>∀y∈L,Rd RR.key 2 Z w y.2.a y.2.n y.2.c y.1.reads∧y.1.reads.length≤4000,fun hZ h y hy=>⟨(h y hy).1.mono hZ,(h y hy).2⟩,fun h1 h2 h y hy=>⟨(h y hy).1.st h1 h2,(h y hy).2⟩⟩
section
variable {L L':List (Rec × RL)}{r:Rec}{q:RL}{Z:Nat→Prop}{w:World}{l:List Rec}{lf:Key→RL}{dq left:List (Key × Value)}{p:Key × Value}{j:Nat}
theorem oh.nil:(oh []).p Z w:=fun y hy=>by cases hy
theorem oh.snoc(h:(oh L).p Z w) (hk:Rd RR.key 2 Z w q.a q.n q.c r.reads) (m:r.reads.length≤4000):(oh (L++[(r,q)])).p Z w:=fun y hy=>by
 rcases List.mem_append.1 hy with hy | hy
 ·
  exact h y hy
 grind
theorem oh.iV{E n c:Nat}{a:Option Addr}(h:Ow RR.zD E 8 Z w a n c L) (o:(oh L).p Z w):Ow RR.iV E 8 Z w a n c (L.map Prod.fst):=by
 obtain⟨hn,rows,hl,hk,h1,t⟩:=h;refine⟨by rw [hn,List.length_map],rows,by rw [hl,List.length_map],hk,h1,fun i x r m u=>?_⟩;rw [List.getElem?_map] at m;obtain⟨y,hy,rfl⟩:=Option.map_eq_some_iff.1 m;have hr:r=Rec.uY y:=t i y r hy u;obtain⟨B,C⟩:=o y (List.mem_of_getElem? hy);exact⟨_,_,_,hr,B,C⟩
theorem q8{α:Type}:∀(l:List α) (j:Nat) (h:j<l.length),(l[j]::l.eraseIdx j).Perm l
 | x::r,0,_=>List.Perm.refl _
 | x::r,j+1,h=>by
  have h1:=q8 r j (by simpa using h);simp only [List.getElem_cons_succ,List.eraseIdx_cons_succ];exact(List.Perm.swap _ _ _).trans (h1.cons x)
structure Ea (l:List Rec) (dq left:List (Key × Value)) (L:List (Rec × RL)):Prop where
 perm:((L.map fun y=>y.1.key)++left.map (·.1)).Perm (dq.map (·.1))
 find:∀y∈L,ay l y.1.key=some y.1
theorem Ea.start:Ea l dq dq []:=⟨List.Perm.refl _,fun y hy=>by cases hy⟩
theorem Ea.next(h:Ea l dq left L) (o:left[j]?=some p) (m:ay l p.1=some r):Ea l dq (left.eraseIdx j) (L++[(r,q)]):=by
 have hk:r.key=p.1:=(aH m).2;refine⟨List.Perm.trans ?_ h.perm,fun y hy=>?_⟩
 ·
  grind [q8]
 rcases List.mem_append.1 hy with hy | hy
 ·
  exact h.find y hy
 grind
theorem cQ.key(h:cQ l lf dq) {k:Key}:k∈dq.map (·.1)↔∃r,ay l k=some r:=by
 have h1:=h k
 constructor
 ·
  intro hk
  cases m:ay l k with
  | some r=>exact⟨r,rfl⟩
  | none=>grind [lq]
 rintro⟨r,hr⟩;refine Classical.byContradiction fun hk=>?_
 grind [lq]
theorem Ea.done(h:Ea l dq [] L) (u:cQ l lf dq) (hn:(dq.map (·.1)).Nodup) (m:mR l) (o:L'.Perm L) (J:L'.Pairwise fun x y=>¬bl y.1.key x.1.key<0):L'.map Prod.fst=l:=by
 have h1:(L.map fun y=>y.1.key).Perm (dq.map (·.1)):=by simpa using h.perm
 have t:(L'.map fun y=>y.1.key).Perm (dq.map (·.1)):=(o.map _).trans h1;have B:sD (L'.map fun y=>y.1.key):=uQ (List.Perm.refl _) (t.nodup_iff.2 hn) (by grind)
 have C:sD (l.map (·.key)):=by
  unfold sD
  rw [List.pairwise_map];exact m
 have N:(L'.map fun y=>y.1.key)=l.map (·.key):=qV B C fun x=>by
  rw [t.mem_iff,u.key]
  constructor
  ·
   rintro⟨r,hr⟩;obtain⟨g1,g2⟩:=aH hr
   grind
  intro D;obtain⟨r,hr,rfl⟩:=List.mem_map.1 D;exact⟨r,eT m hr⟩
 have F:(L'.map Prod.fst).map (fun r=>aF l r.key)=l.map fun r=>aF l r.key:=by
  have e1:(L'.map Prod.fst).map (fun r=>aF l r.key)=(L'.map fun y=>y.1.key).map (aF l):=by rw [List.map_map,List.map_map];rfl
  simp_all
 have G:(L'.map Prod.fst).map (fun r=>aF l r.key)=L'.map Prod.fst:=by
  rw [List.map_map];refine List.map_congr_left fun y hy=>?_;exact aK (h.find y (o.mem_iff.1 hy))
 have I:(l.map fun r=>aF l r.key)=l:=by
  conv=>rhs;rw [← List.map_id l]
  exact List.map_congr_left fun r hr=>aK (eT m hr)
 rw [← G,F,I]
theorem Ea.len(h:Ea l dq left L) (m:cQ l lf dq) (hn:(dq.map (·.1)).Nodup):L.length+left.length≤l.length:=by
 have h1:=h.perm.length_eq;have o:=m.len hn
 simp at h1
 omega
end
end Go.Rc

namespace Go.Rc
open Go
section
variable {w0 w:World}{M Z:Nat→Prop}{l:List As}
theorem St.g16{o t u B C D F G I J N O Q S U V m:As}(h:St w0 M Z w (o::t::u::B::C::D::F::G::I::J::N::O::Q::S::U::V::m::l)):m.ok Z w:=h.ok _ (by simp)
end
theorem qP.kr{aa:List aG}{x:cB}(h:qP aa x):KR aa x.ai:=fun r hr=>by
 obtain⟨h1,m,o,_⟩:=h.2.2.2.2.2.1 r hr;exact⟨h1,m,o⟩
theorem qP.r4{aa:List aG}{x:cB}(h:qP aa x):∀r∈x.ai,r.reads.length≤4000:=fun r hr=>by
 obtain⟨_,_,_,m⟩:=h.2.2.2.2.2.1 r hr
 grind [eN]
end Go.Rc

namespace Go.Rc
open Go
end Go.Rc

namespace Go.Rc
open Go
end Go.Rc
namespace Go.Rc
open Go
end Go.Rc

namespace Go.Rc
open Go
section
variable {aa:List aG}{H:Int→List bW}{x b b':cB}{p q l l':List bZ}{f g:bZ}{bG rk goals:List Key}{k y:Key}{val:Key→ByteArray}{er:Int}
theorem tX{turn:List ByteArray→uE}{fW:Key→ByteArray}(h:∀k,(fW k).size≤1000):∀n,∀s∈(dc turn fW n).2,s.size≤1000
 | 0,s,m=>by simp [dc] at m
 | n+1,s,m=>by
  simp only [dc,List.mem_append,List.mem_singleton] at m
  rcases m with m | rfl
  ·
   exact tX h n s m
  exact h _
theorem dD.ready(u:ao aa) (B:LC aa x) (hk:∀k∈goals,dU aa k) (h:dD aa (valOf aa x.ab) goals x b l bG):BK aa x.ab x.ad b∧KR aa b.ai∧l.length≤1000∧bG.length≤100000∧b.ai.length<4000∧(∀r∈b.ai,r.reads.length≤4000)∧(∀r∈b.ai,r.aq≤x.ad)∧bG.Nodup∧mR b.ai∧∀f∈l,gP aa f∧(∃i:Nat,i<aa.length∧f.key=aN aa (i:Int))∧∀s∈f.ae,s.size≤1000:=by
 obtain⟨⟨H,m⟩,C,I⟩:=h.inv u B hk;have O:=u.1;have o:=(B.lb.of C).tM;have hlen:=m.bi.len
 have Q:bG.length≤b.ai.length:=by
  have:=eV m.wy.jq (S:=b.ai.map (·.key)) fun y hy=>by
   obtain⟨r,hr,_⟩:=aL.1 (m.wy.ID y hy);obtain⟨g1,g2⟩:=aH hr
   grind
  simpa using this
 refine⟨C,o.kr,by have:=m.zC;omega,by omega,by omega,o.r4,fun r hr=>by rw [← C.rv];exact o.2.2.2.2.2.2.2.2 r hr,m.wy.jq,o.2.2.2.2.2.2.1,fun f D=>⟨I f D,m.dM D,fun s t=>?_⟩⟩;obtain⟨p1,q1,J⟩:=List.append_of_mem D;have F:=m.fr p1 f q1 J;obtain⟨i,hi,N⟩:=F.key
 cases G:f.running with
 | false=>
  rw [(F.BV G).2.1] at t
  cases t
 | true=>
  obtain⟨n,_,_,e⟩:=(F.run G).2.2.2.1 i hi N;rw [e] at t;exact tX (B.lb.small u) n s t
theorem dD.done(B:ao aa) (u:LC aa x) (hk:∀k∈goals,dU aa k) (h:dD aa (valOf aa x.ab) goals x b [] bG):LC aa b∧b.ab=x.ab∧b.ad=x.ad∧Wy aa x ⟨b,[],bG,0⟩∧∀r∈b.ai,r.aq=b.ad→r.value=valOf aa x.ab r.key:=by
 obtain⟨⟨H,m⟩,o,I⟩:=h.inv B u hk;have hi:b.ab=x.ab:=o.gO.aD;have C:TO aa x ⟨aa,b,[],[],bG⟩:=⟨H,m⟩;have D:=u.task (t:=⟨aa,b,[],[],bG⟩) o C
 have e:fB ([]:List bZ) b.ai=b.ai:=by simp [fB]
 have F:LC aa b:=by
  have:=D
  rw [show(⟨aa,b,[],[],bG⟩:Ov).stack=[] from rfl,show(⟨aa,b,[],[],bG⟩:Ov).base=b from rfl,e] at this;exact this
 refine⟨F,hi,o.rv,m.wy,fun r hr G=>?_⟩
 have:=(m.bi.c.vr r hr)
 rw [G,m.bi.c.now,hi] at this;exact this.1
theorem dD.taken(h:dD aa val goals x b [] bG) (m:k∈goals):dD aa val goals x b ((if da b [] k=true then [((⟨k,false,0,[],[]⟩:bZ),(⟨none,0,0,none,0,0⟩:fo))] else []).map Prod.fst) bG:=by
 split
 ·
  exact .take h m ‹_›
 exact h
theorem Cl:aw k=true∨az b k=true∨∃g q,(if da b [] k=true then [((⟨k,false,0,[],[]⟩:bZ),(⟨none,0,0,none,0,0⟩:fo))] else []).map Prod.fst=g::q∧g.key=k:=by
 by_cases hn:da b [] k=true
 ·
  simp_all
 grind [fO,fe]
theorem GV{L:List (bZ × fo)}(h:0<L.length):∃m f A,L=m++[(f,A)]:=by
 rcases List.eq_nil_or_concat L with rfl | ⟨m,y,rfl⟩
 ·
  simp at h
 grind
theorem GW{i:Nat}(hi:i<goals.length) (h:∀y∈goals.take i,aw y=true∨az b y=true) (hb:aw goals[i]=true∨az b goals[i]=true∨∃g q,([]:List (bZ × fo)).map Prod.fst=g::q∧g.key=goals[i]):∀y∈goals.take (i+1),aw y=true∨az b y=true:=by grind [List.take_succ_eq_append_getElem]
end
section
variable {EK ES:Nat}{w0 w:World}{M Z:Nat→Prop}{l:List As}{k:Key}{c:Bool}
theorem St.Kq(h:St w0 M Z w l):St w0 M Z w (As.many (tV EK ES (if c=true then [((⟨k,false,0,[],[]⟩:bZ),(⟨none,0,0,none,0,0⟩:fo))] else []))::l):=by
 have h0:St w0 M Z w (As.many (tV EK ES [])::l):=h.IB
 split
 ·
  exact h0.D2 (L:=[]) rfl rfl
 exact h0
end
end Go.Rc

namespace Go.Rc
open Go
def r3:aG:=⟨false,[],1,3⟩
abbrev K0:Key:=⟨31,itoa ((0:Nat):Int)⟩
abbrev v3:ByteArray:=itoa 3
theorem Kr:∀y∈[r3],Gw y:=fun y hy=>by simp at hy;subst hy;exact⟨rfl,rfl,rfl,by decide,by decide⟩
theorem OP:aN [r3] ((0:Nat):Int)=K0:=Gw.key (by simp) (by omega) (Kr _ (by simp))
theorem GX:gz ⟨0,[],[]⟩:=⟨fun i y h=>by simp at h,fun i r h=>by simp at h,by decide,by decide,by simp,by simp,fun i x h=>by simp at h⟩
abbrev s1:ES:=⟨⟨0,[],[J3 0 v3]⟩,[],[K0],0⟩
end Go.Rc
namespace Go.Rc
open Go
abbrev v4:ByteArray:=⟨#[52]⟩
end Go.Rc

namespace Go.Rc
open Go
end Go.Rc
namespace Go.Rc
open Go
end Go.Rc

namespace Go.Rc
open Go
theorem Cd{v:ByteArray}:∀k∈[K0],∃i:Nat,i < [r3].length∧k=aN [r3] (i:Int)∧(ay (⟨0,[],[J3 0 v]⟩:cB).ai k).isSome=true:=fun k hk=>⟨0,by simp,by rw [List.mem_singleton.1 hk];exact OP.symm,by grind [ay,J3]⟩
end Go.Rc

namespace Go.Rc
open Go
abbrev q0:aG:=⟨false,[⟨true,false,0,0⟩],1,0⟩
abbrev q1:aG:=⟨false,[⟨false,false,0,0⟩],1,0⟩
abbrev Q2:List aG:=[q0,q1]
abbrev K1:Key:=⟨31,itoa ((1:Nat):Int)⟩
abbrev C0:Key:=bO ((0:Nat):Int)
theorem OQ:C0=⟨30,⟨#[48]⟩⟩:=by simp [bO,itoa,Lib.itoa,Lib.decDigits]
theorem Eb:K0=⟨31,⟨#[48]⟩⟩:=by simp [itoa,Lib.itoa,Lib.decDigits]
theorem IJ:K1=⟨31,⟨#[49]⟩⟩:=by simp [itoa,Lib.itoa,Lib.decDigits]
theorem OS:ao Q2:=by
 refine⟨by simp,fun i r h=>?_⟩
 have hi:i=0∨i=1:=by have:=(List.getElem?_eq_some_iff.1 h).1;simp at this;omega
 rcases hi with rfl | rfl
 ·
  simp at h;subst h
  refine⟨by simp,fun k x m=>?_,rfl⟩
  have hk:k=0:=by have:=(List.getElem?_eq_some_iff.1 m).1;simp at this;omega
  subst hk;simp at m;subst m;decide
 simp at h;subst h
 refine⟨by simp,fun k x m=>?_,rfl⟩
 have hk:k=0:=by have:=(List.getElem?_eq_some_iff.1 m).1;simp at this;omega
 subst hk;simp at m;subst m;decide
theorem Bm:aN Q2 ((0:Nat):Int)=K0:=by
 unfold aN
 rw [if_neg (by simp)]
 simp [aA]
theorem uZ:number K0=((0:Nat):Int):=by rw [← Bm];exact bC (by simp) (by omega)
theorem t0a:bN Q2 K0 []=⟨false,⟨#[]⟩,C0⟩:=by
 rw [gB (i:=0) uZ (by simp) (by rw [uZ];exact Bm) (by simp)]
 rfl
theorem t0b(v:ByteArray):bN Q2 K0 [v]=⟨true,itoa (cI 1 0 [bR v]),dA⟩:=by
 rw [ik (i:=0) uZ (by simp) (by rw [uZ];exact Bm) (by simp)]
 rfl
abbrev z0:ByteArray:=⟨#[48]⟩
abbrev z5:ByteArray:=⟨#[53]⟩
theorem it5:itoa ((5:Nat):Int)=z5:=by simp [itoa,Lib.itoa,Lib.decDigits]
theorem fv(v:ByteArray) (n:Nat) (h:bR v=n) (hn:n<1000):itoa (cI 1 0 [bR v])=itoa n:=by
 rw [h];simp [cI,mZ,Nat.mod_eq_of_lt hn]
theorem vs5:bR z5=5:=by decide
theorem vsE:bR ⟨#[]⟩=0:=by decide
theorem OT{aD:List bW}{n:Nat}(h:bR (cellOf aD C0)=n) (hn:n<1000):valOf Q2 aD K0=itoa n:=by
 have e:=eM (aD:=aD) OS (i:=0) (by simp);rw [show bQ Q2 0=1 from rfl,Bm] at e;simp only [dc,List.nil_append] at e;rw [t0a,t0b,kM (by omega),fv _ n h hn] at e
 injection e with _ e2 _
 exact e2.symm
abbrev Cm(i:Nat) (a:Key):Rec:=⟨⟨31,itoa (i:Int)⟩,z0,[a],0,0,2,false⟩
theorem OU:aw C0=true:=aR (n:=0) (by omega)
theorem Cn:aw K0=false:=rfl
theorem Ec:aw K1=false:=rfl
theorem Uo:(K0 == K1)=false:=by rw [Eb,IJ];decide
end Go.Rc

namespace Go.Rc
open Go
section
variable {val:Key→ByteArray}{x:cB}{k a:Key}{r:Rec}
theorem xD(hc:ax k=false) (hi:aw k=false) (h:ay x.ai k=some r) (m:r.bV=false) (hr:r.reads=[a]) (o:a≠k) (t:r.aq≠x.ad) (u:r.aq<aZ val x a):GM val x k=(2,a):=by
 have hu:az x k=false:=by unfold az;rw [h,aK h];simp [t]
 have B:cj x.ai (aB x.ai x.ad k)=[⟨k,a⟩]:=by
  rw [ft hc]
  simp [cj,cN,aK h,hr,o]
 unfold GM
 rw [hi,hu,h,B]
 have C:DV val x ⟨k,a⟩=true:=by unfold DV;rw [aK h];exact decide_eq_true u
 simp [m,C]
end
abbrev iQ:List bW:=[⟨C0,z5,1⟩]
abbrev yQ:cB:=⟨1,iQ,[Cm 0 C0,Cm 1 K0]⟩
theorem OV:C0≠K0:=by rw [OQ,Eb];decide
theorem OW:K0≠K1:=by rw [Eb,IJ];decide
theorem fC:bf iQ C0=⟨C0,z5,1⟩:=by unfold bf;rw [List.find?_cons];simp
theorem v0:valOf Q2 iQ K0=z5:=by rw [OT (n:=5) (by unfold cellOf;rw [fC];exact vs5) (by omega),it5]
theorem f0:ay yQ.ai K0=some (Cm 0 C0):=by simp [ay]
theorem f1:ay yQ.ai K1=some (Cm 1 K0):=by simp only [ay,List.find?_cons];rw [show((Cm 0 C0).key == K1)=false from Uo,show((Cm 1 K0).key == K1)=true from beq_self_eq_true K1]
theorem cC:aZ (valOf Q2 iQ) yQ C0=1:=by unfold aZ;rw [if_pos OU,fC]
theorem cK:aZ (valOf Q2 iQ) yQ K0=1:=by
 unfold aZ
 rw [if_neg (by rw [Cn];simp),if_neg];rw [aK f0,v0]
 simp
theorem Up:GM (valOf Q2 iQ) yQ K1=(2,K0):=xD rfl rfl f1 rfl rfl OW (by decide) (by rw [cK];decide)
theorem Uq:GM (valOf Q2 iQ) yQ K0=(2,C0):=xD rfl rfl f0 rfl rfl OV (by decide) (by rw [cC];decide)
theorem smQ:∀c∈[(⟨C0,z5⟩:Change)],c.small:=fun c hc=>by
 rw [List.mem_singleton.1 hc];exact⟨⟨0,by omega,by omega,rfl⟩,by decide⟩
end Go.Rc

namespace Go.Rc
open Go
end Go.Rc

namespace Go.Rc
open Go
section
variable {aa:List aG}{H:Int→List bW}{x b b':cB}{p q l l':List bZ}{f g:bZ}{bG rk goals:List Key}{k y a:Key}{val:Key→ByteArray}{er:Int}
theorem ew.pop(h:ew (p++[f]) b a) (hu:∀y,az b y=true→az b' y=true) (m:az b' f.key=true):ew p b' a:=by
 rcases h with h | ⟨h1,o⟩ | h
 ·
  exact .inl h
 ·
  rw [dW,i1,Bool.or_eq_true,decide_eq_true_eq] at h1
  rcases h1 with h1 | rfl
  ·
   exact .inr (.inl ⟨h1,o⟩)
  exact .inr (.inr m)
 exact .inr (.inr (hu _ h))
theorem ew.up(h:ew l b a) (hu:∀y,az b y=true→az b' y=true) (m:∀y,fe l y=true→fe l' y=true):ew l' b' a:=
 h.imp id (Or.imp (fun⟨h1,o⟩=>⟨m _ h1,o⟩) (hu _))
theorem FS.there(m:FS aa val b p f b' l' rk er) (h:ew (p++[f]) b a):ew l' b' a:=by
 have hu:∀y,az b y=true→az b' y=true:=fun y hy=>m.IH hy
 have same:∀{z:bZ},z.key=f.key→∀y,fe (p++[f]) y=true→fe (p++[z]) y=true:=fun {z} t y hy=>by grind [dW,i1]
 have more:∀{z:bZ},∀y,fe (p++[f]) y=true→fe (p++[f]++[z]) y=true:=fun {z} y hy=>by rw [dW,hy];rfl
 cases m with
 | put=>exact h.pop hu (jS (r:=bY b f.key (aM aa f.key f.ae).value f.reads) rfl)
 | up _ o=>exact h.pop hu o
 | mark _ hl=>
  obtain⟨r,h1,_⟩:=hl;exact h.pop hu (gh (by rw [h1];rfl) fq)
 | push=>exact h.up hu more
 | o0=>exact h.up hu more
 | stay=>exact h
 | full=>exact h
 | Nk=>exact h
 | Kb=>exact h
 | read=>exact h.up hu (same rfl)
 | start=>exact h.up hu (same rfl)
 | pass=>exact h.up hu (same rfl)
 | fail=>exact h.up hu (same rfl)
theorem mD{G:List Key}{d:Bool}{rev:Int}{l:List Rec}:(aF (l.map (aY rev G d)) y).reads=(aF l y).reads∧(aF (l.map (aY rev G d)) y).value=(aF l y).value:=by
 unfold aF
 rw [bE]
 cases ay l y with
 | none=>exact⟨rfl,rfl⟩
 | some r=>grind [aY]
theorem FS.reads(h:FS aa val b p f b' l' rk er) (m:f.running=true→az b f.key=false) (hy:az b y=true):(aF b'.ai y).reads=(aF b.ai y).reads:=by
 cases h with
 | put hr=>
  have h1:=m hr
  have o:¬y=(bY b f.key (aM aa f.key f.ae).value f.reads).key:=fun e=>by
   have e:y=f.key:=e;rw [e,h1] at hy;cases hy
  unfold aF
  rw [ck,if_neg o]
 | mark=>exact mD.1
 | fail=>
  split
  ·
   exact mD.1
  rfl
 | _=>rfl
theorem dD.thr(I:ao aa) (J:LC aa x) (hk:∀k∈goals,dU aa k) (h:dD aa (valOf aa x.ab) goals x b l bG):∀y,az x y=false→az b y=true→∀a∈(aF b.ai y).reads,ew l b a:=by
 induction h with
 | start=>grind
 | take h1 U hn B=>exact fun y o F a m=>(B y o F a m).mono fun k h=>by cases h
 | @step b b' p l' f bG rk h1 C V B=>
  intro y N t a m;obtain⟨⟨H,o⟩,F,W⟩:=h1.inv I J hk;have G:=o.top.run
  by_cases hu:az b y=true
  ·
   rw [C.reads (fun hr=>(G hr).2.1) hu] at m;exact C.there (B y N hu a m)
  have hu:az b y=false:=by simpa using hu
  cases C with
  | put hr O=>
   by_cases e:y=f.key
   ·
    subst e
    have e2:aF (eJ b.ai (bY b f.key (aM aa f.key f.ae).value f.reads)) f.key=bY b f.key (aM aa f.key f.ae).value f.reads:=by
     refine aK ?_;rw [ck];exact if_pos rfl
    rw [show({b with ai:=eJ b.ai (bY b f.key (aM aa f.key f.ae).value f.reads)}:cB).ai=eJ b.ai (bY b f.key (aM aa f.key f.ae).value f.reads) from rfl,e2] at m;exact(FS.put (aa:=aa) (val:=valOf aa x.ab) (b:=b) (p:=p) hr O).there ((G hr).2.2.2.2 a m)
   exfalso
   obtain⟨r,g1,g2⟩:=aL.1 t;have g1:ay (eJ b.ai (bY b f.key (aM aa f.key f.ae).value f.reads)) y=some r:=g1;rw [ck,if_neg (show ¬y=(bY b f.key (aM aa f.key f.ae).value f.reads).key from e)] at g1
   grind [aL]
  | mark hr hl hn=>
   obtain⟨r,g1,g2,g3⟩:=id hl;have hm:=FS.mark (aa:=aa) (val:=valOf aa x.ab) (p:=p) hr hl hn;have m:a∈(aF (b.ai.map (aY b.ad (aB b.ai b.ad f.key) false)) y).reads:=m;rw [mD.1] at m
   by_cases hy:y∈aB b.ai b.ad f.key
   ·
    by_cases D:a∈aB b.ai b.ad f.key
    ·
     obtain⟨q,Q⟩:=Bj g1 a D;exact .inr (.inr (gh (by rw [Q];rfl) D))
    have hc:(⟨y,a⟩:oU)∈cj b.ai (aB b.ai b.ad f.key):=dO.2 ⟨hy,m,D⟩;obtain⟨j,X,e⟩:=List.getElem_of_mem hc;exact hm.there ((o.top.BV hr).2.2.2 hl j ⟨y,a⟩ (by omega) (by grind)).2.1
   exfalso
   obtain⟨r2,e1,e2⟩:=aL.1 t;have e1:ay (b.ai.map (aY b.ad (aB b.ai b.ad f.key) false)) y=some r2:=e1;rw [bE] at e1
   cases u:ay b.ai y with
   | none=>rw [u] at e1;cases e1
   | some r3=>
    rw [u] at e1;simp only [Option.map_some,Option.some.injEq] at e1;have S:=(aH u).2
    have:r2=r3:=by
     rw [← e1]
     unfold aY
     grind
    rw [aL.2 ⟨r3,u,by rw [← this];exact e2⟩] at hu
    cases hu
  | fail c hr hl hc S Y h7=>grind [kQ]
  | _=>rw [hu] at t;cases t
theorem dD.mem(m:ao aa) (o:LC aa x) (hk:∀k∈goals,dU aa k) (h:dD aa (valOf aa x.ab) goals x b [] bG):y∈bG↔zu (valOf aa x.ab) x y∧az b y=true:=by
 obtain⟨_,_,_,hw,_⟩:=h.done m o hk;exact⟨fun hy=>⟨hw.bG y hy,hw.ID y hy⟩,fun⟨h1,t⟩=>hw.runs h1 t⟩
theorem dD.reads(m:ao aa) (o:LC aa x) (hk:∀k∈goals,dU aa k) (h:dD aa (valOf aa x.ab) goals x b [] bG) (h1:az x y=false) (t:az b y=true) (F:a∈cy aa x.ab y):aw a=true∨az b a=true:=by
 obtain⟨⟨H,u⟩,B,_⟩:=h.inv m o hk;obtain⟨r,hr,C⟩:=aL.1 t;obtain⟨g1,g2⟩:=aH hr;have D:=(u.bi.c.vr r g1).2;rw [C,u.bi.c.now,show b.ab=x.ab from B.gO.aD,g2] at D
 rcases h.thr m o hk y h1 t a (by grind [aK]) with h | ⟨h,_⟩ | h
 ·
  exact .inl h
 ·
  cases h
 exact .inr h
end
end Go.Rc

