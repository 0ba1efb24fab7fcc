/- Base of the proof: frames, memory, ownership, and the plain meaning of rule systems. Conditions: as each lemma says. -/
import Derived.Test.YtfamnpoplgkkcaaGreatDoorKBf
import Derived.Test.YtfamnpoplgkkcaaGreatDoorKBe
import Derived.Shelf.SlSortCmp.WholeK
set_option linter.all false
namespace Go.Rc
open Go
theorem As.Sd{A:As}{Z:Nat→Prop}{w w':World}(h:A.ok Z w) (c:aQ [] w w'):A.ok Z w':=A.st c.size (fun x _ m=>c.block x m (by simp)) h
theorem vl{k:Key}(h:cn k):aw k=decide (k.kind=32):=by
 have e:(decide (1≤k.kind) && decide (k.kind≤22))=false:=by
  rcases h with h | h
  ·
   grind
  grind
 unfold aw
 grind
/-! ### records in blocks -/
structure RL where
 b:Nat
 a:Option Addr
 n:Nat
 c:Nat
def WD.wc(D:WD) (v:Nat) (rev:Int) (ra:Option Addr) (rn rc:Nat):List Value:=
 [.slice D.ar D.r D.cr,.int .i64 rev,.slice D.a1 D.n1 D.c1,.slice D.a2 D.n2 D.c2,.map (some D.m),.pointer (some ⟨v,0,none⟩),.slice ra rn rc]
def As.dR(RT:Nat) (lf:Key→RL) (l:List Rec):As where
 fp x:=∃k r,ay l k=some r∧x=(lf k).b
 ok Z w:=(∀k r,ay l k=some r→bC w (lf k).b RT (r.row (lf k).a (lf k).n (lf k).c)∧Rd RR.key 2 Z w (lf k).a (lf k).n (lf k).c r.reads∧r.reads.length≤4000)∧∀k k' r r',ay l k=some r→ay l k'=some r'→(lf k).b=(lf k').b→k=k'
 lt h x hx:=by
  obtain⟨k,r,hk,rfl⟩:=hx;exact(h.1 k r hk).1.lt
 mono hZ h:=⟨fun k r hk=>by
  obtain⟨hb,hr,h4⟩:=h.1 k r hk;exact⟨hb,hr.mono hZ,h4⟩,h.2⟩
 st hs hc h:=⟨fun k r hk=>by
  obtain⟨hb,hr,h4⟩:=h.1 k r hk;exact⟨(As.blk (lf k).b RT (r.row (lf k).a (lf k).n (lf k).c)).st (Z:=fun _=>False) hs (fun x hx hl=>hc x (.inl ⟨k,r,hk,by rcases hx with hx | hx;exact hx;exact hx.elim⟩) hl) hb,hr.st hs (fun x hx=>hc x (.inr hx)),h4⟩,h.2⟩
theorem As.nJ{RT:Nat}{lf:Key→RL}{l:List Rec}{Z:Nat→Prop}{w:World}(h:(As.dR RT lf l).ok Z w):(As.dR RT lf l).ok Z w:=h
def cy(l:List Rec) (lf:Key→RL) (ml:List (Key × Value)):Prop:=∀k,bw ml k=(ay l k).map fun _=>Value.pointer (some ⟨(lf k).b,0,none⟩)
theorem cy.nil(lf:Key→RL):cy [] lf []:=fun _=>rfl
theorem cy.no{l:List Rec}{lf:Key→RL}{ml:List (Key × Value)}{k:Key}(h:cy l lf ml) (m:ay l k=none):(bw ml k).getD (.pointer none)=.pointer none:=by rw [h k,m];rfl
theorem cy.yes{l:List Rec}{lf:Key→RL}{ml:List (Key × Value)}{k:Key}{r:Rec}(h:cy l lf ml) (m:ay l k=some r):bw ml k=some (.pointer (some ⟨(lf k).b,0,none⟩)):=by rw [h k,m];rfl
def qI(lf:Key→RL) (k:Key) (q:RL):Key→RL:=fun y=>if y=k then q else lf y
theorem iG{lf:Key→RL}{k:Key}{q:RL}:qI lf k q k=q:=if_pos rfl
theorem ja{lf:Key→RL}{k y:Key}{q:RL}(h:¬y=k):qI lf k q y=lf y:=if_neg h
theorem cy.put{l l':List Rec}{lf:Key→RL}{ml:List (Key × Value)}{r:Rec}{q:RL}(h:cy l lf ml) (hl:∀y,ay l' y=if y=r.key then some r else ay l y):cy l' (qI lf r.key q) (cw ml r.key (.pointer (some ⟨q.b,0,none⟩))):=fun k=>by
 rw [dx,hl k]
 by_cases e:k=r.key
 ·
  subst e;rw [if_pos rfl,if_pos rfl,iG]
  rfl
 rw [if_neg fun h=>e h.symm,if_neg e,ja e,h k]
section
variable {RT:Nat}{q:RL}{lf:Key→RL}{l l':List Rec}{r:Rec}{w0 w:World}{M Z:Nat→Prop}{L:List As}
theorem St.Se(h:St w0 M Z w L) (RT:Nat) (lf:Key→RL):St w0 M Z w (As.dR RT lf []::L):=h.fact (B:=As.dR RT lf []) ⟨fun k r hk=>(by cases hk),fun k k' r r' hk=>(by cases hk)⟩ fun x m=>by obtain⟨k,r,hk,_⟩:=m;cases hk
theorem St.tb(h:St w0 M Z w (As.blk q.b RT (r.row q.a q.n q.c)::As.dR RT lf l::L)) (hr:Rd RR.key 2 Z w q.a q.n q.c r.reads) (F:r.reads.length≤4000) (hl:∀y,ay l' y=if y=r.key then some r else ay l y):St w0 M Z w (As.dR RT (qI lf r.key q) l'::L):=by
 have G:bC w q.b RT (r.row q.a q.n q.c):=h.g0;have t:(As.dR RT lf l).ok Z w:=h.g1;have B:∀k r',ay l k=some r'→q.b≠(lf k).b:=fun k r' hk e=>(List.pairwise_cons.1 h.rC).1 (As.dR RT lf l) M0 q.b rfl ⟨k,r',hk,e⟩;refine h.join (C:=As.dR RT (qI lf r.key q) l') ⟨fun k r' hk=>?_,fun k k' r1 r2 h1 m e=>?_⟩ fun x D=>?_
 ·
  rw [hl k] at hk
  by_cases e:k=r.key
  ·
   rw [if_pos e] at hk
   grind [iG]
  rw [if_neg e] at hk;rw [ja e];exact t.1 k r' hk
 ·
  rw [hl k] at h1;rw [hl k'] at m
  by_cases e1:k=r.key
  ·
   by_cases e2:k'=r.key
   ·
    rw [e1,e2]
   rw [if_neg e2] at m
   grind [iG,ja]
  rw [if_neg e1] at h1
  by_cases e2:k'=r.key
  ·
   rw [ja e1,e2,iG] at e;exact absurd e.symm (B k _ h1)
  rw [if_neg e2] at m;rw [ja e1,ja e2] at e;exact t.2 k k' _ _ h1 m e
 obtain⟨k,r',hk,rfl⟩:=D;rw [hl k] at hk
 by_cases e:k=r.key
 ·
  rw [e,iG];exact .inl rfl
 rw [if_neg e] at hk;rw [ja e];exact .inr ⟨k,r',hk,rfl⟩
theorem Ow.z{α:Type}{f:α→List Value}{E k n c:Nat}{a:Option Addr}{xs:List α}{Z':Nat→Prop}(h:Ow (RR.flat f) E k Z' w a n c xs):Ow (RR.flat f) E k Z w a n c xs:=by
 obtain⟨hn,rows,hl,hk,h1,m⟩:=h;exact⟨hn,rows,hl,hk,h1,m⟩
theorem St.Sf{A:As}{Z':Nat→Prop}(h:St w0 M Z' w [A]) (t:∀x,Z x→Z' x) (F:A.ok Z w):St w0 M Z w [A]:=
 ⟨h.cH,fun x m=>h.kc x (t x m),fun B C x m D=>h.ks B C x m (t x D),h.lg,h.rC,fun B C=>by grind⟩
end
theorem xR{l:List Rec}{r:Rec}(h:∀x∈l,x.key≠r.key) (y:Key):ay (l++[r]) y=if y=r.key then some r else ay l y:=by
 unfold ay
 grind
/-! ### entries of maps that are changed in place -/
section
variable {κ:Type} [DecidableEq κ] {enc:κ→Value}{P:Program}{kt:TypeId}{w w':World}{b:Nat}{l:List (κ × Value)}
def H0{κ:Type}(enc:κ→Value) (w:World) (b:Nat) (l:List (κ × Value)) (k:κ) (z:Int):Prop:=
 ∃es clock,w.heap[b]?=some (.map es clock)∧(es.toList.map (fun e=>(e.key,e.val))=l.map (fun p=>(enc p.1,p.2))∧(l.map (·.1)).Nodup∧(∀e∈es.toList,e.born<clock)∧(es.toList.map (·.born)).Nodup)∧∃(j:Nat) (v:Value) (e:MapEntry),l[j]?=some (k,v)∧es[j]?=some e∧(e.born:Int)=z
def As.xS{κ:Type}(enc:κ→Value) (b:Nat) (l:List (κ × Value)) (k:κ) (z:Int):As where
 fp x:=x=b
 ok _ w:=H0 enc w b l k z
 lt h x hx:=by
  subst hx;obtain⟨es,c,h,_⟩:=h
  grind
 mono _ h:=h
 st hs hc h:=by
  obtain⟨es,c,h,r⟩:=h;exact⟨es,c,(hc b (.inl rfl) (Array.getElem?_eq_some_iff.1 h).1).trans h,r⟩
theorem As.gmb{κ:Type}{enc:κ→Value}{b:Nat}{l:List (κ × Value)}{k:κ}{z:Int}{Z:Nat→Prop}{w:World}(h:(As.xS enc b l k z).ok Z w):H0 enc w b l k z:=h
theorem tc{e T:TypeId}{h:Value}(B:KK P kt enc) (hT:P.underlying T=some (.map kt e)) (I:∀w,(zeroValue e).run P w=.ok h w) (hb:KM enc w b l) (k:κ) :
  ∃(z:Int) (w':World),(Instr.mapEntry T (.map (some b)) (enc k)).run P w=.ok (.tuple #[(bw l k).getD h,.int .i64 z]) w'∧aQ [b] w w'∧H0 enc w' b (cw l k ((bw l k).getD h)) k z:=by
 obtain⟨es,clock,hm,he,hn,Y,J⟩:=hb;have C:b<w.heap.size:=(Array.getElem?_eq_some_iff.1 hm).1
 have hlen:es.toList.length=l.length:=by simpa using congrArg List.length he
 cases t:kJ l k 0 with
 | none=>
  obtain⟨h1,D⟩:=gE t;refine⟨(clock:Int),_,?_,fm w b (.map (es.push {key:=enc k,val:=h,born:=clock}) (clock+1)),?_⟩
  ·
   rw [h1];simp only [Instr.mapEntry,Sem.run_bind,run_underlying hT,Result.andThen_ok,MapKept.run_getObj_map hm,B.check,B.find l es.toList k w he,t,I,MapKept.run_setObj_map _ hm,Option.getD_none]
   rfl
  rw [h1,D];refine⟨_,_,by first | (simp [C];done) | (simp [C];exact⟨rfl,rfl⟩),⟨by simp [he],by grind [ei],?_,?_⟩,l.length,h,{key:=enc k,val:=h,born:=clock},by simp,?_,rfl⟩
  ·
   grind
  ·
   grind
  grind
 | some p=>
  obtain⟨j,v0⟩:=p;obtain⟨m,h1,D,F,h4,_⟩:=fI t
  have O:j=m:=by omega
  subst O
  have Q:j<es.size:=by grind
  obtain⟨y,G⟩:∃y,es[j]?=some y:=⟨_,Array.getElem?_eq_getElem Q⟩
  have S:y.key=enc k∧y.val=v0:=by
   have:=congrArg (fun x=>x[j]?) he
   grind
  have V:(((es[j]?).map (·.key)).getD (enc k))=enc k:=by rw [G];exact S.1
  have W:(((es[j]?).map fun x=>(x.born:Int)).getD 0)=(y.born:Int):=by rw [G];rfl
  refine⟨(y.born:Int),_,?_,fm w b (.map (es.modify j fun e=>{e with key:=enc k}) clock),?_⟩
  ·
   rw [F];simp only [Instr.mapEntry,Sem.run_bind,run_underlying hT,Result.andThen_ok,MapKept.run_getObj_map hm,B.check,B.find l es.toList k w he,t,Instr.keyThatStays,V,B.same,if_true,Sem.run_pure,MapKept.run_setObj_map _ hm,Option.getD_some,W]
   rfl
  rw [F]
  have X:(es.modify j fun e=>{e with key:=enc k}).toList.map (fun e=>(e.key,e.val))=(l.set j (k,v0)).map (fun p=>(enc p.1,p.2))∧(es.modify j fun e=>{e with key:=enc k}).toList.map (·.born)=es.toList.map (·.born):=by
   constructor
   ·
    apply List.ext_getElem?
    intro i;have hi:=congrArg (fun x=>x[i]?) he
    grind
   apply List.ext_getElem?
   grind
  refine⟨_,_,by first | (simp [C];done) | (simp [C];exact⟨rfl,rfl⟩),⟨by grind,ei hn k _,?_,by rw [X.2];exact J⟩,j,v0,{y with key:=enc k},?_,?_,rfl⟩
  ·
   intro x t
   have:x.born∈(es.modify j fun e=>{e with key:=enc k}).toList.map (·.born):=List.mem_map.2 ⟨x,t,rfl⟩
   grind
  ·
   grind
  grind
theorem pz{α:Type}:∀{l:List α},l.Nodup→∀{i j:Nat}{x:α},l[i]?=some x→l[j]?=some x→i=j:=fun {l} h {i j x} h1 t=>by
 obtain⟨hi,e1⟩:=List.getElem?_eq_some_iff.1 h1;obtain⟨m,e2⟩:=List.getElem?_eq_some_iff.1 t
 rcases Nat.lt_trichotomy i j with g | g | g
 ·
  exact absurd (e1.trans e2.symm) (List.pairwise_iff_getElem.1 h i j hi m g)
 ·
  exact g
 exact absurd (e2.trans e1.symm) (List.pairwise_iff_getElem.1 h j i m hi g)
theorem pA{T:TypeId}{k:κ}{z:Int}(hb:H0 enc w b l k z) (v:Value) :
  ∃w':World,(Instr.entryStore T (.map (some b)) (.int .i64 z) v).run P w=.ok () w'∧aQ [b] w w'∧KM enc w' b (cw l k v):=by
 obtain⟨es,clock,hm,⟨he,hn,Ma,O⟩,j,v0,y,D,F,Q⟩:=hb;have G:b<w.heap.size:=(Array.getElem?_eq_some_iff.1 hm).1;have S:j<es.size:=(Array.getElem?_eq_some_iff.1 F).1
 have V:es.findIdx? (fun e=>(e.born:Int) == z)=some j:=by
  rw [Array.findIdx?_eq_some_iff_getElem]
  have W:es[j]=y:=by grind
  refine⟨S,by rw [W];simpa using Q,fun i hi=>?_⟩
  have AY:(es[i]'(by omega)).born≠y.born:=fun e=>by
   have h1:(es.toList.map (·.born))[i]?=some y.born:=by grind
   have B:(es.toList.map (·.born))[j]?=some y.born:=by simp [F]
   grind [pz]
  grind
 have X:∃(h:Nat),kJ l k 0=some (h,v0)∧h=j:=by
  cases t:kJ l k 0 with
  | none=>
   have h1:=(gE t).1;exact absurd (List.mem_map.2 ⟨(k,v0),List.mem_of_getElem? D,rfl⟩) (j3.1 h1)
  | some p=>
   obtain⟨h,v1⟩:=p;obtain⟨m,h1,B,_⟩:=fI t
   have I:(l.map (·.1))[m]?=some k:=by rw [List.getElem?_map,B];rfl
   have C:(l.map (·.1))[j]?=some k:=by rw [List.getElem?_map,D];rfl
   have h5:=pz hn I C
   grind
 obtain⟨h,t,Y⟩:=X;subst Y;obtain⟨m,h1,B,I,C,_⟩:=fI t
 have uu:h=m:=by omega
 subst uu;refine⟨_,?_,fm w b (.map (es.modify h fun e=>{e with val:=v}) clock),?_⟩
 ·
  simp only [Instr.entryStore,Sem.run_bind,Result.andThen_ok,MapKept.run_getObj_map hm,asInt,asIntOf,Sem.run_pure,V,MapKept.run_setObj_map _ hm]
 have XT:y.key=enc k:=by
  have:=congrArg (fun x=>x[h]?) he
  grind
 have J:(es.modify h fun e=>{e with val:=v}).toList.map (fun e=>(e.key,e.val))=(l.set h (k,v)).map (fun p=>(enc p.1,p.2))∧(es.modify h fun e=>{e with val:=v}).toList.map (·.born)=es.toList.map (·.born):=by
  constructor
  ·
   apply List.ext_getElem?
   intro i;have hi:=congrArg (fun x=>x[i]?) he
   grind
  apply List.ext_getElem?
  grind
 refine⟨_,_,by first | (simp [G];done) | (simp [G];exact⟨rfl,rfl⟩),by rw [C];exact J.1,ei hn k v,?_,by rw [J.2];exact O⟩;intro x t
 have:x.born∈(es.modify h fun e=>{e with val:=v}).toList.map (·.born):=List.mem_map.2 ⟨x,t,rfl⟩
 grind
variable {n:Nat}{kv:KV}{K:KV→World→Prop}{d:Tmp}{ty:TypeId}{pos:String}{af:Array Edge}{g:Option (Nat × Bool)}{T e:TypeId}
theorem OX.mapEntry{m v:Value}{k:κ}(D:KK P kt enc) (hT:P.underlying T=some (.map kt e)) (F:∀w,(zeroValue e).run P w=.ok m w) (hb:KM enc w b l) (G:(bw l k).getD m=v) {x y:Operand}(t:ev kv x=some (.map (some b))) (B:ev kv y=some (enc k)) (I:Nat.blt d n=true)
  (h:∀(z:Int) w',aQ [b] w w'→H0 enc w' b (cw l k v) k z→K ((d,.tuple #[v,.int .i64 z])::kv) w'):OX P ⟨some d,.mapEntry T x y,ty,pos,af,g⟩ n kv w K:=by
 obtain⟨z,w',hr,h1,C⟩:=tc D hT F hb k;rw [G] at hr C;refine⟨rfl,I,by simp [known,opers,t,B],?_⟩
 have J:(execOp (gw kv) ⟨some d,.mapEntry T x y,ty,pos,af,g⟩).run P w=.ok (.value (.tuple #[v,.int .i64 z])) w':=by
  simp only [execOp,aH t,aH B,Sem.run_bind,hr,Result.andThen_ok];rfl
 rw [J];exact h z _ h1 C
theorem OX.entryStore{k:κ}{z:Int}{v:Value}(hb:H0 enc w b l k z) {x y u:Operand}(m:ev kv x=some (.map (some b))) (t:ev kv y=some (.int .i64 z)) (hu:ev kv u=some v)
  (h:∀w',aQ [b] w w'→KM enc w' b (cw l k v)→K kv w'):OX P ⟨none,.entryStore T x y u,ty,pos,af,g⟩ n kv w K:=by
 obtain⟨w',hr,h1,B⟩:=pA (P:=P) (T:=T) hb v;refine⟨rfl,rfl,by simp [known,opers,m,t,hu],?_⟩
 have C:(execOp (gw kv) ⟨none,.entryStore T x y u,ty,pos,af,g⟩).run P w=.ok .skip w':=by
  simp only [execOp,aH m,aH t,aH hu,Sem.run_bind,hr,Result.andThen_ok];rfl
 rw [C];exact h _ h1 B
end
section
variable {κ:Type}{enc:κ→Value}{w0 w w':World}{M Z:Nat→Prop}{L:List As}{b:Nat}{l l':List (κ × Value)}{k:κ}{z:Int}
theorem St.Mb(h:St w0 M Z w (As.map enc b l::L)) (s:aQ [b] w w') (hm:H0 enc w' b l' k z):St w0 M Z w' (As.xS enc b l' k z::L):=h.gS (s.p.mono fun x _ m=>by simpa [As.map] using m) hm fun x m=>.inl m
theorem St.Mc(h:St w0 M Z w (As.xS enc b l k z::L)) (s:aQ [b] w w') (hm:KM enc w' b l'):St w0 M Z w' (As.map enc b l'::L):=h.gS (s.p.mono fun x _ m=>by simpa [As.xS] using m) hm fun x m=>.inl m
end
/-! ### a map to owned slices -/
def gu(L:List RE) (k:Key):Option RE:=L.find? fun e=>decide (e.key=k)
def ft(L:List RE) (k:Key):List Key:=((gu L k).map (·.reads)).getD []
def og(L:List RE) (ml:List (Key × Value)):Prop:=∀k,bw ml k=(gu L k).map fun e=>Value.slice e.a e.n e.c
def lW(bg:Key→List Key) (x y:Key):Key→List Key:=fun z=>if z=x then bg z++[y] else bg z
def rest(L:List RE) (x:Key):List RE:=L.filter fun e=>decide (e.key≠x)
section
variable {L:List RE}{ml:List (Key × Value)}{x y:Key}{e:RE}{a:Option Addr}{n c:Nat}{v:Value}
theorem rW(h:gu L x=some e):e∈L∧e.key=x:=by grind [gu]
theorem og.nil:og [] []:=fun _=>rfl
theorem mM(h:List Key) (z:Key):gu (⟨x,a,n,c,h⟩::rest L x) z=if z=x then some ⟨x,a,n,c,h⟩ else gu L z:=by
 unfold gu rest
 grind
theorem og.put(h:og L ml) (m:List Key):og (⟨x,a,n,c,m⟩::rest L x) (cw (cw ml x v) x (.slice a n c)):=fun z=>by
 rw [dx,mM]
 by_cases e:x=z
 ·
  subst e
  simp
 rw [if_neg e,if_neg fun h=>e h.symm,dx,if_neg e];exact h z
theorem BW(z:Key):ft (⟨x,a,n,c,ft L x++[y]⟩::rest L x) z=lW (ft L) x y z:=by
 unfold lW
 by_cases h:z=x
 ·
  subst h;rw [if_pos rfl]
  show((gu _ z).map _).getD []=_
  rw [mM,if_pos rfl]
  rfl
 rw [if_neg h]
 show((gu _ z).map _).getD []=((gu L z).map _).getD []
 rw [mM,if_neg h]
theorem Ep:ft (⟨x,a,n,c,ft L x++[y]⟩::rest L x)=lW (ft L) x y:=funext BW
theorem xT(h:(L.map (·.key)).Nodup) (m:List Key):(((⟨x,a,n,c,m⟩:RE)::rest L x).map (·.key)).Nodup:=by
 rw [List.map_cons,List.nodup_cons];refine⟨fun t=>?_,((List.filter_sublist (l:=L)).map (·.key)).nodup h⟩;obtain⟨e,he,B⟩:=List.mem_map.1 t
 have:=(List.mem_filter.1 he).2
 simp at this
 exact this B
theorem rX:∀{L:List RE},(L.map (·.key)).Nodup→gu L x=some e→L.Perm (e::rest L x)
 | [],_,h=>by cases h
 | q::L,hn,h=>by
  rw [List.map_cons,List.nodup_cons] at hn
  unfold gu at h
  by_cases m:q.key=x
  ·
   rw [List.find?_cons_of_pos (by simpa using m)] at h
   cases h
   have:rest (e::L) x=L:=by
    unfold rest
    simp_all
   rw [this]
  rw [List.find?_cons_of_neg (by simpa using m)] at h
  have t:rest (q::L) x=q::rest L x:=by
   unfold rest
   grind
  rw [t];exact((rX hn.2 h).cons q).trans (.swap _ _ _)
variable {w0 w:World}{M Z:Nat→Prop}{l:List As}{EK:Nat}
theorem St.Md(hn:(L.map (·.key)).Nodup) (hm:og L ml) (x:Key) (h:St w0 M Z w (As.many (L.map (RE.as EK))::l)):∃(a:Option Addr) (n c:Nat),(bw ml x).getD (.slice none 0 0)=.slice a n c∧St w0 M Z w (As.os RR.key EK 2 a n c (ft L x)::As.many ((rest L x).map (RE.as EK))::l):=by
 cases m:gu L x with
 | none=>
  refine⟨none,0,0,by rw [hm x,m];rfl,?_⟩
  have e1:ft L x=[]:=by unfold ft;rw [m];rfl
  have e2:rest L x=L:=by
   unfold rest
   rw [List.filter_eq_self];intro e he
   have:=List.find?_eq_none.1 m e he
   simpa using this
  rw [e1,e2];exact h.gx _ _ _
 | some e=>
  refine⟨e.a,e.n,e.c,by rw [hm x,m];rfl,?_⟩
  have e1:ft L x=e.reads:=by unfold ft;rw [m];rfl
  rw [e1];exact(St.LU ((rX hn m).map (RE.as EK)) h).sU
theorem St.Sg{m:List Key}(h:St w0 M Z w (As.os RR.key EK 2 a n c m::As.many ((rest L x).map (RE.as EK))::l)):St w0 M Z w (As.many (((⟨x,a,n,c,m⟩:RE)::rest L x).map (RE.as EK))::l):=h.xJ
def Sh(L:List RE):FZ where
 p Z w:=∀e∈L,Rd RR.key 2 Z w e.a e.n e.c e.reads
 mono hZ h:=fun e he=>(h e he).mono hZ
 st hs hc h:=fun e he=>(h e he).st hs hc
theorem St.bkF(hl:∀e∈L,e.reads.length≤140737488355328) (h:St w0 M Z w (As.many (L.map (RE.as EK))::l)):St w0 M (fun x=>Z x∨(As.many (L.map (RE.as EK))).fp x) w (As.fz (Sh L)::l):=by
 have hm:(As.many (L.map (RE.as EK))).ok Z w:=h.ok _ M0
 refine h.freeze (B:=As.fz (Sh L)) (fun e he=>?_) fun x m=>m
 have t:Ow RR.key EK 2 Z w e.a e.n e.c e.reads:=As.gs (hm.2 _ (List.mem_map_of_mem (f:=RE.as EK) he))
 exact(t.rd (hl e he)).mono fun x m=>m.imp id fun m=>⟨_,List.mem_map_of_mem (f:=RE.as EK) he,m⟩
theorem og.read(hm:og L ml) (m:(Sh L).p Z w) (x:Key):∃(a:Option Addr) (n c:Nat),(bw ml x).getD (.slice none 0 0)=.slice a n c∧Rd RR.key 2 Z w a n c (ft L x):=by
 cases h:gu L x with
 | none=>
  refine⟨none,0,0,by rw [hm x,h];rfl,?_⟩
  grind [ft,Rd.nil]
 | some e=>
  refine⟨e.a,e.n,e.c,by rw [hm x,h];rfl,?_⟩
  have e1:ft L x=e.reads:=by unfold ft;rw [h];rfl
  rw [e1];exact m e (rW h).1
theorem BX(hn:(L.map (·.key)).Nodup) (he:e∈L):ft L e.key=e.reads:=by
 have:gu L e.key=some e:=by
  cases h:gu L e.key with
  | none=>
   have:=List.find?_eq_none.1 h e he
   simp at this
  | some q=>
   obtain⟨h1,t⟩:=rW h;obtain⟨i,hi⟩:=List.mem_iff_getElem?.1 h1;obtain⟨j,m⟩:=List.mem_iff_getElem?.1 he
   have g1:(L.map (·.key))[i]?=some e.key:=by grind
   have g2:(L.map (·.key))[j]?=some e.key:=by rw [List.getElem?_map,m];rfl
   grind [pz]
 unfold ft
 rw [this]
 rfl
end
/-! ### a search there and back -/
section
variable {l:List Rec}{rev:Int}{k:Key}{bg:Key→List Key}{L:List Key}{i q:Nat}{x y:Key}
structure oh (l:List Rec) (rev:Int) (k:Key) (bg:Key→List Key) (L:List Key) (i q:Nat):Prop where
 ju:L.Nodup
 mem:k∈L
 sub:∀x∈L,x=k∨bE l rev k x
 cl:∀j y,j<i→L[j]?=some y→∀x,Ld l rev y x→x∈L∧y∈bg x
 cur:∀y,L[i]?=some y→∀x∈(aD l y).reads.take q,bH l rev x=true→x∈L∧y∈bg x
 bk:∀x y,y∈bg x→y∈L∧Ld l rev y x
 len:∀x,(bg x).length≤4000*i+q
theorem oh.start(h:∀x,bg x=[]):oh l rev k bg [k] 0 0:=
 ⟨by simp,by simp,by simp,fun j y h=>by omega,fun y _ x t=>by simp at t,fun x y m=>(by rw [h] at m;cases m),fun x=>by rw [h];simp⟩
theorem oh.op(h:oh l rev k bg L i q) (m:bH l rev k=true) (t:x∈L):bH l rev x=true:=by
 rcases h.sub x t with rfl | h1
 ·
  exact m
 exact h1.kg
theorem oh.le(h:oh l rev k bg L i q) (m:bH l rev k=true):L.length≤l.length:=by
 have:=dX h.ju fun x t=>pe (h.op m t)
 simpa using this
theorem oh.skip(h:oh l rev k bg L i q) (t:L[i]?=some y) (C:(aD l y).reads[q]?=some x) (D:bH l rev x=false):oh l rev k bg L i (q+1):=
 {h with
  cur:=fun I B F G m=>by
   rw [t] at B
   cases B
   rcases jH C G with h1 | rfl
   ·
    exact h.cur y t F h1 m
   rw [D] at m;cases m
  len:=fun x=>by have:=h.len x;omega}
theorem lX{z u:Key}(h:u∈bg z):u∈lW bg x y z:=by grind [lW]
theorem rY:y∈lW bg x y x:=by unfold lW;simp
theorem pB{z u:Key}(h:u∈lW bg x y z):u∈bg z∨(z=x∧u=y):=by grind [lW]
theorem vm(z:Key):(lW bg x y z).length≤(bg z).length+1:=by
 unfold lW
 split <;> simp
theorem oh.qt(h:oh l rev k bg L i q) (B:L[i]?=some y) (D:(aD l y).reads[q]?=some x) (G:bH l rev x=true) (hm:x∈L):oh l rev k (lW bg x y) L i (q+1):=
 {h with
  cl:=fun j C F m t hl=>⟨(h.cl j C F m t hl).1,lX (h.cl j C F m t hl).2⟩
  cur:=fun C m t I J=>by
   rw [B] at m
   cases m
   rcases jH D I with h1 | rfl
   ·
    have:=h.cur y B t h1 J
    grind [lX]
   exact⟨hm,rY⟩
  bk:=fun z u hu=>by
   rcases pB hu with h1 | ⟨rfl,rfl⟩
   ·
    exact h.bk z u h1
   exact⟨List.mem_of_getElem? B,List.mem_of_getElem? D,G⟩
  len:=fun z=>by have:=h.len z;grind [vm]}
theorem oh.new(h:oh l rev k bg L i q) (t:L[i]?=some y) (D:(aD l y).reads[q]?=some x) (O:bH l rev x=true) (hm:x∉L):oh l rev k (lW bg x y) (L++[x]) i (q+1):=by
 have V:i<L.length:=(List.getElem?_eq_some_iff.1 t).1;have F:Ld l rev y x:=⟨List.mem_of_getElem? D,O⟩
 have qt:∀{j z},j≤i→(L++[x])[j]?=some z→L[j]?=some z:=fun G W=>by grind
 refine⟨by grind [ju],by simp [h.mem],fun z m=>?_,fun j I G B C hl=>?_,fun I B C Q S=>?_,fun z u hu=>?_,fun z=>?_⟩
 ·
  rcases List.mem_append.1 m with m | m
  ·
   exact h.sub z m
  rw [List.mem_singleton] at m;subst m
  rcases h.sub y (List.mem_of_getElem? t) with rfl | h1
  ·
   exact .inr (.one F)
  exact .inr (.step h1 F)
 ·
  have h1:=h.cl j I G (qt (by omega) B) C hl
  grind [lX]
 ·
  have J:=qt (Nat.le_refl _) B;rw [t] at J
  cases J
  rcases jH D Q with h1 | rfl
  ·
   have:=h.cur y t C h1 S
   grind [lX]
  exact⟨by simp,rY⟩
 ·
  rcases pB hu with h1 | ⟨rfl,rfl⟩
  ·
   have:=h.bk z u h1
   grind
  grind
 have:=h.len z
 grind [vm]
theorem oh.next(h:oh l rev k bg L i q) (t:L[i]?=some y) (C:(aD l y).reads.length≤q) (G:q≤4000):oh l rev k bg L (i+1) 0:=
 {h with
  cl:=fun j D I m B hl=>by
   rcases Nat.lt_or_ge j i with h1 | h1
   ·
    exact h.cl j D h1 m B hl
   have e:j=i:=by omega
   subst e;rw [t] at m
   cases m
   exact h.cur y t B (by rw [List.take_of_length_le C];exact hl.1) hl.2
  cur:=fun _ _ x F=>by simp at F
  len:=fun x=>by have:=h.len x;omega}
theorem oh.done(h:oh l rev k bg L i q) (hi:L.length≤i) (x:Key):x∈L↔x=k∨bE l rev k x:=by
 have m:∀y∈L,∀x,Ld l rev y x→x∈L∧y∈bg x:=fun y B x hl=>by
  obtain⟨j,t⟩:=List.mem_iff_getElem?.1 B
  have:=(List.getElem?_eq_some_iff.1 t).1
  exact h.cl j y (by omega) t x hl
 refine⟨h.sub x,?_⟩;rintro(rfl | h1)
 ·
  exact h.mem
 induction h1 with
 | one h1=>exact(m _ h.mem _ h1).1
 | step _ C D=>exact(m _ D _ C).1
theorem oh.Si(h:oh l rev k bg L i q) (hi:L.length≤i) (x y:Key):y∈bg x↔(y=k∨bE l rev k y)∧Ld l rev y x:=by
 rw [← h.done hi y];refine⟨h.bk x y,fun⟨h1,t⟩=>?_⟩;obtain⟨j,m⟩:=List.mem_iff_getElem?.1 h1
 have:=(List.getElem?_eq_some_iff.1 m).1
 exact(h.cl j y (by omega) m x t).2
structure rZ (l:List Rec) (rev:Int) (k:Key) (bg:Key→List Key) (L:List Key) (i q:Nat):Prop where
 ju:L.Nodup
 mem:k∈L
 sub:∀x∈L,x=k∨rT l rev k x
 cl:∀j y,j<i→L[j]?=some y→∀x∈bg y,x∈L
 cur:∀y,L[i]?=some y→∀x∈(bg y).take q,x∈L
theorem rZ.start:rZ l rev k bg [k] 0 0:=⟨by simp,by simp,by simp,fun j y h=>by omega,fun y _ x m=>by simp at m⟩
theorem rZ.le(h:rZ l rev k bg L i q) (m:bH l rev k=true):L.length≤l.length:=by
 have:=dX h.ju fun x t=>pe (l:=l) (rev:=rev) (by
  rcases h.sub x t with rfl | h1
  ·
   exact m
  exact h1.kg)
 simpa using this
theorem rZ.has(h:rZ l rev k bg L i q) (m:L[i]?=some y) (B:(bg y)[q]?=some x) (hm:x∈L):rZ l rev k bg L i (q+1):=
 {h with
  cur:=fun F t C D=>by
   rw [m] at t
   cases t
   rcases jH B D with h1 | rfl
   ·
    exact h.cur y m C h1
   exact hm}
theorem rZ.add(h:rZ l rev k bg L i q) (S:∀x y,y∈bg x↔(y=k∨bE l rev k y)∧Ld l rev y x) (t:L[i]?=some y) (I:(bg y)[q]?=some x) (hm:x∉L):rZ l rev k bg (L++[x]) i (q+1):=by
 have X:i<L.length:=(List.getElem?_eq_some_iff.1 t).1;obtain⟨h1,B⟩:=(S y x).1 (List.mem_of_getElem? I)
 have V:bE l rev k x:=by grind [mem]
 have W:bE l rev x k:=by
  rcases h.sub y (List.mem_of_getElem? t) with rfl | C
  ·
   exact .one B
  exact(bE.one B).trans C.2
 have qt:∀{j z},j≤i→(L++[x])[j]?=some z→L[j]?=some z:=fun J B=>by grind
 refine⟨by grind [ju],by simp [h.mem],fun z m=>?_,fun j O J D F G=>by simp [h.cl j O J (qt (by omega) D) F G],fun O D F G=>?_⟩
 ·
  rcases List.mem_append.1 m with m | m
  ·
   exact h.sub z m
  rw [List.mem_singleton] at m;subst m;exact .inr ⟨V,W⟩
 have Q:=qt (Nat.le_refl _) D;rw [t] at Q
 cases Q
 rcases jH I G with C | rfl
 ·
  simp [h.cur y t F C]
 simp
theorem rZ.next(h:rZ l rev k bg L i q) (t:L[i]?=some y) (G:(bg y).length≤q):rZ l rev k bg L (i+1) 0:=
 {h with
  cl:=fun j C I m B D=>by
   rcases Nat.lt_or_ge j i with h1 | h1
   ·
    exact h.cl j C h1 m B D
   have e:j=i:=by omega
   subst e;rw [t] at m
   cases m
   exact h.cur y t B (by grind [List.take_of_length_le])
  cur:=fun _ _ x F=>by simp at F}
theorem rZ.done(h:rZ l rev k bg L i q) (F:bH l rev k=true) (G:∀x y,y∈bg x↔(y=k∨bE l rev k y)∧Ld l rev y x) (hi:L.length≤i) (x:Key):x∈L↔x∈aB l rev k:=by
 have I:∀y∈L,∀x∈bg y,x∈L:=fun y m x t=>by
  obtain⟨j,D⟩:=List.mem_iff_getElem?.1 m
  have:=(List.getElem?_eq_some_iff.1 D).1
  exact h.cl j y (by omega) D x t
 rw [bK]
 constructor
 ·
  intro t
  exact(h.sub x t).imp id fun h1=>⟨F,h1⟩
 rintro(rfl | ⟨_,h1,B⟩)
 ·
  exact h.mem
 have key:∀{x y:Key},bE l rev x y→(x=k∨bE l rev k x)→y∈L→x∈L:=by
  intro x y B h1
  induction B with
  | one C=>grind
  | step C J O=>
   refine fun m=>O (I _ m _ ((G _ _).2 ⟨.inr ?_,J⟩))
   rcases h1 with rfl | h1
   ·
    exact C
   exact h1.trans C
 exact key B (.inr h1) h.mem
theorem rZ.group(h:rZ l rev k bg L i q) (m:bH l rev k=true) (t:∀x y,y∈bg x↔(y=k∨bE l rev k y)∧Ld l rev y x) (hi:L.length≤i) {L':List Key}(B:sV L') (C:L'.Perm L):L'=aB l rev k:=
 sY B (mJ _ _ _) fun x=>(C.mem_iff).trans (h.done m t hi x)
end
/-! ### what has changed, and why a key would be run -/
section
variable {val:Key→ByteArray}{x:bZ}{k:Key}{r:Rec}
theorem H3(hi:ax k=true):aP val x k=(aL x.ab k).changed:=by unfold aP;rw [if_pos hi]
theorem H4(hi:ax k=false) (h:ay x.ai k=none):aP val x k=x.ad:=by grind [aP]
theorem H5(hi:ax k=false) (h:ay x.ai k=some r) (m:r.ak=x.ad):aP val x k=r.changed:=by grind [aP,aJ]
theorem yU(hi:ax k=false) (h:ay x.ai k=some r) (m:¬r.ak=x.ad):aP val x k=if val k=r.value then r.changed else x.ad:=by
 unfold aP
 rw [hi,aJ h,h]
 grind
def BZ(val:Key→ByteArray) (x:bZ) (c:ob):Bool:=decide ((aD x.ai c.eT).ak<aP val x c.read)
noncomputable def Er(val:Key→ByteArray) (x:bZ) (k:Key):Int × Key:=
 if (ax k || aA x k)=true then (0,de)
 else match ay x.ai k with
  | none=>(1,de)
  | some r=>if r.bU=true then (3,de) else
   match (bW x.ai (aB x.ai x.ad k)).find? (BZ val x) with
   | none=>(0,de)
   | some c=>(if c.eT=k then 2 else 3,c.read)
def KR(aa:List aF) (l:List Rec):Prop:=∀r∈l,eV aa r.key∧ax r.key=false∧∀a∈r.reads,eV aa a
theorem KR.Sj{aa:List aF}{l:List Rec}(h:KR aa l):∀r∈l,cn r.key:=fun r hr=>(h r hr).1.cn
theorem KR.aC{aa:List aF}{l:List Rec}(h:KR aa l) (hi:ax k=true):ay l k=none:=by
 cases m:ay l k with
 | none=>rfl
 | some r=>
  obtain⟨h1,t⟩:=aI m
  have:=(h r h1).2.1
  grind
theorem yV{l:List Rec}{rev:Int}(t:ay l k=some r):∀m∈aB l rev k,∃q,ay l m=some q:=fun m hm=>by
 rcases bK.1 hm with rfl | ⟨_,h⟩
 ·
  exact⟨r,t⟩
 obtain⟨q,B,_⟩:=bB.1 h.kg;exact⟨q,B⟩
theorem zQ{l:List Rec}(hr:∀r∈l,r.reads.length≤4000) {group:List Key}(h:group.length≤4001) (i:Nat):((group.take i).flatMap fun m=>cA group m (aD l m).reads).length≤100000000:=by
 have h1:∀s:List Key,(s.flatMap fun m=>cA group m (aD l m).reads).length≤s.length*4000:=by
  intro s
  induction s with
  | nil=>simp
  | cons m s t=>
   simp only [List.flatMap_cons,List.length_append,List.length_cons];have B:=iX group m (aD l m).reads
   have C:(aD l m).reads.length≤4000:=by
    cases D:ay l m with
    | none=>grind [aD,jB]
    | some r=>grind [aJ,aI]
   rw [Nat.add_mul]
   omega
 grind
end
end Go.Rc

namespace Go.Rc
open Go
theorem jI(n:bG):∀l:List bG,(dm n l false).find? (fun x=>x.key == n.key)=some n
 | []=>by simp [dm]
 | x::xs=>by
  by_cases h:0≤bj x.key n.key
  ·
   simp [dm,h]
  have h0:¬bj x.key n.key=0:=by omega
  have m:(x.key == n.key)=false:=by
   rw [beq_eq_false_iff_ne];intro e;rw [e,fe] at h0;exact h0 rfl
  have:=jI n xs
  simp [dm,h,h0,m,this]
theorem ew(n:bG) (l:List bG):aL (dm n l false) n.key=n:=by grind [aL,jI]
structure QK (x:bZ) (l:List Change) (y:bZ):Prop where
 same:∀k,(∀c∈l,c.key≠k)→aL y.ab k=aL x.ab k
 how:(y.ad=x.ad∧y.ab=x.ab)∨(y.ad=x.ad+1∧∀k,aL y.ab k=aL x.ab k∨(aL y.ab k).changed=x.ad+1)
theorem QK.refl(x:bZ) (l:List Change):QK x l x:=⟨fun _ _=>rfl,.inl ⟨rfl,rfl⟩⟩
theorem Es{rev:Int}{l li:List bG}(h:∀k,aL li k=aL l k∨(aL li k).changed=rev) (n:bG) (hn:n.changed=rev) (k:Key):aL (dm n li false) k=aL l k∨(aL (dm n li false) k).changed=rev:=by
 by_cases e:n.key=k
 ·
  grind [ew]
 rw [gG e];exact h k
/-! ### tasks -/
section
variable {aa:List aF}{H:Int→List bG}{x b:bZ}{bO:List Key}{k:Key}
theorem TI.begin(J:ao aa) (h:TI aa H x b [] bO) (hk:eV aa k) (hn:cG b [] k=true):TI aa H x b [⟨k,false,0,[],[]⟩] bO:=by
 have O:¬(ax k=true∨eb [] k=true∨aA b k=true):=fun h=>by grind [eZ]
 have h1:ax k=false:=by grind
 have B:aA b k=false:=by grind
 obtain⟨m,hm,C,_⟩:=hk.fk h1;refine⟨h.bi.R5 fun y D=>?_,h.wy,?_,fun f t=>?_⟩
 ·
  simp [eb] at D
 ·
  have:=TI.snoc (aa:=aa) (H:=H) (b0:=x) (b:=b) (p:=[]) (f:=⟨k,false,0,[],[]⟩) (fun p1 g q F=>by cases p1 <;> cases F) ⟨⟨m,hm,C⟩,rfl,fun i j _ _ _ G=>(by simp [eb] at G),fun hc=>(by cases hc),fun _=>⟨rfl,rfl,Int.le_refl _,fun _ j c I=>(by simp at I)⟩⟩
  exact this
 rw [List.mem_singleton] at t;subst t;refine⟨fun hr=>?_,h.wy.yT B⟩
 have:=h.wy.HS k hr
 grind
def TO(aa:List aF) (x:bZ) (t:KF):Prop:=∃H:Int→List bG,TI aa H x t.base t.stack t.bO
theorem TO.start(h:Bh aa x) (goals:List Key):TO aa x ⟨aa,x,goals,[],[]⟩:=by
 obtain⟨H,h⟩:=h;exact⟨H,h.R5 fun k hk=>(by cases hk),Wy.start x,fun p f q m=>(by cases p <;> cases m),fun f t=>(by cases t)⟩
/-! ### cancelled tasks -/
def eA(l:List bT) (rs:List Rec):List Rec:=l.foldl (fun rs f=>if aw f.key then gp rs f.key else rs) rs
theorem xU(rs:List Rec) (k:Key):(gp rs k).Sublist rs:=by grind [gp,List.filter_sublist]
theorem jJ:∀(l:List bT) (rs:List Rec),(eA l rs).Sublist rs∧∀r,r∈eA l rs↔r∈rs∧(eb l r.key && aw r.key)=false
 | [],rs=>⟨List.Sublist.refl _,fun r=>by simp [eA,eb]⟩
 | f::l,rs=>by
  have e:eA (f::l) rs=eA l (if aw f.key then gp rs f.key else rs):=rfl;obtain⟨h1,h⟩:=jJ l (if aw f.key then gp rs f.key else rs);rw [e];refine⟨h1.trans ?_,fun r=>?_⟩
  ·
   grind [xU]
  rw [h r]
  have m:eb (f::l) r.key=(decide (f.key=r.key) || eb l r.key):=by simp [eb]
  rw [m]
  by_cases hc:aw f.key=true
  ·
   rw [if_pos hc]
   unfold gp
   grind
  grind
theorem TO.cancel{t:KF}(h:TO aa x t):Bh aa ⟨t.base.ad,t.base.ab,eA t.stack t.base.ai⟩∧(∀y∈t.bO,aA ⟨t.base.ad,t.base.ab,eA t.stack t.base.ai⟩ y=true)∧(∀y,aA x y=true→aA ⟨t.base.ad,t.base.ab,eA t.stack t.base.ai⟩ y=true)∧(∀y∈t.bO,ax y=false∧aA x y=false)∧t.bO.Nodup:=by
 obtain⟨H,h⟩:=h;obtain⟨h1,D⟩:=jJ t.stack t.base.ai
 have hb:=h.bi.drop h1 fun r hr=>((D r).1 hr).2
 have G:lk (eA t.stack t.base.ai):=hb.st
 have ke:∀y,aA t.base y=true→eb t.stack y=false→aA ⟨t.base.ad,t.base.ab,eA t.stack t.base.ai⟩ y=true:=fun y hu hn=>by
  obtain⟨r,hr,I⟩:=aN.1 hu;obtain⟨g1,g2⟩:=aI hr
  grind [aN,eu]
 have C:∀y,(∀f∈t.stack,f.key≠y)→eb t.stack y=false:=fun y m=>by grind [eb]
 refine⟨⟨H,hb⟩,fun y m=>ke y (h.wy.HS y m) (C y fun f B e=>?_),fun y m=>ke y ?_ (C y fun f B e=>?_),fun y m=>⟨(h.wy.bO y m).1,(h.wy.bO y m).2.1⟩,h.wy.ju⟩
 ·
  rw [← e] at m;exact(h.nr f B).1 m
 ·
  have:=h.wy.ev
  have F:t.base.ad=x.ad:=h.wy.rev;exact this.aA F m
 have:=(h.nr f B).2
 rw [e,m] at this
 cases this
/-! ### bases of the mill -/
structure LC (aa:List aF) (x:bZ):Prop where
 lb:LB aa x
 bh:Bh aa x
theorem LC.apply(h:LC aa x) {y:bZ}{l:List Change}(m:QK x l y) (hr:y.ai=x.ai) (h0:x.ad≤y.ad) (h1:y.ad≤1073741824) (t:gh y.ad y.ab) (B:y.ab.length≤64):LC aa y:=by
 refine⟨h.lb.apply hr h0 h1 t B,?_⟩
 rcases m.how with⟨e1,e2⟩ | ⟨e1,e2⟩
 ·
  obtain⟨C,D,F⟩:=y;simp only at hr e1 e2;subst hr e1 e2;exact h.bh
 exact h.bh.apply hr e1 fun k=>by rw [e1];exact e2 k
theorem LC.task{t:KF}(h:LC aa x) (hb:BK aa x.ab x.ad t.base) (ht:TO aa x t):LC aa ⟨t.base.ad,t.base.ab,eA t.stack t.base.ai⟩:=⟨h.lb.task hb (jJ _ _).1,ht.cancel.1⟩
theorem LC.nil(aa:List aF) (y:bZ) (hr:y.ai=[]) (h0:0≤y.ad) (h1:y.ad≤1073741824) (h:gh y.ad y.ab) (m:y.ab.length≤64):LC aa y:=by
 refine⟨LB.nil y hr h0 h1 h m,?_⟩;obtain⟨t,B,C⟩:=y
 grind [Bh.new]
end
/-! ### reasons -/
section
variable {aa:List aF}{x y:bZ}{k:Key}{s:ES}
theorem Wy.runs(h:Wy aa x s) (hw:BQ (valOf aa x.ab) x k) (hu:aA s.b k=true):k∈s.bO:=by
 obtain⟨_,hn,hc⟩:=hw
 rcases h.XP k hn hu with h1 | h1
 ·
  exact h1
 have m:=h.ev.pt k
 have t:∀r,ay s.b.ai k=some r→r.ak=x.ad:=fun r hr=>by grind [aN,rev]
 rcases m with e | ⟨_,r,e1,e2,e3,_⟩ | ⟨⟨e1,_⟩,_⟩
 ·
  grind [aN]
 ·
  grind [aJ]
 exact e1
end
end Go.Rc

namespace Go.Rc
open Go
structure AO (x:bZ) (l:List Change) (y:bZ):Prop where
 one:∀c,l=[c]→(aL x.ab c.key).value≠c.value→x.ad+1≤1073741824→y=⟨x.ad+1,dm ⟨c.key,c.value,x.ad+1⟩ x.ab false,x.ai⟩
 KH:∀k,aL y.ab k=aL x.ab k∨(aL y.ab k).value≠(aL x.ab k).value
 src:∀k,aL y.ab k=aL x.ab k∨∃c∈l,(aL y.ab k).value=c.value
structure zR (x:bZ) (l:List Change) (i:Nat) (ch:Bool) (li:List bG):Prop where
 one:∀c,l=[c]→(i=0∧ch=false∧li=x.ab)∨(i=1∧((aL x.ab c.key).value=c.value∨(ch=true∧li=dm ⟨c.key,c.value,x.ad+1⟩ x.ab false)))
 KH:∀k,aL li k=aL x.ab k∨(aL li k).value≠(aL x.ab k).value
 src:∀k,aL li k=aL x.ab k∨∃c∈l,(aL li k).value=c.value
section
variable {x:bZ}{l:List Change}{i:Nat}{ch:Bool}{li:List bG}
theorem zR.start:zR x l 0 false x.ab:=⟨fun _ _=>.inl ⟨rfl,rfl,rfl⟩,fun _=>.inl rfl,fun _=>.inl rfl⟩
theorem zR.skip(h:zR x l i ch li) (hi:i<l.length) {m:Bool}(h1:l.length=i+1→m=true) (g:(!m || decide ((aL x.ab l[i].key).value=l[i].value))=true):zR x l (i+1) ch li:=by
 refine⟨fun c e=>?_,h.KH,h.src⟩;subst e
 have h0:i=0:=by simpa using hi
 subst h0;rw [h1 rfl] at g;exact .inr ⟨rfl,.inl (by simpa using g)⟩
theorem zR.put(h:zR x l i ch li) (hi:i<l.length) {t:Bool}(g:(!t || decide ((aL x.ab l[i].key).value=l[i].value))=false):zR x l (i+1) true (dm ⟨l[i].key,l[i].value,x.ad+1⟩ li false):=by
 refine⟨fun c e=>?_,fun k=>?_,fun k=>?_⟩
 ·
  subst e
  have h0:i=0:=by simpa using hi
  subst h0
  rcases h.one c rfl with⟨_,_,e⟩ | ⟨e,_⟩
  ·
   subst e;exact .inr ⟨rfl,.inr ⟨rfl,rfl⟩⟩
  cases e
 ·
  by_cases e:l[i].key=k
  ·
   subst e;have m:=ew ⟨l[i].key,l[i].value,x.ad+1⟩ li;simp only at m;rw [m]
   simp at g
   exact .inr fun e=>g.2 e.symm
  rw [gG e];exact h.KH k
 by_cases e:l[i].key=k
 ·
  subst e;have m:=ew ⟨l[i].key,l[i].value,x.ad+1⟩ li;simp only at m;rw [m];exact .inr ⟨l[i],List.getElem_mem hi,rfl⟩
 rw [gG e];exact h.src k
theorem zR.same(h:zR x l i ch li) (hi:l.length≤i) (hc:ch=false):AO x l x:=by
 refine⟨fun c e m _=>?_,fun _=>.inl rfl,fun _=>.inl rfl⟩;subst e
 rcases h.one c rfl with⟨e,_⟩ | ⟨_,e | ⟨e,_⟩⟩
 ·
  subst e;simp at hi
 ·
  exact absurd e m
 rw [hc] at e;cases e
theorem zR.done(h:zR x l i ch li) (hi:l.length≤i):AO x l ⟨x.ad+1,li,x.ai⟩:=by
 refine⟨fun c e m _=>?_,h.KH,h.src⟩;subst e
 rcases h.one c rfl with⟨e,_⟩ | ⟨_,e | ⟨_,e⟩⟩
 ·
  subst e;simp at hi
 ·
  exact absurd e m
 rw [e]
end
end Go.Rc

namespace Go.Rc
open Go
instance:Inhabited Key:=⟨de⟩
theorem zS{w w':World}(h:aQ [] w w'):∃q os,w'=Sort.grow (w.drewN q) os:=by
 refine⟨w'.drawn - w.drawn,w'.heap.extract w.heap.size w'.heap.size,?_⟩;obtain⟨B,ht,hu,C,D,hb⟩:=h
 have m:w'.heap=w.heap++w'.heap.extract w.heap.size w'.heap.size:=by grind
 have t:w'.drawn=w.drawn+(w'.drawn - w.drawn):=by omega
 generalize w'.heap.extract w.heap.size w'.heap.size=os at m
 generalize w'.drawn - w.drawn=q at t
 cases w'
 cases w
 simp only at B ht hu m t;subst B ht hu m t
 rfl
section
variable {α:Type} [Inhabited α] {row:α→List Value}{k:Nat}{key:α→Key}
theorem yW:Sort.SWO (Proofs.ltOf fun x y=>bj (key x) (key y)):=by
 refine⟨fun x=>?_,fun x y z h1 h=>?_,fun x y z h1 h=>?_⟩
 ·
  grind [Proofs.ltOf,fe]
 ·
  unfold Proofs.ltOf at *
  rw [decide_eq_true_eq] at *;exact eX h1 h
 grind [Proofs.ltOf,fN,eX,i1]
theorem td(hk:∀x,(row x).length=k) (l:List α):(l.map row).flatten.length=l.length*k:=by
 induction l with
 | nil=>simp
 | cons x r h=>simp only [List.map_cons,List.flatten_cons,List.length_append,List.length_cons,Nat.add_mul,h,hk];omega
theorem vn(hk:∀x,(row x).length=k) (l:List α) (t:Nat) (ht:t<l.length*k):(l.map row).flatten[t]?=some ((row (l.toArray[t / k]!))[t % k]!):=by
 have h0:0<k:=by rcases Nat.eq_zero_or_pos k with h | h;subst h;omega;exact h
 have hi:t / k<l.length:=(Nat.div_lt_iff_lt_mul h0).2 ht
 have hr:(l.map row)[t / k]?=some (row l[t / k]):=by grind
 have e:t=t / k*k+t % k:=by rw [Nat.mul_comm];exact(Nat.div_add_mod t k).symm
 have h1:(l.toArray[t / k]!)=l[t / k]:=by simp [hi]
 rw [h1];have hm:t % k<k:=Nat.mod_lt _ h0
 have h:=jy (l.map row) k (t / k) _ (fun r hr=>by obtain⟨x,_,rfl⟩:=List.mem_map.1 hr;exact hk x) hr (t % k) ((row l[t / k])[t % k]!) (by
  rw [List.getElem?_eq_getElem (by rw [hk];exact hm),getElem!_pos])
 rw [← e] at h;exact h
theorem zT(hk:∀x,(row x).length=k) {w:World}{b E:Nat}{cur:Array Value}{l:List α}(hb:w.heap[b]?=some (.cells cur E (0,0))) (ht:cur.toList.take (l.length*k)=(l.map row).flatten):Sort.HoldsK row k w b 0 l.toArray:=by
 unfold Sort.HoldsK
 intro j h;rw [Sort.size_flatK,List.size_toArray] at h;have h1:=vn hk l j h;rw [← ht,List.getElem?_take,if_pos h,Array.getElem?_toList] at h1;refine⟨?_,?_⟩
 ·
  unfold World.cell?
  simp only [hb,Nat.zero_add]
  grind [Sort.get_flatK]
 grind [World.frozen?]
theorem Et(hk:∀x,(row x).length=k) {w:World}{b E m:Nat}{os:Array Obj}{cur:Array Value}{l l':List α}(hb:w.heap[b]?=some (.cells cur E (0,0))) (ht:cur.toList.take (l.length*k)=(l.map row).flatten) (hl:l'.length=l.length):∃B:Array Value,(Proofs.sortWorldK row k w b 0 m l'.toArray os).heap[b]?=some (.cells B E (0,0))∧B.size=cur.size∧B.toList.take (l'.length*k)=(l'.map row).flatten:=by
 have C:b<w.heap.size:=(Array.getElem?_eq_some_iff.1 hb).1;refine⟨Sort.putCells id 0 (Sort.flatK row k l'.toArray) cur,?_,by unfold Sort.putCells;simp,?_⟩
 ·
  unfold Proofs.sortWorldK
  rw [Sort.heap_grow_old _ _ (by grind [Sort.putRowK,Sort.putRow,Sort.mapBlock,Sort.ahead])]
  unfold Sort.putRowK Sort.putRow Sort.mapBlock Sort.ahead
  simp only [Array.getElem?_modify,if_true,hb]
  rfl
 have hlen:l.length*k≤cur.size:=by
  have h1:=congrArg List.length ht;have D:=td hk l
  grind
 apply List.ext_getElem?
 intro t
 by_cases h:t<l'.length*k
 ·
  rw [vn hk l' t h,List.getElem?_take,if_pos h,Array.getElem?_toList]
  unfold Sort.putCells
  rw [hl] at h;rw [Array.getElem?_mapIdx,Array.getElem?_eq_getElem (by omega),Option.map_some];rw [if_pos ⟨Nat.zero_le _,by simp_all⟩,Nat.sub_zero,Sort.get_flatK _ _ _ _ (by rw [List.size_toArray,hl];exact h)]
  rfl
 rw [List.getElem?_eq_none (by rw [List.length_take];omega),List.getElem?_eq_none (by rw [td hk];omega)]
theorem B0{w:World}{b m:Nat}{os:Array Obj}{d:Array α}:aQ [b] w (Proofs.sortWorldK row k w b 0 m d os):=by
 refine⟨rfl,rfl,rfl,?_,?_,fun k hk hn=>?_⟩
 ·
  unfold Proofs.sortWorldK Sort.grow Sort.putRowK Sort.putRow Sort.mapBlock Sort.ahead
  simp
 ·
  exact Nat.le_add_right _ _
 unfold Proofs.sortWorldK
 rw [Sort.heap_grow_old _ _ (by grind [Sort.putRowK,Sort.putRow,Sort.mapBlock,Sort.ahead])]
 unfold Sort.putRowK Sort.putRow Sort.mapBlock Sort.ahead
 grind
theorem r5{P:Program}{F g E:Nat}(hk:∀x,(row x).length=k) (h1:∀x,∀v∈row x,v.oneCell'=true) (J:∀(blk cap:Nat) (d:Array α) (w:World),Proofs.CmpLays P g #[] row k (fun x y=>bj (key x) (key y)) blk 0 d.size w→Sort.HoldsK row k w blk 0 d→blk<w.heap.size→d.size<4611686018427387904→Calls P F #[.slice (some ⟨blk,0,none⟩) d.size cap,.func (.func g) #[] #[]] w fun e w'=>e=.returned (.tuple #[])∧∃d' n os,Sort.PermIn 0 d.size d d'∧Sort.SortedIn (Proofs.ltOf fun x y=>bj (key x) (key y)) 0 d.size d'∧w'=Proofs.sortWorldK row k w blk 0 n d' os)
  (hcmp:∀(x y:α) (w:World),Calls P g #[.agg (row x).toArray,.agg (row y).toArray] w fun e w'=>e=.returned (.int .i64 (bj (key x) (key y)))∧aQ [] w w')
  {l:List α}{a:Option Addr}{n c:Nat}{w:World}{M Z:Nat→Prop}(C:St w M Z w [As.os (RR.flat row) E k a n c l]) (h0:l≠[]) (hn:l.length≤1000000):Calls P F #[.slice a n c,.func (.func g) #[] #[]] w fun e w'=>e=.returned (.tuple #[])∧∃l',l'.Perm l∧(l'.Pairwise fun x y=>¬bj (key y) (key x)<0)∧St w M Z w' [As.os (RR.flat row) E k a n c l']:=by
 have O:=As.gs C.g0;obtain⟨t,rows,QL,hrk,Q,S⟩:=id O
 have V:rows=l.map row:=by
  apply List.ext_getElem?
  intro i;rw [List.getElem?_map]
  by_cases hi:i<l.length
  ·
   rw [List.getElem?_eq_getElem (by omega),List.getElem?_eq_getElem hi]
   have:=S i l[i] rows[i] (List.getElem?_eq_getElem hi) (List.getElem?_eq_getElem (by omega))
   rw [RR.bp this]
   rfl
  grind
 rcases Q.cases with⟨g1,g2,_⟩ | ⟨b,cur,rfl,KI,hb,W,X,Y,ht⟩
 ·
  grind
 rw [V,t] at ht;have Sk:b<w.heap.size:=(Array.getElem?_eq_some_iff.1 hb).1
 have hc:Proofs.CmpLays P g #[] row k (fun x y=>bj (key x) (key y)) b 0 l.toArray.size w:=fun m os dk _ x y=>(hcmp x y _).mono fun e w' ⟨h1,h2⟩=>⟨h1,zS h2⟩
 have D:=J b c l.toArray w hc (zT hk hb ht) Sk (by rw [List.size_toArray];omega);rw [List.size_toArray,← t] at D;refine D.mono ?_;rintro e w' ⟨rfl,d',m,os,⟨B,_,hd3⟩,G,rfl⟩;rw [t] at hd3 G
 have B:d'.size=l.length:=by rw [B,List.size_toArray]
 have I:d'.toList.Perm l:=by grind [Array.extract_size]
 obtain⟨l',rfl⟩:∃l':List α,d'=l'.toArray:=⟨d'.toList,by simp⟩
 have hl:l'.length=l.length:=by simpa using B
 simp only at I;obtain⟨Sl,g1,g2,g3⟩:=Et hk (m:=m) (os:=os) hb ht hl;refine⟨rfl,l',I,?_,?_⟩
 ·
  rw [List.pairwise_iff_getElem];intro i j hi hj hij;have h1:=G i j (Nat.zero_le _) hij (by omega)
  grind [Proofs.ltOf]
 refine C.gK (w':=Proofs.sortWorldK row k w b 0 m l'.toArray os) (B0.mono fun x h=>by simpa [bN] using h) ?_ (fun x h=>.inl h);refine⟨by omega,l'.map row,by simp,fun r hr=>by obtain⟨x,_,rfl⟩:=List.mem_map.1 hr;exact hk x,?_,fun i x r h hr=>?_⟩
 ·
  refine⟨fun u hu=>?_,?_,.inr ⟨b,c,Sl,rfl,Nat.zero_le _,g1,W,X,by rw [g2];exact Y,by grind⟩⟩
  ·
   obtain⟨r,hr,hu⟩:=List.mem_flatten.1 hu;obtain⟨x,_,rfl⟩:=List.mem_map.1 hr;exact h1 x u hu
  rw [td hk]
  grind
 rw [List.getElem?_map,h] at hr
 cases hr
 rfl
end
end Go.Rc

namespace Go.Rc
open Go
inductive eM (aa:List aF) (val:Key→ByteArray) (goals:List Key) (x:bZ):bZ→List bT→List Key→Prop where
 | start:eM aa val goals x x [] []
 | take {b:bZ}{bO:List Key}{k:Key}:eM aa val goals x b [] bO→k∈goals→cG b [] k=true→eM aa val goals x b [⟨k,false,0,[],[]⟩] bO
 | step {b b':bZ}{p l':List bT}{f:bT}{bO rk:List Key}:eM aa val goals x b (p++[f]) bO→FS aa val b p f b' l' rk 0→l'≠p++[f]→eM aa val goals x b' l' (bO++rk)
section
variable {aa:List aF}{H:Int→List bG}{x b b':bZ}{p q l l':List bT}{f g:bT}{bO rk goals:List Key}{k y:Key}{val:Key→ByteArray}{er:Int}
theorem FS.QM(m:FS aa val b p f b' l' rk er) (hu:aA b y=true):aA b' y=true:=by
 have hm:∀G,aA (dI b G false) y=true:=fun G=>by
  obtain⟨r,hr,h⟩:=aN.1 hu;refine aN.2 ⟨aW b.ad G false r,bL.trans (by rw [hr];rfl),?_⟩
  unfold aW
  grind [dI]
 cases m with
 | put=>
  obtain⟨r,hr,h⟩:=aN.1 hu;rw [aN];simp only [cD]
  by_cases e:y=(cc b f.key (aO aa f.key f.ae).value f.reads).key
  ·
   rw [if_pos e];exact⟨_,rfl,rfl⟩
  rw [if_neg e];exact⟨r,hr,h⟩
 | mark=>exact hm _
 | fail=>
  split
  ·
   rw [lV];exact hu
  exact hu
 | _=>exact hu
theorem FS.bot(h:FS aa val b p f b' l' rk er) (hb:aA b k=true∨∃g q,p++[f]=g::q∧g.key=k):aA b' k=true∨∃g q,l'=g::q∧g.key=k:=by
 rcases hb with hb | ⟨g,q,e,hk⟩
 ·
  exact .inl (h.QM hb)
 have key:∀{z:bT}{r:List bT},z.key=f.key→∃g q,p++z::r=g::q∧g.key=k:=fun {z r} t=>by
  cases p with
  | nil=>
   simp only [List.nil_append,List.cons.injEq] at e ⊢;exact⟨z,r,⟨rfl,rfl⟩,by rw [t,e.1,hk]⟩
  | cons a m=>
   simp only [List.cons_append,List.cons.injEq] at e ⊢;exact⟨a,_,⟨rfl,rfl⟩,by rw [e.1,hk]⟩
 have kp:aA b' f.key=true→aA b' k=true∨∃g q,p=g::q∧g.key=k:=fun hu=>by
  cases p with
  | nil=>
   simp only [List.nil_append,List.cons.injEq] at e;exact .inl (by rw [← hk,← e.1];exact hu)
  | cons a m=>
   simp only [List.cons_append,List.cons.injEq] at e;exact .inr ⟨a,m,rfl,by rw [e.1,hk]⟩
 cases h with
 | put=>exact kp (i6 (r:=cc b f.key (aO aa f.key f.ae).value f.reads) rfl)
 | up _ hu=>exact kp hu
 | mark _ hl=>
  obtain⟨r,h1,_⟩:=hl;exact kp (fq (by rw [h1];rfl) ep)
 | push=>exact .inr (by rw [List.append_assoc];exact key rfl)
 | rV=>exact .inr (by rw [List.append_assoc];exact key rfl)
 | _=>exact .inr (key rfl)
theorem FS.keeps(t:ao aa) {aC:List bG}{rev:Int}(hb:BK aa aC rev b) (C:∀g∈p++[f],fX aa g) (J:FS aa val b p f b' l' rk 0) (hn:(!(ay b.ai f.key).isSome && decide (4000≤b.ai.length))=false):BK aa aC rev b'∧∀g∈l',fX aa g:=by
 have h:fX aa f:=C f (by simp);have D:∀g∈p,fX aa g:=fun g F=>C g (List.mem_append_left _ F)
 have B:∀{z:bT},fX aa z→∀g∈p++[z],fX aa g:=fun O g F=>by grind
 have G:∀{z:bT},fX aa z→∀g∈p++[f]++[z],fX aa g:=fun O g F=>by grind
 cases J with
 | stay=>exact⟨hb,C⟩
 | put hr m=>
  have hl:=h.len;have Q:=h.fk.le t;exact⟨hb.put h.key ⟨by show f.reads.length≤4000;omega,h.xB⟩ hn (xG t hb.qF h.fk m h.len h.xB) (Int.le_refl _),D⟩
 | push hr m hl=>
  obtain⟨I,h1⟩:=h.fk.next t m;exact⟨hb,G (fX.new h1 (pr hl))⟩
 | read hr m h1 S=>
  obtain⟨I,h1⟩:=h.fk.next t m;exact⟨hb,B (h.read h1 I)⟩
 | up=>exact⟨hb,D⟩
 | start=>exact⟨hb,B h.runs⟩
 | mark=>exact⟨hb.BH _,D⟩
 | rV c hr hl hc hk=>exact⟨hb,G (fX.new (BD hb.fO hc) (pr hk))⟩
 | pass=>exact⟨hb,B h.step⟩
 | fail=>
  refine⟨?_,B h.runs⟩
  split
  ·
   rename_i hc
   exact hb.BI (xF hc)
  exact hb
/-! ### the end -/
theorem TI.nodup(h:TI aa H x b l bO):(l.map (·.key)).Nodup:=by
 refine List.pairwise_iff_getElem.2 fun i j hi m B=>?_;simp only [List.length_map] at hi m;simp only [List.getElem_map];intro e;have t:=h.fr (l.take j) l[j] (l.drop (j+1)) (by simp);have hn:=t.new
 unfold eb at hn
 rw [List.any_eq_false] at hn;refine hn l[i] (List.mem_take_iff_getElem.2 ⟨i,by omega,rfl⟩) ?_
 simpa using e
theorem TI.eU(h:TI aa H x b l bO) (m:f∈l):∃i:Nat,i<aa.length∧f.key=aK aa (i:Int):=by
 obtain⟨p1,q1,t⟩:=List.append_of_mem m;exact(h.fr p1 f q1 t).key
theorem TI.xV(h:TI aa H x b l bO):l.length≤aa.length:=by
 have:=dX h.nodup (S:=(List.range aa.length).map fun i:Nat=>aK aa (i:Int)) fun k hk=>by
  obtain⟨f,m,rfl⟩:=List.mem_map.1 hk;obtain⟨i,hi,e⟩:=h.eU m;exact List.mem_map.2 ⟨i,List.mem_range.2 hi,e.symm⟩
 simpa using this
def uw(aa:List aF) (b:bZ):Nat:=Gq (fun i=>!aA b (aK aa (i:Int))) aa.length
def r6(f:bT):Nat:=if f.running then 10000 - f.reads.length else 10001+(200000000 - f.at_.toNat)
def KJ(aa:List aF) (b:bZ) (l:List bT):Nat:=
 ((uw aa b*100+l.countP fun f=>aA b f.key)*100+(50 - l.countP fun f=>!aA b f.key))*1000000000+(l.getLast?.map r6).getD 0
theorem H6(f:bT):r6 f≤200010001:=by
 unfold r6
 split <;> omega
theorem B1(h:bT→Bool) (l:List bT):l.countP h+l.countP (fun f=>!h f)=l.length:=by
 induction l with
 | nil=>rfl
 | cons a l m=>
  simp only [List.countP_cons,List.length_cons]
  cases h a <;> simp <;> omega
theorem B2{n u v t B m v' C:Nat}(h1:u+v≤24) (D:m+v'≤24) (ht:C≤200010001) (h:B<n∨B=n∧(m<u∨m=u∧(v<v'∨v'=v∧C<t))):((B*100+m)*100+(50 - v'))*1000000000+C<((n*100+u)*100+(50 - v))*1000000000+t:=by omega
theorem H7(h:∀y,aA b y=true→aA b' y=true):uw aa b'≤uw aa b:=xC fun i _ m=>by
 cases t:aA b (aK aa (i:Int)) with
 | false=>rfl
 | true=>rw [h _ t] at m;cases m
theorem B3(h:∀y,aA b y=true→aA b' y=true) {i:Nat}(hi:i<aa.length) (h0:aA b (aK aa (i:Int))=false) (h1:aA b' (aK aa (i:Int))=true):uw aa b'<uw aa b:=
 BE (j:=i) (fun i _ m=>by
  cases t:aA b (aK aa (i:Int)) with
  | false=>rfl
  | true=>rw [h _ t] at m;cases m) hi (by rw [h0];rfl) (by rw [h1];rfl)
theorem zU(O:ao aa) (h:TI aa H x b (p++[f]) bO) (Q:TI aa H x b' l' (bO++rk)) (S:∀G:List Key,G.length≤4001→(bW b.ai G).length≤100000000) (hlen:b.ai.length≤4000) (h4:f.reads.length<4000) (I:FS aa val b p f b' l' rk 0) (V:l'≠p++[f]):KJ aa b' l'<KJ aa b (p++[f]):=by
 have DC:=O.1;have hh:=h.xV;have hh':=Q.xV;have hc:=B1 (fun f=>aA b f.key) (p++[f]);have hc':=B1 (fun f=>aA b' f.key) l'
 have W:(l'.getLast?.map r6).getD 0≤200010001:=by
  cases l'.getLast? with
  | none=>simp
  | some g=>exact H6 g
 have D:=fun y=>I.QM (y:=y);obtain⟨i,hi,C⟩:=h.top.key;have aaN:uw aa b'≤uw aa b:=H7 D
 unfold KJ
 refine B2 (by omega) (by omega) W ?_
 have X:((p++[f]).getLast?.map r6).getD 0=r6 f:=by simp
 rw [X]
 have Y:∀z:bT,((p++[z]).getLast?.map r6).getD 0=r6 z:=fun z=>by simp
 have same:∀{z:bT},z.key=f.key→r6 z<r6 f→uw aa b<uw aa b∨uw aa b=uw aa b∧((p++[z]).countP (fun f=>aA b f.key)<(p++[f]).countP (fun f=>aA b f.key)∨(p++[z]).countP (fun f=>aA b f.key)=(p++[f]).countP (fun f=>aA b f.key)∧((p++[f]).countP (fun f=>!aA b f.key)<(p++[z]).countP (fun f=>!aA b f.key)∨(p++[z]).countP (fun f=>!aA b f.key)=(p++[f]).countP (fun f=>!aA b f.key)∧((p++[z]).getLast?.map r6).getD 0<r6 f)):=fun {z} m t=>by
  refine .inr ⟨rfl,.inr ⟨?_,.inr ⟨?_,?_⟩⟩⟩
  ·
   simp only [List.countP_append,List.countP_singleton,m]
  ·
   simp only [List.countP_append,List.countP_singleton,m]
  rw [Y];exact t
 have push:∀{z:bT},aA b z.key=false→uw aa b<uw aa b∨uw aa b=uw aa b∧((p++[f]++[z]).countP (fun f=>aA b f.key)<(p++[f]).countP (fun f=>aA b f.key)∨(p++[f]++[z]).countP (fun f=>aA b f.key)=(p++[f]).countP (fun f=>aA b f.key)∧((p++[f]).countP (fun f=>!aA b f.key)<(p++[f]++[z]).countP (fun f=>!aA b f.key)∨(p++[f]++[z]).countP (fun f=>!aA b f.key)=(p++[f]).countP (fun f=>!aA b f.key)∧((p++[f]++[z]).getLast?.map r6).getD 0<r6 f)):=fun {z} m=>by
  refine .inr ⟨rfl,.inr ⟨?_,.inl ?_⟩⟩
  ·
   rw [List.countP_append (l₁:=p++[f]),List.countP_singleton,m]
   rfl
  rw [List.countP_append (l₁:=p++[f]),List.countP_singleton,m]
  simp
 have XU:=pf b.ai b.ad f.key;have aaO:=S (aB b.ai b.ad f.key) (by omega)
 cases I with
 | stay=>exact absurd rfl V
 | put hr J=>
  obtain⟨_,B,_⟩:=h.top.run hr;rw [C] at B;refine .inl (B3 D hi B ?_);rw [← C];exact i6 (r:=cc b f.key (aO aa f.key f.ae).value f.reads) rfl
 | push hr J hl=>exact push (py hl).2.2
 | read hr J h1 h3=>
  refine same (z:={f with reads:=f.reads++[(aO aa f.key f.ae).ask],ae:=f.ae++[cB val b (aO aa f.key f.ae).ask]}) rfl ?_
  unfold r6
  simp only [hr,if_true,List.length_append,List.length_singleton]
  omega
 | up hr hu=>
  refine .inr ⟨rfl,.inl ?_⟩;rw [List.countP_append,List.countP_singleton,hu]
  simp
 | start hr hu hx=>
  refine same (z:={f with running:=true,at_:=0}) rfl ?_
  unfold r6
  simp only [hr,if_true]
  simp
  omega
 | mark hr hl hn=>
  obtain⟨r,g1,_,g3⟩:=hl;have B:=mK g1 g3;rw [C] at B;refine .inl (B3 D hi B ?_);rw [← C];exact fq (by rw [g1];rfl) ep
 | rV c hr hl F hk=>exact push (py hk).2.2
 | pass c hr hl F DF L4 hle=>
  have h5:=(h.top.AG hr).2.2.1;have h6:=(List.getElem?_eq_some_iff.1 F).1;refine same (z:={f with at_:=f.at_+1}) rfl ?_
  unfold r6
  simp only [hr]
  simp
  omega
 | fail c hr hl F DF L4 t=>
  have t:r6 {f with running:=true,at_:=0}<r6 f:=by
   unfold r6
   simp only [hr,if_true]
   simp
   omega
  split
  ·
   have he:∀y,aA (dI b (aB b.ai b.ad f.key) true) y=aA b y:=fun y=>lV
   have hn:uw aa (dI b (aB b.ai b.ad f.key) true)=uw aa b:=by unfold uw;simp only [he]
   simp only [he];rw [hn];exact same (z:={f with running:=true,at_:=0}) rfl t
  exact same (z:={f with running:=true,at_:=0}) rfl t
/-! ### what is known of what a request reaches -/
theorem eM.inv(m:ao aa) (F:LC aa x) (hk:∀k∈goals,eV aa k) (h:eM aa (valOf aa x.ab) goals x b l bO):(∃H,TI aa H x b l bO)∧BK aa x.ab x.ad b∧∀f∈l,fX aa f:=by
 induction h with
 | start=>exact⟨TO.start F.bh [],F.lb.ok,fun f t=>by cases t⟩
 | @take b bO k h1 G hn D=>
  obtain⟨⟨H,B⟩,C,I⟩:=D;refine⟨⟨H,B.begin m (hk _ G) hn⟩,C,fun f t=>?_⟩;rw [List.mem_singleton] at t;subst t
  have J:¬(ax k=true∨eb [] k=true∨aA b k=true):=fun h=>by have:=eZ.2 h;rw [hn] at this;cases this
  exact fX.new (hk _ G) (by
   cases hi:ax k with
   | false=>rfl
   | true=>exact absurd (.inl hi) J)
 | step h1 O J D=>
  obtain⟨⟨H,B⟩,C,I⟩:=D;have hl:=B.bi.len;have V:=m.1;obtain⟨Q,S⟩:=FS.keeps m C I O (by simp;intro;omega);exact⟨⟨H,(kV m B C.fO O).2⟩,Q,S⟩
theorem eM.less(m:ao aa) (F:LC aa x) (hk:∀k∈goals,eV aa k) (h:eM aa (valOf aa x.ab) goals x b (p++[f]) bO) (B:FS aa (valOf aa x.ab) b p f b' l' rk 0) (I:l'≠p++[f]):KJ aa b' l'<KJ aa b (p++[f]):=by
 obtain⟨⟨H,C⟩,t,J⟩:=h.inv m F hk;have D:=J f (by simp);have hl:=D.len;have Q:=D.fk.le m;exact zU m C (kV m C t.fO B).2 (fun G O=>D9 t.fO O) t.fO.len (by omega) B I
theorem eM.Me(m:ao aa) (t:LC aa x) (hk:∀k∈goals,eV aa k) (h:eM aa (valOf aa x.ab) goals x b (p++[f]) bO) (B:FS aa (valOf aa x.ab) b p f b' l' rk er):er=0:=by
 obtain⟨⟨H,C⟩,D,F⟩:=h.inv m t hk;exact(kV m C D.fO B).1
end
end Go.Rc

namespace Go.Rc
open Go
theorem pC(l:List Rec) (k y:Key):ay (gp l k) y=if y=k then none else ay l y:=by
 unfold ay gp
 rw [List.find?_filter]
 split
 ·
  rename_i e
  subst e;rw [List.find?_eq_none];intro x _
  simp
 congr 1
 funext x
 grind
section
variable {RT:Nat}{q:RL}{lf:Key→RL}{l l':List Rec}{r r':Rec}{k:Key}{ml:List (Key × Value)}{w0 w:World}{M Z:Nat→Prop}{L:List As}
theorem dd{y:Key}(h:ay (gp l k) y=some r):y≠k∧ay l y=some r:=by
 rw [pC] at h
 split at h
 ·
  cases h
 exact⟨‹_›,h⟩
theorem As.te{w:World}{Z:Nat→Prop}(h:(As.dR RT lf l).ok Z w) (k:Key):(As.dR RT lf (Rc.gp l k)).ok Z w:=⟨fun y r m=>h.1 y r (dd m).2,fun y t r r' h1 B=>h.2 y t r r' (dd h1).2 (dd B).2⟩
theorem St.te(h:St w0 M Z w (As.dR RT lf l::L)) (k:Key):St w0 M Z w (As.dR RT lf (Rc.gp l k)::L):=
 h.conv (As.te h.g0 k) fun x ⟨y,r,m,e⟩=>⟨y,r,(dd m).2,e⟩
theorem St.B4(h:St w0 M Z w (As.dR RT lf l::L)) (hk:ay l k=some r):St w0 M Z w (As.blk (lf k).b RT (r.row (lf k).a (lf k).n (lf k).c)::As.dR RT lf (Rc.gp l k)::L):=by
 have m:(As.dR RT lf l).ok Z w:=h.g0;refine h.split (m.1 k r hk).1 (As.te m k) (fun x t=>⟨k,r,hk,t⟩) (fun x ⟨y,r,B,e⟩=>⟨y,r,(dd B).2,e⟩) fun x t ⟨y,r2,B,e⟩=>?_;obtain⟨h1,C⟩:=dd B;exact h1 (m.2 y k _ _ C hk (e.symm.trans t))
theorem Eu:qI lf k (lf k)=lf:=by
 funext y
 unfold qI
 grind
theorem St.yX(h:St w0 M Z w (As.blk (lf k).b RT (r'.row (lf k).a (lf k).n (lf k).c)::As.dR RT lf (Rc.gp l k)::L)) (hk:r'.key=k) (hr:Rd RR.key 2 Z w (lf k).a (lf k).n (lf k).c r'.reads) (m:r'.reads.length≤4000) (hl:∀y,ay l' y=if y=k then some r' else ay l y):St w0 M Z w (As.dR RT lf l'::L):=by
 subst hk
 have:=St.tb (q:=lf r'.key) (l':=l') h hr m fun y=>by
  rw [hl y,pC]
  split
  ·
   rfl
  rfl
 rwa [Eu] at this
theorem cy.mark(h:cy l lf ml) (rev:Int) (G:List Key) (d:Bool):cy (l.map (aW rev G d)) lf ml:=fun y=>by
 rw [h y,bL]
 cases ay l y <;> rfl
theorem cy.len(h:cy l lf ml) (hn:(ml.map (·.1)).Nodup):ml.length≤l.length:=by
 have h1:=dX hn (S:=l.map (·.key)) fun x t=>by
  cases m:ay l x with
  | none=>
   have B:bw ml x=none:=by rw [h x,m];rfl
   exact absurd t (j3.1 B)
  | some r=>
   obtain⟨g1,g2⟩:=aI m;exact List.mem_map.2 ⟨r,g1,g2⟩
 simpa using h1
theorem nK{rev:Int}{G:List Key}{i:Nat}(hi:i<G.length) (d:Bool) (h:ay (l.map (aW rev (G.take i) d)) G[i]=some r) (y:Key):ay (l.map (aW rev (G.take (i+1)) d)) y=if y=G[i] then some (if d then {r with bU:=true} else {r with ak:=rev}) else ay (l.map (aW rev (G.take i) d)) y:=by
 have hT:G.take (i+1)=G.take i++[G[i]]:=List.take_succ_eq_append_getElem hi;rw [bL,bL,hT];rw [bL] at h
 by_cases e:y=G[i]
 ·
  rw [if_pos e,e]
  cases hr:ay l G[i] with
  | none=>rw [hr] at h;cases h
  | some q=>
   rw [hr] at h;simp only [Option.map_some,Option.some.injEq] at h ⊢;have m:=(aI hr).2;subst h
   unfold aW
   rw [if_pos (show q.key∈G.take i++[G[i]] from List.mem_append_right _ (List.mem_singleton.2 m))]
   cases d <;> grind
 rw [if_neg e]
 cases hr:ay l y with
 | none=>rfl
 | some q=>
  have m:=(aI hr).2;simp only [Option.map_some,Option.some.injEq]
  unfold aW
  grind
theorem pD{rev:Int}{G:List Key}{d:Bool}:l.map (aW rev (G.take 0) d)=l:=by
 simp only [List.take_zero]
 unfold aW
 simp
theorem pE{rev:Int}{g:List Key}{d:Bool}(h:∃r,ay l k=some r):∃r,ay (l.map (aW rev g d)) k=some r∧r.key=k:=by
 obtain⟨r,hr⟩:=h
 have h1:ay (l.map (aW rev g d)) k=some (aW rev g d r):=by rw [bL,hr];rfl
 exact⟨_,h1,(aI h1).2⟩
end
/-! ### own slices that lose their last -/
section
variable {α:Type}{R:RR α}{E k n c:Nat}{a:Option Addr}{xs:List α}{x:α}{w0 w:World}{M Z:Nat→Prop}{L:List As}
theorem Ow.pop(h:Ow R E k Z w a n c (xs++[x])):Ow R E k Z w a xs.length c xs:=by
 obtain⟨hn,rows,hl,hk,m,C⟩:=h
 rcases List.eq_nil_or_concat rows with rfl | ⟨rs,r,rfl⟩
 ·
  simp at hl
 rw [List.concat_eq_append] at hl hk m C
 have D:rs.length=xs.length:=by simpa using hl
 have hr:r.length=k:=hk r (by simp)
 have t:rs.flatten.length=xs.length*k:=by
  have:∀(q:List (List Value)),(∀r∈q,r.length=k)→q.flatten.length=q.length*k:=by
   intro q F
   induction q with
   | nil=>simp
   | cons a q I=>simp only [List.flatten_cons,List.length_append,List.length_cons,Nat.add_mul];rw [F a (by simp),I fun r hr=>F r (by simp [hr])];omega
  rw [this rs fun r hr=>hk r (by simp [hr]),D]
 refine⟨rfl,rs,D,fun r hr=>hk r (by simp [hr]),?_,fun i y s h1 B=>C i y s (by grind) (by grind)⟩;have h1:=m.1
 rcases m.cases with⟨rfl,rfl,rfl,S⟩ | ⟨g,cur,rfl,hb,J,V,O,hsz,G⟩
 ·
  simp at hn
 simp only [List.flatten_append,List.flatten_cons,List.flatten_nil,List.append_nil] at G h1;simp only [List.length_append,List.length_singleton] at hn
 have ht:cur.toList.take (xs.length*k)=rs.flatten:=by
  have B:=congrArg (List.take (xs.length*k)) G;have Q:xs.length*k≤n*k:=Nat.mul_le_mul_right _ (by omega);rw [List.take_take,Nat.min_eq_left Q,List.take_append_of_le_length (Nat.le_of_eq t.symm),List.take_of_length_le (Nat.le_of_eq t)] at B;exact B
 refine⟨fun u hu=>h1 u (List.mem_append_left _ hu),t,.inr ⟨g,c,cur,rfl,hb,J,by omega,O,hsz,ht⟩⟩
theorem St.H8(h:St w0 M Z w (As.os R E k a n c (xs++[x])::L)):St w0 M Z w (As.os R E k a xs.length c xs::L):=h.conv (Ow.pop h.g0) fun _ h=>h
end
/-! ### what the frames of a stack own -/
def r7(EK ES:Nat) (L:List (bT × ek)):List As:=L.reverse.flatMap fun e=>[As.os RR.key EK 2 e.2.a e.2.n e.2.c e.1.reads,As.os RR.str ES 1 e.2.a2 e.2.n2 e.2.c2 e.1.ae]
theorem lY(EK ES:Nat) (L:List (bT × ek)) (f:bT) (A:ek):r7 EK ES (L++[(f,A)])=As.os RR.key EK 2 A.a A.n A.c f.reads::As.os RR.str ES 1 A.a2 A.n2 A.c2 f.ae::r7 EK ES L:=by simp [r7]
section
variable {EK ES:Nat}{L:List (bT × ek)}{f g:bT}{A:ek}{w0 w:World}{M Z:Nat→Prop}{l:List As}
theorem St.Gv(h:St w0 M Z w (As.many (r7 EK ES (L++[(f,A)]))::l)):St w0 M Z w (As.os RR.key EK 2 A.a A.n A.c f.reads::As.os RR.str ES 1 A.a2 A.n2 A.c2 f.ae::As.many (r7 EK ES L)::l):=by
 rw [lY] at h;exact h.sU.p1.sU.p2
theorem St.Ew(h:St w0 M Z w (As.os RR.key EK 2 A.a A.n A.c f.reads::As.os RR.str ES 1 A.a2 A.n2 A.c2 f.ae::As.many (r7 EK ES L)::l)):St w0 M Z w (As.many (r7 EK ES (L++[(f,A)]))::l):=by
 rw [lY];exact h.p2.p2.xJ.p1.xJ
theorem St.B5(h:St w0 M Z w (As.many (r7 EK ES L)::l)) (hr:g.reads=[]) (m:g.ae=[]):St w0 M Z w (As.many (r7 EK ES (L++[(g,⟨none,0,0,none,0,0⟩)]))::l):=by
 refine St.Ew ?_;rw [hr,m];exact(h.gx RR.str ES 1).gx RR.key EK 2
theorem B6(h1:g.reads=f.reads) (h:g.ae=f.ae):r7 EK ES (L++[(g,A)])=r7 EK ES (L++[(f,A)]):=by rw [lY,lY,h1,h]
end
/-! ### what a stack finds -/
section
variable {x:bZ}{l:List bT}{k:Key}{val:Key→ByteArray}{r:Rec}
theorem Ex(L:List (bT × ek)) (k:Key):(L.any fun x=>decide (x.1.key=k))=eb (L.map Prod.fst) k:=by
 unfold eb
 rw [List.any_map]
 rfl
theorem B7(h:(eb l k && !aw k)=true):bD x l [] k=3:=by
 rw [fh,if_pos (by rw [Bool.and_comm];exact h)]
theorem B8(h:(eb l k && !aw k)=false) (m:(eb l k || (ax k || aA x k))=true):bD x l [] k=0:=by
 have hn:cG x l k=false:=eZ.2 (by grind);rw [fh,if_neg (by rw [Bool.and_comm,h];simp),hn]
 rfl
theorem B9(h:(eb l k && !aw k)=false) (t:(eb l k || (ax k || aA x k))=false):bD x l [] k=1:=by
 have hn:cG x l k=true:=by
  cases m:cG x l k with
  | true=>rfl
  | false=>have:=eZ.1 m;grind
 rw [fh,if_neg (by rw [Bool.and_comm,h];simp),hn]
 rfl
theorem zV:bD x [] [] k=if cG x [] k=true then 1 else 0:=by rw [fh];simp [eb]
theorem H9(hi:ax k=true):cB val x k=(aL x.ab k).value:=by
 have hc:aw k=false:=by
  have h:k.kind=1∨k.kind=2∨k.kind=30:=by unfold ax at hi;simpa using hi
  rcases h with h | h | h <;> simp [aw,h,gZ]
 unfold cB iy
 rw [hc,hi]
 rfl
theorem Ey(hc:aw k=true):cB val x k=val k:=if_pos hc
theorem Ez(hi:ax k=false) (hc:aw k=false) (h:ay x.ai k=some r) (m:r.ak=x.ad):cB val x k=r.value:=by
 unfold cB iy fo
 rw [hc,hi]
 grind [aJ]
theorem Ca{v:ByteArray}{rd:List Key}(h:ay x.ai k=none):cc x k v rd=⟨k,v,rd,x.ad,x.ad,1+(rd.length:Int),false⟩:=by
 unfold cc
 rw [h]
 rfl
theorem Cb{v:ByteArray}{rd:List Key}(h:ay x.ai k=some r):cc x k v rd=⟨k,v,rd,if r.value=v then r.changed else x.ad,x.ad,1+(rd.length:Int),false⟩:=by
 unfold cc
 rw [aJ h,h]
 simp
end
/-! ### a step of the work -/
section
variable {aa:List aF}{val:Key→ByteArray}{b b':bZ}{L L':List (bT × ek)}{f g:bT}{A:ek}{rk:List Key}{er:Int}{k:Key}
def FT(aa:List aF) (val:Key→ByteArray) (b:bZ) (L:List (bT × ek)) (f:bT) (A:ek) (b':bZ) (L':List (bT × ek)) (rk:List Key) (er:Int):Prop:=
 FS aa val b (L.map Prod.fst) f b' (L'.map Prod.fst) rk er∧(er=0→L'.map Prod.fst≠L.map Prod.fst++[f])∧(L'=L∨(∃g,L'=L++[(g,A)]∧g.reads=f.reads∧g.ae=f.ae)∨∃k,L'=L++[(f,A)]++[(⟨k,false,0,[],[]⟩,⟨none,0,0,none,0,0⟩)])
theorem FT.pop(h:FS aa val b (L.map Prod.fst) f b' (L.map Prod.fst) rk er):FT aa val b L f A b' L rk er:=⟨h,fun _ e=>by simpa using congrArg List.length e,.inl rfl⟩
theorem FT.same(h:FS aa val b (L.map Prod.fst) f b' (L.map Prod.fst++[g]) rk er) (m:g≠f) (h1:g.reads=f.reads) (t:g.ae=f.ae):FT aa val b L f A b' (L++[(g,A)]) rk er:=
 ⟨by simpa using h,fun _ e=>by simp at e;exact m e,.inr (.inl ⟨g,rfl,h1,t⟩)⟩
theorem FT.push(h:FS aa val b (L.map Prod.fst) f b' (L.map Prod.fst++[f]++[⟨k,false,0,[],[]⟩]) rk er):FT aa val b L f A b' (L++[(f,A)]++[(⟨k,false,0,[],[]⟩,⟨none,0,0,none,0,0⟩)]) rk er:=
 ⟨by simpa using h,fun _ e=>by simp at e,.inr (.inr ⟨k,rfl⟩)⟩
theorem FT.err(h:FS aa val b (L.map Prod.fst) f b' (L.map Prod.fst++[f]) rk er) (he:er≠0):FT aa val b L f A b' (L++[(f,A)]) rk er:=
 ⟨by simpa using h,fun e=>absurd e he,.inr (.inl ⟨f,rfl,rfl,rfl⟩)⟩
theorem r8{x:bZ}{l:List bT}:bD x l [] k≠2:=by
 rw [fh]
 split
 ·
  decide
 split <;> decide
theorem zW{x:bZ}{c:ob}(h:BZ val x c=false):aP val x c.read≤(aD x.ai c.eT).ak:=by
 unfold BZ at h
 simpa using h
theorem Cc{x:bZ}{c:ob}(h:BZ val x c=true):(aD x.ai c.eT).ak<aP val x c.read:=by
 unfold BZ at h
 simpa using h
end
section
variable {EK ES:Nat}{L L':List (bT × ek)}{f:bT}{A:ek}{w0 w:World}{M Z:Nat→Prop}{l:List As}
theorem St.Sm(h:St w0 M Z w (As.many (r7 EK ES (L++[(f,A)]))::l)) (m:L'=L∨(∃g,L'=L++[(g,A)]∧g.reads=f.reads∧g.ae=f.ae)∨∃k,L'=L++[(f,A)]++[(⟨k,false,0,[],[]⟩,⟨none,0,0,none,0,0⟩)]):St w0 M Z w (As.many (r7 EK ES L')::l):=by
 rcases m with rfl | ⟨g,rfl,h1,t⟩ | ⟨k,rfl⟩
 ·
  exact h.Gv.drop.drop
 ·
  rw [B6 h1 t];exact h
 exact h.B5 rfl rfl
end
end Go.Rc

namespace Go.Rc
open Go
def Rec.tf(x:Rec × RL):List Value:=x.1.row x.2.a x.2.n x.2.c
def RR.xW:RR (Rec × RL):=RR.flat Rec.tf
theorem Rec.Ia(x:Rec × RL):∀u∈Rec.tf x,u.oneCell'=true:=by simp [Rec.tf,Rec.row,Value.oneCell']
def mN(L:List (Rec × RL)):FZ:=
 ⟨fun Z w=>∀y∈L,Rd RR.key 2 Z w y.2.a y.2.n y.2.c y.1.reads∧y.1.reads.length≤4000,fun hZ h y hy=>⟨(h y hy).1.mono hZ,(h y hy).2⟩,fun h1 h2 h y hy=>⟨(h y hy).1.st h1 h2,(h y hy).2⟩⟩
section
variable {L L':List (Rec × RL)}{r:Rec}{q:RL}{Z:Nat→Prop}{w:World}{l:List Rec}{lf:Key→RL}{cS left:List (Key × Value)}{p:Key × Value}{j:Nat}
theorem mN.nil:(mN []).p Z w:=fun y h=>by cases h
theorem mN.snoc(h:(mN L).p Z w) (hk:Rd RR.key 2 Z w q.a q.n q.c r.reads) (t:r.reads.length≤4000):(mN (L++[(r,q)])).p Z w:=fun y m=>by
 rcases List.mem_append.1 m with m | m
 ·
  exact h y m
 rw [List.mem_singleton] at m;subst m;exact⟨hk,t⟩
theorem mN.iz{E n c:Nat}{a:Option Addr}(h:Ow RR.xW E 8 Z w a n c L) (B:(mN L).p Z w):Ow RR.iz E 8 Z w a n c (L.map Prod.fst):=by
 obtain⟨hn,rows,hl,hk,h1,C⟩:=h;refine⟨by rw [hn,List.length_map],rows,by rw [hl,List.length_map],hk,h1,fun i x r m D=>?_⟩;rw [List.getElem?_map] at m;obtain⟨y,t,rfl⟩:=Option.map_eq_some_iff.1 m;have hr:r=Rec.tf y:=C i y r t D;obtain⟨F,G⟩:=B y (List.mem_of_getElem? t);exact⟨_,_,_,hr,F,G⟩
theorem pF{α:Type}:∀(l:List α) (j:Nat) (h:j<l.length),(l[j]::l.eraseIdx j).Perm l
 | x::r,0,_=>List.Perm.refl _
 | x::r,j+1,h=>by
  have h1:=pF r j (by simpa using h);simp only [List.getElem_cons_succ,List.eraseIdx_cons_succ];exact(List.Perm.swap _ _ _).trans (h1.cons x)
structure Cd (l:List Rec) (cS left:List (Key × Value)) (L:List (Rec × RL)):Prop where
 perm:((L.map fun y=>y.1.key)++left.map (·.1)).Perm (cS.map (·.1))
 find:∀y∈L,ay l y.1.key=some y.1
theorem Cd.start:Cd l cS cS []:=⟨List.Perm.refl _,fun y h=>by cases h⟩
theorem Cd.next(h:Cd l cS left L) (B:left[j]?=some p) (t:ay l p.1=some r):Cd l cS (left.eraseIdx j) (L++[(r,q)]):=by
 have hk:r.key=p.1:=(aI t).2;refine⟨List.Perm.trans ?_ h.perm,fun y m=>?_⟩
 ·
  obtain⟨C,rfl⟩:=List.getElem?_eq_some_iff.1 B;have h1:=(pF left j C).map (·.1);simp only [List.map_append,List.map_cons,List.map_nil,List.append_assoc,List.singleton_append,hk] at h1 ⊢;exact List.Perm.append_left _ h1
 rcases List.mem_append.1 m with m | m
 ·
  exact h.find y m
 rw [List.mem_singleton] at m;subst m;rw [hk];exact t
theorem cy.key(h:cy l lf cS) {k:Key}:k∈cS.map (·.1)↔∃r,ay l k=some r:=by
 have h1:=h k
 constructor
 ·
  intro hk
  cases m:ay l k with
  | some r=>exact⟨r,rfl⟩
  | none=>
   rw [m] at h1;exact absurd hk (j3.1 h1)
 rintro⟨r,hr⟩;refine Classical.byContradiction fun hk=>?_;rw [j3.2 hk,hr] at h1
 cases h1
theorem Cd.done(h:Cd l cS [] L) (C:cy l lf cS) (hn:(cS.map (·.1)).Nodup) (m:lk l) (t:L'.Perm L) (D:L'.Pairwise fun x y=>¬bj y.1.key x.1.key<0):L'.map Prod.fst=l:=by
 have h1:(L.map fun y=>y.1.key).Perm (cS.map (·.1)):=by simpa using h.perm
 have B:(L'.map fun y=>y.1.key).Perm (cS.map (·.1)):=(t.map _).trans h1;have F:sV (L'.map fun y=>y.1.key):=sX (List.Perm.refl _) (B.nodup_iff.2 hn) (by rw [List.pairwise_map];exact D)
 have G:sV (l.map (·.key)):=by
  unfold sV
  rw [List.pairwise_map];exact m
 have I:(L'.map fun y=>y.1.key)=l.map (·.key):=sY F G fun x=>by
  rw [B.mem_iff,C.key]
  constructor
  ·
   rintro⟨r,hr⟩;obtain⟨g1,g2⟩:=aI hr;exact List.mem_map.2 ⟨r,g1,g2⟩
  intro J;obtain⟨r,hr,rfl⟩:=List.mem_map.1 J;exact⟨r,eu m hr⟩
 have O:(L'.map Prod.fst).map (fun r=>aD l r.key)=l.map fun r=>aD l r.key:=by
  have e1:(L'.map Prod.fst).map (fun r=>aD l r.key)=(L'.map fun y=>y.1.key).map (aD l):=by rw [List.map_map,List.map_map];rfl
  have e2:(l.map fun r=>aD l r.key)=(l.map (·.key)).map (aD l):=by rw [List.map_map];rfl
  rw [e1,e2,I]
 have Q:(L'.map Prod.fst).map (fun r=>aD l r.key)=L'.map Prod.fst:=by
  rw [List.map_map];refine List.map_congr_left fun y S=>?_;exact aJ (h.find y (t.mem_iff.1 S))
 have V:(l.map fun r=>aD l r.key)=l:=by
  conv=>rhs;rw [← List.map_id l]
  exact List.map_congr_left fun r hr=>aJ (eu m hr)
 rw [← Q,O,V]
theorem Cd.len(h:Cd l cS left L) (m:cy l lf cS) (hn:(cS.map (·.1)).Nodup):L.length+left.length≤l.length:=by
 have h1:=h.perm.length_eq;have t:=m.len hn
 simp at h1
 omega
end
end Go.Rc

namespace Go.Rc
open Go
section
variable {w0 w:World}{M Z:Nat→Prop}{l:List As}
theorem St.g16{t B C D F G I J O Q S V W X Y Gs m:As}(h:St w0 M Z w (t::B::C::D::F::G::I::J::O::Q::S::V::W::X::Y::Gs::m::l)):m.ok Z w:=h.ok _ (by simp)
theorem St.g17{t B C D F G I J O Q S V W X Y Gs KG m:As}(h:St w0 M Z w (t::B::C::D::F::G::I::J::O::Q::S::V::W::X::Y::Gs::KG::m::l)):m.ok Z w:=h.ok _ (by simp)
theorem St.g18{t B C D F G I J O Q S V W X Y Gs KG QC m:As}(h:St w0 M Z w (t::B::C::D::F::G::I::J::O::Q::S::V::W::X::Y::Gs::KG::QC::m::l)):m.ok Z w:=h.ok _ (by simp)
theorem St.g22{t B C D F G I J O Q S V W X Y Gs KG QC A18 A19 A20 A21 m:As}(h:St w0 M Z w (t::B::C::D::F::G::I::J::O::Q::S::V::W::X::Y::Gs::KG::QC::A18::A19::A20::A21::m::l)):m.ok Z w:=h.ok _ (by simp)
end
section
variable {α:Type}{R:RR α}{P:Program}{E k n c b i:Nat}{a:Option Addr}{xs:List α}{Z:Nat→Prop}{w:World}
variable {N:Nat}{kv:KV}{K:KV→World→Prop}{ty:TypeId}{pos:String}{af:Array Edge}{g:Option (Nat × Bool)}{T:TypeId}
end
section
variable {p:Rec→Bool}{xs xs1:List Rec}{i j:Nat}{x:Rec}
end
theorem po.kr{aa:List aF}{x:bZ}(h:po aa x):KR aa x.ai:=fun r hr=>by
 obtain⟨h1,m,t,_⟩:=h.2.2.2.2.2.1 r hr;exact⟨h1,m,t⟩
theorem po.r4{aa:List aF}{x:bZ}(h:po aa x):∀r∈x.ai,r.reads.length≤4000:=fun r hr=>by
 obtain⟨_,_,_,m⟩:=h.2.2.2.2.2.1 r hr
 grind [dP]
section
variable {aa:List aF}{x:bZ}{s:ES}
end
section
variable {aa:List aF}{x y:bZ}{s:ES}{kp:List (List Key)}{l:List Key}
end
end Go.Rc

namespace Go.Rc
open Go
section
variable {aa:List aF}{x y:bZ}{bO:List Key}{k:Key}{r:Rec}
end
end Go.Rc

namespace Go.Rc
open Go
section
variable {val:Key→ByteArray}{x:bZ}{i:Nat}{k:Key}{o:List Key}
end
end Go.Rc
namespace Go.Rc
open Go
end Go.Rc

namespace Go.Rc
open Go
section
variable {aa:List aF}{H:Int→List bG}{x b b':bZ}{p q l l':List bT}{f g:bT}{bO rk goals:List Key}{k y:Key}{val:Key→ByteArray}{er:Int}
theorem r9{turn:List ByteArray→uR}{fk:Key→ByteArray}(h:∀k,(fk k).size≤1000):∀n,∀s∈(cZ turn fk n).2,s.size≤1000
 | 0,s,m=>by simp [cZ] at m
 | n+1,s,m=>by
  simp only [cZ,List.mem_append,List.mem_singleton] at m
  rcases m with m | rfl
  ·
   exact r9 h n s m
  exact h _
theorem eM.ready(C:ao aa) (D:LC aa x) (hk:∀k∈goals,eV aa k) (h:eM aa (valOf aa x.ab) goals x b l bO):BK aa x.ab x.ad b∧KR aa b.ai∧l.length≤1000∧bO.length≤100000∧b.ai.length<4000∧(∀r∈b.ai,r.reads.length≤4000)∧(∀r∈b.ai,r.ak≤x.ad)∧bO.Nodup∧lk b.ai∧∀f∈l,fX aa f∧(∃i:Nat,i<aa.length∧f.key=aK aa (i:Int))∧∀s∈f.ae,s.size≤1000:=by
 obtain⟨⟨H,m⟩,F,O⟩:=h.inv C D hk;have X:=C.1;have t:=(D.lb.of F).BM;have hlen:=m.bi.len
 have Y:bO.length≤b.ai.length:=by
  have:=dX m.wy.ju (S:=b.ai.map (·.key)) fun y Q=>by
   obtain⟨r,hr,_⟩:=aN.1 (m.wy.HS y Q);obtain⟨g1,g2⟩:=aI hr;exact List.mem_map.2 ⟨r,g1,g2⟩
  simpa using this
 refine⟨F,t.kr,by have:=m.xV;omega,by omega,by omega,t.r4,fun r hr=>by rw [← F.rv];exact t.2.2.2.2.2.2.2.2 r hr,m.wy.ju,t.2.2.2.2.2.2.1,fun f G=>⟨O f G,m.eU G,fun s B=>?_⟩⟩;obtain⟨p1,q1,V⟩:=List.append_of_mem G;have I:=m.fr p1 f q1 V;obtain⟨i,hi,W⟩:=I.key
 cases J:f.running with
 | false=>
  rw [(I.AG J).2.1] at B
  cases B
 | true=>
  obtain⟨n,_,_,e⟩:=(I.run J).2.2.2.1 i hi W;rw [e] at B;exact r9 (D.lb.small C) n s B
theorem eM.done(D:ao aa) (C:LC aa x) (hk:∀k∈goals,eV aa k) (h:eM aa (valOf aa x.ab) goals x b [] bO):LC aa b∧b.ab=x.ab∧b.ad=x.ad∧Wy aa x ⟨b,[],bO,0⟩∧∀r∈b.ai,r.ak=b.ad→r.value=valOf aa x.ab r.key:=by
 obtain⟨⟨H,m⟩,B,O⟩:=h.inv D C hk;have hi:b.ab=x.ab:=B.fO.aC;have F:TO aa x ⟨aa,b,[],[],bO⟩:=⟨H,m⟩;have G:=C.task (t:=⟨aa,b,[],[],bO⟩) B F
 have e:eA ([]:List bT) b.ai=b.ai:=by simp [eA]
 have I:LC aa b:=by
  have:=G
  rw [show(⟨aa,b,[],[],bO⟩:KF).stack=[] from rfl,show(⟨aa,b,[],[],bO⟩:KF).base=b from rfl,e] at this;exact this
 refine⟨I,hi,B.rv,m.wy,fun r hr J=>?_⟩
 have:=(m.bi.c.vr r hr)
 rw [J,m.bi.c.now,hi] at this;exact this.1
theorem eM.taken(h:eM aa val goals x b [] bO) (m:k∈goals):eM aa val goals x b ((if cG b [] k=true then [((⟨k,false,0,[],[]⟩:bT),(⟨none,0,0,none,0,0⟩:ek))] else []).map Prod.fst) bO:=by
 split
 ·
  exact .take h m ‹_›
 exact h
theorem zX:ax k=true∨aA b k=true∨∃g q,(if cG b [] k=true then [((⟨k,false,0,[],[]⟩:bT),(⟨none,0,0,none,0,0⟩:ek))] else []).map Prod.fst=g::q∧g.key=k:=by
 by_cases hn:cG b [] k=true
 ·
  rw [if_pos hn];exact .inr (.inr ⟨_,[],rfl,rfl⟩)
 rcases eZ.1 (by simpa using hn) with h | h | h
 ·
  exact .inl h
 ·
  simp [eb] at h
 exact .inr (.inl h)
theorem EB{L:List (bT × ek)}(h:0<L.length):∃m f A,L=m++[(f,A)]:=by
 rcases List.eq_nil_or_concat L with rfl | ⟨m,y,rfl⟩
 ·
  simp at h
 exact⟨m,y.1,y.2,by simp⟩
theorem EC{i:Nat}(hi:i<goals.length) (h:∀y∈goals.take i,ax y=true∨aA b y=true) (hb:ax goals[i]=true∨aA b goals[i]=true∨∃g q,([]:List (bT × ek)).map Prod.fst=g::q∧g.key=goals[i]):∀y∈goals.take (i+1),ax y=true∨aA b y=true:=by
 intro y m;rw [List.take_succ_eq_append_getElem hi] at m
 rcases List.mem_append.1 m with m | m
 ·
  exact h y m
 rw [List.mem_singleton] at m;subst m
 rcases hb with h | h | ⟨g,q,e,_⟩
 ·
  exact .inl h
 ·
  exact .inr h
 cases e
end
section
variable {EK ES:Nat}{w0 w:World}{M Z:Nat→Prop}{l:List As}{k:Key}{c:Bool}
theorem St.Ib(h:St w0 M Z w l):St w0 M Z w (As.many (r7 EK ES (if c=true then [((⟨k,false,0,[],[]⟩:bT),(⟨none,0,0,none,0,0⟩:ek))] else []))::l):=by
 have h0:St w0 M Z w (As.many (r7 EK ES [])::l):=h.Gr
 split
 ·
  exact h0.B5 (L:=[]) rfl rfl
 exact h0
end
end Go.Rc

namespace Go.Rc
open Go
def r3:aF:=⟨false,[],1,3⟩
abbrev K0:Key:=⟨31,itoa ((0:Nat):Int)⟩
abbrev v3:ByteArray:=itoa 3
theorem Ic:∀y∈[r3],Ec y:=fun y h=>by simp at h;subst h;exact⟨rfl,rfl,rfl,by decide,by decide⟩
theorem Mf:aK [r3] ((0:Nat):Int)=K0:=Ec.key (by simp) (by omega) (Ic _ (by simp))
theorem ED:iw ⟨0,[],[]⟩:=⟨fun i y h=>by simp at h,fun i r h=>by simp at h,by decide,by decide,by simp,by simp,fun i x h=>by simp at h⟩
abbrev s1:ES:=⟨⟨0,[],[HJ 0 v3]⟩,[],[K0],0⟩
end Go.Rc
namespace Go.Rc
open Go
abbrev v4:ByteArray:=⟨#[52]⟩
end Go.Rc

namespace Go.Rc
open Go
section
variable {P:Program}{kv:KV}{w:World}{T U ty:TypeId}{x y:Operand}
end
end Go.Rc
namespace Go.Rc
open Go
end Go.Rc

namespace Go.Rc
open Go
theorem zP{v:ByteArray}:∀k∈[K0],∃i:Nat,i < [r3].length∧k=aK [r3] (i:Int)∧(ay (⟨0,[],[HJ 0 v]⟩:bZ).ai k).isSome=true:=fun k hk=>⟨0,by simp,by rw [List.mem_singleton.1 hk];exact Mf.symm,by grind [ay,HJ]⟩
end Go.Rc

namespace Go.Rc
open Go
abbrev q0:aF:=⟨false,[⟨true,false,0,0⟩],1,0⟩
abbrev q1:aF:=⟨false,[⟨false,false,0,0⟩],1,0⟩
abbrev Q2:List aF:=[q0,q1]
abbrev K1:Key:=⟨31,itoa ((1:Nat):Int)⟩
abbrev C0:Key:=bd ((0:Nat):Int)
theorem Mg:C0=⟨30,⟨#[48]⟩⟩:=by simp [bd,itoa,Lib.itoa,Lib.decDigits]
theorem Ce:K0=⟨31,⟨#[48]⟩⟩:=by simp [itoa,Lib.itoa,Lib.decDigits]
theorem Gw:K1=⟨31,⟨#[49]⟩⟩:=by simp [itoa,Lib.itoa,Lib.decDigits]
theorem Mh:ao Q2:=by
 refine⟨by simp,fun i r h=>?_⟩
 have hi:i=0∨i=1:=by have:=(List.getElem?_eq_some_iff.1 h).1;simp at this;omega
 rcases hi with rfl | rfl
 ·
  simp at h;subst h
  refine⟨by simp,fun k x m=>?_,rfl⟩
  have hk:k=0:=by have:=(List.getElem?_eq_some_iff.1 m).1;simp at this;omega
  subst hk;simp at m;subst m;decide
 simp at h;subst h
 refine⟨by simp,fun k x m=>?_,rfl⟩
 have hk:k=0:=by have:=(List.getElem?_eq_some_iff.1 m).1;simp at this;omega
 subst hk;simp at m;subst m;decide
theorem yY:aK Q2 ((0:Nat):Int)=K0:=by
 unfold aK
 rw [if_neg (by simp)]
 simp [az]
theorem tg:number K0=((0:Nat):Int):=by rw [← yY];exact br (by simp) (by omega)
theorem t0a:bP Q2 K0 []=⟨false,⟨#[]⟩,C0⟩:=by
 rw [gF (i:=0) tg (by simp) (by rw [tg];exact yY) (by simp)]
 rfl
theorem t0b(v:ByteArray):bP Q2 K0 [v]=⟨true,itoa (cU 1 0 [ct v]),de⟩:=by
 rw [iq (i:=0) tg (by simp) (by rw [tg];exact yY) (by simp)]
 rfl
abbrev z0:ByteArray:=⟨#[48]⟩
abbrev z5:ByteArray:=⟨#[53]⟩
theorem it5:itoa ((5:Nat):Int)=z5:=by simp [itoa,Lib.itoa,Lib.decDigits]
theorem fv(v:ByteArray) (n:Nat) (h:ct v=n) (hn:n<1000):itoa (cU 1 0 [ct v])=itoa n:=by
 rw [h];simp [cU,mB,Nat.mod_eq_of_lt hn]
theorem XV:ct z5=5:=by decide
theorem vsE:ct ⟨#[]⟩=0:=by decide
theorem Mi{aC:List bG}{n:Nat}(h:ct (cellOf aC C0)=n) (hn:n<1000):valOf Q2 aC K0=itoa n:=by
 have e:=di (aC:=aC) Mh (i:=0) (by simp);rw [show cj Q2 0=1 from rfl,yY] at e;simp only [cZ,List.nil_append] at e;rw [t0a,t0b,jE (by omega),fv _ n h hn] at e
 injection e with _ e2 _
 exact e2.symm
abbrev zY(i:Nat) (a:Key):Rec:=⟨⟨31,itoa (i:Int)⟩,z0,[a],0,0,2,false⟩
theorem Mj:ax C0=true:=aY (n:=0) (by omega)
theorem zZ:ax K0=false:=rfl
theorem Cf:ax K1=false:=rfl
theorem Sn:(K0 == K1)=false:=by rw [Ce,Gw];decide
section
variable {aa:List aF}{val:Key→ByteArray}{k c:Key}{z u:ByteArray}{s s':ES}{rs:List Key}{an:List ByteArray}{f:Nat}
end
end Go.Rc

namespace Go.Rc
open Go
section
variable {val:Key→ByteArray}{x:bZ}{k a:Key}{r:Rec}
theorem vo(hc:aw k=false) (hi:ax k=false) (h:ay x.ai k=some r) (m:r.bU=false) (hr:r.reads=[a]) (t:a≠k) (B:r.ak≠x.ad) (C:r.ak<aP val x a):Er val x k=(2,a):=by
 have hu:aA x k=false:=by unfold aA;rw [h,aJ h];simp [B]
 have D:bW x.ai (aB x.ai x.ad k)=[⟨k,a⟩]:=by
  rw [et hc]
  simp [bW,cA,aJ h,hr,t]
 unfold Er
 rw [hi,hu,h,D]
 have F:BZ val x ⟨k,a⟩=true:=by unfold BZ;rw [aJ h];exact decide_eq_true C
 simp [m,F]
end
abbrev iQ:List bG:=[⟨C0,z5,1⟩]
abbrev yQ:bZ:=⟨1,iQ,[zY 0 C0,zY 1 K0]⟩
theorem Mk:C0≠K0:=by rw [Mg,Ce];decide
theorem Ml:K0≠K1:=by rw [Ce,Gw];decide
theorem fC:aL iQ C0=⟨C0,z5,1⟩:=by unfold aL;rw [List.find?_cons];simp
theorem v0:valOf Q2 iQ K0=z5:=by rw [Mi (n:=5) (by unfold cellOf;rw [fC];exact XV) (by omega),it5]
theorem f0:ay yQ.ai K0=some (zY 0 C0):=by simp [ay]
theorem f1:ay yQ.ai K1=some (zY 1 K0):=by simp only [ay,List.find?_cons];rw [show((zY 0 C0).key == K1)=false from Sn,show((zY 1 K0).key == K1)=true from beq_self_eq_true K1]
theorem cC:aP (valOf Q2 iQ) yQ C0=1:=by unfold aP;rw [if_pos Mj,fC]
theorem cK:aP (valOf Q2 iQ) yQ K0=1:=by
 unfold aP
 rw [if_neg (by rw [zZ];simp),if_neg];rw [aJ f0,v0]
 simp
theorem Mm:Er (valOf Q2 iQ) yQ K1=(2,K0):=vo rfl rfl f1 rfl rfl Ml (by decide) (by rw [cK];decide)
theorem Mn:Er (valOf Q2 iQ) yQ K0=(2,C0):=vo rfl rfl f0 rfl rfl Mk (by decide) (by rw [cC];decide)
theorem smQ:∀c∈[(⟨C0,z5⟩:Change)],c.small:=fun c hc=>by
 rw [List.mem_singleton.1 hc];exact⟨⟨0,by omega,by omega,rfl⟩,by decide⟩
end Go.Rc

namespace Go.Rc
open Go
section
variable {P:Program}{T:TypeId}
variable {kv:KV}{w:World}{ty:TypeId}
end
end Go.Rc

