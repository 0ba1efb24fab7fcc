/- Base of the proof: frames, memory, ownership, and the plain meaning of rule systems. Conditions: as each lemma says. -/
import Derived.Test.YtpoiojafnnaccaaGreatDoorTBf
import Derived.Test.YtpoiojafnnaccaaGreatDoorTBd
set_option linter.all false
namespace Go.Rc
open Go
structure BK (ab:List aJ) (aH:List dE) (rev:Int) (b:dT):Prop where
 ki:Good ab aH ⟨b,[],[],0⟩
 zd:D3 ⟨b,[],[],0⟩
 rv:b.ae=rev
 Ed:Fc rev aH
 ze:aH.length≤64
section
variable {ab:List aJ}{aH:List dE}{rev:Int}{b:dT}
theorem BK.lE(h:BK ab aH rev b):lE b:=
 ⟨by rw [h.rv,show b.ah=aH from h.ki.aH];exact h.Ed,fun i r hr=>(h.zd.v r (List.mem_of_getElem? hr)).2,h.zd.r0,h.zd.r1,by rw [show b.ah=aH from h.ki.aH];exact h.ze,h.zd.st.rR h.ki.len fun r hr=>(h.zd.v r hr).1⟩
theorem BK.Mf(h:BK ab aH rev b) (g:List Key):BK ab aH rev (dZ b g false):=⟨h.ki.mark g false,h.zd.Mf g,h.rv,h.Ed,h.ze⟩
theorem BK.Mg(h:BK ab aH rev b) {g:List Key}(hc:∀x∈g,aC x=true):BK ab aH rev (dZ b g true):=⟨h.ki.mark g true,h.zd.Mg hc,h.rv,h.Ed,h.ze⟩
theorem BK.put(h:BK ab aH rev b) {r:Rec}(hk:gH ab r.key) (hr:r.reads.length≤4000∧∀a∈r.reads,gH ab a) (h4:(!(aD b.ao r.key).isSome && decide (4000≤b.ao.length))=false) (hv:fi r=true) (S8:r.az≤b.ae):BK ab aH rev {b with ao:=gW b.ao r}:=
 ⟨h.ki.put (cy:=[]) hk hr h4,h.zd.put (cy:=[]) hv S8,h.rv,h.Ed,h.ze⟩
theorem BK.sub(h:BK ab aH rev b) {rs:List Rec}(hs:rs.Sublist b.ao):BK ab aH rev {b with ao:=rs}:=
 ⟨⟨h.ki.aH,Nat.le_trans hs.length_le h.ki.len,fun r hr=>h.ki.key r (hs.subset hr),fun r hr=>h.ki.JH r (hs.subset hr),.nil,fun k=>.inl rfl⟩,⟨h.zd.st.sublist hs,fun r hr=>h.zd.v r (hs.subset hr),h.zd.r0,h.zd.r1⟩,h.rv,h.Ed,h.ze⟩
theorem BK.small(h:BK ab aH rev b):∀r∈b.ao,ND r∧0≤r.cost∧r.cost≤1073741824:=fun r hr=>by
 obtain⟨i,hi,ht,_⟩:=(h.ki.key r hr).shape;have h1:=(ez _).1 (h.zd.v r hr).1;obtain⟨_,_,_,ars,hl,_,_,_,aji,acK,_⟩:=h1;have h2:=sZ (n:=i) (by omega);refine⟨⟨by rw [ht];omega,by omega,by omega⟩,by omega,acK⟩
end
structure kU (ab:List aJ) (f:eH):Prop where
 key:gH ab f.key
 aH:aB f.key=false
 JH:∀a∈f.reads,gH ab a
 len:f.reads.length=f.ak.length
 j7:jL ab f.key f.ak.length
 at0:0≤f.at_
theorem kU.new{ab:List aJ}{k:Key}(hk:gH ab k) (hi:aB k=false):kU ab ⟨k,false,0,[],[]⟩:=⟨hk,hi,fun a h=>(by cases h),rfl,hk.j7 hi,Int.le_refl _⟩
structure TK (ab:List aJ) (aH:List dE) (rev:Int) (t:xx):Prop where
 Vl:t.ab=ab
 base:BK ab aH rev t.base
 goals:∀k∈t.goals,gH ab k
 stack:∀f∈t.stack,kU ab f
 cy:∀k∈t.cy,gH ab k
theorem PV.cast{P:Program}{op:Op}{ty:TypeId}{kv:KV}{w:World}{v v':Value}(h:PV P op ty kv w v) (e:v=v'):PV P op ty kv w v':=e ▸ h
theorem fZ{α:Type}(L:List α) (x:α):(L++[x])[L.length]?=some x:=by simp
theorem eX.snoc{L:List (eH × r6)}{f:eH}{A:r6}{Z:Nat→Prop}{w:World}(h:(eX L).p Z w) (hk:Rd RR.key 2 Z w A.a A.n A.c f.reads) (hy:Rd RR.str 1 Z w A.a2 A.n2 A.c2 f.ak):(eX (L++[(f,A)])).p Z w:=fun y hm=>by
 rcases List.mem_append.1 hm with hm | hm
 ·
  exact h y hm
 grind
theorem eX.whole{L:List (eH × r6)}{f:eH}{A:r6}{l:List eH}{E n c:Nat}{a:Option Addr}{Z:Nat→Prop}{w:World}(h:Ow RR.Fq E 6 Z w a n c (L++[(f,A)])) (hf:(eX (L++[(f,A)])).p Z w) (h4:∀y∈L,y.1.reads.length≤4000∧y.1.ak.length≤4000) (CI:f.reads.length≤4000∧f.ak.length≤4000) (hl:L.map Prod.fst++[f]=l):Ow RR.rh E 6 Z w a n c l:=by
 have h1:=eX.rh h hf fun y hm=>by grind
 grind
theorem HS{L:List (eH × r6)}{f:eH}{A:r6}{l:List eH}{E EK ES n c:Nat}{a:Option Addr}{Z:Nat→Prop}{w:World}(JF:Ow RR.Fq E 6 Z w a n c (L++[(f,A)])) (hk:Ow RR.key EK 2 Z w A.a A.n A.c f.reads) (hy:Ow RR.str ES 1 Z w A.a2 A.n2 A.c2 f.ak) (hfa:(eX L).p Z w) (h4:∀y∈L,y.1.reads.length≤4000∧y.1.ak.length≤4000) (CI:f.reads.length≤4000∧f.ak.length≤4000) (hl:L.map Prod.fst++[f]=l) (hll:l.length≤1000000):∃Zb:Nat→Prop,(∀x,Z x→Zb x)∧Rd RR.rh 6 Zb w a n c l:=by
 have h1:=hk.rd (by omega);have h2:=hy.rd (by omega)
 let Zb:Nat→Prop:=fun x=>Z x∨x∈aO A.a∨x∈aO A.a2
 have hz:∀x,Z x→Zb x:=fun x h=>.inl h;have h3:(eX (L++[(f,A)])).p Zb w:=eX.snoc ((eX L).mono hz hfa) (h1.mono fun x h=>h.imp id .inl) (h2.mono fun x h=>h.imp id .inr);have h5:Ow RR.Fq E 6 Zb w a n c (L++[(f,A)]):=(As.os RR.Fq E 6 a n c (L++[(f,A)])).mono hz JF;have h6:=eX.whole h5 h3 h4 CI hl;exact⟨_,fun x h=>.inl (hz x h),h6.rd (by omega)⟩
theorem AX{x:dT}{l others:List eH}{k:Key}(h:dG x l others k=1):aB k=false:=by grind [gG,dG]
theorem eX.push{L:List (eH × r6)}{f g:eH}{A:r6}{l:List eH}{E n c:Nat}{a:Option Addr}{Z:Nat→Prop}{w:World}(h:Ow RR.Fq E 6 Z w a n c (L++[(f,A)]++[(g,⟨none,0,0,none,0,0⟩)])) (hf:(eX (L++[(f,A)])).p Z w) (h4:∀y∈L,y.1.reads.length≤4000∧y.1.ak.length≤4000) (CI:f.reads.length≤4000∧f.ak.length≤4000) (rp:g.reads=[]) (GU:g.ak=[]) (hl:L.map Prod.fst++[f]=l):Ow RR.rh E 6 Z w a n c (l++[g]):=by
 have h1:=eX.rh h (eX.snoc (f:=g) (A:=⟨none,0,0,none,0,0⟩) hf (by rw [rp];exact Rd.nil _ _ _ _) (by rw [GU];exact Rd.nil _ _ _ _)) fun y hm=>by grind
 grind
section
variable {w0 w:World}{M Z:Nat→Prop}{l:List As}{A0 A1 A2 A3 A4 A5 A6 A7 A8 A9 lD mR pw sU wO CD HT Mi:As}
end
end Go.Rc

namespace Go.Rc
open Go
section
variable {α:Type}{R:RR α}{P:Program}{E k n c b:Nat}{a:Option Addr}{L:List α}{u:α}{Z:Nat→Prop}{w:World}
variable {N:Nat}{kv:KV}{K:KV→World→Prop}{ty:TypeId}{pos:String}{af:Array Edge}{g:Option (Nat × Bool)}{T:TypeId}
theorem OX.S9{x y:Operand}{f:Nat}{v:Value}(hT:(P.info? T).map (·.size)=some 1) (h:Ow R E k Z w a n c (L++[u])) (ha:a=some ⟨b,0,none⟩) (hf:f<k) (hx:ev kv x=some (.pointer (some ⟨b,0+L.length*k+f,none⟩))) (hy:ev kv y=some v)
  (h1:v.oneCell'=true) (u':α) (hR:∀r,R.r Z w u r→R.r Z w u' (r.set f v)) (hK:∀w',bm (aO a) w w'→OR 0 w' E k (R.r Z w) a n c (L++[u'])→K kv w'):OX P ⟨none,.store T x y,ty,pos,af,g⟩ N kv w K:=
 OX.SO hT h ha (fZ L u) hf hx hy h1 u' (fun r _ h=>hR r h) fun w' c o=>hK w' c (by grind)
end
section
variable {ab:List aJ}{f:eH}
theorem kU.read(h:kU ab f) {k:Key}{a:ByteArray}(hk:gH ab k) (ha:jL ab f.key (f.ak.length+1)):kU ab {f with reads:=f.reads++[k],ak:=f.ak++[a]}:=
 ⟨h.key,h.aH,fun b hb=>by
  rcases List.mem_append.1 hb with hb | hb
  ·
   exact h.JH b hb
  grind,by simp [h.len],by simpa using ha,h.at0⟩
theorem kU.runs(h:kU ab f):kU ab {f with running:=true,at_:=0}:=⟨h.key,h.aH,h.JH,h.len,h.j7,Int.le_refl _⟩
theorem kU.step(h:kU ab f):kU ab {f with at_:=f.at_+1}:=⟨h.key,h.aH,h.JH,h.len,h.j7,by have:=h.at0;show 0≤f.at_+1;omega⟩
theorem kU.snoc{L:List (eH × r6)}(hL:∀y∈L,kU ab y.1) (h:kU ab f):∀g∈L.map Prod.fst++[f],kU ab g:=fun g hg=>by grind
end
structure TR (ab:List aJ) (aH:List dE) (rev:Int) (n:Nat) (t:xx):Prop where
 ok:TK ab aH rev t
 ns:t.stack.length≤n
 nr:t.cy.length≤n
 ng:t.goals.length≤32
section
variable {ab:List aJ}{aH:List dE}{rev:Int}{n:Nat}{t:xx}
theorem TR.mono(h:TR ab aH rev n t) {m:Nat}(hm:n≤m):TR ab aH rev m t:=⟨h.ok,Nat.le_trans h.ns hm,Nat.le_trans h.nr hm,h.ng⟩
theorem TR.sz(h:TR ab aH rev n t) (hR:ay ab) (hn:n≤100000):t.Sz:=by
 have h1:=h.ok.base;have h2:=h1.ze;have h3:t.base.ah=aH:=h1.ki.aH;have h4:t.base.ao.length≤4000:=h1.ki.len;have h5:=h.ns;have h6:=h.nr;have h7:=h.ng;have h8:=hR.len;have h9:=h.ok.Vl;refine⟨by rw [h9];omega,fun x hx=>?_,by rw [h3];omega,by omega,by omega,by omega,by omega⟩;rw [h9] at hx;obtain⟨i,hi,rfl⟩:=List.mem_iff_getElem.1 hx
 have:=(hR.2 i _ (List.getElem?_eq_getElem hi)).1
 omega
theorem TR.acM(h:TR ab aH rev n t):TR ab aH rev n {t with goals:=t.goals.drop 1}:=
 ⟨⟨h.ok.Vl,h.ok.base,fun k hk=>h.ok.goals k (List.mem_of_mem_drop hk),h.ok.stack,h.ok.cy⟩,h.ns,h.nr,by have:=h.ng;simp;omega⟩
theorem TR.begin(h:TR ab aH rev n t) {k:Key}(hk:gH ab k) (hi:aB k=false) (hn:1≤n):TR ab aH rev n {t with goals:=t.goals.drop 1,stack:=[⟨k,false,0,[],[]⟩]}:=
 ⟨⟨h.ok.Vl,h.ok.base,fun k hk=>h.ok.goals k (List.mem_of_mem_drop hk),fun f hf=>by grind [kU.new],h.ok.cy⟩,hn,h.nr,by have:=h.ng;simp;omega⟩
theorem TR.next(h:TR ab aH rev n t) {b:dT}{l:List eH}{rk:List Key}(hb:BK ab aH rev b) (hl:∀f∈l,kU ab f) (hk:∀k∈rk,gH ab k) (h1:rk.length≤1) (h2:l.length≤t.stack.length+1):TR ab aH rev (n+1) {t with base:=b,stack:=l,cy:=t.cy++rk}:=
 ⟨⟨h.ok.Vl,hb,h.ok.goals,hl,fun k hm=>by rcases List.mem_append.1 hm with hm | hm;exact h.ok.cy k hm;exact hk k hm⟩,by have:=h.ns;show l.length≤_;omega,by have:=h.nr;grind,h.ng⟩
theorem Fs{x:dT}{l:List eH}{k:Key}(h:gG x l k=true):aB k=false:=by grind [gG]
end
end Go.Rc

namespace Go.Rc
open Go
theorem St.AY{w w':World}{Z:Nat→Prop}{l:List As}{A B:As}(h:St w (rF [B]) Z w' (B::A::l)):∀x,A.fp x→w.heap.size≤x:=fun x hx=>by
 rcases h.rE A (by simp) x hx with⟨C,hC,hc⟩ | h1
 ·
  rw [List.mem_singleton] at hC;subst hC;exact absurd hx ((List.pairwise_cons.1 h.wN).1 A (by simp) x hc)
 exact h1
theorem qb.Nk{ab:List aJ}{k:Key}(hR:ay ab) (h:qb ab k):gH ab k:=by
 have qf:=hR.len
 rcases h with⟨n,h0,h3,rfl⟩ | ⟨i,hi,rfl⟩
 ·
  obtain⟨m,rfl⟩:∃m:Nat,n=m:=⟨n.toNat,by omega⟩;exact .cell (by omega)
 exact .gx hi (by omega)
theorem qb.right{ab:List aJ}{k:Key}(hR:ay ab) (h:qb ab k):jR ab k=true:=by
 have hk:=h.Nk hR
 rcases h with⟨n,h0,h3,rfl⟩ | ⟨i,hi,rfl⟩
 ·
  unfold jR
  rw [gH.valid hk]
  unfold dQ
  rw [if_neg (by omega)]
  simp
 exact NC hR hi
structure LB (ab:List aJ) (x:dT):Prop where
 ok:BK ab x.ah x.ae x
 aH:l9 x.ae x.ah
section
variable {ab:List aJ}{x:dT}
theorem LB.apply(h:LB ab x) {y:dT}(hr:y.ao=x.ao) (h0:x.ae≤y.ae) (h1:y.ae≤1073741824) (hG:l9 y.ae y.ah) (h6:y.ah.length≤64):LB ab y:=by
 have hg:=h.ok.ki;have ho:=h.ok.zd;have h00:0≤y.ae:=Int.le_trans ho.r0 h0;have hb:=hG.lE h00 h1 h6;exact⟨⟨⟨rfl,by show y.ao.length≤_;rw [hr];exact hg.len,by grind [Good.key],by grind [Good.JH],.nil,fun k=>.inl rfl⟩,⟨by show qj y.ao;rw [hr];exact ho.st,by show ∀r∈y.ao,_;rw [hr];exact fun r hm=>⟨(ho.v r hm).1,Int.le_trans (ho.v r hm).2 h0⟩,h00,h1⟩,rfl,hb.1,h6⟩,hG⟩
theorem LB.sub(h:LB ab x) {rs:List Rec}(hs:rs.Sublist x.ao):LB ab ⟨x.ae,x.ah,rs⟩:=⟨h.ok.sub hs,h.aH⟩
theorem LB.of(h:LB ab x) {b:dT}(hb:BK ab x.ah x.ae b):LB ab b:=by
 have h1:b.ah=x.ah:=hb.ki.aH;have h2:b.ae=x.ae:=hb.rv;refine⟨?_,?_⟩
 ·
  rw [h1,h2];exact hb
 rw [h1,h2];exact h.aH
theorem LB.task(h:LB ab x) {b:dT}(hb:BK ab x.ah x.ae b) {rs:List Rec}(hs:rs.Sublist b.ao):LB ab ⟨b.ae,b.ah,rs⟩:=(h.of hb).sub hs
theorem LB.req(hR:ay ab) (h:LB ab x) {goals:List Key}(hg:∀k∈goals,qb ab k) (h32:goals.length≤32):∃(f:Nat) (s':ES),iD ab x goals=0∧Good ab x.ah ⟨x,[],[],0⟩∧(∀k∈goals,gH ab k)∧eW ab (valOf ab x.ah) f ⟨x,[],[],0⟩ goals=some s'∧s'.cy.length≤1000000∧LB ab (s'.base x)∧(s'.base x).ae=x.ae:=by
 have qf:=hR.len;have uy:=h.ok.ki;have hk:∀k∈goals,gH ab k:=fun k hm=>(hg k hm).Nk hR;obtain⟨f,s',hu⟩:=AV (val:=valOf ab x.ah) hR goals ⟨x,[],[],0⟩ uy hk;have h1:=uw hR hu uy hk;have h2:=HJ hR hu uy h.ok.zd hk;have rq:=D9 hR hu uy hk;have hop:jh ab ⟨x,[],[],0⟩≤ab.length:=Vj _ _;refine⟨f,s',?_,uy,hk,hu,?_,?_,?_⟩
 ·
  unfold iD
  rw [if_neg (fun h=>h hR),if_neg (fun hn=>hn h.ok.lE),if_neg (by omega),if_pos (List.all_eq_true.2 fun k hm=>(hg k hm).right hR)]
 ·
  grind
 ·
  unfold ES.base
  split
  ·
   refine h.of ⟨⟨h1.1.aH,h1.1.len,h1.1.key,h1.1.JH,.nil,fun k=>.inl rfl⟩,⟨h2.st,h2.v,h2.r0,h2.r1⟩,h1.2.rev,h.ok.Ed,h.ok.ze⟩
  exact h
 unfold ES.base
 split
 ·
  exact h1.2.rev
 rfl
theorem LB.start(h:LB ab x) {goals:List Key}(hk:∀k∈goals,gH ab k) (h32:goals.length≤32):TR ab x.ah x.ae 0 ⟨ab,x,goals,[],[]⟩:=
 ⟨⟨rfl,h.ok,hk,fun f hf=>(by cases hf),fun k hk=>(by cases hk)⟩,Nat.le_refl _,Nat.le_refl _,h32⟩
theorem LB.nil{ab:List aJ}(y:dT) (hr:y.ao=[]) (h0:0≤y.ae) (h1:y.ae≤1073741824) (hG:l9 y.ae y.ah) (h6:y.ah.length≤64):LB ab y:=by
 have hb:=hG.lE h0 h1 h6;exact⟨⟨⟨rfl,by grind,by grind,by grind,.nil,fun k=>.inl rfl⟩,⟨by show qj y.ao;rw [hr];exact .nil,by grind,h0,h1⟩,rfl,hb.1,h6⟩,hG⟩
end
end Go.Rc

namespace Go.Rc
open Go
def XE(l:List Key):Prop:=l.Pairwise fun a b=>cE a b<0
theorem Ta{l l':List Key}(hp:l'.Perm l) (hn:l.Nodup) (hs:l'.Pairwise fun a b=>¬cE b a<0):XE l':=by
 have hn':l'.Pairwise fun a b=>a≠b:=hp.nodup_iff.2 hn
 refine(hs.and hn').imp fun {a b} h=>?_
 grind [lO,qi]
section
variable {ab:List aJ}{aH:List dE}{k:Key}
theorem r7{l:List Key}{q:Nat}{y z:Key}(hy:l[q]?=some y) (hz:z∈l.take (q+1)):z∈l.take q∨z=y:=by grind [List.take_succ_eq_append_getElem]
def pB(l:List Key):List (Key × Value):=l.map fun x=>(x,.bool true)
theorem HU(l:List Key) (y:Key):(cq (pB l) y).getD (.bool false)=.bool (decide (y∈l)):=by
 unfold pB
 induction l with
 | nil=>simp [cq]
 | cons x r ih=>
  simp only [List.map_cons,cq]
  grind
theorem HV(l:List Key) {y:Key}(h:y∉l):dH (pB l) y (.bool true)=pB (l++[y]):=by
 unfold pB
 induction l with
 | nil=>rfl
 | cons x r ih=>
  rw [List.mem_cons,not_or] at h;simp only [List.map_cons,List.cons_append,dH];rw [if_neg (Ne.symm h.1),ih h.2]
end
end Go.Rc

namespace Go.Rc
open Go
structure LR {α:Type}(A:Nat→Prop) (w:World) (k:Nat) (R:α→List Value→Prop) (a:Option Addr) (n:Nat) (xs:List α):Prop where
 len:n=xs.length
 le:n≤140737488355328
 at_:∀{i:Nat}{x:α},xs[i]?=some x→∃b o r,a=some ⟨b,o,none⟩∧r.length=k∧R x r∧w.rangeAt b (o+i*k) r∧A b∧b<w.heap.size
theorem SR.lr{α:Type}{A:Nat→Prop}{w:World}{k n c:Nat}{R:α→List Value→Prop}{a:Option Addr}{xs:List α}(h:SR A w k R a n c xs):LR A w k R a n xs:=
 ⟨SR.len h,SR.le h,fun {i x} hx=>by
  obtain⟨hn,rows,hl,hk,hs,hR⟩:=h;have ee:i<xs.length:=(List.getElem?_eq_some_iff.1 hx).1;obtain⟨r,hr⟩:∃r,rows[i]?=some r:=⟨rows[i],by simp [hl,ee]⟩
  rcases hs.at_ with⟨_,h0,_⟩ | ⟨b,o,h1,_,_,h4,h5,h6⟩
  ·
   omega
  exact⟨b,o,r,h1,hk r (List.mem_of_getElem? hr),hR _ _ r hx hr,pS h6 _ r (oy rows k _ r hk hr),h4,h5⟩⟩
def ajk(B:Nat→Prop) (w:World) (ks:List Key) (row:List Value):Prop:=∃a n c,row=[.slice a n c]∧LR B w 2 (fun(k:Key) r=>r=k.cells) a n ks
def Ksl(A B:Nat→Prop) (w:World) (a:Option Addr) (n:Nat) (l:List (List Key)):Prop:=LR A w 1 (ajk B w) a n l
structure Vm (ml:List (Key × Value)) (pre:List Key):Prop where
 get:∀k,cq ml k=if k∈pre then some (.bool true) else none
 keys:∀k,k∈ml.map (·.1)↔k∈pre
 le:ml.length≤pre.length
 eq:ml.length=pre.length↔pre.Nodup
theorem Vm.nil:Vm [] []:=⟨fun k=>by simp [cq],by simp,by simp,by simp⟩
theorem AZ{l:List Key}{k:Key}:(l++[k]).Nodup↔l.Nodup∧k∉l:=by grind
theorem Vm.put{ml:List (Key × Value)}{pre:List Key}(h:Vm ml pre) (k:Key):Vm (dH ml k (.bool true)) (pre++[k]):=by
 have hk:=DN ml k (.bool true)
 have hlen:(dH ml k (.bool true)).length=if k∈pre then ml.length else ml.length+1:=by
  have:=congrArg List.length hk
  rw [List.length_map] at this;rw [this]
  by_cases hm:k∈pre
  ·
   rw [if_pos ((h.keys k).2 hm),if_pos hm,List.length_map]
  rw [if_neg (fun e=>hm ((h.keys k).1 e)),if_neg hm];simp
 refine⟨fun k'=>?_,fun k'=>?_,?_,?_⟩
 ·
  rw [eR,h.get]
  grind
 ·
  rw [hk]
  by_cases hm:k∈ml.map (·.1)
  ·
   rw [if_pos hm,h.keys]
   have:=(h.keys k).1 hm
   grind
  rw [if_neg hm]
  grind [keys]
 ·
  rw [hlen];have:=h.le;grind
 rw [hlen,AZ]
 have:=h.le;have:=h.eq
 grind
theorem Ee{l:List (List Key)}{i:Nat}(h:i<l.length):(l.take (i+1)).flatten=(l.take i).flatten++l[i]:=by grind [List.take_succ_eq_append_getElem]
theorem Tb{l:List (List Key)}{i j:Nat}(hi:i<l.length) (hj:j<l[i].length) (hk:l[i][j]∈(l.take i).flatten++l[i].take j):¬l.flatten.Nodup:=by
 intro hn
 have e1:l.flatten=(l.take i).flatten++(l[i]++(l.drop (i+1)).flatten):=by grind [List.take_append_drop,List.drop_eq_getElem_cons]
 have e2:l[i]=l[i].take j++(l[i][j]::l[i].drop (j+1)):=by simp_all
 grind
theorem HW{l:List (List Key)}{i j:Nat}(hi:i<l.length) (hj:j<l[i].length):(l.take i).flatten++l[i].take (j+1)=((l.take i).flatten++l[i].take j)++[l[i][j]]:=by simp_all
theorem SR.Ss{α:Type}{w:World}{k b E:Nat}{R:α→List Value→Prop}{xs:List α}{rows:List (List Value)}(h:cI w b E rows.flatten) (hl:xs.length=rows.length) (hk:∀r∈rows,r.length=k) (h1:∀u∈rows.flatten,u.oneCell'=true)
  (hle:rows.length≤140737488355328) (hR:∀(i:Nat) (x:α) (r:List Value),xs[i]?=some x→rows[i]?=some r→R x r):SR (fun _=>True) w k R (some ⟨b,0,none⟩) rows.length rows.length xs:=by
 have hlen:rows.flatten.length=rows.length*k:=by
  clear h hl h1 hle hR
  induction rows with
  | nil=>simp
  | cons r t ih=>grind
 have ho:=OL.blk (base:=0) (k:=k) h (Nat.zero_le _) hlen h1 hle;exact⟨hl.symm,rows,hl.symm,hk,ho.sl (A:=fun _=>True) (fun _ _=>trivial) hle,hR⟩
end Go.Rc

namespace Go.Rc
open Go
theorem LB.Vn{ab:List aJ}{x:dT}(h:LB ab x):jM ab x:=
 ⟨h.ok.zd.r0,h.ok.zd.r1,⟨h.aH.1,h.aH.2.1⟩,h.aH.k99,h.ok.ze,fun r hr=>⟨h.ok.ki.key r hr,((ez _).1 (h.ok.zd.v r hr).1).2.2.1,(h.ok.ki.JH r hr).2,(h.ok.zd.v r hr).1⟩,h.ok.zd.st,h.ok.ki.len,fun r hr=>(h.ok.zd.v r hr).2⟩
theorem LB.small{ab:List aJ}{x:dT}(hR:ay ab) (h:LB ab x):∀k,(valOf ab x.ah k).size≤1000:=AM hR fun y hy=>(h.aH.2.2 y hy).2
end Go.Rc

namespace Go.Rc
open Go
section
variable {ab:List aJ}{aH:List dE}
noncomputable def NG(ab:List aJ) (aH:List dE) (i q:Nat):List ByteArray:=(gy (dN ab (aS ab (i:Int))) (valOf ab aH) q).2
noncomputable def uz(ab:List aJ) (aH:List dE) (i q:Nat):Key:=(dN ab (aS ab (i:Int)) (NG ab aH i q)).ask
theorem vB(i q:Nat):(NG ab aH i q).length=q:=(iZ _ _ _).2
theorem lQ{i q:Nat}(hq:q<dY ab i):(dD ab aH i)[q]?=some (uz ab aH i q):=by
 unfold dD uz NG
 generalize dY ab i=n at hq ⊢
 induction n with
 | zero=>omega
 | succ n ih=>
  have hl:=(iZ (dN ab (aS ab (i:Int))) (valOf ab aH) n).1;simp only [gy]
  grind
theorem Mj(hR:ay ab) {i q:Nat}(hi:i<ab.length) (hq:q<dY ab i):dN ab (aS ab (i:Int)) (NG ab aH i q)=⟨false,⟨#[]⟩,uz ab aH i q⟩:=by grind [fJ,vB,uz]
theorem Mk(hR:ay ab) {i:Nat}(hi:i<ab.length):dN ab (aS ab (i:Int)) (NG ab aH i (dY ab i))=⟨true,valOf ab aH (aS ab (i:Int)),fW⟩:=jz hR hi
theorem HX(hR:ay ab) {i q:Nat}(hi:i<ab.length) (hq:q<dY ab i):gH ab (uz ab aH i q):=
 (nM hR hi _ (List.mem_of_getElem? (lQ (aH:=aH) hq))).Nk hR
theorem NH(hR:ay ab) {i:Nat}(hi:i<ab.length) (hr:aI ab i=true):eh (valOf ab aH (aS ab (i:Int)))=rv ab aH i:=by grind [jG,ky,gR,yl]
end
end Go.Rc

namespace Go.Rc
open Go
section
variable {ab:List aJ}{aH:List dE}{k:Key}{L:List Key}
end
end Go.Rc

namespace Go.Rc
open Go
section
variable {ab:List aJ}{aH:List dE}
theorem eb.trans{i j k:Nat}(h:eb ab i j) (h2:eb ab j k):eb ab i k:=by
 induction h2 with
 | refl=>exact h
 | step _ h3 ih=>exact .step ih h3
variable {lo n q v:Nat}{S:List Int}{r:aJ}
end
end Go.Rc

namespace Go.Rc
open Go
section
variable {ab:List aJ}{aH vC:List dE}
end
end Go.Rc
namespace Go.Rc
open Go
end Go.Rc

namespace Go.Rc
open Go
section
variable {ab:List aJ}{aH vC:List dE}
theorem Ba(hR:ay ab) {i:Nat}(hi:i<ab.length) (h:∀a∈dD ab aH i,valOf ab aH a=valOf ab vC a):dD ab vC i=dD ab aH i∧valOf ab vC (aS ab (i:Int))=valOf ab aH (aS ab (i:Int)):=by
 have e:gy (dN ab (aS ab (i:Int))) (valOf ab aH) (dY ab i)=gy (dN ab (aS ab (i:Int))) (valOf ab vC) (dY ab i):=Ay _ fun m hm=>h _ (List.mem_of_getElem? (lQ hm))
 refine⟨?_,?_⟩
 ·
  unfold dD
  rw [e]
 have h1:=jz (aH:=aH) hR hi;have h2:=jz (aH:=vC) hR hi
 grind
theorem yv(hR:ay ab) {G:Nat→Prop}(hG:∀j,G j→j<ab.length∧aI ab j=true) (h:∀j,G j→∀r x,ab[j]?=some r→x∈r.asks→(∀m,G m→cJ ab x≠aS ab (m:Int))→valOf ab aH (cJ ab x)=valOf ab vC (cJ ab x)) {j:Nat}(hj:G j) (b:Nat) (hb:(rv ab aH j).testBit b=true):(rv ab vC j).testBit b=true:=by
 obtain⟨mB,AB⟩:=hG j hj;obtain⟨n,hn,Hj⟩:=(fQ hR mB AB b).1 hb
 have key:∀n,eb ab j n→(G n∧eb ab j n)∨∃(m:Nat) (x:Ask) (r:aJ) (q:Nat),G m∧eb ab j m∧ab[m]?=some r∧x∈r.asks∧cJ ab x=aS ab (q:Int)∧¬G q∧iA ab m q∧eb ab q n:=by
  intro n hn
  induction hn with
  | refl=>exact .inl ⟨hj,.refl⟩
  | @step m q hm ha ih=>
   rcases ih with⟨g1,g2⟩ | ⟨m2,x,r,q2,g1,g2,g3,g4,g5,g6,g7,g8⟩
   ·
    by_cases hq:G q
    ·
     exact .inl ⟨hq,.step g2 ha⟩
    obtain⟨x,hx,_,hk⟩:=uo (hG m g1).1 ha;exact .inr ⟨m,x,_,q,g1,g2,aq (hG m g1).1,hx,hk,hq,ha,.refl⟩
   exact .inr ⟨m2,x,r,q2,g1,g2,g3,g4,g5,g6,g7,.step g8 ha⟩
 rcases key n hn with⟨g1,g2⟩ | ⟨m,x,r,q,g1,g2,g3,g4,g5,g6,g7,g8⟩
 ·
  obtain⟨l8,hnr⟩:=hG n g1;refine(fQ hR mB AB b).2 ⟨n,g2,?_⟩
  rcases(gS l8 b).1 Hj with h1 | ⟨x,hx,ho,h1⟩
  ·
   grind [gS]
  refine(gS l8 b).2 (.inr ⟨x,hx,ho,?_⟩);rw [← h n g1 _ x (aq l8) hx fun m hm e=>?_]
  ·
   exact h1
  grind [lL,cA,ay.len]
 have hql:=g7.lt.2.1;have hqr:=g7.lt.2.2.2;have h1:(rv ab aH q).testBit b=true:=(fQ hR hql hqr b).2 ⟨n,g8,Hj⟩
 have h2:=h m g1 r x g3 g4 fun m2 jf e=>by grind [fG]
 have h3:rv ab aH q=rv ab vC q:=by grind [NH]
 rw [h3] at h1;obtain⟨n2,h4,h5⟩:=(fQ hR hql hqr b).1 h1;exact(fQ hR mB AB b).2 ⟨n2,(eb.step g2 g7).trans h4,h5⟩
theorem Kn(hR:ay ab) {G:Nat→Prop}(hG:∀j,G j→j<ab.length∧aI ab j=true) (h:∀j,G j→∀r x,ab[j]?=some r→x∈r.asks→(∀m,G m→cJ ab x≠aS ab (m:Int))→valOf ab aH (cJ ab x)=valOf ab vC (cJ ab x)) {j:Nat}(hj:G j):valOf ab aH (aS ab (j:Int))=valOf ab vC (aS ab (j:Int)):=by
 obtain⟨mB,AB⟩:=hG j hj
 have e:rv ab aH j=rv ab vC j:=by
  apply Nat.eq_of_testBit_eq
  intro b;rw [Bool.eq_iff_iff];exact⟨yv hR hG h hj b,yv hR hG (fun j hj r x h1 h2 h3=>(h j hj r x h1 h2 h3).symm) hj b⟩
 grind [jG,ky]
structure Cons (ab:List aJ) (H:Int→List dE) (on:Key→Bool) (b:dT):Prop where
 now:H b.ae=b.ah
 gk:∀k t,aB k=true→(dX b.ah k).changed≤t→t≤b.ae→cellOf (H t) k=cellOf b.ah k
 Ml:∀r∈b.ao,r.az≤b.ae∧r.changed≤r.az
 vr:∀r∈b.ao,r.value=valOf ab (H r.az) r.key∧r.reads=xn ab (H r.az) r.key
 rr:∀r∈b.ao,∀a∈r.reads,aB a=false→∀ra,aD b.ao a=some ra→(r.az=b.ae∧on a=true)∨(ra.changed≤r.az→valOf ab (H r.az) a=ra.value)
 rs:∀r∈b.ao,aC r.key=true→∀a∈r.reads,aC a=true→∀ra,aD b.ao a=some ra→(r.az=b.ae∧on a=true)∨r.az≤ra.az
variable {H:Int→List dE}{on:Key→Bool}{b:dT}{k:Key}
theorem Cons.up(h:Cons ab H on b) (hu:aK b k=true):∃r,aD b.ao k=some r∧r.az=b.ae∧r.value=valOf ab b.ah k:=by
 obtain⟨r,hr,hv⟩:=cU.1 hu;obtain⟨h1,h2⟩:=bq hr;refine⟨r,hr,hv,?_⟩;rw [(h.vr r h1).1,hv,h.now,h2]
theorem Cons.changed(h:Cons ab H on b) {m:Rec}(hm:m∈b.ao) (ee:m.az<b.ae) {a:Key}(ha:a∈m.reads) (hc:bT (valOf ab b.ah) b a≤m.az):valOf ab (H m.az) a=valOf ab b.ah a:=by
 cases hi:aB a with
 | true=>
  unfold bT at hc
  rw [if_pos hi] at hc
  have:=h.gk a m.az hi hc (by omega)
  unfold valOf
  grind
 | false=>
  unfold bT at hc
  rw [if_neg (by rw [hi];simp)] at hc
  split at hc
  ·
   rename_i h1
   rw [Bool.and_eq_true] at h1;obtain⟨ra,kj⟩:=Option.isSome_iff_exists.1 h1.1
   have e:aG b.ao a=ra:=by unfold aG;rw [kj];rfl
   rw [e] at h1 hc
   have iH:valOf ab b.ah a=ra.value:=by
    rw [Bool.or_eq_true] at h1
    rcases h1.2 with h2 | h2
    ·
     have h2:=of_decide_eq_true h2;obtain⟨g1,g2⟩:=bq kj;rw [(h.vr ra g1).1,h2,h.now,g2]
    exact of_decide_eq_true h2
   rcases h.rr m hm a ha hi ra kj with⟨h2,_⟩ | h2
   ·
    omega
   rw [h2 hc,iH]
  omega
end
end Go.Rc

namespace Go.Rc
open Go
/-! ### lists of keys in order -/
def Tc(l:List Key):Prop:=l.Pairwise fun a b=>cE a b<0
theorem qm{a b:Key}(h:cE a b<0) (h2:cE b a<0):False:=by grind [kh,jc]
theorem Mm{k:Key}:∀{l:List Key},Tc l→Tc (rl k l)
 | [],_=>by simp [rl,Tc]
 | x::r,h=>by
  obtain⟨h1,h2⟩:=List.pairwise_cons.1 h
  unfold rl
  split
  ·
   rename_i c
   refine List.pairwise_cons.2 ⟨fun y hy=>?_,Mm h2⟩
   grind [HE]
  rename_i c
  split
  ·
   exact h
  rename_i e
  have ee:cE k x<0:=by grind [lO,qi]
  refine List.pairwise_cons.2 ⟨fun y hy=>?_,h⟩
  grind [kh]
theorem HY(l:List Key):Tc (jZ l):=by
 have key:∀(l acc:List Key),Tc acc→Tc (l.foldl (fun out k=>rl k out) acc):=by
  intro l
  induction l with
  | nil=>intro acc h;exact h
  | cons x r ih=>grind [Mm]
 exact key l [] List.Pairwise.nil
theorem Ko:∀{a b:List Key},Tc a→Tc b→(∀x,x∈a↔x∈b)→a=b
 | [],[],_,_,_=>rfl
 | [],y::b,_,_,h=>by have:=(h y).2 (by simp);cases this
 | x::a,[],_,_,h=>by have:=(h x).1 (by simp);cases this
 | x::a,y::b,h1,h2,h=>by
  obtain⟨h3,h4⟩:=List.pairwise_cons.1 h1;obtain⟨h5,h6⟩:=List.pairwise_cons.1 h2
  have e:x=y:=by
   rcases List.mem_cons.1 ((h x).1 (by simp)) with e | e
   ·
    exact e
   rcases List.mem_cons.1 ((h y).2 (by simp)) with e2 | e2
   ·
    exact e2.symm
   grind [qm]
  subst e
  congr 1
  refine Ko h4 h6 fun z=>⟨fun hz=>?_,fun hz=>?_⟩
  ·
   grind [qm]
  grind [qm]
/-! ### rings that belong together -/
section
variable {l l':List Rec}{rev:Int}{k x y z:Key}
theorem cN:cY l rev k=true↔∃r,aD l k=some r∧aC k=true∧r.az<rev∧r.ct=false:=by
 unfold cY aG
 cases h:aD l k with
 | none=>simp
 | some r=>simp
theorem cM.trans(h:cM l rev k x) (h2:cM l rev x y):cM l rev k y:=by
 induction h2 with
 | one h2=>exact .step h h2
 | step _ h3 ih=>exact .step ih h3
def Ef(l:List Rec) (rev:Int) (x y:Key):Prop:=cM l rev x y∧cM l rev y x
theorem Ef.symm(h:Ef l rev x y):Ef l rev y x:=⟨h.2,h.1⟩
theorem Ef.trans(h:Ef l rev x y) (h2:Ef l rev y z):Ef l rev x z:=⟨h.1.trans h2.1,h2.2.trans h.2⟩
theorem Ef.jh(h:Ef l rev x y):cY l rev y=true:=h.1.jh
theorem Kp:y∈lN l rev k l↔y≠k∧Ef l rev k y:=by
 unfold lN HG
 rw [List.mem_map]
 constructor
 ·
  rintro⟨r,hr,rfl⟩;rw [List.mem_filter] at hr;simp only [Bool.and_eq_true,decide_eq_true_eq,nK] at hr;exact⟨hr.2.1,hr.2.2.1,hr.2.2.2⟩
 rintro⟨h1,h2⟩;obtain⟨r,hr,rfl⟩:=List.mem_map.1 (rU h2.jh);exact⟨r,List.mem_filter.2 ⟨hr,by simp only [Bool.and_eq_true,decide_eq_true_eq,nK];exact⟨h1,h2.1,h2.2⟩⟩,rfl⟩
theorem dM:y∈aF l rev k↔y=k∨(cY l rev k=true∧Ef l rev k y):=by
 unfold aF
 split
 ·
  rename_i h
  rw [nt,List.mem_cons,Kp]
  grind
 grind
theorem ma:k∈aF l rev k:=dM.2 (.inl rfl)
theorem xy(l:List Rec) (rev:Int) (k:Key):Tc (aF l rev k):=by
 unfold aF
 split
 ·
  exact HY _
 exact List.pairwise_singleton _ _
theorem r8(h:aC k=false):aF l rev k=[k]:=by
 unfold aF
 rw [if_neg]
 grind [cN]
theorem Eg(hk:cY l rev k=true) (h:Ef l rev k y) (z:Key):z∈aF l rev y↔z∈aF l rev k:=by
 rw [dM,dM]
 constructor
 ·
  rintro(rfl | ⟨_,h1⟩)
  ·
   exact .inr ⟨hk,h⟩
  exact .inr ⟨hk,h.trans h1⟩
 rintro(rfl | ⟨_,h1⟩)
 ·
  exact .inr ⟨h.jh,h.symm⟩
 exact .inr ⟨h.jh,h.symm.trans h1⟩
theorem eS{g:List Key}{c:tI}:c∈cC l g↔c.ft∈g∧c.read∈(aG l c.ft).reads∧c.read∉g:=by
 unfold cC eB
 grind
theorem CX{g:List Key}(h:∀m∈g,aG l' m=aG l m):cC l' g=cC l g:=by
 unfold cC
 have key:∀s:List Key,(∀m∈s,aG l' m=aG l m)→(s.flatMap fun m=>eB g m (aG l' m).reads)=s.flatMap fun m=>eB g m (aG l m).reads:=by
  intro s
  induction s with
  | nil=>intro _;rfl
  | cons m r ih=>grind
 exact key g h
end
/-! ### the change of records -/
def Pt(val:Key→ByteArray) (N:Key→Prop) (rev:Int) (cy:List Key) (y:Key) (o o':Option Rec):Prop:=
 o'=o∨((aC y=true∨N y)∧∃r,o=some r∧r.ct=false∧r.az<rev∧(o'=some {r with az:=rev}∨o'=some {r with ct:=true}))∨
 ((y∈cy∧N y)∧(∀r,o=some r→r.az<rev)∧∃r',o'=some r'∧r'.az=rev∧r'.ct=false∧r'.value=val y∧(∀r,o=some r→r'.changed=if r.value=r'.value then r.changed else rev)∧(o=none→r'.changed=rev))
structure lx (val:Key→ByteArray) (N:Key→Prop) (cy:List Key) (rev:Int) (l l':List Rec):Prop where
 pt:∀y,Pt val N rev cy y (aD l y) (aD l' y)
 scc:∀y z,Ef l rev y z→cY l' rev y=true→cY l' rev z=true
def Live(l:List Rec) (rev:Int) (k:Key):Prop:=∃r,aD l k=some r∧r.ct=false∧r.az<rev
theorem Live.Ft{l:List Rec}{rev:Int}{k:Key}(h:cY l rev k=true):Live l rev k:=by
 obtain⟨r,h1,_,h2,h3⟩:=cN.1 h;exact⟨r,h1,h3,h2⟩
theorem Live.jh{l:List Rec}{rev:Int}{k:Key}(h:Live l rev k) (hc:aC k=true):cY l rev k=true:=by
 obtain⟨r,h1,h2,h3⟩:=h
 grind [cN]
section
variable {val:Key→ByteArray}{N N':Key→Prop}{cy acP:List Key}{rev:Int}{l l' l2:List Rec}{k x y z:Key}
theorem lx.refl(l:List Rec):lx val N cy rev l l:=⟨fun _=>.inl rfl,fun _ _ h _=>h.jh⟩
theorem lx.mono(h:lx val N cy rev l l') (hr:∀y∈cy,y∈acP) (hN:∀y,N y→N' y):lx val N' acP rev l l':=
 ⟨fun y=>by
  rcases h.pt y with h | ⟨h1,h2⟩ | ⟨⟨h1,h2⟩,h3⟩
  ·
   exact .inl h
  ·
   exact .inr (.inl ⟨h1.imp id (hN y),h2⟩)
  exact .inr (.inr ⟨⟨hr y h1,hN y h2⟩,h3⟩),h.scc⟩
theorem lx.live(h:lx val N cy rev l l') (hl:Live l' rev y):aD l' y=aD l y:=by
 obtain⟨r,h1,h2,h3⟩:=hl
 rcases h.pt y with e | ⟨_,q,_,_,_,e | e⟩ | ⟨_,_,q,e,h4,_⟩
 ·
  exact e
 ·
  grind
 ·
  grind
 grind
theorem lx.Vo(h:lx val N cy rev l l') (hl:Live l' rev y):Live l rev y:=by
 obtain⟨r,h1,h2,h3⟩:=id hl;exact⟨r,by rw [← h.live hl];exact h1,h2,h3⟩
theorem lx.jh(h:lx val N cy rev l l') (ho:cY l' rev y=true):aD l' y=aD l y:=h.live (.Ft ho)
theorem lx.Td(h:lx val N cy rev l l') (ho:cY l' rev y=true):cY l rev y=true:=by
 obtain⟨r,h1,h2,h3,h4⟩:=cN.1 ho;exact cN.2 ⟨r,by rw [← h.jh ho];exact h1,h2,h3,h4⟩
theorem lx.aG(h:lx val N cy rev l l') (ho:cY l' rev y=true):aG l' y=Rc.aG l y:=by
 unfold Rc.aG
 rw [h.jh ho]
theorem lx.leads(h:lx val N cy rev l l') (hk:cY l' rev k=true) (hl:cM l' rev k x):cM l rev k x:=by
 induction hl with
 | one h1=>exact .one ⟨by rw [← h.aG hk];exact h1.1,h.Td h1.2⟩
 | step h1 h2 ih=>exact .step ih ⟨by rw [← h.aG h1.jh];exact h2.1,h.Td h2.2⟩
theorem lx.back(h:lx val N cy rev l l') (hk:cY l' rev k=true) (hl:cM l rev k x):cM l rev x k→cM l' rev k x:=by
 induction hl with
 | one h1=>exact fun hx=>.one ⟨by rw [h.aG hk];exact h1.1,h.scc k _ ⟨.one h1,hx⟩ hk⟩
 | step h1 h2 ih=>
  intro hx;have g:=ih ((cM.one h2).trans hx);exact .step g ⟨by rw [h.aG g.jh];exact h2.1,h.scc k _ ⟨.step h1 h2,hx⟩ hk⟩
theorem lx.mut(h:lx val N cy rev l l') (hk:cY l' rev k=true):Ef l' rev k y↔Ef l rev k y:=
 ⟨fun m=>⟨h.leads hk m.1,h.leads m.jh m.2⟩,fun m=>⟨h.back hk m.1 m.2,h.back (h.scc k y m hk) m.2 m.1⟩⟩
theorem lx.group(h:lx val N cy rev l l') (hk:Live l' rev k):aF l' rev k=aF l rev k∧∀m∈aF l rev k,aD l' m=aD l m:=by
 cases hc:aC k with
 | false=>
  rw [r8 hc,r8 hc];refine⟨rfl,fun m hm=>?_⟩;rw [List.mem_singleton.1 hm];exact h.live hk
 | true=>
  have ho:=hk.jh hc;refine⟨Ko (xy _ _ _) (xy _ _ _) fun y=>?_,fun m hm=>?_⟩
  ·
   rw [dM,dM,h.mut ho,ho,h.Td ho]
  rcases dM.1 hm with rfl | ⟨_,m2⟩
  ·
   exact h.live hk
  exact h.jh (h.scc _ _ m2 ho)
theorem lx.PY(h:lx val N cy rev l l') (hk:Live l' rev k):cC l' (aF l' rev k)=cC l (aF l rev k):=by
 obtain⟨h1,h2⟩:=h.group hk;rw [h1];refine CX fun m hm=>?_
 unfold Rc.aG
 rw [h2 m hm]
theorem lx.trans(h:lx val N cy rev l l') (h2:lx val N cy rev l' l2):lx val N cy rev l l2:=by
 refine⟨fun y=>?_,fun y z m ho=>?_⟩
 ·
  have g2:=h2.pt y
  rcases h.pt y with e | ⟨e0,r,e1,e2,e3,e4 | e4⟩ | ⟨e1,e2,r',e3,e4,e5,e6,e7,e8⟩
  ·
   rw [e] at g2;exact g2
  ·
   rcases g2 with g | ⟨_,q,g1,g2,g3,_⟩ | ⟨_,g1,_⟩
   ·
    exact .inr (.inl ⟨e0,r,e1,e2,e3,.inl (g.trans e4)⟩)
   ·
    grind
   grind
  ·
   rcases g2 with g | ⟨_,q,g1,g2,g3,_⟩ | ⟨g1,g2,q,g3,g4,g5,g6,g7,g8⟩
   ·
    exact .inr (.inl ⟨e0,r,e1,e2,e3,.inr (g.trans e4)⟩)
   ·
    grind
   refine .inr (.inr ⟨g1,fun r2 zC=>?_,q,g3,g4,g5,g6,fun r2 zC=>?_,fun hn=>?_⟩)
   ·
    grind
   ·
    grind
   grind
  rcases g2 with g | ⟨_,q,g1,g2,g3,_⟩ | ⟨_,g1,_⟩
  ·
   exact .inr (.inr ⟨e1,e2,r',g.trans e3,e4,e5,e6,e7,e8⟩)
  ·
   grind
  have:=g1 _ e3
  omega
 have ho1:=h2.Td ho;exact h2.scc y z ((h.mut ho1).2 m) ho
theorem fj{g:List Key}{d:Bool}:aD (l.map (cZ rev g d)) y=(aD l y).map (cZ rev g d):=xp _ (fun r=>(dU rev g d r).1) y l
theorem lx.mark(hl:Live l rev k) (d:Bool) (hN:aC k=true∨N k):lx val N cy rev l (l.map (cZ rev (aF l rev k) d)):=by
 have gk:∀y∈aF l rev k,Live l rev y:=fun y hy=>by
  rcases dM.1 hy with rfl | ⟨_,m⟩
  ·
   exact hl
  exact .Ft m.jh
 have gX:∀y,y∉aF l rev k→aD (l.map (cZ rev (aF l rev k) d)) y=aD l y:=fun y hy=>by
  rw [fj]
  cases hf:aD l y with
  | none=>rfl
  | some r=>
   have e:=(bq hf).2
   show some (cZ rev (aF l rev k) d r)=some r
   unfold cZ
   rw [if_neg (by rw [e];exact hy)]
 have U4:∀y∈aF l rev k,∃r,aD l y=some r∧r.ct=false∧r.az<rev∧aD (l.map (cZ rev (aF l rev k) d)) y=some (if d then {r with ct:=true} else {r with az:=rev}):=fun y hy=>by
  obtain⟨r,h1,h2,h3⟩:=gk y hy;refine⟨r,h1,h2,h3,?_⟩;rw [fj,h1]
  show some (cZ rev (aF l rev k) d r)=_
  unfold cZ
  rw [if_pos (by rw [(bq h1).2];exact hy)]
 refine⟨fun y=>?_,fun y z m ho=>?_⟩
 ·
  by_cases hy:y∈aF l rev k
  ·
   obtain⟨r,h1,h2,h3,h4⟩:=U4 y hy;refine .inr (.inl ⟨?_,r,h1,h2,h3,?_⟩)
   ·
    rcases dM.1 hy with rfl | ⟨_,m⟩
    ·
     exact hN
    obtain⟨_,_,g,_⟩:=cN.1 m.jh;exact .inl g
   grind
  exact .inl (gX y hy)
 have hy:y∉aF l rev k:=fun hy=>by grind [cN]
 have hz:z∉aF l rev k:=fun hz=>hy (by
  rcases dM.1 hz with rfl | ⟨h1,h2⟩
  ·
   grind [dM,Ef.jh,Ef.symm]
  exact dM.2 (.inr ⟨h1,h2.trans m.symm⟩))
 obtain⟨r,h1,h2,h3,h4⟩:=cN.1 m.jh
 grind [cN]
theorem lx.put{r':Rec}(hk:cY l rev r'.key=false) (ee:∀r,aD l r'.key=some r→r.az<rev) (rq:r'.key∈cy∧N r'.key) (hv:r'.az=rev) (hd:r'.ct=false) (iH:r'.value=val r'.key)
  (hc:∀r,aD l r'.key=some r→r'.changed=if r.value=r'.value then r.changed else rev) (hn:aD l r'.key=none→r'.changed=rev):lx val N cy rev l (gW l r'):=by
 refine⟨fun y=>?_,fun y z m ho=>?_⟩
 ·
  rw [gD]
  by_cases e:y=r'.key
  ·
   rw [if_pos e,e];exact .inr (.inr ⟨rq,ee,r',rfl,hv,hd,iH,hc,hn⟩)
  rw [if_neg e];exact .inl rfl
 have hz:z≠r'.key:=fun e=>by grind [Ef.jh]
 obtain⟨r,h1,h2,h3,h4⟩:=cN.1 m.jh;exact cN.2 ⟨r,by rw [gD,if_neg hz];exact h1,h2,h3,h4⟩
end
end Go.Rc

namespace Go.Rc
open Go
theorem bY{l:List Rec}{k:Key}{r:Rec}(h:aD l k=some r):aG l k=r:=by
 unfold aG
 rw [h]
 rfl
theorem ia:∀{l:List Rec},qj l→∀{r:Rec},r∈l→aD l r.key=some r
 | [],_,r,hr=>by cases hr
 | x::xs,h,r,hr=>by
  obtain⟨h1,h2⟩:=List.pairwise_cons.1 h
  unfold aD
  rw [List.find?_cons]
  rcases List.mem_cons.1 hr with rfl | hr
  ·
   simp
  have h3:=h1 r hr
  have ku:x.key≠r.key:=fun e=>by rw [e,jc] at h3;omega
  have:(x.key == r.key)=false:=by simpa using ku
  rw [this];exact ia h2 hr
structure Bi (ab:List aJ) (H:Int→List dE) (on:Key→Bool) (b:dT):Prop where
 c:Cons ab H on b
 st:qj b.ao
 kr:∀r∈b.ao,∃i:Nat,i<ab.length∧r.key=aS ab (i:Int)
 dv:∀r∈b.ao,r.ct=true→r.az<b.ae
section
variable {ab:List aJ}{H:Int→List dE}{on on':Key→Bool}{b:dT}{k:Key}
theorem Bi.Vp(h:Bi ab H on b) (ho:∀k,on k=true→on' k=true):Bi ab H on' b:=
 ⟨{h.c with
   rr:=fun r hr a ha hi ra kj=>(h.c.rr r hr a ha hi ra kj).imp (fun⟨x,y⟩=>⟨x,ho _ y⟩) id
   rs:=fun r hr hc a ha hi ra kj=>(h.c.rs r hr hc a ha hi ra kj).imp (fun⟨x,y⟩=>⟨x,ho _ y⟩) id},h.st,h.kr,h.dv⟩
theorem Bi.off(h:Bi ab H on b) (hu:aK b k=true) (ho:∀y,on y=true→y=k∨on' y=true):Bi ab H on' b:=by
 obtain⟨q,hq,hv,iH⟩:=h.c.up hu;refine⟨{h.c with rr:=fun r hr a ha hi ra kj=>?_,rs:=fun r hr hc a ha hi ra kj=>?_},h.st,h.kr,h.dv⟩
 ·
  rcases h.c.rr r hr a ha hi ra kj with⟨x,y⟩ | z
  ·
   rcases ho a y with rfl | y
   ·
    rw [kj] at hq
    have:=Option.some.inj hq
    subst this;refine .inr fun _=>?_;rw [x,h.c.now];exact iH.symm
   exact .inl ⟨x,y⟩
  exact .inr z
 rcases h.c.rs r hr hc a ha hi ra kj with⟨x,y⟩ | z
 ·
  grind
 exact .inr z
theorem NI(hR:ay ab) {aH:List dE}{i:Nat}(hi:i<ab.length) (hr:aI ab i=true) {x:Ask}(hx:x∈ab[i].asks):cJ ab x∈dD ab aH i:=by
 obtain⟨q,hq⟩:=List.mem_iff_getElem?.1 hx
 have hql:q<dY ab i:=by grind [dY]
 have h1:=lQ (aH:=aH) hql
 grind [fJ,vB,uz]
theorem Cons.lead(h:Cons ab H on b) {x y:Key}(hx:cY b.ao b.ae x=true) (hl:cM b.ao b.ae x y):(aG b.ao x).az≤(aG b.ao y).az:=by
 have step:∀x y,cY b.ao b.ae x=true→Ld b.ao b.ae x y→(aG b.ao x).az≤(aG b.ao y).az:=by
  intro x y hx hy;obtain⟨r,h1,h2,h3,h4⟩:=cN.1 hx;obtain⟨q,g1,g2,g3,g4⟩:=cN.1 hy.2;have ha:=hy.1;rw [bY h1] at ha;rw [bY h1,bY g1]
  rcases h.rs r (bq h1).1 (by rw [(bq h1).2];exact h2) y ha g2 q g1 with⟨e,_⟩ | e
  ·
   omega
  exact e
 induction hl with
 | one h1=>exact step _ _ hx h1
 | step h1 h2 ih=>grind [cM.jh]
theorem Bi.key(h:Bi ab H on b) (hl:Live b.ao b.ae k):∃i:Nat,i<ab.length∧k=aS ab (i:Int):=by
 obtain⟨r,h1,_⟩:=hl;obtain⟨h2,h3⟩:=bq h1;obtain⟨i,hi,e⟩:=h.kr r h2
 grind
theorem mX{l:List Rec}{rev:Int}{y:Key}(hl:Live l rev k) (hy:y∈aF l rev k):Live l rev y:=by
 rcases dM.1 hy with rfl | ⟨_,m⟩
 ·
  exact hl
 exact .Ft m.jh
theorem Bi.fixed(hR:ay ab) (h:Bi ab H on b) (hl:Live b.ao b.ae k)
  (hp:∀m∈aF b.ao b.ae k,∀a∈(aG b.ao m).reads,a∉aF b.ao b.ae k→valOf ab (H (aG b.ao m).az) a=valOf ab b.ah a) :
  ∀m∈aF b.ao b.ae k,valOf ab b.ah m=valOf ab (H (aG b.ao m).az) m∧xn ab b.ah m=xn ab (H (aG b.ao m).az) m:=by
 have qf:=hR.len
 have oR:∀m∈aF b.ao b.ae k,∃i:Nat,i<ab.length∧m=aS ab (i:Int)∧(aG b.ao m).reads=dD ab (H (aG b.ao m).az) i:=fun m hm=>by
  have hlm:=mX hl hm;obtain⟨i,hi,e⟩:=h.key hlm;obtain⟨r,h1,_⟩:=hlm;refine⟨i,hi,e,?_⟩;have h2:=(h.c.vr r (bq h1).1).2;rw [bY h1,h2,(bq h1).2,e,iO hR hi]
 cases hc:aC k with
 | false=>
  rw [r8 hc] at hp oR ⊢;intro m hm;rw [List.mem_singleton] at hm;subst hm;obtain⟨i,hi,e,oR⟩:=oR m (by simp)
  have hs:=Ba hR hi (aH:=H (aG b.ao m).az) (vC:=b.ah) fun a ha=>by
   refine hp m (by simp) a (by rw [oR];exact ha) fun hm=>?_;rw [List.mem_singleton] at hm;rw [e] at hm;rw [e,cA hi (by omega)] at hc
   rcases nM hR hi a ha with⟨n,hn,rfl⟩ | ⟨j,hj,rfl,_,h5,_⟩
   ·
    grind [dj,dI]
   grind [fG]
  grind [iO]
 | true=>
  have ho:=hl.jh hc
  have ht:∀m∈aF b.ao b.ae k,(aG b.ao m).az=(aG b.ao k).az:=fun m hm=>by
   rcases dM.1 hm with rfl | ⟨_,m1,m2⟩
   ·
    rfl
   have a1:=h.c.lead ho m1;have a2:=h.c.lead m1.jh m2
   omega
  have L7:∀j:Nat,j<ab.length→aS ab (j:Int)∈aF b.ao b.ae k→aI ab j=true:=fun j hj hm=>by
   have h1:cY b.ao b.ae (aS ab (j:Int))=true:=by grind [dM,Ef.jh]
   grind [cN,cA]
  have tM:∀j:Nat,j<ab.length→aS ab (j:Int)∈aF b.ao b.ae k→valOf ab (H (aG b.ao k).az) (aS ab (j:Int))=valOf ab b.ah (aS ab (j:Int)):=fun j hj hm=>by
   refine Kn hR (G:=fun j=>j<ab.length∧aS ab (j:Int)∈aF b.ao b.ae k) (fun j hj=>⟨hj.1,L7 j hj.1 hj.2⟩) (fun j hj r x hr hx ku=>?_) ⟨hj,hm⟩
   grind [fG,NI]
  intro m hm;obtain⟨i,hi,e,oR⟩:=oR m hm;have h1:=tM i hi (e ▸ hm);rw [ht m hm] at oR ⊢;refine⟨by rw [e];exact h1.symm,?_⟩
  have hs:=Ba hR hi (aH:=H (aG b.ao k).az) (vC:=b.ah) fun a ha=>by grind
  grind [iO]
theorem kA(rev:Int) (g:List Key) (d:Bool) (r:Rec):(cZ rev g d r).value=r.value∧(cZ rev g d r).changed=r.changed:=by
 unfold cZ
 grind
theorem Bi.mark(hR:ay ab) (h:Bi ab H on b) (hl:Live b.ao b.ae k)
  (hp:∀m∈aF b.ao b.ae k,∀a∈(aG b.ao m).reads,a∉aF b.ao b.ae k→valOf ab (H (aG b.ao m).az) a=valOf ab b.ah a∧(aB a=true∨(on a=true∧aC a=true)∨aK b a=true)) :
  Bi ab H on (dZ b (aF b.ao b.ae k) false):=by
 have hv:=h.fixed hR hl fun m hm a ha CY=>(hp m hm a ha CY).1
 generalize hG:aF b.ao b.ae k=G at hv hp
 have hvr:∀a ra,a∈G→aD b.ao a=some ra→ra.value=valOf ab b.ah a:=fun a ra ha kj=>by
  have h1:=(h.c.vr ra (bq kj).1).1;have h2:=(hv a ha).1;rw [bY kj] at h2;rw [h1,(bq kj).2,h2]
 have hmv:∀r:Rec,r.key∈G→(cZ b.ae G false r).az=b.ae:=fun r hr=>by
  unfold cZ
  rw [if_pos hr]
  rfl
 have hmo:∀r:Rec,r.key∉G→cZ b.ae G false r=r:=fun r hr=>by
  unfold cZ
  rw [if_neg hr]
 refine⟨⟨h.c.now,h.c.gk,fun r' jD=>?_,fun r' jD=>?_,fun r' jD a ha hi ra' Bb=>?_,fun r' jD hc a ha hi ra' Bb=>?_⟩,h.st.map fun r=>(dU _ _ _ r).1,fun r' jD=>?_,fun r' jD hd=>?_⟩
 ·
  obtain⟨r,hr,rfl⟩:=List.mem_map.1 jD;have h1:=h.c.Ml r hr
  by_cases e:r.key∈G
  ·
   rw [hmv r e,(kA _ _ _ r).2];exact⟨Int.le_refl _,by omega⟩
  rw [hmo r e];exact h1
 ·
  obtain⟨r,hr,rfl⟩:=List.mem_map.1 jD;have h1:=h.c.vr r hr
  by_cases e:r.key∈G
  ·
   have hf:=ia h.st hr;have h2:=hv r.key e;rw [bY hf] at h2;rw [hmv r e,(kA _ _ _ r).1,(dU _ _ _ r).1,(dU _ _ _ r).2,h.c.now,h2.1,h2.2];exact h1
  rw [hmo r e];exact h1
 ·
  obtain⟨r,hr,rfl⟩:=List.mem_map.1 jD;rw [show(dZ b G false).ao=b.ao.map (cZ b.ae G false) from rfl,fj] at Bb;obtain⟨ra,kj,rfl⟩:=Option.map_eq_some_iff.1 Bb;have hf:=ia h.st hr;rw [(dU _ _ _ r).2] at ha;rw [(kA _ _ _ ra).1,(kA _ _ _ ra).2]
  show((cZ b.ae G false r).az=b.ae∧_)∨_
  by_cases e:r.key∈G
  ·
   rw [hmv r e]
   by_cases ea:a∈G
   ·
    refine .inr fun _=>?_;rw [h.c.now];exact(hvr a ra ea kj).symm
   rcases(hp r.key e a (by rw [bY hf];exact ha) ea).2 with h1 | h1 | h1
   ·
    rw [hi] at h1
    cases h1
   ·
    exact .inl ⟨rfl,h1.1⟩
   refine .inr fun _=>?_;obtain⟨q,hq,_,iH⟩:=h.c.up h1;rw [kj] at hq
   have:=Option.some.inj hq
   subst this;rw [h.c.now];exact iH.symm
  rw [hmo r e];exact h.c.rr r hr a ha hi ra kj
 ·
  obtain⟨r,hr,rfl⟩:=List.mem_map.1 jD;rw [show(dZ b G false).ao=b.ao.map (cZ b.ae G false) from rfl,fj] at Bb;obtain⟨ra,kj,rfl⟩:=Option.map_eq_some_iff.1 Bb;have hf:=ia h.st hr;rw [(dU _ _ _ r).2] at ha;rw [(dU _ _ _ r).1] at hc
  show((cZ b.ae G false r).az=b.ae∧_)∨_
  have OJ:=(bq kj).2;have hle:=(h.c.Ml r hr).1
  by_cases e:r.key∈G
  ·
   rw [hmv r e]
   by_cases ea:a∈G
   ·
    grind
   rcases(hp r.key e a (by rw [bY hf];exact ha) ea).2 with h1 | h1 | h1
   ·
    obtain⟨j,hj,ej⟩:=h.kr ra (bq kj).1
    grind [ay.len,dI]
   ·
    exact .inl ⟨rfl,h1.1⟩
   obtain⟨q,hq,hqv⟩:=cU.1 h1
   grind
  rw [hmo r e]
  rcases h.c.rs r hr hc a ha hi ra kj with h1 | h1
  ·
   exact .inl h1
  refine .inr ?_
  by_cases ea:ra.key∈G
  ·
   grind
  grind
 ·
  obtain⟨r,hr,rfl⟩:=List.mem_map.1 jD;rw [(dU _ _ _ r).1];exact h.kr r hr
 obtain⟨r,hr,rfl⟩:=List.mem_map.1 jD
 by_cases e:r.key∈G
 ·
  have hf:=ia h.st hr;obtain⟨q,g1,g2,_⟩:=mX hl (y:=r.key) (by rw [hG];exact e);rw [hf] at g1
  have:=Option.some.inj g1
  subst this
  unfold cZ at hd
  grind
 rw [hmo r e] at hd ⊢;exact h.dv r hr hd
theorem Bi.ct(h:Bi ab H on b) {G:List Key}(hG:∀m∈G,Live b.ao b.ae m):Bi ab H on (dZ b G true):=by
 have hm:∀r:Rec,(cZ b.ae G true r).az=r.az:=fun r=>by
  unfold cZ
  grind
 refine⟨⟨h.c.now,h.c.gk,fun r' jD=>?_,fun r' jD=>?_,fun r' jD a ha hi ra' Bb=>?_,fun r' jD hc a ha hi ra' Bb=>?_⟩,h.st.map fun r=>(dU _ _ _ r).1,fun r' jD=>?_,fun r' jD hd=>?_⟩
 ·
  obtain⟨r,hr,rfl⟩:=List.mem_map.1 jD;rw [hm,(kA _ _ _ r).2];exact h.c.Ml r hr
 ·
  obtain⟨r,hr,rfl⟩:=List.mem_map.1 jD;rw [hm,(kA _ _ _ r).1,(dU _ _ _ r).1,(dU _ _ _ r).2];exact h.c.vr r hr
 ·
  obtain⟨r,hr,rfl⟩:=List.mem_map.1 jD;rw [show(dZ b G true).ao=b.ao.map (cZ b.ae G true) from rfl,fj] at Bb;obtain⟨ra,kj,rfl⟩:=Option.map_eq_some_iff.1 Bb;rw [(dU _ _ _ r).2] at ha;rw [hm,(kA _ _ _ ra).1,(kA _ _ _ ra).2];exact h.c.rr r hr a ha hi ra kj
 ·
  obtain⟨r,hr,rfl⟩:=List.mem_map.1 jD;rw [show(dZ b G true).ao=b.ao.map (cZ b.ae G true) from rfl,fj] at Bb;obtain⟨ra,kj,rfl⟩:=Option.map_eq_some_iff.1 Bb;rw [(dU _ _ _ r).2] at ha;rw [(dU _ _ _ r).1] at hc;rw [hm,hm];exact h.c.rs r hr hc a ha hi ra kj
 ·
  obtain⟨r,hr,rfl⟩:=List.mem_map.1 jD;rw [(dU _ _ _ r).1];exact h.kr r hr
 obtain⟨r,hr,rfl⟩:=List.mem_map.1 jD;rw [hm]
 by_cases e:r.key∈G
 ·
  obtain⟨q,g1,_,g2⟩:=hG _ e;rw [ia h.st hr] at g1
  have:=Option.some.inj g1
  subst this;exact g2
 unfold cZ at hd
 rw [if_neg e] at hd;exact h.dv r hr hd
theorem Bi.put(hR:ay ab) (h:Bi ab H on b) {i:Nat}(hi:i<ab.length) (Nw:aC (aS ab (i:Int))=true→on (aS ab (i:Int))=true)
  (LN:∀a∈dD ab b.ah i,aB a=true∨(on a=true∧aC a=true)∨aK b a=true) :
  Bi ab H on {b with ao:=gW b.ao (ek b (aS ab (i:Int)) (valOf ab b.ah (aS ab (i:Int))) (dD ab b.ah i))}:=by
 have qf:=hR.len
 generalize hq:ek b (aS ab (i:Int)) (valOf ab b.ah (aS ab (i:Int))) (dD ab b.ah i)=q
 have q1:q.key=aS ab (i:Int):=by rw [← hq];rfl
 have q2:q.az=b.ae:=by rw [← hq];rfl
 have q3:q.value=valOf ab b.ah (aS ab (i:Int)):=by rw [← hq];rfl
 have q4:q.reads=dD ab b.ah i:=by rw [← hq];rfl
 have q5:(∃r,aD b.ao q.key=some r∧r.value=q.value∧q.changed=r.changed)∨q.changed=b.ae:=by
  rw [← hq]
  unfold ek
  simp only
  split
  ·
   rename_i hc
   simp only [Bool.and_eq_true,decide_eq_true_eq] at hc;obtain⟨r,hr⟩:=Option.isSome_iff_exists.1 hc.1;rw [bY hr] at hc ⊢;exact .inl ⟨r,hr,hc.2,rfl⟩
  exact .inr rfl
 refine⟨⟨h.c.now,h.c.gk,fun r hr=>?_,fun r hr=>?_,fun r hr a ha Sb ra kj=>?_,fun r hr hc a ha Sb ra kj=>?_⟩,qj.put h.st,fun r hr=>?_,fun r hr hd=>?_⟩
 ·
  rcases jb _ _ _ _ hr with rfl | hr
  ·
   refine⟨by rw [q2];exact Int.le_refl _,?_⟩
   rcases q5 with⟨p,hp,_,e⟩ | e
   ·
    have:=h.c.Ml p (bq hp).1
    omega
   omega
  exact h.c.Ml r hr
 ·
  rcases jb _ _ _ _ hr with rfl | hr
  ·
   rw [q1,q2,q3,q4,h.c.now,iO hR hi];exact⟨rfl,rfl⟩
  exact h.c.vr r hr
 ·
  rw [show({b with ao:=gW b.ao q}:dT).ao=gW b.ao q from rfl,gD] at kj
  show(r.az=b.ae∧_)∨_
  rcases jb _ _ _ _ hr with rfl | hr
  ·
   by_cases e:a=r.key
   ·
    refine .inl ⟨q2,?_⟩;rw [e,q1];refine Nw ?_;rw [q4] at ha;rw [cA hi (by omega)]
    cases hrg:aI ab i with
    | true=>rfl
    | false=>
     rcases nM hR hi a ha with⟨n,hn,h1⟩ | ⟨j,hj,h1,_,h5,_⟩
     ·
      grind [dj]
     grind [fG]
   rw [if_neg e] at kj
   rcases LN a (by rw [← q4];exact ha) with h1 | h1 | h1
   ·
    rw [Sb] at h1
    cases h1
   ·
    exact .inl ⟨q2,h1.1⟩
   refine .inr fun _=>?_;obtain⟨p,hp,_,iH⟩:=h.c.up h1;rw [kj] at hp
   have:=Option.some.inj hp
   subst this;rw [q2,h.c.now];exact iH.symm
  by_cases e:a=q.key
  ·
   rw [if_pos e] at kj
   have:=Option.some.inj kj
   subst this
   rcases q5 with⟨p,hp,e2,e3⟩ | e2
   ·
    rcases h.c.rr r hr a ha Sb p (by rw [e];exact hp) with h1 | h1
    ·
     exact .inl h1
    grind
   refine .inr fun hc=>?_;have h1:=(h.c.Ml r hr).1
   have hv:r.az=b.ae:=by omega
   rw [hv,h.c.now,q3,e,q1]
  rw [if_neg e] at kj;exact h.c.rr r hr a ha Sb ra kj
 ·
  rw [show({b with ao:=gW b.ao q}:dT).ao=gW b.ao q from rfl,gD] at kj
  show(r.az=b.ae∧_)∨_
  rcases jb _ _ _ _ hr with rfl | hr
  ·
   by_cases e:a=r.key
   ·
    grind
   rw [if_neg e] at kj
   rcases LN a (by rw [← q4];exact ha) with h1 | h1 | h1
   ·
    obtain⟨j,hj,ej⟩:=h.kr ra (bq kj).1;rw [← (bq kj).2,ej,dI hj (by omega)] at h1
    cases h1
   ·
    exact .inl ⟨q2,h1.1⟩
   grind [cU]
  by_cases e:a=q.key
  ·
   rw [if_pos e] at kj
   have:=Option.some.inj kj
   subst this
   have:=(h.c.Ml r hr).1
   exact .inr (by omega)
  rw [if_neg e] at kj;exact h.c.rs r hr hc a ha Sb ra kj
 ·
  rcases jb _ _ _ _ hr with rfl | hr
  ·
   exact⟨i,hi,q1⟩
  exact h.kr r hr
 rcases jb _ _ _ _ hr with rfl | hr
 ·
  have:r.ct=false:=by rw [← hq];rfl
  rw [this] at hd
  cases hd
 exact h.dv r hr hd
end
end Go.Rc

namespace Go.Rc
open Go
def Te(val:Key→ByteArray) (b:dT) (y:Key):Prop:=∃m a,m∈aF b.ao b.ae y∧a∈(aG b.ao m).reads∧a∉aF b.ao b.ae y∧(aG b.ao m).az<bT val b a
def PZ(val:Key→ByteArray) (b:dT) (y:Key):Prop:=aB y=false∧aK b y=false∧(aD b.ao y=none∨(aG b.ao y).ct=true∨Te val b y)
section
variable {ab:List aJ}{H:Int→List dE}{on:Key→Bool}{b b0:dT}{k:Key}{s t:ES}
def ES.GV(s:ES) (k:Key):Bool:=s.on k && aC k
theorem Kq(h:s.on k=true∧aC k=true):s.GV k=true:=by grind [ES.GV]
structure Wy (ab:List aJ) (b0:dT) (s:ES):Prop where
 rev:s.b.ae=b0.ae
 aH:s.b.ah=b0.ah
 ev:lx (valOf ab b0.ah) (fun _=>True) s.cy b0.ae b0.ao s.b.ao
 Sc:∀y r,aD s.b.ao y=some r→r.ct=true→(aG b0.ao y).ct=true∨Te (valOf ab b0.ah) b0 y
 cy:∀y∈s.cy,PZ (valOf ab b0.ah) b0 y
 Tf:∀y∈s.cy,aK s.b y=true
 mrk:∀y,aK b0 y=false→aK s.b y=true→y∈s.cy∨¬Te (valOf ab b0.ah) b0 y
 ou:s.cy.Nodup
theorem tN{val:Key→ByteArray}(hi:aB k=false) (h:aD b.ao k=none):bT val b k=b.ae:=by grind [bT]
theorem gq{val:Key→ByteArray}(hi:aB k=false) {r:Rec}(h:aD b.ao k=some r):bT val b k=if r.az=b.ae∨val k=r.value then r.changed else b.ae:=by
 unfold bT
 rw [hi,bY h,h]
 grind
theorem Wy.changed(hB:Bi ab H on s.b) (h:Wy ab b0 s) (a:Key):bT (valOf ab b0.ah) s.b a=bT (valOf ab b0.ah) b0 a:=by
 cases hi:aB a with
 | true=>
  unfold bT
  rw [hi,if_pos rfl,if_pos rfl,h.aH]
 | false=>
  rcases h.ev.pt a with e | ⟨_,r,e1,e2,e3,e4 | e4⟩ | ⟨_,e2,r',e3,e4,e5,e6,e7,e8⟩
  ·
   cases hf:aD b0.ao a with
   | none=>grind [tN,rev]
   | some r=>rw [gq hi (e.trans hf),gq hi hf,h.rev]
  ·
   have hu:aK s.b a=true:=cU.2 ⟨_,e4,h.rev.symm⟩;obtain⟨q,hq,_,iH⟩:=hB.c.up hu;rw [e4] at hq
   have:=Option.some.inj hq
   subst this;rw [h.aH] at iH;rw [gq hi e4,gq hi e1,if_pos (.inl h.rev.symm),if_pos (.inr iH.symm)]
  ·
   rw [gq hi e4,gq hi e1,h.rev]
  rw [gq hi e3,if_pos (.inl (e4.trans h.rev.symm))]
  cases hf:aD b0.ao a with
  | none=>rw [tN hi hf,e8 hf]
  | some r=>
   rw [gq hi hf,e7 r hf,e6]
   grind
theorem Wy.dif(hB:Bi ab H on s.b) (h:Wy ab b0 s) (hl:Live s.b.ao s.b.ae k) {m a:Key}(hm:m∈aF s.b.ao s.b.ae k) (ha:a∈(aG s.b.ao m).reads) (CY:a∉aF s.b.ao s.b.ae k)
  (hc:(aG s.b.ao m).az<bT (valOf ab b0.ah) s.b a):∀y∈aF s.b.ao s.b.ae k,Te (valOf ab b0.ah) b0 y:=by
 intro y hy;rw [h.rev] at hl hm CY hy;obtain⟨h1,h2⟩:=h.ev.group hl;rw [h1] at hm CY hy;have MV:=h.ev.Vo hl
 have e:aG s.b.ao m=aG b0.ao m:=by
  unfold aG
  rw [h2 m hm]
 rw [e] at ha hc
 have hg:∀z,z∈aF b0.ao b0.ae y↔z∈aF b0.ao b0.ae k:=fun z=>by
  rcases dM.1 hy with rfl | ⟨h3,h4⟩
  ·
   exact Iff.rfl
  exact Eg h3 h4 z
 exact⟨m,a,(hg m).2 hm,ha,fun h3=>CY ((hg a).1 h3),by rw [← h.changed hB a];exact hc⟩
theorem Wy.Vq(h:Wy ab b0 s) (hl:Live s.b.ao s.b.ae k) (hp:∀m∈aF s.b.ao s.b.ae k,∀a∈(aG s.b.ao m).reads,a∉aF s.b.ao s.b.ae k→bT (valOf ab b0.ah) b0 a≤(aG s.b.ao m).az):∀y∈aF s.b.ao s.b.ae k,¬Te (valOf ab b0.ah) b0 y:=by
 rintro y hy ⟨m,a,hm,ha,CY,hc⟩;rw [h.rev] at hl hp hy;obtain⟨h1,h2⟩:=h.ev.group hl;rw [h1] at hp hy
 have hg:∀z,z∈aF b0.ao b0.ae y↔z∈aF b0.ao b0.ae k:=fun z=>by
  rcases dM.1 hy with rfl | ⟨h3,h4⟩
  ·
   exact Iff.rfl
  exact Eg h3 h4 z
 have e:aG s.b.ao m=aG b0.ao m:=by grind [aG]
 grind
theorem Wy.none(h:Wy ab b0 s) (hf:aD s.b.ao k=none):aD b0.ao k=none:=by
 rcases h.ev.pt k with e | ⟨_,r,e1,e2,e3,e4 | e4⟩ | ⟨_,e2,r',e3,_⟩
 ·
  exact e.symm.trans hf
 ·
  rw [hf] at e4;cases e4
 ·
  rw [hf] at e4;cases e4
 rw [hf] at e3;cases e3
theorem lx.aK{val:Key→ByteArray}{N:Key→Prop}{cy:List Key}{b b':dT}(h:lx val N cy b.ae b.ao b'.ao) (hr:b'.ae=b.ae) (hu:Rc.aK b k=true):Rc.aK b' k=true:=by
 obtain⟨r,h1,h2⟩:=cU.1 hu
 rcases h.pt k with e | ⟨_,q,e1,e2,e3,_⟩ | ⟨_,e2,_⟩
 ·
  exact cU.2 ⟨r,e.trans h1,h2.trans hr.symm⟩
 ·
  grind
 have:=e2 r h1
 omega
theorem Mn{G:List Key}(hu:Rc.aK b k=false) (Kr:Rc.aK (dZ b G false) k=true):k∈G:=by
 obtain⟨r',h1,h2⟩:=cU.1 Kr;have h1':(aD b.ao k).map (cZ b.ae G false)=some r':=fj.symm.trans h1;obtain⟨r,hr,rfl⟩:=Option.map_eq_some_iff.1 h1';have e:=(bq hr).2;refine Classical.byContradiction fun hk=>?_
 unfold cZ at h2
 rw [if_neg (by rw [e];exact hk)] at h2
 have:=cU.2 ⟨r,hr,h2⟩
 rw [hu] at this
 cases this
theorem HZ{G:List Key}:Rc.aK (dZ b G true) k=Rc.aK b k:=by
 have e:aD (dZ b G true).ao k=(aD b.ao k).map (cZ b.ae G true):=fj
 have hm:∀r:Rec,(cZ b.ae G true r).az=r.az:=fun r=>by
  unfold cZ
  grind
 rw [Bool.eq_iff_iff,cU,cU,e]
 constructor
 ·
  rintro⟨r',h1,h2⟩;obtain⟨r,hr,rfl⟩:=Option.map_eq_some_iff.1 h1;rw [hm] at h2;exact⟨r,hr,h2⟩
 rintro⟨r,h1,h2⟩;exact⟨_,by rw [h1];rfl,by rw [hm];exact h2⟩
theorem Eh{l:List Key}(h:l.Nodup) (hk:k∉l):(l++[k]).Nodup:=by grind
theorem Wy.step{s':ES}(h:Wy ab b0 s) (h1:s'.b.ae=s.b.ae) (h2:s'.b.ah=s.b.ah) (dP:lx (valOf ab b0.ah) (fun _=>True) s'.cy b0.ae s.b.ao s'.b.ao) (hr:∀y∈s.cy,y∈s'.cy)
  (hd:∀y r,aD s'.b.ao y=some r→r.ct=true→(aG b0.ao y).ct=true∨Te (valOf ab b0.ah) b0 y) (hw:∀y∈s'.cy,PZ (valOf ab b0.ah) b0 y) (hn:∀y∈s'.cy,y∈s.cy∨Rc.aK s'.b y=true)
  (hm:∀y,Rc.aK s.b y=false→Rc.aK s'.b y=true→y∈s'.cy∨¬Te (valOf ab b0.ah) b0 y) (rB:s'.cy.Nodup):Wy ab b0 s':=by
 have r9:lx (valOf ab b0.ah) (fun _=>True) s'.cy s.b.ae s.b.ao s'.b.ao:=by rw [h.rev];exact dP
 refine⟨h1.trans h.rev,h2.trans h.aH,(h.ev.mono hr fun _ h=>h).trans dP,hd,hw,fun y hy=>?_,fun y hu Kr=>?_,rB⟩
 ·
  rcases hn y hy with h3 | h3
  ·
   exact r9.aK h1 (h.Tf y h3)
  exact h3
 cases hs:Rc.aK s.b y with
 | true=>exact(h.mrk y hu hs).imp (hr y) id
 | false=>exact hm y hs Kr
theorem Wy.Bc(h:Wy ab b0 s) (hu:aK s.b k=false):aK b0 k=false:=by
 cases hb:aK b0 k with
 | false=>rfl
 | true=>
  have:=h.ev.aK h.rev hb
  rw [hu] at this
  cases this
theorem Bd(h:aD b.ao k=none):aK b k=false:=by
 unfold aK
 rw [h]
 rfl
theorem nv{r:Rec}(h:aD b.ao k=some r) (hv:r.az<b.ae):aK b k=false:=by grind [cU]
theorem Bi.answer(hB:Bi ab H on b) (hk:gH ab k) (ht:aB k=true∨aC k=true∨aK b k=true):eM (valOf ab b.ah) b k=valOf ab b.ah k:=by
 unfold eM
 by_cases hc:aC k=true
 ·
  rw [if_pos hc]
 rw [if_neg hc]
 unfold mK
 by_cases hi:aB k=true
 ·
  rw [if_pos hi]
  unfold valOf cellOf
  rw [if_pos hi]
 rw [if_neg hi]
 have hu:aK b k=true:=by grind
 obtain⟨r,hf,hv,iH⟩:=hB.c.up hu
 have ho:iC b k=true:=by grind [iC,bY]
 rw [if_pos ho,bY hf,iH]
theorem vD(h:fK s k=true):aB k=true∨(s.on k=true∧aC k=true)∨aK s.b k=true:=by
 unfold fK at h
 grind
theorem P0(h:aB k=true∨(s.on k=true∧aC k=true)∨aK s.b k=true):fK s k=true:=by
 unfold fK
 grind
theorem Bi.len(hB:Bi ab H on b):b.ao.length≤ab.length:=by
 have h1:(b.ao.map (·.key)).Nodup:=by
  refine List.pairwise_map.2 (hB.st.imp fun {x y} h e=>?_);rw [e,jc] at h
  omega
 have h2:=j0 (S:=(List.range ab.length).map fun i:Nat=>aS ab (i:Int)) h1 fun x hx=>by
  obtain⟨r,hr,rfl⟩:=List.mem_map.1 hx;obtain⟨i,hi,e⟩:=hB.kr r hr
  grind
 simpa using h2
/-! ### the order of what is asked -/
theorem xz(hR:ay ab) {aH:List dE}{i:Nat}(hi:i<ab.length) {a:Key}(ha:a∈dD ab aH i):gB ab i a∧∀m:Nat,m<ab.length→a=aS ab (m:Int)→Lw ab m (rX ab i)∧∀b,Lw ab i b→Lw ab m b:=by grind [List.mem_iff_getElem?,nL,lQ,Me,vB,uz]
theorem NJ(hR:ay ab) {aH:List dE}{i:Nat}(hi:i<ab.length) (hr:aI ab i=true) {a:Key}(ha:a∈dD ab aH i) (hc:aC a=true):∃j:Nat,j<ab.length∧a=aS ab (j:Int)∧iA ab i j:=by grind [List.mem_iff_getElem?,nL,lQ,fJ,vB,uz,lL,kf]
theorem yw(hR:ay ab) (hB:Bi ab H on b) {i:Nat}(hi:i<ab.length) (ho:cY b.ao b.ae (aS ab (i:Int))=true) {x:Key}(hl:cM b.ao b.ae (aS ab (i:Int)) x):∃j:Nat,j<ab.length∧x=aS ab (j:Int)∧eb ab i j:=by
 have qf:=hR.len
 have step:∀(m:Nat) y,m<ab.length→cY b.ao b.ae (aS ab (m:Int))=true→Ld b.ao b.ae (aS ab (m:Int)) y→∃j:Nat,j<ab.length∧y=aS ab (j:Int)∧iA ab m j:=by
  intro m y hm hom hy;obtain⟨r,h1,h2,h3,h4⟩:=cN.1 hom;obtain⟨q,g1,g2,_⟩:=cN.1 hy.2;have ha:=hy.1;rw [bY h1,(hB.c.vr r (bq h1).1).2,(bq h1).2,iO hR hm] at ha
  grind [cA,NJ]
 induction hl with
 | one h1=>
  obtain⟨j,h2,h3,h4⟩:=step i _ hi ho h1;exact⟨j,h2,h3,.step .refl h4⟩
 | step h1 h2 ih=>
  obtain⟨j,h3,rfl,h4⟩:=ih;obtain⟨q,h5,h6,h7⟩:=step j _ h3 h1.jh h2;exact⟨q,h5,h6,.step h4 h7⟩
theorem Mo(hR:ay ab) (hB:Bi ab H on b) {i j:Nat}(hi:i<ab.length) (hj:j<ab.length) (hl:Live b.ao b.ae (aS ab (i:Int))) (hm:aS ab (j:Int)∈aF b.ao b.ae (aS ab (i:Int))):rX ab j=rX ab i∧∀b,Lw ab i b→Lw ab j b:=by
 have qf:=hR.len
 rcases dM.1 hm with e | ⟨ho,m1,m2⟩
 ·
  have:=fG hR hj hi e
  grind
 obtain⟨q,hq,eq,h1⟩:=yw hR hB hi ho m1
 have:=fG hR hj hq eq
 subst this;obtain⟨p,hp,ep,h2⟩:=yw hR hB hj m1.jh m2
 have:=fG hR hi hp ep
 subst this;have h3:=nH hR h1;have h4:=nH hR h2;obtain⟨_,_,c1,_⟩:=cN.1 ho;obtain⟨_,_,c2,_⟩:=cN.1 m1.jh;rw [cA hi (by omega)] at c1;rw [cA hj (by omega)] at c2
 unfold rX Lw
 grind
end
/-! ### a request -/
section
variable {ab:List aJ}{H:Int→List dE}{b0:dT}
structure Rs (ab:List aJ) (H:Int→List dE) (b0:dT) (N:Key→Prop) (s s':ES):Prop where
 e:s'.e=0
 bi:Bi ab H s.GV s'.b
 ev:lx (valOf ab b0.ah) N s'.cy b0.ae s.b.ao s'.b.ao
 wy:Wy ab b0 s'
theorem Rs.refl{N:Key→Prop}{s:ES}(he:s.e=0) (hB:Bi ab H s.GV s.b) (hW:Wy ab b0 s):Rs ab H b0 N s s:=⟨he,hB,.refl _,hW⟩
theorem Rs.trans{N:Key→Prop}{s t u:ES}(h:Rs ab H b0 N s t) (h2:Rs ab H b0 N t u) (hr:∀y∈t.cy,y∈u.cy) (ho:∀k,t.on k=s.on k):Rs ab H b0 N s u:=
 ⟨h2.e,h2.bi.Vp fun k hk=>by grind [ES.GV],(h.ev.mono hr fun _ h=>h).trans h2.ev,h2.wy⟩
def Ps(ab:List aJ) (H:Int→List dE) (b0:dT) (s:ES) (k:Key) (n:Nat):Prop:=
 Live s.b.ao s.b.ae k→∀j c,j<n→(cC s.b.ao (aF s.b.ao s.b.ae k))[j]?=some c→
  valOf ab (H (aG s.b.ao c.ft).az) c.read=valOf ab b0.ah c.read∧(aB c.read=true∨(s.on c.read=true∧aC c.read=true)∨aK s.b c.read=true)∧bT (valOf ab b0.ah) b0 c.read≤(aG s.b.ao c.ft).az
theorem Be{val:Key→ByteArray}:∀f,(∀s k s',oB ab val f s k=some s'→∀y∈s.cy,y∈s'.cy)∧(∀s k n s' b,dL ab val f s k n=some (s',b)→∀y∈s.cy,y∈s'.cy)∧(∀s k r a s',jr ab val f s k r a=some s'→∀y∈s.cy,y∈s'.cy):=by
 intro f
 induction f with
 | zero=>grind [oB,dL,jr]
 | succ f ih=>
  obtain⟨Nt,GS,JI⟩:=ih;refine⟨?_,?_,?_⟩
  ·
   intro s k s' h y hy
   unfold oB at h
   split at h
   ·
    cases h;exact hy
   split at h
   ·
    cases h;exact hy
   split at h
   ·
    grind
   obtain⟨p,hp,h⟩:=Option.bind_eq_some_iff.1 h;obtain⟨t,ht,h⟩:=Option.bind_eq_some_iff.1 h
   cases h
   have h1:=GS _ _ _ p.1 p.2 hp y hy
   grind
  ·
   grind [dL,Option.bind_eq_some_iff]
  grind [jr,Option.bind_eq_some_iff]
def UpR(ab:List aJ) (H:Int→List dE) (b0:dT) (f:Nat):Prop:=∀s k s',oB ab (valOf ab b0.ah) f s k=some s'→Good ab b0.ah s→s.e=0→Bi ab H s.GV s.b→Wy ab b0 s→gH ab k→(∀i:Nat,i<ab.length→k=aS ab (i:Int)→ajf ab s i)→Rs ab H b0 (fun y=>s.on y=false) s s'
def ChR(ab:List aJ) (H:Int→List dE) (b0:dT) (f:Nat):Prop:=∀s (i n:Nat) s' c,dL ab (valOf ab b0.ah) f s (aS ab (i:Int)) n=some (s',c)→Good ab b0.ah s→s.e=0→Bi ab H s.GV s.b→Wy ab b0 s→i<ab.length→s.on (aS ab (i:Int))=true→OnR ab s i→Ps ab H b0 s (aS ab (i:Int)) n→
 Rs ab H b0 (fun y=>s.on y=false∨y=aS ab (i:Int)) s s'∧(c=true→cY s'.b.ao b0.ae (aS ab (i:Int))=false∧aK s'.b (aS ab (i:Int))=false∧PZ (valOf ab b0.ah) b0 (aS ab (i:Int)))
def RuR(ab:List aJ) (H:Int→List dE) (b0:dT) (f:Nat):Prop:=∀s (i n:Nat) s',jr ab (valOf ab b0.ah) f s (aS ab (i:Int)) (gy (dN ab (aS ab (i:Int))) (valOf ab b0.ah) n).1 (gy (dN ab (aS ab (i:Int))) (valOf ab b0.ah) n).2=some s'→Good ab b0.ah s→s.e=0→Bi ab H s.GV s.b→Wy ab b0 s→i<ab.length→n≤dY ab i→s.on (aS ab (i:Int))=true→OnR ab s i→
 cY s.b.ao b0.ae (aS ab (i:Int))=false→aK s.b (aS ab (i:Int))=false→PZ (valOf ab b0.ah) b0 (aS ab (i:Int))→(∀a∈(gy (dN ab (aS ab (i:Int))) (valOf ab b0.ah) n).1,fK s a=true)→
 Rs ab H b0 (fun y=>s.on y=false∨y=aS ab (i:Int)) s s'
theorem Bi.lz{s t:ES}(h:Bi ab H s.GV t.b) (hk:kG s t):Bi ab H t.GV t.b:=h.Vp fun k JR=>by grind [ES.GV,kG.on]
theorem OnR.lz{s t:ES}{i:Nat}(h:OnR ab s i) (hk:kG s t):OnR ab t i:=fun j hj Mp=>h j hj (by rw [← hk.on];exact Mp)
theorem Rs.mono{N N':Key→Prop}{s s':ES}(h:Rs ab H b0 N s s') (hN:∀y,N y→N' y):Rs ab H b0 N' s s':=⟨h.e,h.bi,h.ev.mono (fun _ h=>h) hN,h.wy⟩
theorem yx(rev:Int) (G:List Key) (r:Rec):(cZ rev G false r).ct=r.ct:=by
 unfold cZ
 grind
theorem Fu(hR:ay ab):∀f,UpR ab H b0 f∧ChR ab H b0 f∧RuR ab H b0 f:=by
 have qf:=hR.len;intro f
 induction f with
 | zero=>exact⟨fun s k s' h=>by simp [oB] at h,fun s i n s' c h=>by simp [dL] at h,fun s i n s' h=>by simp [jr] at h⟩
 | succ f ih=>
  obtain⟨Nt,GS,JI⟩:=ih;have gd:=dr (val:=valOf ab b0.ah) (aH:=b0.ah) hR f;have kp:=kz (val:=valOf ab b0.ah) (aH:=b0.ah) hR f;have rn:=Be (ab:=ab) (val:=valOf ab b0.ah) f;refine⟨?_,?_,?_⟩
  ·
   intro s k s' h hg he hB hW hk Nw
   unfold oB at h
   split at h
   ·
    cases h;exact .refl he hB hW
   rename_i RZ
   have rG:aB k=false:=by simp at RZ;exact RZ.2
   split at h
   ·
    cases h;exact .refl he hB hW
   rename_i hu
   obtain⟨i,hi,rfl,_⟩:=hk.j7 rG
   split at h
   ·
    rename_i ho
    split at h
    ·
     cases h;exact .refl he hB hW
    rename_i hc
    have h1:=Nw i hi rfl i hi ho
    grind [cA,Lw,rX]
   rename_i ho
   have JC:s.on (aS ab (i:Int))=false:=by simpa using ho
   obtain⟨⟨s2,c2⟩,hp,h⟩:=Option.bind_eq_some_iff.1 h;obtain⟨s3,ht,h⟩:=Option.bind_eq_some_iff.1 h;simp only [Option.some.injEq] at h;subst h;have XF:∀y,ES.on {s with busy:=dH s.busy (aS ab (i:Int)) (.bool true)} y=(decide (aS ab (i:Int)=y) || s.on y):=fun y=>rV s _ y;have rp:=hg.on (aS ab (i:Int))
   generalize nc:({s with busy:=dH s.busy (aS ab (i:Int)) (.bool true)}:ES)=s1 at hp XF rp
   have e1:s1.b=s.b:=by rw [← nc]
   have e2:s1.cy=s.cy:=by rw [← nc]
   have e3:s1.e=0:=by rw [← nc];exact he
   have acR:s1.on (aS ab (i:Int))=true:=by rw [XF];simp
   have hB1:Bi ab H s1.GV s1.b:=by
    rw [e1];refine hB.Vp fun y hy=>?_
    unfold ES.GV at hy ⊢
    grind
   have hW1:Wy ab b0 s1:=⟨by rw [e1];exact hW.rev,by rw [e1];exact hW.aH,by rw [e1,e2];exact hW.ev,by rw [e1];exact hW.Sc,by rw [e2];exact hW.cy,by rw [e1,e2];exact hW.Tf,by rw [e1,e2];exact hW.mrk,by rw [e2];exact hW.ou⟩
   have jH:OnR ab s1 i:=fun j hj Mp=>by
    rw [XF] at Mp;simp only [Bool.or_eq_true,decide_eq_true_eq] at Mp
    rcases Mp with Mp | Mp
    ·
     exact .inl (fG hR hj hi Mp.symm)
    exact .inr (Nw i hi rfl j hj Mp)
   obtain⟨c1,c3⟩:=GS s1 i 0 s2 c2 hp rp e3 hB1 hW1 hi acR jH fun _ j c hj=>by omega
   obtain⟨k1,k2,_⟩:=kp.2.1 _ _ _ _ _ hp rp;have GU:=(gd.2.1 _ _ _ _ _ hp rp).1
   have key:Rs ab H b0 (fun y=>s1.on y=false∨y=aS ab (i:Int)) s1 s3∧aK s3.b (aS ab (i:Int))=true:=by
    cases c2 with
    | false=>
     simp only [Bool.false_eq_true,if_false,Option.some.injEq] at ht;subst ht;exact⟨c1,(k2 c1.e).2 rfl⟩
    | true=>
     simp only [if_true] at ht;obtain⟨d1,d2,d3⟩:=c3 rfl
     have r2:=JI s2 i 0 s3 ht GU c1.e (c1.bi.lz k1) c1.wy hi (Nat.zero_le _) (by rw [k1.on];exact acR) (jH.lz k1) d1 d2 d3 fun a ha=>by simp [gy] at ha
     refine⟨c1.trans (r2.mono fun y hy=>by rw [← k1.on];exact hy) (rn.2.2 _ _ _ _ _ ht) k1.on,?_⟩;exact((kp.2.2 _ _ _ _ _ ht GU (hk.j7 rG)).2.1 r2.e).2
   obtain⟨r3,hu3⟩:=key;refine⟨r3.e,?_,?_,⟨r3.wy.rev,r3.wy.aH,r3.wy.ev,r3.wy.Sc,r3.wy.cy,r3.wy.Tf,r3.wy.mrk,r3.wy.ou⟩⟩
   ·
    refine r3.bi.off hu3 fun y hy=>?_
    unfold ES.GV at hy ⊢
    grind
   have:=r3.ev
   rw [e1] at this;refine this.mono (fun _ h=>h) fun y hy=>?_
   grind
  ·
   intro s i n s' c h hg he hB hW hi eL Tg OK;have rG:aB (aS ab (i:Int))=false:=dI hi (by omega)
   unfold dL at h
   rw [if_neg (by simp [he])] at h
   split at h
   ·
    rename_i hc
    simp only [Option.some.injEq,Prod.mk.injEq] at h;obtain⟨rfl,rfl⟩:=h;refine⟨.refl he hB hW,fun _=>?_⟩
    cases hf:aD s.b.ao (aS ab (i:Int)) with
    | none=>
     refine⟨?_,Bd hf,rG,hW.Bc (Bd hf),.inl (hW.none hf)⟩;rw [Bool.eq_false_iff]
     grind [cN]
    | some r=>
     rw [hf,bY hf] at hc
     have hd:r.ct=true:=by simpa using hc
     have hv:=hB.dv r (bq hf).1 hd;refine⟨?_,nv hf hv,rG,hW.Bc (nv hf hv),.inr (hW.Sc _ r hf hd)⟩;rw [Bool.eq_false_iff]
     grind [cN]
   rename_i hc
   split at h
   ·
    simp only [Option.some.injEq,Prod.mk.injEq] at h;obtain⟨rfl,rfl⟩:=h;exact⟨.refl he hB hW,fun e=>by cases e⟩
   rename_i hv
   have hl:Live s.b.ao s.b.ae (aS ab (i:Int)):=by
    cases hf:aD s.b.ao (aS ab (i:Int)) with
    | none=>rw [hf] at hc;simp at hc
    | some r=>
     rw [hf,bY hf] at hc;rw [bY hf] at hv;have h1:=(hB.c.Ml r (bq hf).1).1;exact⟨r,hf,by simpa using hc,by omega⟩
   have OK:=OK hl
   have acS:aK s.b (aS ab (i:Int))=false:=by
    obtain⟨r,h1,_,h2⟩:=hl;exact nv h1 h2
   split at h
   ·
    rename_i hn
    simp only [Option.some.injEq,Prod.mk.injEq] at h;obtain⟨rfl,rfl⟩:=h
    have hp:∀m∈aF s.b.ao s.b.ae (aS ab (i:Int)),∀a∈(aG s.b.ao m).reads,a∉aF s.b.ao s.b.ae (aS ab (i:Int))→valOf ab (H (aG s.b.ao m).az) a=valOf ab s.b.ah a∧(aB a=true∨(s.GV a=true∧aC a=true)∨aK s.b a=true):=fun m hm a ha CY=>by
     have ly:(⟨m,a⟩:tI)∈cC s.b.ao (aF s.b.ao s.b.ae (aS ab (i:Int))):=eS.2 ⟨hm,ha,CY⟩;obtain⟨j,hj⟩:=List.mem_iff_getElem?.1 ly;have h1:=(List.getElem?_eq_some_iff.1 hj).1;have h2:=List.getElem?_eq_none_iff.1 hn;have h3:=OK j ⟨m,a⟩ (by omega) hj;rw [hW.aH];exact⟨h3.1,h3.2.1.imp id (Or.imp (fun p=>⟨Kq p,p.2⟩) id)⟩
    have rB:=hW.Vq hl fun m hm a ha CY=>by
     have ly:(⟨m,a⟩:tI)∈cC s.b.ao (aF s.b.ao s.b.ae (aS ab (i:Int))):=eS.2 ⟨hm,ha,CY⟩;obtain⟨j,hj⟩:=List.mem_iff_getElem?.1 ly;have h1:=(List.getElem?_eq_some_iff.1 hj).1;have h2:=List.getElem?_eq_none_iff.1 hn;exact(OK j ⟨m,a⟩ (by omega) hj).2.2
    have dP:∀N:Key→Prop,N (aS ab (i:Int))→lx (valOf ab b0.ah) N s.cy b0.ae s.b.ao (dZ s.b (aF s.b.ao s.b.ae (aS ab (i:Int))) false).ao:=fun N hN=>by
     rw [← hW.rev];exact lx.mark hl false (.inr hN)
    refine⟨⟨he,hB.mark hR hl hp,dP _ (.inr rfl),hW.step rfl rfl (dP _ trivial) (fun _ h=>h) (fun y r' hf hd=>?_) hW.cy (fun _ h=>.inl h) (fun y hu Kr=>.inr (rB y (Mn hu Kr))) hW.ou⟩,fun e=>by cases e⟩;have H0:(aD s.b.ao y).map (cZ s.b.ae (aF s.b.ao s.b.ae (aS ab (i:Int))) false)=some r':=fj.symm.trans hf;obtain⟨r,hr,rfl⟩:=Option.map_eq_some_iff.1 H0;rw [yx] at hd;exact hW.Sc y r hr hd
   rename_i c0 OM
   obtain⟨hm,ha,CY⟩:=eS.1 (List.mem_of_getElem? OM);obtain⟨j,hj,ej⟩:=hB.key (mX hl hm);obtain⟨rm,g1,g2,g3⟩:=mX hl hm;have qQ:gH ab c0.read:=i6 hg OM
   split at h
   ·
    obtain⟨t,ht,h⟩:=Option.bind_eq_some_iff.1 h
    have CZ:=xz hR (aH:=H rm.az) hj (a:=c0.read) (by
     have h1:=(hB.c.vr rm (bq g1).1).2;rw [(bq g1).2,ej,iO hR hj] at h1
     grind [bY])
    have r1:=Nt s c0.read t ht hg he hB hW qQ fun q hq eq p hp hpo=>by
     obtain⟨h4,h5⟩:=CZ.2 q hq eq;obtain⟨g4,g5⟩:=Mo hR hB hi hj hl (ej ▸ hm)
     rcases Tg p hp hpo with rfl | h6
     ·
      rw [← g4];exact h4
     exact h5 _ (g5 _ h6)
    obtain⟨k1,_,_⟩:=kp.1 _ _ _ ht hg qQ;have gt:=(gd.1 _ _ _ ht hg qQ).1;have e1:t.b.ae=s.b.ae:=r1.wy.rev.trans hW.rev.symm
    have dP:lx (valOf ab b0.ah) (fun y=>s.on y=false) t.cy s.b.ae s.b.ao t.b.ao:=by
     rw [hW.rev];exact r1.ev
    obtain⟨r2,r3⟩:=GS t i n s' c h gt r1.e (r1.bi.lz k1) r1.wy hi (by rw [k1.on];exact eL) (Tg.lz k1) fun ee j' c' hjn P1=>by
     rw [e1] at ee P1;rw [dP.PY ee] at P1;obtain⟨p1,p2,p3⟩:=OK j' c' hjn P1;have R7:=(eS.1 (List.mem_of_getElem? P1)).1
     have e3:aG t.b.ao c'.ft=aG s.b.ao c'.ft:=by
      unfold aG
      rw [(dP.group ee).2 _ R7]
     rw [e3];refine⟨p1,?_,p3⟩
     rcases p2 with p | p | p
     ·
      exact .inl p
     ·
      grind [kG.on]
     exact .inr (.inr (k1.up _ p))
    exact⟨(r1.mono fun y hy=>.inl hy).trans (r2.mono fun y hy=>by rw [← k1.on];exact hy) (rn.2.1 _ _ _ _ _ h) k1.on,r3⟩
   rename_i LN
   have XG:=vD (s:=s) (k:=c0.read) (by simpa using LN)
   split at h
   ·
    rename_i ee
    have P2:=hW.dif hB hl hm ha CY ee;have Ks:PZ (valOf ab b0.ah) b0 (aS ab (i:Int)):=⟨rG,hW.Bc acS,.inr (.inr (P2 _ ma))⟩;simp only [Option.some.injEq,Prod.mk.injEq] at h;obtain⟨h,rfl⟩:=h
    cases ux:aC (aS ab (i:Int)) with
    | false=>
     rw [ux] at h;simp only [Bool.false_eq_true,if_false] at h;subst h;refine⟨.refl he hB hW,fun _=>⟨?_,acS,Ks⟩⟩;rw [Bool.eq_false_iff]
     grind [cN]
    | true=>
     rw [ux] at h;simp only [if_true] at h;subst h
     have dP:∀N:Key→Prop,lx (valOf ab b0.ah) N s.cy b0.ae s.b.ao (dZ s.b (aF s.b.ao s.b.ae (aS ab (i:Int))) true).ao:=fun N=>by
      rw [← hW.rev];exact lx.mark hl true (.inl ux)
     obtain⟨r,f1,f2,f3⟩:=hl
     have hfk:aD (dZ s.b (aF s.b.ao s.b.ae (aS ab (i:Int))) true).ao (aS ab (i:Int))=some {r with ct:=true}:=by
      refine fj.trans ?_;rw [f1]
      show some (cZ _ _ _ r)=_
      unfold cZ
      rw [if_pos (by rw [(bq f1).2];exact ma)]
      rfl
     refine⟨⟨he,hB.ct fun m hm=>mX ⟨r,f1,f2,f3⟩ hm,dP _,hW.step rfl rfl (dP _) (fun _ h=>h) (fun y r' hf hd=>?_) hW.cy (fun _ h=>.inl h) (fun y hu Kr=>by grind [HZ]) hW.ou⟩,fun _=>⟨?_,nv hfk f3,Ks⟩⟩
     ·
      have H0:(aD s.b.ao y).map (cZ s.b.ae (aF s.b.ao s.b.ae (aS ab (i:Int))) true)=some r':=fj.symm.trans hf;obtain⟨q,hq,rfl⟩:=Option.map_eq_some_iff.1 H0
      by_cases hy:y∈aF s.b.ao s.b.ae (aS ab (i:Int))
      ·
       exact .inr (P2 y hy)
      unfold cZ at hd
      rw [if_neg (by rw [(bq hq).2];exact hy)] at hd;exact hW.Sc y q hq hd
     rw [Bool.eq_false_iff]
     grind [cN]
   rename_i hle
   refine GS s i (n+1) s' c h hg he hB hW hi eL Tg fun _ j' c' hjn P1=>?_
   rcases Nat.lt_or_ge j' n with ee | rK
   ·
    exact OK j' c' ee P1
   have:j'=n:=by omega
   subst this;rw [OM] at P1
   have:=Option.some.inj P1
   subst this;refine⟨?_,XG,by rw [← hW.changed hB c0.read];exact Int.not_lt.1 hle⟩;rw [bY g1] at hle ha ⊢;have h1:=hB.c.changed (bq g1).1 g3 ha (by rw [hW.aH];omega)
   grind [Wy.aH]
  intro s i n s' h hg he hB hW hi hn eL Tg hop j8 Ks LN
  have lZ:i≤99:=by omega
  unfold jr at h
  rw [if_neg (by simp [he]),il hi lZ] at h
  rcases Nat.lt_or_ge n (dY ab i) with ee | rK
  ·
   obtain⟨a,h1,h2,h3⟩:=Me hR hi (ak:=(gy (dN ab (aS ab (i:Int))) (valOf ab b0.ah) n).2) (by grind [iZ]);rw [h1] at h;simp only [Bool.false_eq_true,if_false] at h;obtain⟨t,ht,h⟩:=Option.bind_eq_some_iff.1 h;have qQ:=h2.Nk hR
   have r1:=Nt s a t ht hg he hB hW qQ fun m hm Xv j hj Mp=>by
    obtain⟨h4,h5⟩:=h3 m hm Xv
    rcases Tg j hj Mp with rfl | h6
    ·
     exact h4
    exact h5 _ h6
   obtain⟨k1,k2,_⟩:=kp.1 _ _ _ ht hg qQ;have gt:=(gd.1 _ _ _ ht hg qQ).1
   have OO:fK t a=true:=by grind [Rs.e,P0]
   have XH:eM (valOf ab b0.ah) t.b a=valOf ab b0.ah a:=by
    rw [← r1.wy.aH];refine r1.bi.answer qQ ?_
    rcases vD OO with h4 | h4 | h4
    ·
     exact .inl h4
    ·
     exact .inr (.inl h4.2)
    exact .inr (.inr h4)
   rw [if_pos r1.e,XH] at h
   have tM:aD t.b.ao (aS ab (i:Int))=aD s.b.ao (aS ab (i:Int)):=by
    rcases r1.ev.pt (aS ab (i:Int)) with e | ⟨e0,r,e1,e2,e3,_⟩ | ⟨⟨_,e0⟩,_⟩
    ·
     exact e
    ·
     grind [cN]
    grind
   have r2:=JI t i (n+1) s' (by grind [gy]) gt r1.e (r1.bi.lz k1) r1.wy hi ee (by rw [k1.on];exact eL) (Tg.lz k1) (by grind [cY,aG]) (by
    rw [← j8]
    unfold aK aG
    rw [tM,r1.wy.rev,hW.rev]) Ks (fun x hx=>by
    simp only [gy] at hx;rw [h1] at hx
    rcases List.mem_append.1 hx with hx | hx
    ·
     exact k1.there (LN x hx)
    grind)
   exact(r1.mono fun y hy=>.inl hy).trans (r2.mono fun y hy=>by rw [← k1.on];exact hy) (rn.2.2 _ _ _ _ _ h) k1.on
  have ku:n=dY ab i:=by omega
  subst ku;rw [jz hR hi] at h;simp only [if_true] at h;rw [if_neg (by have:=hB.len;simp;omega)] at h;simp only [Option.some.injEq] at h;subst h;have acT:∀a∈dD ab b0.ah i,aB a=true∨(s.on a=true∧aC a=true)∨aK s.b a=true:=fun a ha=>vD (LN a ha);have C0:=hB.put hR hi (fun hc=>Kq ⟨eL,hc⟩) (by rw [hW.aH];exact fun a ha=>(acT a ha).imp id (Or.imp (fun p=>⟨Kq p,p.2⟩) id));rw [hW.aH] at C0
  have dP:∀N:Key→Prop,N (aS ab (i:Int))→lx (valOf ab b0.ah) N (s.cy++[aS ab (i:Int)]) b0.ae s.b.ao (gW s.b.ao (ek s.b (aS ab (i:Int)) (valOf ab b0.ah (aS ab (i:Int))) (dD ab b0.ah i))):=fun N hN=>by
   refine lx.put hop (fun r hr=>?_) ⟨by simp [ek],hN⟩ hW.rev rfl rfl (fun r hr=>?_) fun hn=>?_
   ·
    have h1:=(hB.c.Ml r (bq hr).1).1
    have h2:r.az≠s.b.ae:=fun e=>by
     have:aK s.b (aS ab (i:Int))=true:=cU.2 ⟨r,hr,e⟩
     grind
    have:=hW.rev
    omega
   ·
    have jD:aD s.b.ao (aS ab (i:Int))=some r:=hr
    unfold ek
    simp only [jD,bY jD,hW.rev]
    grind
   grind [ek,Wy.rev]
  refine⟨he,by show Bi ab H s.GV ⟨s.b.ae,s.b.ah,_⟩;rw [hW.aH];exact C0,dP _ (.inr rfl),hW.step rfl rfl (dP _ trivial) (fun y hy=>by simp [hy]) (fun y r hf hd=>?_) (fun y hy=>?_) (fun y hy=>?_) (fun y hu Kr=>?_) (Eh hW.ou fun hr=>by have:=hW.Tf _ hr;rw [j8] at this;cases this)⟩
  ·
   have H0:aD (gW s.b.ao (ek s.b (aS ab (i:Int)) (valOf ab b0.ah (aS ab (i:Int))) (dD ab b0.ah i))) y=some r:=hf;rw [gD] at H0
   split at H0
   ·
    have:=Option.some.inj H0
    subst this
    cases hd
   exact hW.Sc y r H0 hd
  ·
   rcases List.mem_append.1 hy with hy | hy
   ·
    exact hW.cy y hy
   grind
  ·
   rcases List.mem_append.1 hy with hy | hy
   ·
    exact .inl hy
   rw [List.mem_singleton] at hy;rw [hy];exact .inr (uu (r:=ek s.b (aS ab (i:Int)) (valOf ab b0.ah (aS ab (i:Int))) (dD ab b0.ah i)) rfl)
  refine .inl ?_
  by_cases e:y=aS ab (i:Int)
  ·
   rw [e]
   simp
  obtain⟨r,hr,hv⟩:=cU.1 Kr;have jD:aD (gW s.b.ao (ek s.b (aS ab (i:Int)) (valOf ab b0.ah (aS ab (i:Int))) (dD ab b0.ah i))) y=some r:=hr;rw [gD,if_neg (show ¬y=(ek s.b (aS ab (i:Int)) (valOf ab b0.ah (aS ab (i:Int))) (dD ab b0.ah i)).key from e)] at jD
  grind [cU]
theorem Mq{val:Key→ByteArray}{f:Nat}:∀{l:List Key}{s s':ES},eW ab val f s l=some s'→∀y∈s.cy,y∈s'.cy
 | [],s,s',h,y,hy=>by grind [eW]
 | k::r,s,s',h,y,hy=>by
  simp only [eW] at h;obtain⟨t,h1,h2⟩:=Option.bind_eq_some_iff.1 h;exact Mq h2 y ((Be f).1 _ _ _ h1 y hy)
theorem Ei(hR:ay ab) {f:Nat}:∀{l:List Key}{s s':ES},eW ab (valOf ab b0.ah) f s l=some s'→Good ab b0.ah s→s.e=0→Bi ab H s.GV s.b→Wy ab b0 s→(∀k∈l,gH ab k)→(∀k,s.on k=false)→Rs ab H b0 (fun _=>True) s s'∧(∀k,s'.on k=false)∧(∀k,aK s.b k=true→aK s'.b k=true)∧∀k∈l,aB k=false→aK s'.b k=true
 | [],s,s',h,hg,he,hB,hW,_,ho=>by
  simp only [eW,Option.some.injEq] at h;subst h;exact⟨.refl he hB hW,ho,fun _ h=>h,fun k hk=>by cases hk⟩
 | k::r,s,s',h,hg,he,hB,hW,hk,ho=>by
  simp only [eW] at h;obtain⟨t,h1,h2⟩:=Option.bind_eq_some_iff.1 h;have tL:=hk k (by simp);have JJ:=((dr (val:=valOf ab b0.ah) hR f).1 _ _ _ h1 hg tL).1;obtain⟨kp,kt,_⟩:=(kz (val:=valOf ab b0.ah) hR f).1 _ _ _ h1 hg tL
  have r1:=(Fu (H:=H) (b0:=b0) hR f).1 s k t h1 hg he hB hW tL fun i _ _ j _ Mp=>by rw [ho] at Mp;cases Mp
  obtain⟨r2,o2,u2,g2⟩:=Ei hR h2 JJ r1.e (r1.bi.lz kp) r1.wy (fun k JR=>hk k (by simp [JR])) fun k=>by rw [kp.on];exact ho k
  have rq:=Mq h2;refine⟨(r1.mono fun _ _=>trivial).trans r2 rq kp.on,o2,fun y hy=>u2 y (kp.up y hy),fun q hq Sd=>?_⟩
  rcases List.mem_cons.1 hq with rfl | hq
  ·
   refine u2 _ ?_
   rcases(kt r1.e).2 with h4 | h4
   ·
    rw [Sd] at h4
    cases h4
   rcases vD h4 with h5 | h5 | h5
   ·
    rw [Sd] at h5
    cases h5
   ·
    rw [kp.on,ho] at h5
    cases h5.1
   exact h5
  exact g2 q hq Sd
end
end Go.Rc

namespace Go.Rc
open Go
def Bh(ab:List aJ) (b:dT):Prop:=∃H:Int→List dE,Bi ab H (fun _=>false) b
section
variable {ab:List aJ}{H:Int→List dE}{on:Key→Bool}{x y b:dT}{k:Key}
theorem Bh.new(ab:List aJ) (rev:Int) (aH:List dE):Bh ab ⟨rev,aH,[]⟩:=
 ⟨fun _=>aH,⟨⟨rfl,fun _ _ _ _ _=>rfl,fun r hr=>(by cases hr),fun r hr=>(by cases hr),fun r hr=>(by cases hr),fun r hr=>(by cases hr)⟩,List.Pairwise.nil,fun r hr=>(by cases hr),fun r hr=>(by cases hr)⟩⟩
theorem Bi.drop(h:Bi ab H on b) {rs:List Rec}(hs:rs.Sublist b.ao) (ho:∀r∈rs,on r.key=false):Bi ab H (fun _=>false) {b with ao:=rs}:=by
 have ajp:qj rs:=h.st.sublist hs
 have hf:∀a ra,aD rs a=some ra→aD b.ao a=some ra:=fun a ra kj=>by
  obtain⟨h1,h2⟩:=bq kj
  grind [ia,st]
 refine⟨⟨h.c.now,h.c.gk,fun r hr=>h.c.Ml r (hs.subset hr),fun r hr=>h.c.vr r (hs.subset hr),fun r hr a ha hi ra kj=>?_,fun r hr hc a ha hi ra kj=>?_⟩,ajp,fun r hr=>h.kr r (hs.subset hr),fun r hr=>h.dv r (hs.subset hr)⟩
 ·
  rcases h.c.rr r (hs.subset hr) a ha hi ra (hf a ra kj) with⟨_,h1⟩ | h1
  ·
   obtain⟨h2,h3⟩:=bq kj
   grind
  exact .inr h1
 rcases h.c.rs r (hs.subset hr) hc a ha hi ra (hf a ra kj) with⟨_,h1⟩ | h1
 ·
  obtain⟨h2,h3⟩:=bq kj
  grind
 exact .inr h1
theorem Bh.drop(h:Bh ab b) {rs:List Rec}(hs:rs.Sublist b.ao):Bh ab {b with ao:=rs}:=by
 obtain⟨H,h⟩:=h;exact⟨H,h.drop hs fun _ _=>rfl⟩
theorem Bh.apply(h:Bh ab x) (hr:y.ao=x.ao) (hv:y.ae=x.ae+1) (hk:∀k,dX y.ah k=dX x.ah k∨(dX y.ah k).changed=y.ae):Bh ab y:=by
 obtain⟨H,h⟩:=h;have hH:∀t,t≤x.ae→(if t≤x.ae then H t else y.ah)=H t:=fun t ht=>if_pos ht;refine⟨fun t=>if t≤x.ae then H t else y.ah,⟨⟨?_,fun k t hi h1 h2=>?_,fun r jD=>?_,fun r jD=>?_,fun r jD a ha hi ra kj=>?_,fun r jD hc a ha hi ra kj=>?_⟩,by rw [hr];exact h.st,by rw [hr];exact h.kr,fun r jD hd=>?_⟩⟩
 ·
  grind
 ·
  by_cases ht:t≤x.ae
  ·
   show cellOf (if t≤x.ae then H t else y.ah) k=_
   rw [if_pos ht]
   rcases hk k with e | e
   ·
    rw [e] at h1;rw [h.c.gk k t hi h1 ht]
    unfold cellOf
    rw [e]
   omega
  grind
 ·
  rw [hr] at jD
  have:=h.c.Ml r jD
  omega
 ·
  rw [hr] at jD;have h1:=h.c.Ml r jD;rw [hH _ h1.1];exact h.c.vr r jD
 ·
  rw [hr] at jD kj;have h1:=h.c.Ml r jD;rw [hH _ h1.1]
  rcases h.c.rr r jD a ha hi ra kj with⟨_,h2⟩ | h2
  ·
   cases h2
  exact .inr h2
 ·
  rw [hr] at jD kj
  rcases h.c.rs r jD hc a ha hi ra kj with⟨_,h2⟩ | h2
  ·
   cases h2
  exact .inr h2
 rw [hr] at jD
 have:=h.dv r jD hd
 omega
theorem Wy.start(b:dT):Wy ab b ⟨b,[],[],0⟩:=⟨rfl,rfl,.refl _,fun y r hf hd=>.inl (by rw [bY hf];exact hd),fun y hy=>(by cases hy),fun y hy=>(by cases hy),fun y h1 h2=>(by rw [h1] at h2;cases h2),List.nodup_nil⟩
theorem Bh.request(hR:ay ab) (h:Bh ab b) {f:Nat}{l:List Key}{s':ES}(hg:Good ab b.ah ⟨b,[],[],0⟩) (hk:∀k∈l,gH ab k) (hs:eW ab (valOf ab b.ah) f ⟨b,[],[],0⟩ l=some s') :
  s'.e=0∧Bh ab s'.b∧Wy ab b s'∧(∀k,aK b k=true→aK s'.b k=true)∧(∀k∈l,aB k=false→aK s'.b k=true)∧∀r∈s'.b.ao,r.az=s'.b.ae→r.value=valOf ab b.ah r.key:=by
 obtain⟨H,h⟩:=h;have hW:Wy ab b ⟨b,[],[],0⟩:=Wy.start b
 obtain⟨h1,h2,h3,h4⟩:=Ei (H:=H) (b0:=b) hR hs hg rfl (h.Vp fun k hk=>by cases hk) hW hk fun k=>rfl
 have hB:Bi ab H (fun _=>false) s'.b:=h1.bi.Vp fun k hk=>by grind [ES.GV,ES.on,cq]
 refine⟨h1.e,⟨H,hB⟩,h1.wy,h3,h4,fun r hr hv=>?_⟩;rw [(hB.c.vr r hr).1,hv,hB.c.now,h1.wy.aH]
end
end Go.Rc

