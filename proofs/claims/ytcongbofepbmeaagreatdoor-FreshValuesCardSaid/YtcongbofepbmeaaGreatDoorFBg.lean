/- Base of the proof: frames, memory, ownership, and the plain meaning of rule systems. Conditions: as each lemma says. -/
import Derived.Test.YtcongbofepbmeaaGreatDoorFBf
import Derived.Test.YtcongbofepbmeaaGreatDoorFBd
set_option linter.all false
namespace Go.Rc
open Go
structure BK (aa:List aA) (az:List bU) (rev:Int) (b:cA):Prop where
 hW:Good aa az ⟨b,[],[],0⟩
 tI:xa ⟨b,[],[],0⟩
 rv:b.ab=rev
 xh:pX rev az
 vH:az.length≤64
section
variable {aa:List aA}{az:List bU}{rev:Int}{b:cA}
theorem BK.eU(h:BK aa az rev b):eU b:=
 ⟨by rw [h.rv,show b.ad=az from h.hW.az];exact h.xh,fun i r hr=>(h.tI.v r (List.mem_of_getElem? hr)).2,h.tI.r0,h.tI.r1,by rw [show b.ad=az from h.hW.az];exact h.vH,h.tI.st.kx h.hW.len fun r hr=>(h.tI.v r hr).1⟩
theorem BK.El(h:BK aa az rev b) (g:List Key):BK aa az rev (cE b g false):=⟨h.hW.mark g false,h.tI.El g,h.rv,h.xh,h.vH⟩
theorem BK.Em(h:BK aa az rev b) {g:List Key}(hc:∀x∈g,ax x=true):BK aa az rev (cE b g true):=⟨h.hW.mark g true,h.tI.Em hc,h.rv,h.xh,h.vH⟩
theorem BK.put(h:BK aa az rev b) {r:Rec}(hk:eu aa r.key) (hr:r.reads.length≤4000∧∀a∈r.reads,eu aa a) (d:(!(aH b.ah r.key).isSome && decide (4000≤b.ah.length))=false) (e:dc r=true) (i:r.av≤b.ab):BK aa az rev {b with ah:=fb b.ah r}:=
 ⟨h.hW.put (bM:=[]) hk hr d,h.tI.put (bM:=[]) e i,h.rv,h.xh,h.vH⟩
theorem BK.sub(h:BK aa az rev b) {rs:List Rec}(d:rs.Sublist b.ah):BK aa az rev {b with ah:=rs}:=
 ⟨⟨h.hW.az,Nat.le_trans d.length_le h.hW.len,fun r hr=>h.hW.key r (d.subset hr),fun r hr=>h.hW.B6 r (d.subset hr),.nil,fun k=>.inl rfl⟩,⟨h.tI.st.sublist d,fun r hr=>h.tI.v r (d.subset hr),h.tI.r0,h.tI.r1⟩,h.rv,h.xh,h.vH⟩
theorem BK.small(h:BK aa az rev b):∀r∈b.ah,FK r∧0≤r.cost∧r.cost≤1073741824:=fun r hr=>by
 obtain⟨i,hi,ht,_⟩:=(h.hW.key r hr).shape;have h1:=(ee _).1 (h.tI.v r hr).1;obtain⟨_,_,_,e,hl,_,_,_,j,d,_⟩:=h1;have m:=k9 (n:=i) (by omega);refine⟨⟨by rw [ht];omega,by omega,by omega⟩,by omega,d⟩
end
structure gY (aa:List aA) (f:cY):Prop where
 key:eu aa f.key
 az:aB f.key=false
 B6:∀a∈f.reads,eu aa a
 len:f.reads.length=f.ae.length
 gy:gj aa f.key f.ae.length
 Yf:0≤f.at_
theorem gY.new{aa:List aA}{k:Key}(hk:eu aa k) (hi:aB k=false):gY aa ⟨k,false,0,[],[]⟩:=⟨hk,hi,fun a h=>(by cases h),rfl,hk.gy hi,Int.le_refl _⟩
structure TK (aa:List aA) (az:List bU) (rev:Int) (t:qb):Prop where
 Jn:t.aa=aa
 base:BK aa az rev t.base
 goals:∀k∈t.goals,eu aa k
 stack:∀f∈t.stack,gY aa f
 bM:∀k∈t.bM,eu aa k
theorem PV.cast{P:Program}{op:Op}{ty:TypeId}{kv:KV}{w:World}{v v':Value}(h:PV P op ty kv w v) (e:v=v'):PV P op ty kv w v':=e ▸ h
theorem eb{α:Type}(L:List α) (x:α):(L++[x])[L.length]?=some x:=by simp
theorem dj.snoc{L:List (cY × mH)}{f:cY}{A:mH}{Z:Nat→Prop}{w:World}(h:(dj L).p Z w) (hk:Rd RR.key 2 Z w A.a A.n A.c f.reads) (hy:Rd RR.str 1 Z w A.a2 A.n2 A.c2 f.ae):(dj (L++[(f,A)])).p Z w:=fun y hm=>by
 rcases List.mem_append.1 hm with hm | hm
 ·
  exact h y hm
 grind
theorem dj.whole{L:List (cY × mH)}{f:cY}{A:mH}{l:List cY}{E n c:Nat}{a:Option Addr}{Z:Nat→Prop}{w:World}(h:Ow RR.x3 E 6 Z w a n c (L++[(f,A)])) (d:(dj (L++[(f,A)])).p Z w) (e:∀y∈L,y.1.reads.length≤4000∧y.1.ae.length≤4000) (i:f.reads.length≤4000∧f.ae.length≤4000) (hl:L.map Prod.fst++[f]=l):Ow RR.me E 6 Z w a n c l:=by
 have h1:=dj.me h d fun y hm=>by grind
 grind
theorem Am{L:List (cY × mH)}{f:cY}{A:mH}{l:List cY}{E i ES n c:Nat}{a:Option Addr}{Z:Nat→Prop}{w:World}(j:Ow RR.x3 E 6 Z w a n c (L++[(f,A)])) (hk:Ow RR.key i 2 Z w A.a A.n A.c f.reads) (hy:Ow RR.str ES 1 Z w A.a2 A.n2 A.c2 f.ae) (m:(dj L).p Z w) (o:∀y∈L,y.1.reads.length≤4000∧y.1.ae.length≤4000) (B:f.reads.length≤4000∧f.ae.length≤4000) (hl:L.map Prod.fst++[f]=l) (I:l.length≤1000000):∃d:Nat→Prop,(∀x,Z x→d x)∧Rd RR.me 6 d w a n c l:=by
 have h1:=hk.rd (by omega);have C:=hy.rd (by omega)
 let d:Nat→Prop:=fun x=>Z x∨x∈aG A.a∨x∈aG A.a2
 have e:∀x,Z x→d x:=fun x h=>.inl h;have D:(dj (L++[(f,A)])).p d w:=dj.snoc ((dj L).mono e m) (h1.mono fun x h=>h.imp id .inl) (C.mono fun x h=>h.imp id .inr);have F:Ow RR.x3 E 6 d w a n c (L++[(f,A)]):=(As.os RR.x3 E 6 a n c (L++[(f,A)])).mono e j;have G:=dj.whole F D o B hl;exact⟨_,fun x h=>.inl (e x h),G.rd (by omega)⟩
theorem tJ{x:cA}{l others:List cY}{k:Key}(h:cV x l others k=1):aB k=false:=by grind [eF,cV]
theorem dj.push{L:List (cY × mH)}{f g:cY}{A:mH}{l:List cY}{E n c:Nat}{a:Option Addr}{Z:Nat→Prop}{w:World}(h:Ow RR.x3 E 6 Z w a n c (L++[(f,A)]++[(g,⟨none,0,0,none,0,0⟩)])) (d:(dj (L++[(f,A)])).p Z w) (j:∀y∈L,y.1.reads.length≤4000∧y.1.ae.length≤4000) (m:f.reads.length≤4000∧f.ae.length≤4000) (e:g.reads=[]) (i:g.ae=[]) (hl:L.map Prod.fst++[f]=l):Ow RR.me E 6 Z w a n c (l++[g]):=by
 have h1:=dj.me h (dj.snoc (f:=g) (A:=⟨none,0,0,none,0,0⟩) d (by rw [e];exact Rd.nil _ _ _ _) (by rw [i];exact Rd.nil _ _ _ _)) fun y hm=>by grind
 grind
end Go.Rc

namespace Go.Rc
open Go
section
variable {α:Type}{R:RR α}{P:Program}{E k n c b:Nat}{a:Option Addr}{L:List α}{u:α}{Z:Nat→Prop}{w:World}
variable {N:Nat}{kv:KV}{K:KV→World→Prop}{ty:TypeId}{pos:String}{af:Array Edge}{g:Option (Nat × Bool)}{T:TypeId}
theorem OX.Kc{x y:Operand}{f:Nat}{v:Value}(hT:(P.info? T).map (·.size)=some 1) (h:Ow R E k Z w a n c (L++[u])) (e:a=some ⟨b,0,none⟩) (i:f<k) (j:ev kv x=some (.pointer (some ⟨b,0+L.length*k+f,none⟩))) (hy:ev kv y=some v)
  (h1:v.oneCell'=true) (d:α) (m:∀r,R.r Z w u r→R.r Z w d (r.set f v)) (p:∀w',aQ (aG a) w w'→OR 0 w' E k (R.r Z w) a n c (L++[d])→K kv w'):OX P ⟨none,.store T x y,ty,pos,af,g⟩ N kv w K:=
 OX.NF hT h e (eb L u) i j hy h1 d (fun r _ h=>m r h) fun w' c o=>p w' c (by grind)
end
section
variable {aa:List aA}{f:cY}
theorem gY.read(h:gY aa f) {k:Key}{a:ByteArray}(hk:eu aa k) (d:gj aa f.key (f.ae.length+1)):gY aa {f with reads:=f.reads++[k],ae:=f.ae++[a]}:=
 ⟨h.key,h.az,fun b hb=>by
  rcases List.mem_append.1 hb with hb | hb
  ·
   exact h.B6 b hb
  grind,by simp [h.len],by simpa using d,h.Yf⟩
theorem gY.runs(h:gY aa f):gY aa {f with running:=true,at_:=0}:=⟨h.key,h.az,h.B6,h.len,h.gy,Int.le_refl _⟩
theorem gY.step(h:gY aa f):gY aa {f with at_:=f.at_+1}:=⟨h.key,h.az,h.B6,h.len,h.gy,by have:=h.Yf;show 0≤f.at_+1;omega⟩
theorem gY.snoc{L:List (cY × mH)}(d:∀y∈L,gY aa y.1) (h:gY aa f):∀g∈L.map Prod.fst++[f],gY aa g:=fun g e=>by grind
end
structure TR (aa:List aA) (az:List bU) (rev:Int) (n:Nat) (t:qb):Prop where
 ok:TK aa az rev t
 ns:t.stack.length≤n
 nr:t.bM.length≤n
 ng:t.goals.length≤32
section
variable {aa:List aA}{az:List bU}{rev:Int}{n:Nat}{t:qb}
theorem TR.mono(h:TR aa az rev n t) {m:Nat}(hm:n≤m):TR aa az rev m t:=⟨h.ok,Nat.le_trans h.ns hm,Nat.le_trans h.nr hm,h.ng⟩
theorem TR.sz(h:TR aa az rev n t) (d:aq aa) (hn:n≤100000):t.Sz:=by
 have h1:=h.ok.base;have o:=h1.vH;have m:t.base.ad=az:=h1.hW.az;have p:t.base.ah.length≤4000:=h1.hW.len;have A:=h.ns;have B:=h.nr;have C:=h.ng;have D:=d.len;have e:=h.ok.Jn;refine⟨by rw [e];omega,fun x j=>?_,by rw [m];omega,by omega,by omega,by omega,by omega⟩;rw [e] at j;obtain⟨i,hi,rfl⟩:=List.mem_iff_getElem.1 j
 have:=(d.2 i _ (List.getElem?_eq_getElem hi)).1
 omega
theorem TR.Sp(h:TR aa az rev n t):TR aa az rev n {t with goals:=t.goals.drop 1}:=
 ⟨⟨h.ok.Jn,h.ok.base,fun k hk=>h.ok.goals k (List.mem_of_mem_drop hk),h.ok.stack,h.ok.bM⟩,h.ns,h.nr,by have:=h.ng;simp;omega⟩
theorem TR.begin(h:TR aa az rev n t) {k:Key}(hk:eu aa k) (hi:aB k=false) (hn:1≤n):TR aa az rev n {t with goals:=t.goals.drop 1,stack:=[⟨k,false,0,[],[]⟩]}:=
 ⟨⟨h.ok.Jn,h.ok.base,fun k hk=>h.ok.goals k (List.mem_of_mem_drop hk),fun f d=>by grind [gY.new],h.ok.bM⟩,hn,h.nr,by have:=h.ng;simp;omega⟩
theorem TR.next(h:TR aa az rev n t) {b:cA}{l:List cY}{d:List Key}(hb:BK aa az rev b) (hl:∀f∈l,gY aa f) (hk:∀k∈d,eu aa k) (h1:d.length≤1) (e:l.length≤t.stack.length+1):TR aa az rev (n+1) {t with base:=b,stack:=l,bM:=t.bM++d}:=
 ⟨⟨h.ok.Jn,hb,h.ok.goals,hl,fun k hm=>by rcases List.mem_append.1 hm with hm | hm;exact h.ok.bM k hm;exact hk k hm⟩,by have:=h.ns;show l.length≤_;omega,by have:=h.nr;grind,h.ng⟩
theorem x4{x:cA}{l:List cY}{k:Key}(h:eF x l k=true):aB k=false:=by grind [eF]
end
end Go.Rc

namespace Go.Rc
open Go
theorem St.tK{w w':World}{Z:Nat→Prop}{l:List As}{A B:As}(h:St w (nJ [B]) Z w' (B::A::l)):∀x,A.fp x→w.heap.size≤x:=fun x d=>by
 rcases h.qU A (by simp) x d with⟨C,e,hc⟩ | h1
 ·
  rw [List.mem_singleton] at e;subst e;exact absurd d ((List.pairwise_cons.1 h.vA).1 A (by simp) x hc)
 exact h1
theorem lC.tm{aa:List aA}{k:Key}(d:aq aa) (h:lC aa k):eu aa k:=by
 have e:=d.len
 rcases h with⟨n,h0,j,rfl⟩ | ⟨i,hi,rfl⟩
 ·
  obtain⟨m,rfl⟩:∃m:Nat,n=m:=⟨n.toNat,by omega⟩;exact .cell (by omega)
 exact .dp hi (by omega)
theorem lC.right{aa:List aA}{k:Key}(d:aq aa) (h:lC aa k):dh aa k=true:=by
 have hk:=h.tm d
 rcases h with⟨n,h0,e,rfl⟩ | ⟨i,hi,rfl⟩
 ·
  unfold dh
  rw [eu.valid hk]
  unfold bH
  rw [if_neg (by omega)]
  simp
 exact FJ d hi
structure LB (aa:List aA) (x:cA):Prop where
 ok:BK aa x.ad x.ab x
 az:iO x.ab x.ad
section
variable {aa:List aA}{x:cA}
theorem LB.apply(h:LB aa x) {y:cA}(hr:y.ah=x.ah) (h0:x.ab≤y.ab) (h1:y.ab≤1073741824) (e:iO y.ab y.ad) (i:y.ad.length≤64):LB aa y:=by
 have m:=h.ok.hW;have d:=h.ok.tI;have j:0≤y.ab:=Int.le_trans d.r0 h0;have hb:=e.eU j h1 i;exact⟨⟨⟨rfl,by show y.ah.length≤_;rw [hr];exact m.len,by grind [Good.key],by grind [Good.B6],.nil,fun k=>.inl rfl⟩,⟨by show sA y.ah;rw [hr];exact d.st,by show ∀r∈y.ah,_;rw [hr];exact fun r hm=>⟨(d.v r hm).1,Int.le_trans (d.v r hm).2 h0⟩,j,h1⟩,rfl,hb.1,i⟩,e⟩
theorem LB.sub(h:LB aa x) {rs:List Rec}(d:rs.Sublist x.ah):LB aa ⟨x.ab,x.ad,rs⟩:=⟨h.ok.sub d,h.az⟩
theorem LB.of(h:LB aa x) {b:cA}(hb:BK aa x.ad x.ab b):LB aa b:=by
 have h1:b.ad=x.ad:=hb.hW.az;have d:b.ab=x.ab:=hb.rv;refine⟨?_,?_⟩
 ·
  rw [h1,d];exact hb
 rw [h1,d];exact h.az
theorem LB.task(h:LB aa x) {b:cA}(hb:BK aa x.ad x.ab b) {rs:List Rec}(d:rs.Sublist b.ah):LB aa ⟨b.ab,b.ad,rs⟩:=(h.of hb).sub d
theorem LB.WR(d:aq aa) (h:LB aa x) {goals:List Key}(j:∀k∈goals,lC aa k) (m:goals.length≤32):∃(f:Nat) (s':ES),fF aa x goals=0∧Good aa x.ad ⟨x,[],[],0⟩∧(∀k∈goals,eu aa k)∧dC aa (valOf aa x.ad) f ⟨x,[],[],0⟩ goals=some s'∧s'.bM.length≤1000000∧LB aa (s'.base x)∧(s'.base x).ab=x.ab:=by
 have o:=d.len;have e:=h.ok.hW;have hk:∀k∈goals,eu aa k:=fun k hm=>(j k hm).tm d;obtain⟨f,s',hu⟩:=tF (val:=valOf aa x.ad) d goals ⟨x,[],[],0⟩ e hk;have h1:=oy d hu e hk;have i:=Ag d hu e h.ok.tI hk;have p:=xd d hu e hk;have A:fK aa ⟨x,[],[],0⟩≤aa.length:=L7 _ _;refine⟨f,s',?_,e,hk,hu,?_,?_,?_⟩
 ·
  unfold fF
  rw [if_neg (fun h=>h d),if_neg (fun hn=>hn h.ok.eU),if_neg (by omega),if_pos (List.all_eq_true.2 fun k hm=>(j k hm).right d)]
 ·
  grind
 ·
  unfold ES.base
  split
  ·
   refine h.of ⟨⟨h1.1.az,h1.1.len,h1.1.key,h1.1.B6,.nil,fun k=>.inl rfl⟩,⟨i.st,i.v,i.r0,i.r1⟩,h1.2.rev,h.ok.xh,h.ok.vH⟩
  exact h
 unfold ES.base
 split
 ·
  exact h1.2.rev
 rfl
theorem LB.start(h:LB aa x) {goals:List Key}(hk:∀k∈goals,eu aa k) (d:goals.length≤32):TR aa x.ad x.ab 0 ⟨aa,x,goals,[],[]⟩:=
 ⟨⟨rfl,h.ok,hk,fun f e=>(by cases e),fun k hk=>(by cases hk)⟩,Nat.le_refl _,Nat.le_refl _,d⟩
theorem LB.nil{aa:List aA}(y:cA) (hr:y.ah=[]) (h0:0≤y.ab) (h1:y.ab≤1073741824) (d:iO y.ab y.ad) (e:y.ad.length≤64):LB aa y:=by
 have hb:=d.eU h0 h1 e;exact⟨⟨⟨rfl,by grind,by grind,by grind,.nil,fun k=>.inl rfl⟩,⟨by show sA y.ah;rw [hr];exact .nil,by grind,h0,h1⟩,rfl,hb.1,e⟩,d⟩
end
end Go.Rc

namespace Go.Rc
open Go
def An(l:List Key):Prop:=l.Pairwise fun a b=>bp a b<0
theorem Ke{l l':List Key}(d:l'.Perm l) (hn:l.Nodup) (e:l'.Pairwise fun a b=>¬bp b a<0):An l':=by
 have i:l'.Pairwise fun a b=>a≠b:=d.nodup_iff.2 hn
 refine(e.and i).imp fun {a b} h=>?_
 grind [jy,lG]
theorem An.nodup{l:List Key}(h:An l):l.Nodup:=h.imp fun {a b} h e=>by rw [e,gL] at h;omega
theorem En{aa:List aA}{l:List Key}(hn:l.Nodup) (hk:∀x∈l,eu aa x):l.length≤100+aa.length:=by
 have h:=lh (U:=(List.range 100).map (fun n:Nat=>bH (n:Int))++(List.range aa.length).map fun n:Nat=>aD aa (n:Int)) hn fun x d=>by
  rw [List.mem_append,List.mem_map,List.mem_map]
  cases hk x d with
  | cell h=>grind
  | dp h _=>grind
 simpa using h
section
variable {aa:List aA}{az:List bU}{k:Key}
inductive Eo (aa:List aA) (az:List bU) (k:Key):Key→Prop where
 | refl:Eo aa az k k
 | step {x y:Key}:Eo aa az k x→y∈dq aa az x→Eo aa az k y
theorem tL(d:aq aa) {x:Key}(e:eu aa x):∀y∈dq aa az x,eu aa y:=fun y hy=>by
 cases e with
 | cell h=>unfold dq at hy;rw [if_pos (bf h)] at hy;cases hy
 | dp hi _=>rw [dT d hi] at hy;exact(lH d hi y hy).tm d
theorem lI(e:aq aa) {x:Key}(d:eu aa x):(dq aa az x).length≤6:=by
 cases d with
 | cell h=>unfold dq;rw [if_pos (bf h)];simp
 | dp hi _=>grind [dT,oz,jL]
theorem Eo.tm(d:aq aa) (hk:eu aa k) {y:Key}(h:Eo aa az k y):eu aa y:=by
 induction h with
 | refl=>exact hk
 | step _ hy e=>exact tL d e _ hy
structure sB (aa:List aA) (az:List bU) (k:Key) (l:List Key) (i q:Nat):Prop where
 j6:l.Nodup
 tm:∀x∈l,eu aa x
 Sq:∀x∈l,Eo aa az k x
 mem:k∈l
 cl:∀j x,j<i→l[j]?=some x→∀y∈dq aa az x,y∈l
 cur:∀x,l[i]?=some x→∀y∈(dq aa az x).take q,y∈l
theorem sB.start(hk:eu aa k):sB aa az k [k] 0 0:=
 ⟨by simp,by simpa using hk,by simpa using Eo.refl,by simp,fun j x h=>by omega,fun x _ y hy=>by simp at hy⟩
theorem sB.len(d:aq aa) {l:List Key}{i q:Nat}(h:sB aa az k l i q):l.length≤124:=by
 have:=En h.j6 h.tm
 have:=d.len
 omega
theorem Ao{l:List Key}{q:Nat}{y z:Key}(hy:l[q]?=some y) (d:z∈l.take (q+1)):z∈l.take q∨z=y:=by grind [List.take_succ_eq_append_getElem]
theorem sB.has{l:List Key}{i q:Nat}(h:sB aa az k l i q) {x y:Key}(e:l[i]?=some x) (hy:(dq aa az x)[q]?=some y) (hm:y∈l):sB aa az k l i (q+1):=
 ⟨h.j6,h.tm,h.Sq,h.mem,h.cl,fun m j z d=>by
  rw [e] at j
  cases j
  rcases Ao hy d with d | rfl
  ·
   exact h.cur x e z d
  exact hm⟩
theorem sB.add(A:aq aa) {l:List Key}{i q:Nat}(h:sB aa az k l i q) {x y:Key}(e:l[i]?=some x) (hy:(dq aa az x)[q]?=some y) (hm:y∉l):sB aa az k (l++[y]) i (q+1):=by
 have m:=List.mem_of_getElem? e;have o:=List.mem_of_getElem? hy;have B:i<l.length:=(List.getElem?_eq_some_iff.1 e).1;refine⟨?_,fun z d=>?_,fun z d=>?_,by simp [h.mem],fun j z C d w hw=>?_,fun D p z d=>?_⟩
 ·
  grind [j6]
 ·
  rcases List.mem_append.1 d with d | d
  ·
   exact h.tm z d
  rw [List.mem_singleton] at d;exact d ▸ tL A (h.tm x m) y o
 ·
  rcases List.mem_append.1 d with d | d
  ·
   exact h.Sq z d
  rw [List.mem_singleton] at d;exact d ▸ .step (h.Sq x m) o
 ·
  rw [List.getElem?_append_left (by omega)] at d;exact List.mem_append_left _ (h.cl j z C d w hw)
 rw [List.getElem?_append_left B,e] at p
 cases p
 rcases Ao hy d with d | rfl
 ·
  exact List.mem_append_left _ (h.cur x e z d)
 simp
theorem sB.next{l:List Key}{i q:Nat}(h:sB aa az k l i q) {x:Key}(m:l[i]?=some x) (o:(dq aa az x).length≤q):sB aa az k l (i+1) 0:=
 ⟨h.j6,h.tm,h.Sq,h.mem,fun j z p d w hw=>by
  by_cases e:j=i
  ·
   subst e;rw [m] at d
   cases d
   exact h.cur x m w (by grind [List.take_of_length_le])
  exact h.cl j z (by omega) d w hw,fun z _ y hy=>by simp at hy⟩
theorem sB.done{l:List Key}{i:Nat}(h:sB aa az k l i 0) (hi:l.length≤i) (y:Key):y∈l↔Eo aa az k y:=
 ⟨h.Sq y,fun hy=>by
  induction hy with
  | refl=>exact h.mem
  | step _ d e=>
   obtain⟨j,m,rfl⟩:=List.mem_iff_getElem.1 e;exact h.cl j _ (by omega) (List.getElem?_eq_getElem m) _ d⟩
def iP(l:List Key):List (Key × Value):=l.map fun x=>(x,.bool true)
theorem tM(l:List Key) (y:Key):(bq (iP l) y).getD (.bool false)=.bool (decide (y∈l)):=by
 unfold iP
 induction l with
 | nil=>simp [bq]
 | cons x r d=>
  simp only [List.map_cons,bq]
  grind
theorem tN(l:List Key) {y:Key}(h:y∉l):cO (iP l) y (.bool true)=iP (l++[y]):=by
 unfold iP
 induction l with
 | nil=>rfl
 | cons x r d=>
  rw [List.mem_cons,not_or] at h;simp only [List.map_cons,List.cons_append,cO];rw [if_neg (Ne.symm h.1),d h.2]
end
end Go.Rc

namespace Go.Rc
open Go
structure LR {α:Type}(A:Nat→Prop) (w:World) (k:Nat) (R:α→List Value→Prop) (a:Option Addr) (n:Nat) (xs:List α):Prop where
 len:n=xs.length
 le:n≤140737488355328
 at_:∀{i:Nat}{x:α},xs[i]?=some x→∃b o r,a=some ⟨b,o,none⟩∧r.length=k∧R x r∧w.rangeAt b (o+i*k) r∧A b∧b<w.heap.size
theorem SR.JF{α:Type}{w:World}{k b E:Nat}{R:α→List Value→Prop}{xs:List α}{rows:List (List Value)}(h:cC w b E rows.flatten) (hl:xs.length=rows.length) (hk:∀r∈rows,r.length=k) (h1:∀u∈rows.flatten,u.oneCell'=true)
  (hle:rows.length≤140737488355328) (d:∀(i:Nat) (x:α) (r:List Value),xs[i]?=some x→rows[i]?=some r→R x r):SR (fun _=>True) w k R (some ⟨b,0,none⟩) rows.length rows.length xs:=by
 have hlen:rows.flatten.length=rows.length*k:=by
  clear h hl h1 hle d
  induction rows with
  | nil=>simp
  | cons r t j=>grind
 have e:=OL.blk (base:=0) (k:=k) h (Nat.zero_le _) hlen h1 hle;exact⟨hl.symm,rows,hl.symm,hk,e.sl (A:=fun _=>True) (fun _ _=>trivial) hle,d⟩
end Go.Rc

namespace Go.Rc
open Go
theorem LB.Ep{aa:List aA}{x:cA}(h:LB aa x):tD aa x:=
 ⟨h.ok.tI.r0,h.ok.tI.r1,⟨h.az.1,h.az.2.1⟩,h.az.k99,h.ok.vH,fun r hr=>⟨h.ok.hW.key r hr,((ee _).1 (h.ok.tI.v r hr).1).2.2.1,(h.ok.hW.B6 r hr).2,(h.ok.tI.v r hr).1⟩,h.ok.tI.st,h.ok.hW.len,fun r hr=>(h.ok.tI.v r hr).2⟩
theorem LB.small{aa:List aA}{x:cA}(d:aq aa) (h:LB aa x):∀k,(valOf aa x.ad k).size≤140737488355328:=tz d fun y hy=>Nat.le_trans (h.az.2.2 y hy).2 (by decide)
theorem OR.Yg{α:Type}{R:α→List Value→Prop}{base b E k:Nat}{w:World}{x y:α}{r s:List Value}(h:cC w b E (r++s)) (hb:base≤b) (hr:r.length=k) (d:s.length=k) (h1:∀u∈r++s,u.oneCell'=true) (e:R x r) (hy:R y s):OR base w E k R (some ⟨b,0,none⟩) 2 2 [x,y]:=
 ⟨rfl,[r,s],rfl,by simp [hr,d],by grind [OL.blk],Ah e hy⟩
def Sr:Ask:=⟨false,false,1,0⟩
def Ss:Ask:=⟨false,false,0,0⟩
def bu:List aA:=[⟨true,[Sr],5,1⟩,⟨true,[Ss],5,4⟩]
theorem eD:aq bu:=by
 refine⟨by decide,fun i r h=>?_⟩
 have hi:i=0∨i=1:=by grind [bu]
 rcases hi with rfl | rfl
 ·
  simp [bu] at h;subst h
  refine⟨by simp,fun k x d=>?_,rfl⟩
  have hk:k=0:=by grind
  subst hk
  simp at d;subst d
  rfl
 simp [bu] at h;subst h
 refine⟨by simp,fun k x d=>?_,rfl⟩
 have hk:k=0:=by grind
 subst hk
 simp at d;subst d
 rfl
theorem fq{i:Nat}:i<bu.length↔i<2:=Iff.rfl
theorem mI{i:Nat}(hi:i<2):ay bu i=true:=by
 match i with
 | 0=>rfl
 | 1=>rfl
theorem FM{az:List bU}{i:Nat}(hi:i<2):rv bu az i=5:=by
 have m:∀b,(jg bu (valOf bu az) 0).testBit b=true↔(1:Nat).testBit b=true:=fun b=>Iff.rfl;have o:∀b,(jg bu (valOf bu az) 1).testBit b=true↔(4:Nat).testBit b=true:=fun b=>Iff.rfl;have d:eG bu 0 1:=⟨_,Sr,rfl,rfl,by simp,rfl,rfl,rfl⟩;have e:eG bu 1 0:=⟨_,Ss,rfl,rfl,by simp,rfl,rfl,rfl⟩;have h1:=dI eD (gy:=valOf bu az) (fq.2 hi) (mI hi)
 have p:∀j,cB bu i j↔j<2:=fun j=>by
  constructor
  ·
   intro h
   cases h with
   | refl=>exact hi
   | step _ h=>exact h.lt.2.1
  intro h
  have c:(i=j)∨(i=0∧j=1)∨(i=1∧j=0):=by omega
  rcases c with rfl | ⟨rfl,rfl⟩ | ⟨rfl,rfl⟩
  ·
   exact .refl
  ·
   exact .step .refl d
  exact .step .refl e
 apply Nat.eq_of_testBit_eq
 intro b;rw [Bool.eq_iff_iff]
 show(qY bu (valOf bu az) i).testBit b=true↔_
 rw [h1,show(5:Nat)=1 ||| 4 from rfl,Nat.testBit_or,Bool.or_eq_true]
 constructor
 ·
  grind
 grind
theorem Su:itoa ((5:Nat):Int)=⟨#[53]⟩:=by
 simp [itoa,Lib.itoa,Lib.decDigits]
theorem tO{az:List bU}{i:Nat}(hi:i<2):valOf bu az (aD bu (i:Int))=⟨#[53]⟩:=by grind [fB,eD,fq,fX,mI,FM,Su]
theorem lJ{az:List bU}{i:Nat}(hi:i<2):dq bu az (aD bu (i:Int))=[aD bu ((1 - i:Nat):Int)]:=by
 rw [dT eD (fq.2 hi)]
 unfold cm
 have hn:bZ bu i=1:=by
  match i with
  | 0=>rfl
  | 1=>rfl
 obtain⟨a,h1,_,e⟩:=dd eD (fq.2 hi) (ae:=[]) (by rw [hn];decide);obtain⟨x,d,h⟩:=e (mI hi);rw [hn]
 show []++[(bQ bu (aD bu (i:Int)) []).ask]=_
 rw [h1,h]
 match i with
 | 0=>cases d;rfl
 | 1=>cases d;rfl
theorem x5{az:List bU}{L:List Key}(j:An L) (h:∀y,y∈L↔Eo bu az (aD bu ((1:Nat):Int)) y):L.length=2:=by
 have m:∀y,Eo bu az (aD bu ((1:Nat):Int)) y→y∈[aD bu ((0:Nat):Int),aD bu ((1:Nat):Int)]:=fun y hy=>by
  induction hy with
  | refl=>simp
  | step _ d i=>
   simp only [List.mem_cons,List.not_mem_nil,or_false] at i
   rcases i with rfl | rfl
   ·
    rw [lJ (by omega),List.mem_singleton] at d;subst d
    simp
   rw [lJ (by omega),List.mem_singleton] at d;subst d
   simp
 have p:aD bu ((1:Nat):Int)∈L:=(h _).2 .refl;have A:aD bu ((0:Nat):Int)∈L:=(h _).2 (.step .refl (by rw [lJ (by omega)];simp))
 have o:aD bu ((0:Nat):Int)≠aD bu ((1:Nat):Int):=fun e=>by
  have:=dD eD (fq.2 (by omega:0<2)) (fq.2 (by omega:1<2)) e
  omega
 have a:=lh j.nodup fun y hy=>m y ((h y).1 hy)
 have b:=lh (l:=[aD bu ((0:Nat):Int),aD bu ((1:Nat):Int)]) (U:=L) (by simpa using o) fun y hy=>by grind
 simp at a b
 omega
theorem nE{aa:List aA}:LB aa ⟨0,[],[]⟩:=LB.nil _ rfl (by decide) (by decide) (iO.nil _) (by simp)
end Go.Rc

namespace Go.Rc
open Go
section
variable {aa:List aA}{az:List bU}
noncomputable def FN(aa:List aA) (az:List bU) (i q:Nat):List ByteArray:=(dR (bQ aa (aD aa (i:Int))) (valOf aa az) q).2
noncomputable def oA(aa:List aA) (az:List bU) (i q:Nat):Key:=(bQ aa (aD aa (i:Int)) (FN aa az i q)).ask
theorem pd(i q:Nat):(FN aa az i q).length=q:=(eV _ _ _).2
theorem iv{i q:Nat}(d:q<bZ aa i):(cm aa az i)[q]?=some (oA aa az i q):=by
 unfold cm oA FN
 generalize bZ aa i=n at d ⊢
 induction n with
 | zero=>omega
 | succ n e=>
  have hl:=(eV (bQ aa (aD aa (i:Int))) (valOf aa az) n).1;simp only [dR]
  grind
theorem Er(d:aq aa) {i q:Nat}(hi:i<aa.length) (e:q<bZ aa i):bQ aa (aD aa (i:Int)) (FN aa az i q)=⟨false,⟨#[]⟩,oA aa az i q⟩:=by grind [dd,pd,oA]
theorem Es(d:aq aa) {i:Nat}(hi:i<aa.length):bQ aa (aD aa (i:Int)) (FN aa az i (bZ aa i))=⟨true,valOf aa az (aD aa (i:Int)),eS⟩:=fP d hi
theorem Ap(d:aq aa) {i q:Nat}(hi:i<aa.length) (e:q<bZ aa i):eu aa (oA aa az i q):=
 (lH d hi _ (List.mem_of_getElem? (iv (az:=az) e))).tm d
theorem FO(d:aq aa) {i:Nat}(hi:i<aa.length) (hr:ay aa i=true):cy (valOf aa az (aD aa (i:Int)))=rv aa az i:=by grind [fB,fX,eQ,re]
end
end Go.Rc

namespace Go.Rc
open Go
section
variable {aa:List aA}{az:List bU}{k:Key}{L:List Key}
theorem FP(d:aq aa) (hk:eu aa k) (hn:L.Nodup) (e:∀y,y∈L↔Eo aa az k y):L.length≤124:=by
 have:=En hn fun x h=>((e x).1 h).tm d hk
 have:=d.len
 omega
end
end Go.Rc

namespace Go.Rc
open Go
section
variable {aa:List aA}{az:List bU}
theorem cB.trans{i j k:Nat}(h:cB aa i j) (d:cB aa j k):cB aa i k:=by
 induction d with
 | refl=>exact h
 | step _ e m=>exact .step m e
variable {lo n q v:Nat}{S:List Int}{r:aA}
end
end Go.Rc

namespace Go.Rc
open Go
end Go.Rc
namespace Go.Rc
open Go
end Go.Rc

namespace Go.Rc
open Go
section
variable {aa:List aA}{az qc:List bU}
theorem tP(d:aq aa) {i:Nat}(hi:i<aa.length) (h:∀a∈cm aa az i,valOf aa az a=valOf aa qc a):cm aa qc i=cm aa az i∧valOf aa qc (aD aa (i:Int))=valOf aa az (aD aa (i:Int)):=by
 have e:dR (bQ aa (aD aa (i:Int))) (valOf aa az) (bZ aa i)=dR (bQ aa (aD aa (i:Int))) (valOf aa qc) (bZ aa i):=tj _ fun m hm=>h _ (List.mem_of_getElem? (iv hm))
 refine⟨?_,?_⟩
 ·
  unfold cm
  rw [e]
 have h1:=fP (az:=az) d hi;have j:=fP (az:=qc) d hi
 grind
theorem rj(d:aq aa) {G:Nat→Prop}(i:∀j,G j→j<aa.length∧ay aa j=true) (h:∀j,G j→∀r x,aa[j]?=some r→x∈r.asks→(∀m,G m→bw aa x≠aD aa (m:Int))→valOf aa az (bw aa x)=valOf aa qc (bw aa x)) {j:Nat}(D:G j) (b:Nat) (hb:(rv aa az j).testBit b=true):(rv aa qc j).testBit b=true:=by
 obtain⟨A,B⟩:=i j D;obtain⟨n,hn,F⟩:=(dI d A B b).1 hb
 have key:∀n,cB aa j n→(G n∧cB aa j n)∨∃(m:Nat) (x:Ask) (r:aA) (q:Nat),G m∧cB aa j m∧aa[m]?=some r∧x∈r.asks∧bw aa x=aD aa (q:Int)∧¬G q∧eG aa m q∧cB aa q n:=by
  intro n hn
  induction hn with
  | refl=>exact .inl ⟨D,.refl⟩
  | @step m q hm o O=>
   rcases O with⟨g1,g2⟩ | ⟨m2,x,r,Q,g1,g2,g3,g4,g5,g6,g7,g8⟩
   ·
    by_cases I:G q
    ·
     exact .inl ⟨I,.step g2 o⟩
    obtain⟨x,p,_,hk⟩:=oq (i m g1).1 o;exact .inr ⟨m,x,_,q,g1,g2,ai (i m g1).1,p,hk,I,o,.refl⟩
   exact .inr ⟨m2,x,r,Q,g1,g2,g3,g4,g5,g6,g7,.step g8 o⟩
 rcases key n hn with⟨g1,g2⟩ | ⟨m,x,r,q,g1,g2,g3,g4,g5,g6,g7,g8⟩
 ·
  obtain⟨C,Y⟩:=i n g1;refine(dI d A B b).2 ⟨n,g2,?_⟩
  rcases(eR C b).1 F with h1 | ⟨x,p,U,h1⟩
  ·
   grind [eR]
  refine(eR C b).2 (.inr ⟨x,p,U,?_⟩);rw [← h n g1 _ x (ai C) p fun m hm e=>?_]
  ·
   exact h1
  grind [iq,bj,aq.len]
 have J:=g7.lt.2.1;have M:=g7.lt.2.2.2;have h1:(rv aa az q).testBit b=true:=(dI d J M b).2 ⟨n,g8,F⟩
 have h2:=h m g1 r x g3 g4 fun m2 vI e=>by grind [dD]
 have V:rv aa az q=rv aa qc q:=by grind [FO]
 rw [V] at h1;obtain⟨n2,W,X⟩:=(dI d J M b).1 h1;exact(dI d A B b).2 ⟨n2,(cB.step g2 g7).trans W,X⟩
theorem CO(o:aq aa) {G:Nat→Prop}(i:∀j,G j→j<aa.length∧ay aa j=true) (h:∀j,G j→∀r x,aa[j]?=some r→x∈r.asks→(∀m,G m→bw aa x≠aD aa (m:Int))→valOf aa az (bw aa x)=valOf aa qc (bw aa x)) {j:Nat}(d:G j):valOf aa az (aD aa (j:Int))=valOf aa qc (aD aa (j:Int)):=by
 obtain⟨B,C⟩:=i j d
 have e:rv aa az j=rv aa qc j:=by
  apply Nat.eq_of_testBit_eq
  intro b;rw [Bool.eq_iff_iff];exact⟨rj o i h d b,rj o i (fun j d r x h1 p A=>(h j d r x h1 p A).symm) d b⟩
 grind [fB,fX]
structure Cons (aa:List aA) (H:Int→List bU) (on:Key→Bool) (b:cA):Prop where
 now:H b.ab=b.ad
 hP:∀k t,aB k=true→(bE b.ad k).changed≤t→t≤b.ab→cellOf (H t) k=cellOf b.ad k
 Et:∀r∈b.ah,r.av≤b.ab∧r.changed≤r.av
 vr:∀r∈b.ah,r.value=valOf aa (H r.av) r.key∧r.reads=dq aa (H r.av) r.key
 rr:∀r∈b.ah,∀a∈r.reads,aB a=false→∀ra,aH b.ah a=some ra→(r.av=b.ab∧on a=true)∨(ra.changed≤r.av→valOf aa (H r.av) a=ra.value)
 rs:∀r∈b.ah,ax r.key=true→∀a∈r.reads,ax a=true→∀ra,aH b.ah a=some ra→(r.av=b.ab∧on a=true)∨r.av≤ra.av
variable {H:Int→List bU}{on:Key→Bool}{b:cA}{k:Key}
theorem Cons.up(h:Cons aa H on b) (hu:aM b k=true):∃r,aH b.ah k=some r∧r.av=b.ab∧r.value=valOf aa b.ad k:=by
 obtain⟨r,hr,d⟩:=bF.1 hu;obtain⟨h1,e⟩:=aW hr;refine⟨r,hr,d,?_⟩;rw [(h.vr r h1).1,d,h.now,e]
theorem Cons.changed(h:Cons aa H on b) {m:Rec}(hm:m∈b.ah) (p:m.av<b.ab) {a:Key}(j:a∈m.reads) (hc:bR (valOf aa b.ad) b a≤m.av):valOf aa (H m.av) a=valOf aa b.ad a:=by
 cases hi:aB a with
 | true=>
  unfold bR at hc
  rw [if_pos hi] at hc
  have:=h.hP a m.av hi hc (by omega)
  unfold valOf
  grind
 | false=>
  unfold bR at hc
  rw [if_neg (by rw [hi];simp)] at hc
  split at hc
  ·
   rename_i h1
   rw [Bool.and_eq_true] at h1;obtain⟨ra,i⟩:=Option.isSome_iff_exists.1 h1.1
   have e:aF b.ah a=ra:=by unfold aF;rw [i];rfl
   rw [e] at h1 hc
   have o:valOf aa b.ad a=ra.value:=by
    rw [Bool.or_eq_true] at h1
    rcases h1.2 with d | d
    ·
     have d:=of_decide_eq_true d;obtain⟨g1,g2⟩:=aW i;rw [(h.vr ra g1).1,d,h.now,g2]
    exact of_decide_eq_true d
   rcases h.rr m hm a j hi ra i with⟨d,_⟩ | d
   ·
    omega
   rw [d hc,o]
  omega
end
end Go.Rc

namespace Go.Rc
open Go
/-! ### lists of keys in order -/
def Kf(l:List Key):Prop:=l.Pairwise fun a b=>bp a b<0
theorem oB{a b:Key}(h:bp a b<0) (d:bp b a<0):False:=by grind [gH,gL]
theorem Eu{k:Key}:∀{l:List Key},Kf l→Kf (mg k l)
 | [],_=>by simp [mg,Kf]
 | x::r,h=>by
  obtain⟨h1,d⟩:=List.pairwise_cons.1 h
  unfold mg
  split
  ·
   rename_i c
   refine List.pairwise_cons.2 ⟨fun y hy=>?_,Eu d⟩
   grind [zY]
  rename_i c
  split
  ·
   exact h
  rename_i e
  have i:bp k x<0:=by grind [jy,lG]
  refine List.pairwise_cons.2 ⟨fun y hy=>?_,h⟩
  grind [gH]
theorem Aq(l:List Key):Kf (jh l):=by
 have key:∀(l acc:List Key),Kf acc→Kf (l.foldl (fun out k=>mg k out) acc):=by
  intro l
  induction l with
  | nil=>intro acc h;exact h
  | cons x r d=>grind [Eu]
 exact key l [] List.Pairwise.nil
theorem CP:∀{a b:List Key},Kf a→Kf b→(∀x,x∈a↔x∈b)→a=b
 | [],[],_,_,_=>rfl
 | [],y::b,_,_,h=>by have:=(h y).2 (by simp);cases this
 | x::a,[],_,_,h=>by have:=(h x).1 (by simp);cases this
 | x::a,y::b,h1,d,h=>by
  obtain⟨o,i⟩:=List.pairwise_cons.1 h1;obtain⟨p,j⟩:=List.pairwise_cons.1 d
  have e:x=y:=by
   rcases List.mem_cons.1 ((h x).1 (by simp)) with e | e
   ·
    exact e
   rcases List.mem_cons.1 ((h y).2 (by simp)) with e2 | e2
   ·
    exact e2.symm
   grind [oB]
  subst e
  congr 1
  refine CP i j fun z=>⟨fun m=>?_,fun m=>?_⟩
  ·
   grind [oB]
  grind [oB]
/-! ### rings that belong together -/
section
variable {l l':List Rec}{rev:Int}{k x y z:Key}
theorem bG:cW l rev k=true↔∃r,aH l k=some r∧ax k=true∧r.av<rev∧r.bJ=false:=by
 unfold cW aF
 cases h:aH l k with
 | none=>simp
 | some r=>simp
theorem cx.trans(h:cx l rev k x) (d:cx l rev x y):cx l rev k y:=by
 induction d with
 | one d=>exact .step h d
 | step _ e i=>exact .step i e
def x7(l:List Rec) (rev:Int) (x y:Key):Prop:=cx l rev x y∧cx l rev y x
theorem x7.symm(h:x7 l rev x y):x7 l rev y x:=⟨h.2,h.1⟩
theorem x7.trans(h:x7 l rev x y) (d:x7 l rev y z):x7 l rev x z:=⟨h.1.trans d.1,d.2.trans h.2⟩
theorem x7.fK(h:x7 l rev x y):cW l rev y=true:=h.1.fK
theorem CQ:y∈iu l rev k l↔y≠k∧x7 l rev k y:=by
 unfold iu Aa
 rw [List.mem_map]
 constructor
 ·
  rintro⟨r,hr,rfl⟩;rw [List.mem_filter] at hr;simp only [Bool.and_eq_true,decide_eq_true_eq,jO] at hr;exact⟨hr.2.1,hr.2.2.1,hr.2.2.2⟩
 rintro⟨h1,d⟩;obtain⟨r,hr,rfl⟩:=List.mem_map.1 (tr d.fK);exact⟨r,List.mem_filter.2 ⟨hr,by simp only [Bool.and_eq_true,decide_eq_true_eq,jO];exact⟨h1,d.1,d.2⟩⟩,rfl⟩
theorem cN:y∈aC l rev k↔y=k∨(cW l rev k=true∧x7 l rev k y):=by
 unfold aC
 split
 ·
  rename_i h
  rw [nB,List.mem_cons,CQ]
  grind
 grind
theorem iR:k∈aC l rev k:=cN.2 (.inl rfl)
theorem xi(l:List Rec) (rev:Int) (k:Key):Kf (aC l rev k):=by
 unfold aC
 split
 ·
  exact Aq _
 exact List.pairwise_singleton _ _
theorem mJ(h:ax k=false):aC l rev k=[k]:=by
 unfold aC
 rw [if_neg]
 grind [bG]
theorem xj(hk:cW l rev k=true) (h:x7 l rev k y) (z:Key):z∈aC l rev y↔z∈aC l rev k:=by
 rw [cN,cN]
 constructor
 ·
  rintro(rfl | ⟨_,h1⟩)
  ·
   exact .inr ⟨hk,h⟩
  exact .inr ⟨hk,h.trans h1⟩
 rintro(rfl | ⟨_,h1⟩)
 ·
  exact .inr ⟨h.fK,h.symm⟩
 exact .inr ⟨h.fK,h.symm.trans h1⟩
theorem ep{g:List Key}{c:vx}:c∈ct l g↔c.eO∈g∧c.read∈(aF l c.eO).reads∧c.read∉g:=by
 unfold ct dZ
 grind
theorem vJ{g:List Key}(h:∀m∈g,aF l' m=aF l m):ct l' g=ct l g:=by
 unfold ct
 have key:∀s:List Key,(∀m∈s,aF l' m=aF l m)→(s.flatMap fun m=>dZ g m (aF l' m).reads)=s.flatMap fun m=>dZ g m (aF l m).reads:=by
  intro s
  induction s with
  | nil=>intro _;rfl
  | cons m r d=>grind
 exact key g h
end
/-! ### the change of records -/
def Pt(val:Key→ByteArray) (N:Key→Prop) (rev:Int) (bM:List Key) (y:Key) (o o':Option Rec):Prop:=
 o'=o∨((ax y=true∨N y)∧∃r,o=some r∧r.bJ=false∧r.av<rev∧(o'=some {r with av:=rev}∨o'=some {r with bJ:=true}))∨
 ((y∈bM∧N y)∧(∀r,o=some r→r.av<rev)∧∃r',o'=some r'∧r'.av=rev∧r'.bJ=false∧r'.value=val y∧(∀r,o=some r→r'.changed=if r.value=r'.value then r.changed else rev)∧(o=none→r'.changed=rev))
structure hM (val:Key→ByteArray) (N:Key→Prop) (bM:List Key) (rev:Int) (l l':List Rec):Prop where
 pt:∀y,Pt val N rev bM y (aH l y) (aH l' y)
 scc:∀y z,x7 l rev y z→cW l' rev y=true→cW l' rev z=true
def Live(l:List Rec) (rev:Int) (k:Key):Prop:=∃r,aH l k=some r∧r.bJ=false∧r.av<rev
theorem Live.x8{l:List Rec}{rev:Int}{k:Key}(h:cW l rev k=true):Live l rev k:=by
 obtain⟨r,h1,_,d,e⟩:=bG.1 h;exact⟨r,h1,e,d⟩
theorem Live.fK{l:List Rec}{rev:Int}{k:Key}(h:Live l rev k) (hc:ax k=true):cW l rev k=true:=by
 obtain⟨r,h1,d,e⟩:=h
 grind [bG]
section
variable {val:Key→ByteArray}{N N':Key→Prop}{bM Sv:List Key}{rev:Int}{l l' l2:List Rec}{k x y z:Key}
theorem hM.refl(l:List Rec):hM val N bM rev l l:=⟨fun _=>.inl rfl,fun _ _ h _=>h.fK⟩
theorem hM.mono(h:hM val N bM rev l l') (hr:∀y∈bM,y∈Sv) (e:∀y,N y→N' y):hM val N' Sv rev l l':=
 ⟨fun y=>by
  rcases h.pt y with h | ⟨h1,d⟩ | ⟨⟨h1,d⟩,i⟩
  ·
   exact .inl h
  ·
   exact .inr (.inl ⟨h1.imp id (e y),d⟩)
  exact .inr (.inr ⟨⟨hr y h1,e y d⟩,i⟩),h.scc⟩
theorem hM.live(h:hM val N bM rev l l') (hl:Live l' rev y):aH l' y=aH l y:=by
 obtain⟨r,h1,d,i⟩:=hl
 rcases h.pt y with e | ⟨_,q,_,_,_,e | e⟩ | ⟨_,_,q,e,j,_⟩
 ·
  exact e
 ·
  grind
 ·
  grind
 grind
theorem hM.L9(h:hM val N bM rev l l') (hl:Live l' rev y):Live l rev y:=by
 obtain⟨r,h1,d,e⟩:=id hl;exact⟨r,by rw [← h.live hl];exact h1,d,e⟩
theorem hM.fK(h:hM val N bM rev l l') (d:cW l' rev y=true):aH l' y=aH l y:=h.live (.x8 d)
theorem hM.Kg(h:hM val N bM rev l l') (d:cW l' rev y=true):cW l rev y=true:=by
 obtain⟨r,h1,e,i,j⟩:=bG.1 d;exact bG.2 ⟨r,by rw [← h.fK d];exact h1,e,i,j⟩
theorem hM.aF(h:hM val N bM rev l l') (d:cW l' rev y=true):aF l' y=Rc.aF l y:=by
 unfold Rc.aF
 rw [h.fK d]
theorem hM.leads(h:hM val N bM rev l l') (hk:cW l' rev k=true) (hl:cx l' rev k x):cx l rev k x:=by
 induction hl with
 | one h1=>exact .one ⟨by rw [← h.aF hk];exact h1.1,h.Kg h1.2⟩
 | step h1 d e=>exact .step e ⟨by rw [← h.aF h1.fK];exact d.1,h.Kg d.2⟩
theorem hM.back(h:hM val N bM rev l l') (hk:cW l' rev k=true) (hl:cx l rev k x):cx l rev x k→cx l' rev k x:=by
 induction hl with
 | one h1=>exact fun d=>.one ⟨by rw [h.aF hk];exact h1.1,h.scc k _ ⟨.one h1,d⟩ hk⟩
 | step h1 e i=>
  intro d;have g:=i ((cx.one e).trans d);exact .step g ⟨by rw [h.aF g.fK];exact e.1,h.scc k _ ⟨.step h1 e,d⟩ hk⟩
theorem hM.mut(h:hM val N bM rev l l') (hk:cW l' rev k=true):x7 l' rev k y↔x7 l rev k y:=
 ⟨fun m=>⟨h.leads hk m.1,h.leads m.fK m.2⟩,fun m=>⟨h.back hk m.1 m.2,h.back (h.scc k y m hk) m.2 m.1⟩⟩
theorem hM.group(h:hM val N bM rev l l') (hk:Live l' rev k):aC l' rev k=aC l rev k∧∀m∈aC l rev k,aH l' m=aH l m:=by
 cases hc:ax k with
 | false=>
  rw [mJ hc,mJ hc];refine⟨rfl,fun m hm=>?_⟩;rw [List.mem_singleton.1 hm];exact h.live hk
 | true=>
  have d:=hk.fK hc;refine⟨CP (xi _ _ _) (xi _ _ _) fun y=>?_,fun m hm=>?_⟩
  ·
   rw [cN,cN,h.mut d,d,h.Kg d]
  rcases cN.1 hm with rfl | ⟨_,m2⟩
  ·
   exact h.live hk
  exact h.fK (h.scc _ _ m2 d)
theorem hM.HL(h:hM val N bM rev l l') (hk:Live l' rev k):ct l' (aC l' rev k)=ct l (aC l rev k):=by
 obtain⟨h1,d⟩:=h.group hk;rw [h1];refine vJ fun m hm=>?_
 unfold Rc.aF
 rw [d m hm]
theorem hM.trans(h:hM val N bM rev l l') (d:hM val N bM rev l' l2):hM val N bM rev l l2:=by
 refine⟨fun y=>?_,fun y z m i=>?_⟩
 ·
  have g2:=d.pt y
  rcases h.pt y with e | ⟨e0,r,e1,e2,e3,e4 | e4⟩ | ⟨e1,e2,j,e3,e4,o,p,A,B⟩
  ·
   rw [e] at g2;exact g2
  ·
   rcases g2 with g | ⟨_,q,g1,g2,g3,_⟩ | ⟨_,g1,_⟩
   ·
    exact .inr (.inl ⟨e0,r,e1,e2,e3,.inl (g.trans e4)⟩)
   ·
    grind
   grind
  ·
   rcases g2 with g | ⟨_,q,g1,g2,g3,_⟩ | ⟨g1,g2,q,g3,g4,g5,g6,g7,g8⟩
   ·
    exact .inr (.inl ⟨e0,r,e1,e2,e3,.inr (g.trans e4)⟩)
   ·
    grind
   refine .inr (.inr ⟨g1,fun r2 C=>?_,q,g3,g4,g5,g6,fun r2 C=>?_,fun hn=>?_⟩)
   ·
    grind
   ·
    grind
   grind
  rcases g2 with g | ⟨_,q,g1,g2,g3,_⟩ | ⟨_,g1,_⟩
  ·
   exact .inr (.inr ⟨e1,e2,j,g.trans e3,e4,o,p,A,B⟩)
  ·
   grind
  have:=g1 _ e3
  omega
 have D:=d.Kg i;exact d.scc y z ((h.mut D).2 m) i
theorem dr{g:List Key}{d:Bool}:aH (l.map (bC rev g d)) y=(aH l y).map (bC rev g d):=pZ _ (fun r=>(cz rev g d r).1) y l
theorem hM.mark(hl:Live l rev k) (d:Bool) (o:ax k=true∨N k):hM val N bM rev l (l.map (bC rev (aC l rev k) d)):=by
 have hP:∀y∈aC l rev k,Live l rev y:=fun y hy=>by
  rcases cN.1 hy with rfl | ⟨_,m⟩
  ·
   exact hl
  exact .x8 m.fK
 have p:∀y,y∉aC l rev k→aH (l.map (bC rev (aC l rev k) d)) y=aH l y:=fun y hy=>by
  rw [dr]
  cases A:aH l y with
  | none=>rfl
  | some r=>
   have e:=(aW A).2
   show some (bC rev (aC l rev k) d r)=some r
   unfold bC
   rw [if_neg (by rw [e];exact hy)]
 have B:∀y∈aC l rev k,∃r,aH l y=some r∧r.bJ=false∧r.av<rev∧aH (l.map (bC rev (aC l rev k) d)) y=some (if d then {r with bJ:=true} else {r with av:=rev}):=fun y hy=>by
  obtain⟨r,h1,h,i⟩:=hP y hy;refine⟨r,h1,h,i,?_⟩;rw [dr,h1]
  show some (bC rev (aC l rev k) d r)=_
  unfold bC
  rw [if_pos (by rw [(aW h1).2];exact hy)]
 refine⟨fun y=>?_,fun y z m D=>?_⟩
 ·
  by_cases hy:y∈aC l rev k
  ·
   obtain⟨r,h1,h,i,C⟩:=B y hy;refine .inr (.inl ⟨?_,r,h1,h,i,?_⟩)
   ·
    rcases cN.1 hy with rfl | ⟨_,m⟩
    ·
     exact o
    obtain⟨_,_,g,_⟩:=bG.1 m.fK;exact .inl g
   grind
  exact .inl (p y hy)
 have hy:y∉aC l rev k:=fun hy=>by grind [bG]
 have j:z∉aC l rev k:=fun j=>hy (by
  rcases cN.1 j with rfl | ⟨h1,h⟩
  ·
   grind [cN,x7.fK,x7.symm]
  exact cN.2 (.inr ⟨h1,h.trans m.symm⟩))
 obtain⟨r,h1,h,i,C⟩:=bG.1 m.fK
 grind [bG]
theorem hM.put{d:Rec}(hk:cW l rev d.key=false) (h:∀r,aH l d.key=some r→r.av<rev) (i:d.key∈bM∧N d.key) (j:d.av=rev) (o:d.bJ=false) (p:d.value=val d.key)
  (hc:∀r,aH l d.key=some r→d.changed=if r.value=d.value then r.changed else rev) (hn:aH l d.key=none→d.changed=rev):hM val N bM rev l (fb l d):=by
 refine⟨fun y=>?_,fun y z m F=>?_⟩
 ·
  rw [eC]
  by_cases e:y=d.key
  ·
   rw [if_pos e,e];exact .inr (.inr ⟨i,h,d,rfl,j,o,p,hc,hn⟩)
  rw [if_neg e];exact .inl rfl
 have A:z≠d.key:=fun e=>by grind [x7.fK]
 obtain⟨r,h1,B,C,D⟩:=bG.1 m.fK;exact bG.2 ⟨r,by rw [eC,if_neg A];exact h1,B,C,D⟩
end
end Go.Rc

namespace Go.Rc
open Go
theorem cq{l:List Rec}{k:Key}{r:Rec}(h:aH l k=some r):aF l k=r:=by
 unfold aF
 rw [h]
 rfl
theorem iS:∀{l:List Rec},sA l→∀{r:Rec},r∈l→aH l r.key=some r
 | [],_,r,hr=>by cases hr
 | x::xs,h,r,hr=>by
  obtain⟨h1,d⟩:=List.pairwise_cons.1 h
  unfold aH
  rw [List.find?_cons]
  rcases List.mem_cons.1 hr with rfl | hr
  ·
   simp
  have i:=h1 r hr
  have j:x.key≠r.key:=fun e=>by rw [e,gL] at i;omega
  have:(x.key == r.key)=false:=by simpa using j
  rw [this];exact iS d hr
structure Bi (aa:List aA) (H:Int→List bU) (on:Key→Bool) (b:cA):Prop where
 c:Cons aa H on b
 st:sA b.ah
 kr:∀r∈b.ah,∃i:Nat,i<aa.length∧r.key=aD aa (i:Int)
 dv:∀r∈b.ah,r.bJ=true→r.av<b.ab
section
variable {aa:List aA}{H:Int→List bU}{on WS:Key→Bool}{b:cA}{k:Key}
theorem Bi.Ma(h:Bi aa H on b) (i:∀k,on k=true→WS k=true):Bi aa H WS b:=
 ⟨{h.c with
   rr:=fun r hr a d hi ra e=>(h.c.rr r hr a d hi ra e).imp (fun⟨x,y⟩=>⟨x,i _ y⟩) id
   rs:=fun r hr hc a d hi ra e=>(h.c.rs r hr hc a d hi ra e).imp (fun⟨x,y⟩=>⟨x,i _ y⟩) id},h.st,h.kr,h.dv⟩
theorem Bi.off(h:Bi aa H on b) (hu:aM b k=true) (j:∀y,on y=true→y=k∨WS y=true):Bi aa H WS b:=by
 obtain⟨q,i,o,m⟩:=h.c.up hu;refine⟨{h.c with rr:=fun r hr a e hi ra d=>?_,rs:=fun r hr hc a e hi ra d=>?_},h.st,h.kr,h.dv⟩
 ·
  rcases h.c.rr r hr a e hi ra d with⟨x,y⟩ | z
  ·
   rcases j a y with rfl | y
   ·
    rw [d] at i
    have:=Option.some.inj i
    subst this;refine .inr fun _=>?_;rw [x,h.c.now];exact m.symm
   exact .inl ⟨x,y⟩
  exact .inr z
 rcases h.c.rs r hr hc a e hi ra d with⟨x,y⟩ | z
 ·
  grind
 exact .inr z
theorem FQ(h:aq aa) {az:List bU}{i:Nat}(hi:i<aa.length) (hr:ay aa i=true) {x:Ask}(d:x∈aa[i].asks):bw aa x∈cm aa az i:=by
 obtain⟨q,j⟩:=List.mem_iff_getElem?.1 d
 have e:q<bZ aa i:=by grind [bZ]
 have h1:=iv (az:=az) e
 grind [dd,pd,oA]
theorem Cons.lead(h:Cons aa H on b) {x y:Key}(d:cW b.ah b.ab x=true) (hl:cx b.ah b.ab x y):(aF b.ah x).av≤(aF b.ah y).av:=by
 have step:∀x y,cW b.ah b.ab x=true→Ld b.ah b.ab x y→(aF b.ah x).av≤(aF b.ah y).av:=by
  intro x y d hy;obtain⟨r,h1,i,m,o⟩:=bG.1 d;obtain⟨q,g1,g2,g3,g4⟩:=bG.1 hy.2;have j:=hy.1;rw [cq h1] at j;rw [cq h1,cq g1]
  rcases h.rs r (aW h1).1 (by rw [(aW h1).2];exact i) y j g2 q g1 with⟨e,_⟩ | e
  ·
   omega
  exact e
 induction hl with
 | one h1=>exact step _ _ d h1
 | step h1 i p=>grind [cx.fK]
theorem Bi.key(h:Bi aa H on b) (hl:Live b.ah b.ab k):∃i:Nat,i<aa.length∧k=aD aa (i:Int):=by
 obtain⟨r,h1,_⟩:=hl;obtain⟨d,j⟩:=aW h1;obtain⟨i,hi,e⟩:=h.kr r d
 grind
theorem jo{l:List Rec}{rev:Int}{y:Key}(hl:Live l rev k) (hy:y∈aC l rev k):Live l rev y:=by
 rcases cN.1 hy with rfl | ⟨_,m⟩
 ·
  exact hl
 exact .x8 m.fK
theorem Bi.fixed(p:aq aa) (h:Bi aa H on b) (hl:Live b.ah b.ab k)
  (B:∀m∈aC b.ah b.ab k,∀a∈(aF b.ah m).reads,a∉aC b.ah b.ab k→valOf aa (H (aF b.ah m).av) a=valOf aa b.ad a) :
  ∀m∈aC b.ah b.ab k,valOf aa b.ad m=valOf aa (H (aF b.ah m).av) m∧dq aa b.ad m=dq aa (H (aF b.ah m).av) m:=by
 have O:=p.len
 have o:∀m∈aC b.ah b.ab k,∃i:Nat,i<aa.length∧m=aD aa (i:Int)∧(aF b.ah m).reads=cm aa (H (aF b.ah m).av) i:=fun m hm=>by
  have C:=jo hl hm;obtain⟨i,hi,e⟩:=h.key C;obtain⟨r,h1,_⟩:=C;refine⟨i,hi,e,?_⟩;have D:=(h.c.vr r (aW h1).1).2;rw [cq h1,D,(aW h1).2,e,dT p hi]
 cases hc:ax k with
 | false=>
  rw [mJ hc] at B o ⊢;intro m hm;rw [List.mem_singleton] at hm;subst hm;obtain⟨i,hi,e,o⟩:=o m (by simp)
  have F:=tP p hi (az:=H (aF b.ah m).av) (qc:=b.ad) fun a A=>by
   refine B m (by simp) a (by rw [o];exact A) fun hm=>?_;rw [List.mem_singleton] at hm;rw [e] at hm;rw [e,bj hi (by omega)] at hc
   rcases lH p hi a A with⟨n,hn,rfl⟩ | ⟨j,d,rfl,_,Q,_⟩
   ·
    grind [bf,cM]
   grind [dD]
  grind [dT]
 | true=>
  have I:=hl.fK hc
  have ht:∀m∈aC b.ah b.ab k,(aF b.ah m).av=(aF b.ah k).av:=fun m hm=>by
   rcases cN.1 hm with rfl | ⟨_,m1,m2⟩
   ·
    rfl
   have a1:=h.c.lead I m1;have a2:=h.c.lead m1.fK m2
   omega
  have J:∀j:Nat,j<aa.length→aD aa (j:Int)∈aC b.ah b.ab k→ay aa j=true:=fun j d hm=>by
   have h1:cW b.ah b.ab (aD aa (j:Int))=true:=by grind [cN,x7.fK]
   grind [bG,bj]
  have M:∀j:Nat,j<aa.length→aD aa (j:Int)∈aC b.ah b.ab k→valOf aa (H (aF b.ah k).av) (aD aa (j:Int))=valOf aa b.ad (aD aa (j:Int)):=fun j d hm=>by
   refine CO p (G:=fun j=>j<aa.length∧aD aa (j:Int)∈aC b.ah b.ab k) (fun j d=>⟨d.1,J j d.1 d.2⟩) (fun j d r x hr U V=>?_) ⟨d,hm⟩
   grind [dD,FQ]
  intro m hm;obtain⟨i,hi,e,o⟩:=o m hm;have h1:=M i hi (e ▸ hm);rw [ht m hm] at o ⊢;refine⟨by rw [e];exact h1.symm,?_⟩
  have F:=tP p hi (az:=H (aF b.ah k).av) (qc:=b.ad) fun a A=>by grind
  grind [dT]
theorem gN(rev:Int) (g:List Key) (d:Bool) (r:Rec):(bC rev g d r).value=r.value∧(bC rev g d r).changed=r.changed:=by
 unfold bC
 grind
theorem Bi.mark(U:aq aa) (h:Bi aa H on b) (hl:Live b.ah b.ab k)
  (I:∀m∈aC b.ah b.ab k,∀a∈(aF b.ah m).reads,a∉aC b.ah b.ab k→valOf aa (H (aF b.ah m).av) a=valOf aa b.ad a∧(aB a=true∨(on a=true∧ax a=true)∨aM b a=true)) :
  Bi aa H on (cE b (aC b.ah b.ab k) false):=by
 have M:=h.fixed U hl fun m hm a d V=>(I m hm a d V).1
 generalize W:aC b.ah b.ab k=G at M I
 have X:∀a ra,a∈G→aH b.ah a=some ra→ra.value=valOf aa b.ad a:=fun a ra d i=>by
  have h1:=(h.c.vr ra (aW i).1).1;have A:=(M a d).1;rw [cq i] at A;rw [h1,(aW i).2,A]
 have J:∀r:Rec,r.key∈G→(bC b.ab G false r).av=b.ab:=fun r hr=>by
  unfold bC
  rw [if_pos hr]
  rfl
 have B:∀r:Rec,r.key∉G→bC b.ab G false r=r:=fun r hr=>by
  unfold bC
  rw [if_neg hr]
 refine⟨⟨h.c.now,h.c.hP,fun C o=>?_,fun C o=>?_,fun C o a d hi Y D=>?_,fun C o hc a d hi Y D=>?_⟩,h.st.map fun r=>(cz _ _ _ r).1,fun C o=>?_,fun C o O=>?_⟩
 ·
  obtain⟨r,hr,rfl⟩:=List.mem_map.1 o;have h1:=h.c.Et r hr
  by_cases e:r.key∈G
  ·
   rw [J r e,(gN _ _ _ r).2];exact⟨Int.le_refl _,by omega⟩
  rw [B r e];exact h1
 ·
  obtain⟨r,hr,rfl⟩:=List.mem_map.1 o;have h1:=h.c.vr r hr
  by_cases e:r.key∈G
  ·
   have p:=iS h.st hr;have A:=M r.key e;rw [cq p] at A;rw [J r e,(gN _ _ _ r).1,(cz _ _ _ r).1,(cz _ _ _ r).2,h.c.now,A.1,A.2];exact h1
  rw [B r e];exact h1
 ·
  obtain⟨r,hr,rfl⟩:=List.mem_map.1 o;rw [show(cE b G false).ah=b.ah.map (bC b.ab G false) from rfl,dr] at D;obtain⟨ra,i,rfl⟩:=Option.map_eq_some_iff.1 D;have p:=iS h.st hr;rw [(cz _ _ _ r).2] at d;rw [(gN _ _ _ ra).1,(gN _ _ _ ra).2]
  show((bC b.ab G false r).av=b.ab∧_)∨_
  by_cases e:r.key∈G
  ·
   rw [J r e]
   by_cases F:a∈G
   ·
    refine .inr fun _=>?_;rw [h.c.now];exact(X a ra F i).symm
   rcases(I r.key e a (by rw [cq p];exact d) F).2 with h1 | h1 | h1
   ·
    rw [hi] at h1
    cases h1
   ·
    exact .inl ⟨rfl,h1.1⟩
   refine .inr fun _=>?_;obtain⟨q,Q,_,qd⟩:=h.c.up h1;rw [i] at Q
   have:=Option.some.inj Q
   subst this;rw [h.c.now];exact qd.symm
  rw [B r e];exact h.c.rr r hr a d hi ra i
 ·
  obtain⟨r,hr,rfl⟩:=List.mem_map.1 o;rw [show(cE b G false).ah=b.ah.map (bC b.ab G false) from rfl,dr] at D;obtain⟨ra,i,rfl⟩:=Option.map_eq_some_iff.1 D;have p:=iS h.st hr;rw [(cz _ _ _ r).2] at d;rw [(cz _ _ _ r).1] at hc
  show((bC b.ab G false r).av=b.ab∧_)∨_
  have Kh:=(aW i).2;have hle:=(h.c.Et r hr).1
  by_cases e:r.key∈G
  ·
   rw [J r e]
   by_cases F:a∈G
   ·
    grind
   rcases(I r.key e a (by rw [cq p];exact d) F).2 with h1 | h1 | h1
   ·
    obtain⟨j,hj,ej⟩:=h.kr ra (aW i).1
    grind [aq.len,cM]
   ·
    exact .inl ⟨rfl,h1.1⟩
   obtain⟨q,Q,hqv⟩:=bF.1 h1
   grind
  rw [B r e]
  rcases h.c.rs r hr hc a d hi ra i with h1 | h1
  ·
   exact .inl h1
  refine .inr ?_
  by_cases F:ra.key∈G
  ·
   grind
  grind
 ·
  obtain⟨r,hr,rfl⟩:=List.mem_map.1 o;rw [(cz _ _ _ r).1];exact h.kr r hr
 obtain⟨r,hr,rfl⟩:=List.mem_map.1 o
 by_cases e:r.key∈G
 ·
  have p:=iS h.st hr;obtain⟨q,g1,g2,_⟩:=jo hl (y:=r.key) (by rw [W];exact e);rw [p] at g1
  have:=Option.some.inj g1
  subst this
  unfold bC at O
  grind
 rw [B r e] at O ⊢;exact h.dv r hr O
theorem Bi.bJ(h:Bi aa H on b) {G:List Key}(B:∀m∈G,Live b.ah b.ab m):Bi aa H on (cE b G true):=by
 have hm:∀r:Rec,(bC b.ab G true r).av=r.av:=fun r=>by
  unfold bC
  grind
 refine⟨⟨h.c.now,h.c.hP,fun i d=>?_,fun i d=>?_,fun i d a j hi C o=>?_,fun i d hc a j hi C o=>?_⟩,h.st.map fun r=>(cz _ _ _ r).1,fun i d=>?_,fun i d p=>?_⟩
 ·
  obtain⟨r,hr,rfl⟩:=List.mem_map.1 d;rw [hm,(gN _ _ _ r).2];exact h.c.Et r hr
 ·
  obtain⟨r,hr,rfl⟩:=List.mem_map.1 d;rw [hm,(gN _ _ _ r).1,(cz _ _ _ r).1,(cz _ _ _ r).2];exact h.c.vr r hr
 ·
  obtain⟨r,hr,rfl⟩:=List.mem_map.1 d;rw [show(cE b G true).ah=b.ah.map (bC b.ab G true) from rfl,dr] at o;obtain⟨ra,A,rfl⟩:=Option.map_eq_some_iff.1 o;rw [(cz _ _ _ r).2] at j;rw [hm,(gN _ _ _ ra).1,(gN _ _ _ ra).2];exact h.c.rr r hr a j hi ra A
 ·
  obtain⟨r,hr,rfl⟩:=List.mem_map.1 d;rw [show(cE b G true).ah=b.ah.map (bC b.ab G true) from rfl,dr] at o;obtain⟨ra,A,rfl⟩:=Option.map_eq_some_iff.1 o;rw [(cz _ _ _ r).2] at j;rw [(cz _ _ _ r).1] at hc;rw [hm,hm];exact h.c.rs r hr hc a j hi ra A
 ·
  obtain⟨r,hr,rfl⟩:=List.mem_map.1 d;rw [(cz _ _ _ r).1];exact h.kr r hr
 obtain⟨r,hr,rfl⟩:=List.mem_map.1 d;rw [hm]
 by_cases e:r.key∈G
 ·
  obtain⟨q,g1,_,g2⟩:=B _ e;rw [iS h.st hr] at g1
  have:=Option.some.inj g1
  subst this;exact g2
 unfold bC at p
 rw [if_neg e] at p;exact h.dv r hr p
theorem Bi.put(F:aq aa) (h:Bi aa H on b) {i:Nat}(hi:i<aa.length) (Q:ax (aD aa (i:Int))=true→on (aD aa (i:Int))=true)
  (I:∀a∈cm aa b.ad i,aB a=true∨(on a=true∧ax a=true)∨aM b a=true) :
  Bi aa H on {b with ah:=fb b.ah (cP b (aD aa (i:Int)) (valOf aa b.ad (aD aa (i:Int))) (cm aa b.ad i))}:=by
 have X:=F.len
 generalize o:cP b (aD aa (i:Int)) (valOf aa b.ad (aD aa (i:Int))) (cm aa b.ad i)=q
 have q1:q.key=aD aa (i:Int):=by rw [← o];rfl
 have A:q.av=b.ab:=by rw [← o];rfl
 have J:q.value=valOf aa b.ad (aD aa (i:Int)):=by rw [← o];rfl
 have D:q.reads=cm aa b.ad i:=by rw [← o];rfl
 have M:(∃r,aH b.ah q.key=some r∧r.value=q.value∧q.changed=r.changed)∨q.changed=b.ab:=by
  rw [← o]
  unfold cP
  simp only
  split
  ·
   rename_i hc
   simp only [Bool.and_eq_true,decide_eq_true_eq] at hc;obtain⟨r,hr⟩:=Option.isSome_iff_exists.1 hc.1;rw [cq hr] at hc ⊢;exact .inl ⟨r,hr,hc.2,rfl⟩
  exact .inr rfl
 refine⟨⟨h.c.now,h.c.hP,fun r hr=>?_,fun r hr=>?_,fun r hr a m C ra d=>?_,fun r hr hc a m C ra d=>?_⟩,sA.put h.st,fun r hr=>?_,fun r hr G=>?_⟩
 ·
  rcases fD _ _ _ _ hr with rfl | hr
  ·
   refine⟨by rw [A];exact Int.le_refl _,?_⟩
   rcases M with⟨p,B,_,e⟩ | e
   ·
    have:=h.c.Et p (aW B).1
    omega
   omega
  exact h.c.Et r hr
 ·
  rcases fD _ _ _ _ hr with rfl | hr
  ·
   rw [q1,A,J,D,h.c.now,dT F hi];exact⟨rfl,rfl⟩
  exact h.c.vr r hr
 ·
  rw [show({b with ah:=fb b.ah q}:cA).ah=fb b.ah q from rfl,eC] at d
  show(r.av=b.ab∧_)∨_
  rcases fD _ _ _ _ hr with rfl | hr
  ·
   by_cases e:a=r.key
   ·
    refine .inl ⟨A,?_⟩;rw [e,q1];refine Q ?_;rw [D] at m;rw [bj hi (by omega)]
    cases Y:ay aa i with
    | true=>rfl
    | false=>
     rcases lH F hi a m with⟨n,hn,h1⟩ | ⟨j,O,h1,_,h5,_⟩
     ·
      grind [bf]
     grind [dD]
   rw [if_neg e] at d
   rcases I a (by rw [← D];exact m) with h1 | h1 | h1
   ·
    rw [C] at h1
    cases h1
   ·
    exact .inl ⟨A,h1.1⟩
   refine .inr fun _=>?_;obtain⟨p,B,_,U⟩:=h.c.up h1;rw [d] at B
   have:=Option.some.inj B
   subst this;rw [A,h.c.now];exact U.symm
  by_cases e:a=q.key
  ·
   rw [if_pos e] at d
   have:=Option.some.inj d
   subst this
   rcases M with⟨p,B,e2,e3⟩ | e2
   ·
    rcases h.c.rr r hr a m C p (by rw [e];exact B) with h1 | h1
    ·
     exact .inl h1
    grind
   refine .inr fun hc=>?_;have h1:=(h.c.Et r hr).1
   have V:r.av=b.ab:=by omega
   rw [V,h.c.now,J,e,q1]
  rw [if_neg e] at d;exact h.c.rr r hr a m C ra d
 ·
  rw [show({b with ah:=fb b.ah q}:cA).ah=fb b.ah q from rfl,eC] at d
  show(r.av=b.ab∧_)∨_
  rcases fD _ _ _ _ hr with rfl | hr
  ·
   by_cases e:a=r.key
   ·
    grind
   rw [if_neg e] at d
   rcases I a (by rw [← D];exact m) with h1 | h1 | h1
   ·
    obtain⟨j,O,W⟩:=h.kr ra (aW d).1;rw [← (aW d).2,W,cM O (by omega)] at h1
    cases h1
   ·
    exact .inl ⟨A,h1.1⟩
   grind [bF]
  by_cases e:a=q.key
  ·
   rw [if_pos e] at d
   have:=Option.some.inj d
   subst this
   have:=(h.c.Et r hr).1
   exact .inr (by omega)
  rw [if_neg e] at d;exact h.c.rs r hr hc a m C ra d
 ·
  rcases fD _ _ _ _ hr with rfl | hr
  ·
   exact⟨i,hi,q1⟩
  exact h.kr r hr
 rcases fD _ _ _ _ hr with rfl | hr
 ·
  have:r.bJ=false:=by rw [← o];rfl
  rw [this] at G
  cases G
 exact h.dv r hr G
end
end Go.Rc

namespace Go.Rc
open Go
def Ki(val:Key→ByteArray) (b:cA) (y:Key):Prop:=∃m a,m∈aC b.ah b.ab y∧a∈(aF b.ah m).reads∧a∉aC b.ah b.ab y∧(aF b.ah m).av<bR val b a
def Kj(val:Key→ByteArray) (b:cA) (y:Key):Prop:=aB y=false∧aM b y=false∧(aH b.ah y=none∨(aF b.ah y).bJ=true∨Ki val b y)
section
variable {aa:List aA}{H:Int→List bU}{on:Key→Bool}{b b0:cA}{k:Key}{s t:ES}
def ES.y0(s:ES) (k:Key):Bool:=s.on k && ax k
theorem CS(h:s.on k=true∧ax k=true):s.y0 k=true:=by grind [ES.y0]
structure Wy (aa:List aA) (b0:cA) (s:ES):Prop where
 rev:s.b.ab=b0.ab
 az:s.b.ad=b0.ad
 ev:hM (valOf aa b0.ad) (fun _=>True) s.bM b0.ab b0.ah s.b.ah
 Jo:∀y r,aH s.b.ah y=some r→r.bJ=true→(aF b0.ah y).bJ=true∨Ki (valOf aa b0.ad) b0 y
 bM:∀y∈s.bM,Kj (valOf aa b0.ad) b0 y
 Mb:∀y∈s.bM,aM s.b y=true
 Yh:∀y,aM b0 y=false→aM s.b y=true→y∈s.bM∨¬Ki (valOf aa b0.ad) b0 y
 j6:s.bM.Nodup
theorem nW{val:Key→ByteArray}(hi:aB k=false) (h:aH b.ah k=none):bR val b k=b.ab:=by grind [bR]
theorem et{val:Key→ByteArray}(hi:aB k=false) {r:Rec}(h:aH b.ah k=some r):bR val b k=if r.av=b.ab∨val k=r.value then r.changed else b.ab:=by
 unfold bR
 rw [hi,cq h,h]
 grind
theorem Wy.changed(m:Bi aa H on s.b) (h:Wy aa b0 s) (a:Key):bR (valOf aa b0.ad) s.b a=bR (valOf aa b0.ad) b0 a:=by
 cases hi:aB a with
 | true=>
  unfold bR
  rw [hi,if_pos rfl,if_pos rfl,h.az]
 | false=>
  rcases h.ev.pt a with e | ⟨_,r,e1,e2,e3,e4 | e4⟩ | ⟨_,e2,B,e3,e4,C,o,p,A⟩
  ·
   cases d:aH b0.ah a with
   | none=>grind [nW,rev]
   | some r=>rw [et hi (e.trans d),et hi d,h.rev]
  ·
   have hu:aM s.b a=true:=bF.2 ⟨_,e4,h.rev.symm⟩;obtain⟨q,i,_,j⟩:=m.c.up hu;rw [e4] at i
   have:=Option.some.inj i
   subst this;rw [h.az] at j;rw [et hi e4,et hi e1,if_pos (.inl h.rev.symm),if_pos (.inr j.symm)]
  ·
   rw [et hi e4,et hi e1,h.rev]
  rw [et hi e3,if_pos (.inl (e4.trans h.rev.symm))]
  cases d:aH b0.ah a with
  | none=>rw [nW hi d,A d]
  | some r=>
   rw [et hi d,p r d,o]
   grind
theorem Wy.N1(p:Bi aa H on s.b) (h:Wy aa b0 s) (hl:Live s.b.ah s.b.ab k) {m a:Key}(hm:m∈aC s.b.ah s.b.ab k) (j:a∈(aF s.b.ah m).reads) (d:a∉aC s.b.ah s.b.ab k)
  (hc:(aF s.b.ah m).av<bR (valOf aa b0.ad) s.b a):∀y∈aC s.b.ah s.b.ab k,Ki (valOf aa b0.ad) b0 y:=by
 intro y hy;rw [h.rev] at hl hm d hy;obtain⟨h1,A⟩:=h.ev.group hl;rw [h1] at hm d hy;have C:=h.ev.L9 hl
 have e:aF s.b.ah m=aF b0.ah m:=by
  unfold aF
  rw [A m hm]
 rw [e] at j hc
 have o:∀z,z∈aC b0.ah b0.ab y↔z∈aC b0.ah b0.ab k:=fun z=>by
  rcases cN.1 hy with rfl | ⟨i,B⟩
  ·
   exact Iff.rfl
  exact xj i B z
 exact⟨m,a,(o m).2 hm,j,fun i=>d ((o a).1 i),by rw [← h.changed p a];exact hc⟩
theorem Wy.Mc(h:Wy aa b0 s) (hl:Live s.b.ah s.b.ab k) (d:∀m∈aC s.b.ah s.b.ab k,∀a∈(aF s.b.ah m).reads,a∉aC s.b.ah s.b.ab k→bR (valOf aa b0.ad) b0 a≤(aF s.b.ah m).av):∀y∈aC s.b.ah s.b.ab k,¬Ki (valOf aa b0.ad) b0 y:=by
 rintro y hy ⟨m,a,hm,o,p,hc⟩;rw [h.rev] at hl d hy;obtain⟨h1,A⟩:=h.ev.group hl;rw [h1] at d hy
 have B:∀z,z∈aC b0.ah b0.ab y↔z∈aC b0.ah b0.ab k:=fun z=>by
  rcases cN.1 hy with rfl | ⟨i,j⟩
  ·
   exact Iff.rfl
  exact xj i j z
 have e:aF s.b.ah m=aF b0.ah m:=by grind [aF]
 grind
theorem Wy.none(h:Wy aa b0 s) (d:aH s.b.ah k=none):aH b0.ah k=none:=by
 rcases h.ev.pt k with e | ⟨_,r,e1,e2,e3,e4 | e4⟩ | ⟨_,e2,i,e3,_⟩
 ·
  exact e.symm.trans d
 ·
  rw [d] at e4;cases e4
 ·
  rw [d] at e4;cases e4
 rw [d] at e3;cases e3
theorem hM.aM{val:Key→ByteArray}{N:Key→Prop}{bM:List Key}{b b':cA}(h:hM val N bM b.ab b.ah b'.ah) (hr:b'.ab=b.ab) (hu:Rc.aM b k=true):Rc.aM b' k=true:=by
 obtain⟨r,h1,d⟩:=bF.1 hu
 rcases h.pt k with e | ⟨_,q,e1,e2,e3,_⟩ | ⟨_,e2,_⟩
 ·
  exact bF.2 ⟨r,e.trans h1,d.trans hr.symm⟩
 ·
  grind
 have:=e2 r h1
 omega
theorem Ew{G:List Key}(hu:Rc.aM b k=false) (h:Rc.aM (cE b G false) k=true):k∈G:=by
 obtain⟨i,h1,d⟩:=bF.1 h;have j:(aH b.ah k).map (bC b.ab G false)=some i:=dr.symm.trans h1;obtain⟨r,hr,rfl⟩:=Option.map_eq_some_iff.1 j;have e:=(aW hr).2;refine Classical.byContradiction fun hk=>?_
 unfold bC at d
 rw [if_neg (by rw [e];exact hk)] at d
 have:=bF.2 ⟨r,hr,d⟩
 rw [hu] at this
 cases this
theorem Ar{G:List Key}:Rc.aM (cE b G true) k=Rc.aM b k:=by
 have e:aH (cE b G true).ah k=(aH b.ah k).map (bC b.ab G true):=dr
 have hm:∀r:Rec,(bC b.ab G true r).av=r.av:=fun r=>by
  unfold bC
  grind
 rw [Bool.eq_iff_iff,bF,bF,e]
 constructor
 ·
  rintro⟨h,h1,d⟩;obtain⟨r,hr,rfl⟩:=Option.map_eq_some_iff.1 h1;rw [hm] at d;exact⟨r,hr,d⟩
 rintro⟨r,h1,d⟩;exact⟨_,by rw [h1];rfl,by rw [hm];exact d⟩
theorem xk{l:List Key}(h:l.Nodup) (hk:k∉l):(l++[k]).Nodup:=by grind
theorem Wy.step{s':ES}(h:Wy aa b0 s) (h1:s'.b.ab=s.b.ab) (j:s'.b.ad=s.b.ad) (e:hM (valOf aa b0.ad) (fun _=>True) s'.bM b0.ab s.b.ah s'.b.ah) (hr:∀y∈s.bM,y∈s'.bM)
  (m:∀y r,aH s'.b.ah y=some r→r.bJ=true→(aF b0.ah y).bJ=true∨Ki (valOf aa b0.ad) b0 y) (hw:∀y∈s'.bM,Kj (valOf aa b0.ad) b0 y) (hn:∀y∈s'.bM,y∈s.bM∨Rc.aM s'.b y=true)
  (hm:∀y,Rc.aM s.b y=false→Rc.aM s'.b y=true→y∈s'.bM∨¬Ki (valOf aa b0.ad) b0 y) (o:s'.bM.Nodup):Wy aa b0 s':=by
 have p:hM (valOf aa b0.ad) (fun _=>True) s'.bM s.b.ab s.b.ah s'.b.ah:=by rw [h.rev];exact e
 refine⟨h1.trans h.rev,j.trans h.az,(h.ev.mono hr fun _ h=>h).trans e,m,hw,fun y hy=>?_,fun y hu A=>?_,o⟩
 ·
  rcases hn y hy with d | d
  ·
   exact p.aM h1 (h.Mb y d)
  exact d
 cases i:Rc.aM s.b y with
 | true=>exact(h.Yh y hu i).imp (hr y) id
 | false=>exact hm y i A
theorem Wy.tQ(h:Wy aa b0 s) (hu:aM s.b k=false):aM b0 k=false:=by
 cases hb:aM b0 k with
 | false=>rfl
 | true=>
  have:=h.ev.aM h.rev hb
  rw [hu] at this
  cases this
theorem tR(h:aH b.ah k=none):aM b k=false:=by
 unfold aM
 rw [h]
 rfl
theorem jz{r:Rec}(h:aH b.ah k=some r) (d:r.av<b.ab):aM b k=false:=by grind [bF]
theorem Bi.answer(d:Bi aa H on b) (hk:eu aa k) (ht:aB k=true∨ax k=true∨aM b k=true):da (valOf aa b.ad) b k=valOf aa b.ad k:=by
 unfold da
 by_cases hc:ax k=true
 ·
  rw [if_pos hc]
 rw [if_neg hc]
 unfold te
 by_cases hi:aB k=true
 ·
  rw [if_pos hi]
  unfold valOf cellOf
  rw [if_pos hi]
 rw [if_neg hi]
 have hu:aM b k=true:=by grind
 obtain⟨r,e,j,h⟩:=d.c.up hu
 have i:mB b k=true:=by grind [mB,cq]
 rw [if_pos i,cq e,h]
theorem pe(h:dQ s k=true):aB k=true∨(s.on k=true∧ax k=true)∨aM s.b k=true:=by
 unfold dQ at h
 grind
theorem HM(h:aB k=true∨(s.on k=true∧ax k=true)∨aM s.b k=true):dQ s k=true:=by
 unfold dQ
 grind
theorem Bi.len(d:Bi aa H on b):b.ah.length≤aa.length:=by
 have h1:(b.ah.map (·.key)).Nodup:=by
  refine List.pairwise_map.2 (d.st.imp fun {x y} h e=>?_);rw [e,gL] at h
  omega
 have j:=kA (S:=(List.range aa.length).map fun i:Nat=>aD aa (i:Int)) h1 fun x m=>by
  obtain⟨r,hr,rfl⟩:=List.mem_map.1 m;obtain⟨i,hi,e⟩:=d.kr r hr
  grind
 simpa using j
/-! ### the order of what is asked -/
theorem qe(d:aq aa) {az:List bU}{i:Nat}(hi:i<aa.length) {a:Key}(e:a∈cm aa az i):ez aa i a∧∀m:Nat,m<aa.length→a=aD aa (m:Int)→Lw aa m (mF aa i)∧∀b,Lw aa i b→Lw aa m b:=by grind [List.mem_iff_getElem?,oz,iv,Ek,pd,oA]
theorem FR(d:aq aa) {az:List bU}{i:Nat}(hi:i<aa.length) (hr:ay aa i=true) {a:Key}(e:a∈cm aa az i) (hc:ax a=true):∃j:Nat,j<aa.length∧a=aD aa (j:Int)∧eG aa i j:=by grind [List.mem_iff_getElem?,oz,iv,dd,pd,oA,iq,gF]
theorem rl(o:aq aa) (p:Bi aa H on b) {i:Nat}(hi:i<aa.length) (A:cW b.ah b.ab (aD aa (i:Int))=true) {x:Key}(hl:cx b.ah b.ab (aD aa (i:Int)) x):∃j:Nat,j<aa.length∧x=aD aa (j:Int)∧cB aa i j:=by
 have J:=o.len
 have step:∀(m:Nat) y,m<aa.length→cW b.ah b.ab (aD aa (m:Int))=true→Ld b.ah b.ab (aD aa (m:Int)) y→∃j:Nat,j<aa.length∧y=aD aa (j:Int)∧eG aa m j:=by
  intro m y hm B hy;obtain⟨r,h1,d,e,h⟩:=bG.1 B;obtain⟨q,g1,g2,_⟩:=bG.1 hy.2;have C:=hy.1;rw [cq h1,(p.c.vr r (aW h1).1).2,(aW h1).2,dT o hm] at C
  grind [bj,FR]
 induction hl with
 | one h1=>
  obtain⟨j,d,e,h⟩:=step i _ hi A h1;exact⟨j,d,e,.step .refl h⟩
 | step h1 d D=>
  obtain⟨j,e,rfl,h⟩:=D;obtain⟨q,F,G,I⟩:=step j _ e h1.fK d;exact⟨q,F,G,.step h I⟩
theorem Ex(d:aq aa) (m:Bi aa H on b) {i j:Nat}(hi:i<aa.length) (h:j<aa.length) (hl:Live b.ah b.ab (aD aa (i:Int))) (hm:aD aa (j:Int)∈aC b.ah b.ab (aD aa (i:Int))):mF aa j=mF aa i∧∀b,Lw aa i b→Lw aa j b:=by
 have F:=d.len
 rcases cN.1 hm with e | ⟨o,m1,m2⟩
 ·
  have:=dD d h hi e
  grind
 obtain⟨q,A,eq,h1⟩:=rl d m hi o m1
 have:=dD d h A eq
 subst this;obtain⟨p,B,C,D⟩:=rl d m h m1.fK m2
 have:=dD d hi B C
 subst this;have G:=jM d h1;have I:=jM d D;obtain⟨_,_,c1,_⟩:=bG.1 o;obtain⟨_,_,c2,_⟩:=bG.1 m1.fK;rw [bj hi (by omega)] at c1;rw [bj h (by omega)] at c2
 unfold mF Lw
 grind
end
/-! ### a request -/
section
variable {aa:List aA}{H:Int→List bU}{b0:cA}
structure Rs (aa:List aA) (H:Int→List bU) (b0:cA) (N:Key→Prop) (s s':ES):Prop where
 e:s'.e=0
 bi:Bi aa H s.y0 s'.b
 ev:hM (valOf aa b0.ad) N s'.bM b0.ab s.b.ah s'.b.ah
 wy:Wy aa b0 s'
theorem Rs.refl{N:Key→Prop}{s:ES}(he:s.e=0) (d:Bi aa H s.y0 s.b) (h:Wy aa b0 s):Rs aa H b0 N s s:=⟨he,d,.refl _,h⟩
theorem Rs.trans{N:Key→Prop}{s t u:ES}(h:Rs aa H b0 N s t) (d:Rs aa H b0 N t u) (hr:∀y∈t.bM,y∈u.bM) (i:∀k,t.on k=s.on k):Rs aa H b0 N s u:=
 ⟨d.e,d.bi.Ma fun k hk=>by grind [ES.y0],(h.ev.mono hr fun _ h=>h).trans d.ev,d.wy⟩
def Ps(aa:List aA) (H:Int→List bU) (b0:cA) (s:ES) (k:Key) (n:Nat):Prop:=
 Live s.b.ah s.b.ab k→∀j c,j<n→(ct s.b.ah (aC s.b.ah s.b.ab k))[j]?=some c→
  valOf aa (H (aF s.b.ah c.eO).av) c.read=valOf aa b0.ad c.read∧(aB c.read=true∨(s.on c.read=true∧ax c.read=true)∨aM s.b c.read=true)∧bR (valOf aa b0.ad) b0 c.read≤(aF s.b.ah c.eO).av
theorem tS{val:Key→ByteArray}:∀f,(∀s k s',kB aa val f s k=some s'→∀y∈s.bM,y∈s'.bM)∧(∀s k n s' b,cw aa val f s k n=some (s',b)→∀y∈s.bM,y∈s'.bM)∧(∀s k r a s',fQ aa val f s k r a=some s'→∀y∈s.bM,y∈s'.bM):=by
 intro f
 induction f with
 | zero=>grind [kB,cw,fQ]
 | succ f d=>
  obtain⟨j,e,m⟩:=d;refine⟨?_,?_,?_⟩
  ·
   intro s k s' h y hy
   unfold kB at h
   split at h
   ·
    cases h;exact hy
   split at h
   ·
    cases h;exact hy
   split at h
   ·
    grind
   obtain⟨p,i,h⟩:=Option.bind_eq_some_iff.1 h;obtain⟨t,ht,h⟩:=Option.bind_eq_some_iff.1 h
   cases h
   have h1:=e _ _ _ p.1 p.2 i y hy
   grind
  ·
   grind [cw,Option.bind_eq_some_iff]
  grind [fQ,Option.bind_eq_some_iff]
def UpR(aa:List aA) (H:Int→List bU) (b0:cA) (f:Nat):Prop:=∀s k s',kB aa (valOf aa b0.ad) f s k=some s'→Good aa b0.ad s→s.e=0→Bi aa H s.y0 s.b→Wy aa b0 s→eu aa k→(∀i:Nat,i<aa.length→k=aD aa (i:Int)→Yd aa s i)→Rs aa H b0 (fun y=>s.on y=false) s s'
def ChR(aa:List aA) (H:Int→List bU) (b0:cA) (f:Nat):Prop:=∀s (i n:Nat) s' c,cw aa (valOf aa b0.ad) f s (aD aa (i:Int)) n=some (s',c)→Good aa b0.ad s→s.e=0→Bi aa H s.y0 s.b→Wy aa b0 s→i<aa.length→s.on (aD aa (i:Int))=true→Rf aa s i→Ps aa H b0 s (aD aa (i:Int)) n→
 Rs aa H b0 (fun y=>s.on y=false∨y=aD aa (i:Int)) s s'∧(c=true→cW s'.b.ah b0.ab (aD aa (i:Int))=false∧aM s'.b (aD aa (i:Int))=false∧Kj (valOf aa b0.ad) b0 (aD aa (i:Int)))
def RuR(aa:List aA) (H:Int→List bU) (b0:cA) (f:Nat):Prop:=∀s (i n:Nat) s',fQ aa (valOf aa b0.ad) f s (aD aa (i:Int)) (dR (bQ aa (aD aa (i:Int))) (valOf aa b0.ad) n).1 (dR (bQ aa (aD aa (i:Int))) (valOf aa b0.ad) n).2=some s'→Good aa b0.ad s→s.e=0→Bi aa H s.y0 s.b→Wy aa b0 s→i<aa.length→n≤bZ aa i→s.on (aD aa (i:Int))=true→Rf aa s i→
 cW s.b.ah b0.ab (aD aa (i:Int))=false→aM s.b (aD aa (i:Int))=false→Kj (valOf aa b0.ad) b0 (aD aa (i:Int))→(∀a∈(dR (bQ aa (aD aa (i:Int))) (valOf aa b0.ad) n).1,dQ s a=true)→
 Rs aa H b0 (fun y=>s.on y=false∨y=aD aa (i:Int)) s s'
theorem Bi.iK{s t:ES}(h:Bi aa H s.y0 t.b) (hk:gQ s t):Bi aa H t.y0 t.b:=h.Ma fun k d=>by grind [ES.y0,gQ.on]
theorem Rf.iK{s t:ES}{i:Nat}(h:Rf aa s i) (hk:gQ s t):Rf aa t i:=fun j d e=>h j d (by rw [← hk.on];exact e)
theorem Rs.mono{N N':Key→Prop}{s s':ES}(h:Rs aa H b0 N s s') (d:∀y,N y→N' y):Rs aa H b0 N' s s':=⟨h.e,h.bi,h.ev.mono (fun _ h=>h) d,h.wy⟩
theorem rp(rev:Int) (G:List Key) (r:Rec):(bC rev G false r).bJ=r.bJ:=by
 unfold bC
 grind
theorem x9(D:aq aa):∀f,UpR aa H b0 f∧ChR aa H b0 f∧RuR aa H b0 f:=by
 have GN:=D.len;intro f
 induction f with
 | zero=>exact⟨fun s k s' h=>by simp [kB] at h,fun s i n s' c h=>by simp [cw] at h,fun s i n s' h=>by simp [fQ] at h⟩
 | succ f ih=>
  obtain⟨ihu,Yi,ihr⟩:=ih;have gd:=bS (val:=valOf aa b0.ad) (az:=b0.ad) D f;have kp:=gM (val:=valOf aa b0.ad) (az:=b0.ad) D f;have rn:=tS (aa:=aa) (val:=valOf aa b0.ad) f;refine⟨?_,?_,?_⟩
  ·
   intro s k s' h G he o d hk WT
   unfold kB at h
   split at h
   ·
    cases h;exact .refl he o d
   rename_i he2
   have X:aB k=false:=by simp at he2;exact he2.2
   split at h
   ·
    cases h;exact .refl he o d
   rename_i hu
   obtain⟨i,hi,rfl,_⟩:=hk.gy X
   split at h
   ·
    rename_i ho
    split at h
    ·
     cases h;exact .refl he o d
    rename_i hc
    have h1:=WT i hi rfl i hi ho
    grind [bj,Lw,mF]
   rename_i ho
   have Jl:s.on (aD aa (i:Int))=false:=by simpa using ho
   obtain⟨⟨s2,c2⟩,Q,h⟩:=Option.bind_eq_some_iff.1 h;obtain⟨s3,ht,h⟩:=Option.bind_eq_some_iff.1 h;simp only [Option.some.injEq] at h;subst h;have N2:∀y,ES.on {s with busy:=cO s.busy (aD aa (i:Int)) (.bool true)} y=(decide (aD aa (i:Int)=y) || s.on y):=fun y=>mD s _ y;have GO:=G.on (aD aa (i:Int))
   generalize mr:({s with busy:=cO s.busy (aD aa (i:Int)) (.bool true)}:ES)=s1 at Q N2 GO
   have e1:s1.b=s.b:=by rw [← mr]
   have e2:s1.bM=s.bM:=by rw [← mr]
   have e3:s1.e=0:=by rw [← mr];exact he
   have Sw:s1.on (aD aa (i:Int))=true:=by rw [N2];simp
   have WV:Bi aa H s1.y0 s1.b:=by
    rw [e1];refine o.Ma fun y hy=>?_
    unfold ES.y0 at hy ⊢
    grind
   have hW1:Wy aa b0 s1:=⟨by rw [e1];exact d.rev,by rw [e1];exact d.az,by rw [e1,e2];exact d.ev,by rw [e1];exact d.Jo,by rw [e2];exact d.bM,by rw [e1,e2];exact d.Mb,by rw [e1,e2];exact d.Yh,by rw [e2];exact d.j6⟩
   have hr1:Rf aa s1 i:=fun j B J=>by
    rw [N2] at J;simp only [Bool.or_eq_true,decide_eq_true_eq] at J
    rcases J with J | J
    ·
     exact .inl (dD D B hi J.symm)
    exact .inr (WT i hi rfl j B J)
   obtain⟨c1,c3⟩:=Yi s1 i 0 s2 c2 Q GO e3 WV hW1 hi Sw hr1 fun _ j c B=>by omega
   obtain⟨k1,k2,_⟩:=kp.2.1 _ _ _ _ _ Q GO;have WW:=(gd.2.1 _ _ _ _ _ Q GO).1
   have key:Rs aa H b0 (fun y=>s1.on y=false∨y=aD aa (i:Int)) s1 s3∧aM s3.b (aD aa (i:Int))=true:=by
    cases c2 with
    | false=>
     simp only [Bool.false_eq_true,if_false,Option.some.injEq] at ht;subst ht;exact⟨c1,(k2 c1.e).2 rfl⟩
    | true=>
     simp only [if_true] at ht;obtain⟨d1,d2,d3⟩:=c3 rfl
     have r2:=ihr s2 i 0 s3 ht WW c1.e (c1.bi.iK k1) c1.wy hi (Nat.zero_le _) (by rw [k1.on];exact Sw) (hr1.iK k1) d1 d2 d3 fun a C=>by simp [dR] at C
     refine⟨c1.trans (r2.mono fun y hy=>by rw [← k1.on];exact hy) (rn.2.2 _ _ _ _ _ ht) k1.on,?_⟩;exact((kp.2.2 _ _ _ _ _ ht WW (hk.gy X)).2.1 r2.e).2
   obtain⟨r3,Sj⟩:=key;refine⟨r3.e,?_,?_,⟨r3.wy.rev,r3.wy.az,r3.wy.ev,r3.wy.Jo,r3.wy.bM,r3.wy.Mb,r3.wy.Yh,r3.wy.j6⟩⟩
   ·
    refine r3.bi.off Sj fun y hy=>?_
    unfold ES.y0 at hy ⊢
    grind
   have:=r3.ev
   rw [e1] at this;refine this.mono (fun _ h=>h) fun y hy=>?_
   grind
  ·
   intro s i n s' c h G he o d hi zL Y GP;have X:aB (aD aa (i:Int))=false:=cM hi (by omega)
   unfold cw at h
   rw [if_neg (by simp [he])] at h
   split at h
   ·
    rename_i hc
    simp only [Option.some.injEq,Prod.mk.injEq] at h;obtain⟨rfl,rfl⟩:=h;refine⟨.refl he o d,fun _=>?_⟩
    cases A:aH s.b.ah (aD aa (i:Int)) with
    | none=>
     refine⟨?_,tR A,X,d.tQ (tR A),.inl (d.none A)⟩;rw [Bool.eq_false_iff]
     grind [bG]
    | some r=>
     rw [A,cq A] at hc
     have F:r.bJ=true:=by simpa using hc
     have hv:=o.dv r (aW A).1 F;refine⟨?_,jz A hv,X,d.tQ (jz A hv),.inr (d.Jo _ r A F)⟩;rw [Bool.eq_false_iff]
     grind [bG]
   rename_i hc
   split at h
   ·
    simp only [Option.some.injEq,Prod.mk.injEq] at h;obtain⟨rfl,rfl⟩:=h;exact⟨.refl he o d,fun e=>by cases e⟩
   rename_i hv
   have hl:Live s.b.ah s.b.ab (aD aa (i:Int)):=by
    cases A:aH s.b.ah (aD aa (i:Int)) with
    | none=>rw [A] at hc;simp at hc
    | some r=>
     rw [A,cq A] at hc;rw [cq A] at hv;have h1:=(o.c.Et r (aW A).1).1;exact⟨r,A,by simpa using hc,by omega⟩
   have GP:=GP hl
   have Sx:aM s.b (aD aa (i:Int))=false:=by
    obtain⟨r,h1,_,h2⟩:=hl;exact jz h1 h2
   split at h
   ·
    rename_i hn
    simp only [Option.some.injEq,Prod.mk.injEq] at h;obtain⟨rfl,rfl⟩:=h
    have Q:∀m∈aC s.b.ah s.b.ab (aD aa (i:Int)),∀a∈(aF s.b.ah m).reads,a∉aC s.b.ah s.b.ab (aD aa (i:Int))→valOf aa (H (aF s.b.ah m).av) a=valOf aa s.b.ad a∧(aB a=true∨(s.y0 a=true∧ax a=true)∨aM s.b a=true):=fun m hm a C Rg=>by
     have qf:(⟨m,a⟩:vx)∈ct s.b.ah (aC s.b.ah s.b.ab (aD aa (i:Int))):=ep.2 ⟨hm,C,Rg⟩;obtain⟨j,B⟩:=List.mem_iff_getElem?.1 qf;have h1:=(List.getElem?_eq_some_iff.1 B).1;have h2:=List.getElem?_eq_none_iff.1 hn;have h3:=GP j ⟨m,a⟩ (by omega) B;rw [d.az];exact⟨h3.1,h3.2.1.imp id (Or.imp (fun p=>⟨CS p,p.2⟩) id)⟩
    have Fp:=d.Mc hl fun m hm a C Rg=>by
     have qf:(⟨m,a⟩:vx)∈ct s.b.ah (aC s.b.ah s.b.ab (aD aa (i:Int))):=ep.2 ⟨hm,C,Rg⟩;obtain⟨j,B⟩:=List.mem_iff_getElem?.1 qf;have h1:=(List.getElem?_eq_some_iff.1 B).1;have h2:=List.getElem?_eq_none_iff.1 hn;exact(GP j ⟨m,a⟩ (by omega) B).2.2
    have I:∀N:Key→Prop,N (aD aa (i:Int))→hM (valOf aa b0.ad) N s.bM b0.ab s.b.ah (cE s.b (aC s.b.ah s.b.ab (aD aa (i:Int))) false).ah:=fun N hN=>by
     rw [← d.rev];exact hM.mark hl false (.inr hN)
    refine⟨⟨he,o.mark D hl Q,I _ (.inr rfl),d.step rfl rfl (I _ trivial) (fun _ h=>h) (fun y r' A F=>?_) d.bM (fun _ h=>.inl h) (fun y hu Ey=>.inr (Fp y (Ew hu Ey))) d.j6⟩,fun e=>by cases e⟩;have U:(aH s.b.ah y).map (bC s.b.ab (aC s.b.ah s.b.ab (aD aa (i:Int))) false)=some r':=dr.symm.trans A;obtain⟨r,hr,rfl⟩:=Option.map_eq_some_iff.1 U;rw [rp] at F;exact d.Jo y r hr F
   rename_i c0 WX
   obtain⟨hm,C,Rg⟩:=ep.1 (List.mem_of_getElem? WX);obtain⟨j,B,ej⟩:=o.key (jo hl hm);obtain⟨rm,g1,g2,g3⟩:=jo hl hm;have V:eu aa c0.read:=fy G WX
   split at h
   ·
    obtain⟨t,ht,h⟩:=Option.bind_eq_some_iff.1 h
    have Yj:=qe D (az:=H rm.av) B (a:=c0.read) (by
     have h1:=(o.c.vr rm (aW g1).1).2;rw [(aW g1).2,ej,dT D B] at h1
     grind [cq])
    have r1:=ihu s c0.read t ht G he o d V fun q hq eq p Q hpo=>by
     obtain⟨M,h5⟩:=Yj.2 q hq eq;obtain⟨g4,g5⟩:=Ex D o hi B hl (ej ▸ hm)
     rcases Y p Q hpo with rfl | h6
     ·
      rw [← g4];exact M
     exact h5 _ (g5 _ h6)
    obtain⟨k1,_,_⟩:=kp.1 _ _ _ ht G V;have gt:=(gd.1 _ _ _ ht G V).1;have e1:t.b.ab=s.b.ab:=r1.wy.rev.trans d.rev.symm
    have I:hM (valOf aa b0.ad) (fun y=>s.on y=false) t.bM s.b.ab s.b.ah t.b.ah:=by
     rw [d.rev];exact r1.ev
    obtain⟨r2,r3⟩:=Yi t i n s' c h gt r1.e (r1.bi.iK k1) r1.wy hi (by rw [k1.on];exact zL) (Y.iK k1) fun O j' c' hjn W=>by
     rw [e1] at O W;rw [I.HL O] at W;obtain⟨p1,p2,p3⟩:=GP j' c' hjn W;have Yk:=(ep.1 (List.mem_of_getElem? W)).1
     have e3:aF t.b.ah c'.eO=aF s.b.ah c'.eO:=by
      unfold aF
      rw [(I.group O).2 _ Yk]
     rw [e3];refine⟨p1,?_,p3⟩
     rcases p2 with p | p | p
     ·
      exact .inl p
     ·
      grind [gQ.on]
     exact .inr (.inr (k1.up _ p))
    exact⟨(r1.mono fun y hy=>.inl hy).trans (r2.mono fun y hy=>by rw [← k1.on];exact hy) (rn.2.1 _ _ _ _ _ h) k1.on,r3⟩
   rename_i Md
   have N3:=pe (s:=s) (k:=c0.read) (by simpa using Md)
   split at h
   ·
    rename_i O
    have HN:=d.N1 o hl hm C Rg O;have CT:Kj (valOf aa b0.ad) b0 (aD aa (i:Int)):=⟨X,d.tQ Sx,.inr (.inr (HN _ iR))⟩;simp only [Option.some.injEq,Prod.mk.injEq] at h;obtain⟨h,rfl⟩:=h
    cases Jp:ax (aD aa (i:Int)) with
    | false=>
     rw [Jp] at h;simp only [Bool.false_eq_true,if_false] at h;subst h;refine⟨.refl he o d,fun _=>⟨?_,Sx,CT⟩⟩;rw [Bool.eq_false_iff]
     grind [bG]
    | true=>
     rw [Jp] at h;simp only [if_true] at h;subst h
     have I:∀N:Key→Prop,hM (valOf aa b0.ad) N s.bM b0.ab s.b.ah (cE s.b (aC s.b.ah s.b.ab (aD aa (i:Int))) true).ah:=fun N=>by
      rw [← d.rev];exact hM.mark hl true (.inl Jp)
     obtain⟨r,f1,f2,f3⟩:=hl
     have Yl:aH (cE s.b (aC s.b.ah s.b.ab (aD aa (i:Int))) true).ah (aD aa (i:Int))=some {r with bJ:=true}:=by
      refine dr.trans ?_;rw [f1]
      show some (bC _ _ _ r)=_
      unfold bC
      rw [if_pos (by rw [(aW f1).2];exact iR)]
      rfl
     refine⟨⟨he,o.bJ fun m hm=>jo ⟨r,f1,f2,f3⟩ hm,I _,d.step rfl rfl (I _) (fun _ h=>h) (fun y r' A F=>?_) d.bM (fun _ h=>.inl h) (fun y hu Ey=>by grind [Ar]) d.j6⟩,fun _=>⟨?_,jz Yl f3,CT⟩⟩
     ·
      have U:(aH s.b.ah y).map (bC s.b.ab (aC s.b.ah s.b.ab (aD aa (i:Int))) true)=some r':=dr.symm.trans A;obtain⟨q,hq,rfl⟩:=Option.map_eq_some_iff.1 U
      by_cases hy:y∈aC s.b.ah s.b.ab (aD aa (i:Int))
      ·
       exact .inr (HN y hy)
      unfold bC at F
      rw [if_neg (by rw [(aW hq).2];exact hy)] at F;exact d.Jo y q hq F
     rw [Bool.eq_false_iff]
     grind [bG]
   rename_i hle
   refine Yi s i (n+1) s' c h G he o d hi zL Y fun _ j' c' hjn W=>?_
   rcases Nat.lt_or_ge j' n with O | Me
   ·
    exact GP j' c' O W
   have:j'=n:=by omega
   subst this;rw [WX] at W
   have:=Option.some.inj W
   subst this;refine⟨?_,N3,by rw [← d.changed o c0.read];exact Int.not_lt.1 hle⟩;rw [cq g1] at hle C ⊢;have h1:=o.c.changed (aW g1).1 g3 C (by rw [d.az];omega)
   grind [Wy.az]
  intro s i n s' h G he o d hi hn zL Y hop CU CT Md
  have gD:i≤99:=by omega
  unfold fQ at h
  rw [if_neg (by simp [he]),eB hi gD] at h
  rcases Nat.lt_or_ge n (bZ aa i) with O | Me
  ·
   obtain⟨a,h1,h2,h3⟩:=Ek D hi (ae:=(dR (bQ aa (aD aa (i:Int))) (valOf aa b0.ad) n).2) (by grind [eV]);rw [h1] at h;simp only [Bool.false_eq_true,if_false] at h;obtain⟨t,ht,h⟩:=Option.bind_eq_some_iff.1 h;have V:=h2.tm D
   have r1:=ihu s a t ht G he o d V fun m hm Ym j B J=>by
    obtain⟨M,h5⟩:=h3 m hm Ym
    rcases Y j B J with rfl | h6
    ·
     exact M
    exact h5 _ h6
   obtain⟨k1,k2,_⟩:=kp.1 _ _ _ ht G V;have gt:=(gd.1 _ _ _ ht G V).1
   have Ez:dQ t a=true:=by grind [Rs.e,HM]
   have N4:da (valOf aa b0.ad) t.b a=valOf aa b0.ad a:=by
    rw [← r1.wy.az];refine r1.bi.answer V ?_
    rcases pe Ez with M | M | M
    ·
     exact .inl M
    ·
     exact .inr (.inl M.2)
    exact .inr (.inr M)
   rw [if_pos r1.e,N4] at h
   have tT:aH t.b.ah (aD aa (i:Int))=aH s.b.ah (aD aa (i:Int)):=by
    rcases r1.ev.pt (aD aa (i:Int)) with e | ⟨e0,r,e1,e2,e3,_⟩ | ⟨⟨_,e0⟩,_⟩
    ·
     exact e
    ·
     grind [bG]
    grind
   have r2:=ihr t i (n+1) s' (by grind [dR]) gt r1.e (r1.bi.iK k1) r1.wy hi O (by rw [k1.on];exact zL) (Y.iK k1) (by grind [cW,aF]) (by
    rw [← CU]
    unfold aM aF
    rw [tT,r1.wy.rev,d.rev]) CT (fun x hx=>by
    simp only [dR] at hx;rw [h1] at hx
    rcases List.mem_append.1 hx with hx | hx
    ·
     exact k1.there (Md x hx)
    grind)
   exact(r1.mono fun y hy=>.inl hy).trans (r2.mono fun y hy=>by rw [← k1.on];exact hy) (rn.2.2 _ _ _ _ _ h) k1.on
  have LY:n=bZ aa i:=by omega
  subst LY;rw [fP D hi] at h;simp only [if_true] at h;rw [if_neg (by have:=o.len;simp;omega)] at h;simp only [Option.some.injEq] at h;subst h;have Sy:∀a∈cm aa b0.ad i,aB a=true∨(s.on a=true∧ax a=true)∨aM s.b a=true:=fun a C=>pe (Md a C);have SA:=o.put D hi (fun hc=>CS ⟨zL,hc⟩) (by rw [d.az];exact fun a C=>(Sy a C).imp id (Or.imp (fun p=>⟨CS p,p.2⟩) id));rw [d.az] at SA
  have I:∀N:Key→Prop,N (aD aa (i:Int))→hM (valOf aa b0.ad) N (s.bM++[aD aa (i:Int)]) b0.ab s.b.ah (fb s.b.ah (cP s.b (aD aa (i:Int)) (valOf aa b0.ad (aD aa (i:Int))) (cm aa b0.ad i))):=fun N hN=>by
   refine hM.put hop (fun r hr=>?_) ⟨by simp [cP],hN⟩ d.rev rfl rfl (fun r hr=>?_) fun hn=>?_
   ·
    have h1:=(o.c.Et r (aW hr).1).1
    have h2:r.av≠s.b.ab:=fun e=>by
     have:aM s.b (aD aa (i:Int))=true:=bF.2 ⟨r,hr,e⟩
     grind
    have:=d.rev
    omega
   ·
    have WY:aH s.b.ah (aD aa (i:Int))=some r:=hr
    unfold cP
    simp only [WY,cq WY,d.rev]
    grind
   grind [cP,Wy.rev]
  refine⟨he,by show Bi aa H s.y0 ⟨s.b.ab,s.b.ad,_⟩;rw [d.az];exact SA,I _ (.inr rfl),d.step rfl rfl (I _ trivial) (fun y hy=>by simp [hy]) (fun y r A F=>?_) (fun y hy=>?_) (fun y hy=>?_) (fun y hu Ey=>?_) (xk d.j6 fun hr=>by have:=d.Mb _ hr;rw [CU] at this;cases this)⟩
  ·
   have U:aH (fb s.b.ah (cP s.b (aD aa (i:Int)) (valOf aa b0.ad (aD aa (i:Int))) (cm aa b0.ad i))) y=some r:=A;rw [eC] at U
   split at U
   ·
    have:=Option.some.inj U
    subst this
    cases F
   exact d.Jo y r U F
  ·
   rcases List.mem_append.1 hy with hy | hy
   ·
    exact d.bM y hy
   grind
  ·
   rcases List.mem_append.1 hy with hy | hy
   ·
    exact .inl hy
   rw [List.mem_singleton] at hy;rw [hy];exact .inr (ov (r:=cP s.b (aD aa (i:Int)) (valOf aa b0.ad (aD aa (i:Int))) (cm aa b0.ad i)) rfl)
  refine .inl ?_
  by_cases e:y=aD aa (i:Int)
  ·
   rw [e]
   simp
  obtain⟨r,hr,hv⟩:=bF.1 Ey;have WY:aH (fb s.b.ah (cP s.b (aD aa (i:Int)) (valOf aa b0.ad (aD aa (i:Int))) (cm aa b0.ad i))) y=some r:=hr;rw [eC,if_neg (show ¬y=(cP s.b (aD aa (i:Int)) (valOf aa b0.ad (aD aa (i:Int))) (cm aa b0.ad i)).key from e)] at WY
  grind [bF]
theorem EB{val:Key→ByteArray}{f:Nat}:∀{l:List Key}{s s':ES},dC aa val f s l=some s'→∀y∈s.bM,y∈s'.bM
 | [],s,s',h,y,hy=>by grind [dC]
 | k::r,s,s',h,y,hy=>by
  simp only [dC] at h;obtain⟨t,h1,d⟩:=Option.bind_eq_some_iff.1 h;exact EB d y ((tS f).1 _ _ _ h1 y hy)
theorem xl(p:aq aa) {f:Nat}:∀{l:List Key}{s s':ES},dC aa (valOf aa b0.ad) f s l=some s'→Good aa b0.ad s→s.e=0→Bi aa H s.y0 s.b→Wy aa b0 s→(∀k∈l,eu aa k)→(∀k,s.on k=false)→Rs aa H b0 (fun _=>True) s s'∧(∀k,s'.on k=false)∧(∀k,aM s.b k=true→aM s'.b k=true)∧∀k∈l,aB k=false→aM s'.b k=true
 | [],s,s',h,A,he,C,D,_,m=>by
  simp only [dC,Option.some.injEq] at h;subst h;exact⟨.refl he C D,m,fun _ h=>h,fun k hk=>by cases hk⟩
 | k::r,s,s',h,A,he,C,D,hk,m=>by
  simp only [dC] at h;obtain⟨t,h1,J⟩:=Option.bind_eq_some_iff.1 h;have F:=hk k (by simp);have Q:=((bS (val:=valOf aa b0.ad) p f).1 _ _ _ h1 A F).1;obtain⟨o,kt,_⟩:=(gM (val:=valOf aa b0.ad) p f).1 _ _ _ h1 A F
  have r1:=(x9 (H:=H) (b0:=b0) p f).1 s k t h1 A he C D F fun i _ _ j _ M=>by rw [m] at M;cases M
  obtain⟨r2,U,O,g2⟩:=xl p J Q r1.e (r1.bi.iK o) r1.wy (fun k V=>hk k (by simp [V])) fun k=>by rw [o.on];exact m k
  have W:=EB J;refine⟨(r1.mono fun _ _=>trivial).trans r2 W o.on,U,fun y hy=>O y (o.up y hy),fun q G I=>?_⟩
  rcases List.mem_cons.1 G with rfl | G
  ·
   refine O _ ?_
   rcases(kt r1.e).2 with B | B
   ·
    rw [I] at B
    cases B
   rcases pe B with d | d | d
   ·
    rw [I] at d
    cases d
   ·
    rw [o.on,m] at d
    cases d.1
   exact d
  exact g2 q G I
end
end Go.Rc

