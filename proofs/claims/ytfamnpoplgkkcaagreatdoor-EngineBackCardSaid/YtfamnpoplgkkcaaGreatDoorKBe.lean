/- Base of the proof: frames, memory, ownership, and the plain meaning of rule systems. Conditions: as each lemma says. -/
import Derived.Test.YtfamnpoplgkkcaaGreatDoorKBd
import Derived.Test.YtfamnpoplgkkcaaGreatDoorKBc
import Derived.Laws.IdiomRangeMap
set_option linter.all false
namespace Go.Rc
open Go
structure FZ where
 p:(Nat→Prop)→World→Prop
 mono:∀{Z Z':Nat→Prop}{w},(∀x,Z x→Z' x)→p Z w→p Z' w
 st:∀{Z:Nat→Prop}{w w':World},w.heap.size≤w'.heap.size→(∀x,Z x→x<w.heap.size→w'.heap[x]?=w.heap[x]?)→p Z w→p Z w'
def FZ.rd{α:Type}(R:RR α) (k:Nat) (a:Option Addr) (n c:Nat) (xs:List α):FZ:=⟨fun Z w=>Rd R k Z w a n c xs,fun h=>Rd.mono h,fun h1 h2=>Rd.st h1 h2⟩
def FZ.and(F G:FZ):FZ:=⟨fun Z w=>F.p Z w∧G.p Z w,fun h ⟨a,b⟩=>⟨F.mono h a,G.mono h b⟩,fun h1 h2 ⟨a,b⟩=>⟨F.st h1 h2 a,G.st h1 h2 b⟩⟩
def FZ.LP(P:Program):FZ where
 p Z w:=kb P Z w
 mono h:=fun h1=>h1.of h (Nat.le_refl _) fun _ _ _=>rfl
 st h1 h2:=fun h=>h.of (fun _ h=>h) h1 h2
def As.fz(F:FZ):As where
 fp _:=False
 ok Z w:=F.p Z w
 lt _ _ hx:=hx.elim
 mono h:=F.mono h
 st h1 h2:=F.st h1 fun x hx=>h2 x (.inr hx)
theorem As.gf{F:FZ}{Z:Nat→Prop}{w:World}(h:(As.fz F).ok Z w):F.p Z w:=h
structure SD where
 (ar a1 a2:Option Addr) (r cr n1 c1 n2 c2 m q s:Nat)
def SD.F(D:SD) (P:Program) (aa:List aF) (x:bZ):FZ:=
 .and (.rd RR.eU 4 D.ar D.r D.cr aa) (.and (.rd RR.aC 4 D.a1 D.n1 D.c1 x.ab) (.and (.rd RR.iz 8 D.a2 D.n2 D.c2 x.ai) (.LP P)))
def SD.cells(D:SD) (x:bZ):List Value:=
 [.slice D.ar D.r D.cr,.int .i64 x.ad,.slice D.a1 D.n1 D.c1,.slice D.a2 D.n2 D.c2,.map (some D.m),.map (some D.q)]
section
variable {D:SD}{P:Program}{aa:List aF}{x:bZ}{Z:Nat→Prop}{w:World}
theorem SD.hu(h:(D.F P aa x).p Z w):Rd RR.eU 4 Z w D.ar D.r D.cr aa:=h.1
theorem SD.hi(h:(D.F P aa x).p Z w):Rd RR.aC 4 Z w D.a1 D.n1 D.c1 x.ab:=h.2.1
theorem SD.hr(h:(D.F P aa x).p Z w):Rd RR.iz 8 Z w D.a2 D.n2 D.c2 x.ai:=h.2.2.1
theorem SD.ht(h:(D.F P aa x).p Z w):kb P Z w:=h.2.2.2
end
def aR(aa:List aF) (aC:List bG) (ml:List (Key × Value)):Prop:=∀k v,bw ml k=some v→v=.string (valOf aa aC k)
section
variable {aa:List aF}{aC:List bG}
theorem aR.nil:aR aa aC []:=fun k v h=>by simp [bw] at h
theorem aR.put{ml:List (Key × Value)}(h:aR aa aC ml) (k:Key):aR aa aC (cw ml k (.string (valOf aa aC k))):=fun k' v a=>by
 rw [dx] at a
 split at a
 ·
  grind
 exact h k' v a
def c8(m n:Nat):Prop:=∀b,m.testBit b=true→n.testBit b=true
theorem c8.le{m n:Nat}(h:c8 m n):m≤n:=by
 have e:m ||| n=n:=Nat.eq_of_testBit_eq fun b=>by
  rw [Nat.testBit_or]
  cases hm:m.testBit b
  ·
   simp
  simp [h b hm]
 rw [← e];exact Nat.left_le_or
noncomputable def D4(aa:List aF) (aC:List bG) (v:Nat→Nat) (k:Key):ByteArray:=if aw k then itoa (v (number k).toNat:Int) else valOf aa aC k
noncomputable def FF(aa:List aF) (aC:List bG) (v:Nat→Nat) (j:Nat):Nat:=dy ((aa[j]?.map (·.c.toNat)).getD 0) (j5 aa (D4 aa aC v) j)
theorem gN(hR:ao aa) {i:Nat}(hi:i<aa.length) (hr:az aa i=true) {x:Ask}(f:x∈aa[i].asks) (c:outside aa x=true):aw (aX aa x)=false:=by
 have h:=hR.len;have hm:=fK hR hi hr f;obtain⟨m,h1,a⟩:=iC hi hR.len hm
 unfold outside at c
 unfold aX
 cases hc:x.cell
 ·
  rw [hc] at a c;simp only [Bool.false_eq_true,if_false] at a ⊢
  grind [bu]
 rw [hc] at a;simp only [if_true] at a ⊢
 grind [gL]
theorem pc(hR:ao aa) {v:Nat→Nat}(o:∀j,v j≤65535) {i:Nat}(hi:i<aa.length) (hr:az aa i=true) (b:Nat) :
  (FF aa aC v i).testBit b=true↔(hJ aa (valOf aa aC) i).testBit b=true∨∃j,du aa i j∧(v j).testBit b=true:=by
 have q:=hR.len
 unfold FF
 rw [ah hi];simp only [Option.map_some,Option.getD_some];rw [nE hi];refine or_congr ?_ ?_
 ·
  rw [cQ hi,cQ hi];refine or_congr_right (exists_congr fun x=>and_congr_right fun r=>and_congr_right fun u=>?_)
  unfold D4
  rw [if_neg (by grind [gN])]
 constructor
 ·
  rintro⟨x,h1,f,c⟩;obtain⟨j,a,h,p⟩:=fM hR hi hr h1 f;refine⟨j,a,?_⟩
  unfold D4 at c
  rw [h,if_pos (by rw [bu p (by omega)];exact a.lt.2.2.2),br p (by omega),Int.toNat_natCast,dc (o j)] at c;exact c
 rintro⟨j,a,h⟩;obtain⟨x,h1,f,c⟩:=iY hi a;refine⟨x,h1,f,?_⟩
 unfold D4
 rw [c,if_pos (by rw [bu a.lt.2.1 (by have:=a.lt.2.1;omega)];exact a.lt.2.2.2),br a.lt.2.1 (by have:=a.lt.2.1;omega),Int.toNat_natCast,dc (o j)];exact h
theorem nF(i:Nat):rv aa aC i≤65535:=u0 i
theorem xx(hR:ao aa) {i:Nat}(hi:i<aa.length) (hr:az aa i=true) (b:Nat) :
  (rv aa aC i).testBit b=true↔(hJ aa (valOf aa aC) i).testBit b=true∨∃j,du aa i j∧(rv aa aC j).testBit b=true:=by
 unfold rv
 rw [cE hR hi hr]
 constructor
 ·
  rintro⟨k,h1,f⟩
  rcases h1.cases with rfl | ⟨j,a,c⟩
  ·
   exact .inl f
  exact .inr ⟨j,a,(cE hR a.lt.2.1 a.lt.2.2.2 b).2 ⟨k,c,f⟩⟩
 rintro(h | ⟨j,a,c⟩)
 ·
  exact⟨i,.refl,h⟩
 obtain⟨k,o,p⟩:=(cE hR a.lt.2.1 a.lt.2.2.2 b).1 c;exact⟨k,.head a o,p⟩
theorem yK(hR:ao aa) {v v':Nat→Nat}(a:∀j,v j≤65535) (c:∀j,v' j≤65535) (h:∀j,c8 (v j) (v' j)) {i:Nat}(hi:i<aa.length) (hr:az aa i=true):c8 (FF aa aC v i) (FF aa aC v' i):=fun b hb=>by
 rw [pc hR a hi hr] at hb;rw [pc hR c hi hr]
 rcases hb with hb | ⟨j,h1,f⟩
 ·
  exact .inl hb
 exact .inr ⟨j,h1,h j b f⟩
structure cN (aa:List aF) (aC:List bG) (i0:Nat) (L:List Nat) (u:Nat→Nat):Prop where
 nodup:L.Nodup
 first:i0∈L
 ring:∀j∈L,j<aa.length∧az aa j=true
 out:∀j,j∉L→u j=0
 le:∀j,u j≤65535
 low:∀j,c8 (u j) (rv aa aC j)
 reach:∀j∈L,bY aa i0 j
noncomputable def ss(aa:List aF) (aC:List bG) (u:Nat→Nat) (ml:List (Key × Value)) (k:Nat):Nat:=if (bw ml (aK aa (k:Int))).isSome then rv aa aC k else u k
def eP(ml qv:List (Key × Value)):Prop:=∀k v,bw ml k=some v→bw qv k=some v
def jF(aa:List aF) (aC:List bG) (L:List Nat) (u:Nat→Nat) (ml:List (Key × Value)):Prop:=∀j∈L,c8 (u j) (FF aa aC (ss aa aC u ml) j)
def oy(aa:List aF) (aC:List bG) (L:List Nat) (u:Nat→Nat) (j:Nat):Prop:=
 c8 (hJ aa (valOf aa aC) j) (u j)∧∀k,du aa j k→(k∈L→c8 (u k) (u j))∧(k∉L→c8 (rv aa aC k) (u j))
def xy(n:Nat) (v:Nat→Nat):Nat:=((List.range n).map fun j=>65535 - v j).sum
def sR(aa:List aF) (L:List Nat) (v:Nat→Nat):Nat:=xy aa.length v+(aa.length - L.length)
theorem eP.refl(ml:List (Key × Value)):eP ml ml:=fun _ _ h=>h
theorem eP.trans{a b c:List (Key × Value)}(h:eP a b) (k:eP b c):eP a c:=fun x v e=>k x v (h x v e)
theorem eP.put{ml:List (Key × Value)}(hm:aR aa aC ml) (k:Key):eP ml (cw ml k (.string (valOf aa aC k))):=fun x v h=>by
 rw [dx]
 split
 ·
  rename_i e;subst e;rw [hm _ _ h]
 exact h
theorem mH{u:Nat→Nat}{ml:List (Key × Value)}(h:∀j,u j≤65535) (k:Nat):ss aa aC u ml k≤65535:=by grind [ss,nF]
theorem D5{u:Nat→Nat}{ml:List (Key × Value)}(h:∀j,c8 (u j) (rv aa aC j)) (k:Nat):c8 (ss aa aC u ml k) (rv aa aC k):=by unfold ss;split;exact fun _ h=>h;exact h k
theorem u4{u a:Nat→Nat}{ml c:List (Key × Value)}(h:∀j,c8 (u j) (rv aa aC j)) (hu:∀j,c8 (u j) (a j)) (hm:eP ml c) (k:Nat):c8 (ss aa aC u ml k) (ss aa aC a c k):=by
 unfold ss
 cases h1:bw ml (aK aa (k:Int)) with
 | some v=>rw [hm _ _ h1];simp;exact fun _ h=>h
 | none=>grind
theorem jF.mono(hR:ao aa) {i0:Nat}{L:List Nat}{u:Nat→Nat}{ml c:List (Key × Value)}(hr:cN aa aC i0 L u) (h:jF aa aC L u ml) (hm:eP ml c):jF aa aC L u c:=fun j a b hb=>
 yK hR (mH hr.le) (mH hr.le) (u4 hr.low (fun _ _ h=>h) hm) (hr.ring j a).1 (hr.ring j a).2 b (h j a b hb)
theorem cN.start{i0:Nat}(hi:i0<aa.length) (hr:az aa i0=true):cN aa aC i0 [i0] fun _=>0 where
 nodup:=by simp
 first:=by simp
 ring j a:=by grind
 out _ _:=rfl
 le _:=by omega
 low _ b h:=by simp at h
 reach j a:=by simp at a;subst a;exact .refl
theorem jF.start{i0:Nat}{ml:List (Key × Value)}:jF aa aC [i0] (fun _=>0) ml:=fun _ _ b h=>by simp at h
theorem Bw:∀{n:Nat}{L:List Nat},L.Nodup→(∀j∈L,j<n)→L.length≤n:=by
 intro n
 induction n with
 | zero=>intro L _ hl;cases L with
  | nil=>simp
  | cons a r=>exact absurd (hl a (by simp)) (by omega)
 | succ n c=>
  intro L h hl
  have h1:=c (h.erase n) fun j f=>by grind
  grind
theorem cN.len{i0:Nat}{L:List Nat}{v:Nat→Nat}(h:cN aa aC i0 L v):L.length≤aa.length:=Bw h.nodup fun j a=>(h.ring j a).1
theorem cN.meet{i0:Nat}{L:List Nat}{v:Nat→Nat}(h:cN aa aC i0 L v) {j:Nat}(a:j<aa.length) (hr:az aa j=true) (hn:j∉L) (c:bY aa i0 j):cN aa aC i0 (L++[j]) v where
 nodup:=by grind [nodup]
 first:=by simp [h.first]
 ring k hk:=by
  rcases List.mem_append.1 hk with hk | hk
  ·
   exact h.ring k hk
  grind
 out k hk:=h.out k fun hm=>hk (by simp [hm])
 le:=h.le
 low:=h.low
 reach k hk:=by
  rcases List.mem_append.1 hk with hk | hk
  ·
   exact h.reach k hk
  grind
theorem jF.meet{L:List Nat}{u:Nat→Nat}{ml:List (Key × Value)}(h:jF aa aC L u ml) {j:Nat}(hu:u j=0):jF aa aC (L++[j]) u ml:=fun k hk=>by
 rcases List.mem_append.1 hk with hk | hk
 ·
  exact h k hk
 simp at hk;subst hk;rw [hu];intro b hb;simp at hb
theorem cN.D6{i0:Nat}{L:List Nat}{v:Nat→Nat}(h:cN aa aC i0 L v) {j:Nat}(a:j<aa.length) (hr:az aa j=true) (hn:j∉L) (c:bY aa i0 j):L.length<aa.length:=by
 have:=(h.meet a hr hn c).len
 grind
theorem Bx{L:List Nat}{v:Nat→Nat}{j:Nat}(hl:L.length<aa.length):sR aa (L++[j]) v<sR aa L v:=by grind [sR]
def jn(v:Nat→Nat) (j u:Nat):Nat→Nat:=fun k=>if k=j then u else v k
theorem Bz:∀n (v:Nat→Nat) (j u:Nat),v j≤u→xy n (jn v j u)≤xy n v∧(j<n→v j<u→u≤65535→xy n (jn v j u)<xy n v):=by
 intro n
 induction n with
 | zero=>intro v j u _;simp [xy]
 | succ n c=>
  intro v j u h;obtain⟨h1,a⟩:=c v j u h
  unfold xy at h1 a ⊢
  simp only [List.range_succ,List.map_append,List.map_cons,List.map_nil,List.sum_append,List.sum_cons,List.sum_nil]
  have o:65535 - jn v j u n≤65535 - v n:=by
   unfold jn;grind
  refine⟨by omega,fun p f i=>?_⟩
  by_cases e:j=n
  ·
   have:65535 - jn v j u n<65535 - v n:=by unfold jn;grind
   omega
  have:=a (by omega) f i
  omega
theorem zy{u:Nat→Nat}{j x:Nat}(h:c8 (u j) x):∀k,c8 (u k) (jn u j x k):=fun k b hb=>by
 unfold jn;split
 ·
  rename_i e;subst e;exact h b hb
 exact hb
theorem cN.set{i0:Nat}{L:List Nat}{u:Nat→Nat}(h:cN aa aC i0 L u) {j x:Nat}(a:j∈L) (c:x≤65535) (f:c8 x (rv aa aC j)):cN aa aC i0 L (jn u j x) where
 nodup:=h.nodup
 first:=h.first
 ring:=h.ring
 out k hk:=by unfold jn;rw [if_neg (fun e=>hk (by rw [e];exact a))];exact h.out k hk
 le k:=by unfold jn;split;exact c;exact h.le k
 low k b hb:=by
  unfold jn at hb;split at hb
  ·
   rename_i e;subst e;exact f b hb
  exact h.low k b hb
 reach:=h.reach
theorem jF.set(hR:ao aa) {i0:Nat}{L:List Nat}{u:Nat→Nat}{ml:List (Key × Value)}(hr:cN aa aC i0 L u) (h:jF aa aC L u ml) {j x:Nat}(a:j∈L) (c:x≤65535) (f:c8 x (rv aa aC j)) (i:c8 (u j) x) (o:c8 x (FF aa aC (ss aa aC u ml) j)) :
  jF aa aC L (jn u j x) ml:=fun k hk=>by
 have p:=hr.set a c f;have hm:=yK (aC:=aC) hR (mH (aC:=aC) (aa:=aa) (ml:=ml) hr.le) (mH p.le) (u4 hr.low (zy i) (eP.refl ml)) (hr.ring k hk).1 (hr.ring k hk).2;intro b hb;refine hm b ?_
 unfold jn at hb;split at hb
 ·
  rename_i e;subst e;exact o b hb
 exact h k hk b hb
theorem D7{i0:Nat}{L:List Nat}{u:Nat→Nat}(h:cN aa aC i0 L u) {j x:Nat}(a:j∈L) (c:x≤65535) (f:c8 (u j) x) (i:u j≠x):sR aa L (jn u j x)<sR aa L u:=by
 have h1:=f.le
 have:=(Bz aa.length u j x h1).2 (h.ring j a).1 (by omega) c
 unfold sR;omega
theorem cN.done(hR:ao aa) {i0:Nat}{L:List Nat}{u:Nat→Nat}(h:cN aa aC i0 L u) (c:∀j∈L,oy aa aC L u j):∀j∈L,u j=rv aa aC j:=by
 intro j q;obtain⟨f,i⟩:=h.ring j q;refine Nat.le_antisymm (h.low j).le (c8.le fun b hb=>?_);have key:=Bv hR f i (fun k=>if k∈L then u k else rv aa aC k) (fun k b hk hb=>?_) (fun k m b hk o hb=>?_) b hb
 ·
  simpa [q] using key
 ·
  have p:=eW f i hk
  by_cases hm:k∈L
  ·
   simp only [if_pos hm];exact(c k hm).1 b hb
  simp only [if_neg hm];grind [xx]
 have p:=eW f i hk
 by_cases a:k∈L
 ·
  simp only [if_pos a]
  by_cases hm:m∈L
  ·
   simp only [if_pos hm] at hb;exact((c k a).2 m o).1 hm b hb
  simp only [if_neg hm] at hb;exact((c k a).2 m o).2 hm b hb
 simp only [if_neg a];refine(xx hR p.1 p.2 b).2 (.inr ⟨m,o,?_⟩)
 by_cases hm:m∈L
 ·
  simp only [if_pos hm] at hb;exact h.low m b hb
 grind
structure Ev (aa:List aF) (aC:List bG) (u:Nat→Nat) (L:List Nat) (BA ml:List (Key × Value)) (qs:List Ask) (n:Nat) (acc:List ByteArray):Prop where
 len:acc.length=n
 out:∀m (h:m<qs.length),m<n→outside aa qs[m]=true→acc[m]?=some (valOf aa aC (aX aa qs[m]))
 ins:∀m (h:m<qs.length),m<n→outside aa qs[m]=false→∀k:Nat,qs[m].n=k→
  (acc[m]?=some (itoa (rv aa aC k:Int))∧(bw ml (aK aa (k:Int))).isSome=true)∨(acc[m]?=some (itoa (u k:Int))∧k∈L∧bw BA (aK aa (k:Int))=none)
theorem Ev.start{u:Nat→Nat}{L:List Nat}{ml:List (Key × Value)}{qs:List Ask}:Ev aa aC u L ml ml qs 0 []:=⟨rfl,fun _ _ h=>by omega,fun _ _ h=>by omega⟩
theorem Ev.mono{u:Nat→Nat}{L L':List Nat}{BA ml a:List (Key × Value)}{qs:List Ask}{n:Nat}{acc:List ByteArray}(h:Ev aa aC u L BA ml qs n acc) (r:∀k∈L,k∈L') (hm:eP ml a):Ev aa aC u L' BA a qs n acc:=
 ⟨h.len,h.out,fun m h1 i o k p=>by
  rcases h.ins m h1 i o k p with⟨c,f⟩ | ⟨c,f,y⟩
  ·
   obtain⟨v,q⟩:=Option.isSome_iff_exists.1 f;exact .inl ⟨c,by rw [hm _ _ q];rfl⟩
  grind⟩
theorem Ev.snoc{u:Nat→Nat}{L:List Nat}{BA ml:List (Key × Value)}{qs:List Ask}{n:Nat}{acc:List ByteArray}(h:Ev aa aC u L BA ml qs n acc) (s:ByteArray)
  (i:∀(h:n<qs.length),outside aa qs[n]=true→s=valOf aa aC (aX aa qs[n]))
  (hi:∀(h:n<qs.length),outside aa qs[n]=false→∀k:Nat,qs[n].n=k→(s=itoa (rv aa aC k:Int)∧(bw ml (aK aa (k:Int))).isSome=true)∨(s=itoa (u k:Int)∧k∈L∧bw BA (aK aa (k:Int))=none)) :
  Ev aa aC u L BA ml qs (n+1) (acc++[s]) where
 len:=by simp [h.len]
 out m h1 f c:=by
  rcases Nat.lt_or_ge m n with a | a
  ·
   rw [List.getElem?_append_left (by rw [h.len];exact a)];exact h.out m h1 a c
  grind [len]
 ins m h1 f c k hk:=by
  rcases Nat.lt_or_ge m n with a | a
  ·
   rw [List.getElem?_append_left (by rw [h.len];exact a)];exact h.ins m h1 a c k hk
  have:m=n:=by omega
  subst this;rw [List.getElem?_append_right (by rw [h.len];omega),h.len]
  simpa using hi h1 c k hk
theorem Ev.val(hR:ao aa) {i0:Nat}{L:List Nat}{u:Nat→Nat}{BA ml:List (Key × Value)}{j:Nat}{acc:List ByteArray}(hr:cN aa aC i0 L u) (p:j<aa.length) (z:az aa j=true) (h:Ev aa aC u L BA ml aa[j].asks aa[j].asks.length acc) :
  dy aa[j].c.toNat (acc.map ct)≤65535∧c8 (dy aa[j].c.toNat (acc.map ct)) (rv aa aC j)∧c8 (FF aa aC (ss aa aC u BA) j) (dy aa[j].c.toNat (acc.map ct))∧
  c8 (dy aa[j].c.toNat (acc.map ct)) (FF aa aC (ss aa aC u ml) j)∧(dy aa[j].c.toNat (acc.map ct)=u j→oy aa aC L u j):=by
 obtain⟨hlen,W,dF⟩:=h;have X:=hR.len
 -- an answer, by its place
 have Y:∀m (hm:m<aa[j].asks.length),∃s,acc[m]?=some s∧s∈acc:=fun m hm=>⟨acc[m],ah (by omega),List.getElem_mem _⟩
 have H:c8 (hJ aa (valOf aa aC) j) (dy aa[j].c.toNat (acc.map ct)):=fun b hb=>by
  rw [iD]
  rcases(cQ p b).1 hb with h1 | ⟨x,h1,y,o⟩
  ·
   exact .inl h1
  obtain⟨m,hm,rfl⟩:=List.mem_iff_getElem.1 h1
  grind
 have I:∀k,du aa j k→∃m,∃hm:m<aa[j].asks.length,outside aa aa[j].asks[m]=false∧aa[j].asks[m].n=(k:Int):=fun k hk=>by
  obtain⟨r,x,h1,_,o,f,G,a⟩:=hk;rw [ah p] at h1
  simp at h1
  subst h1;obtain⟨m,hm,rfl⟩:=List.mem_iff_getElem.1 o;exact⟨m,hm,by unfold outside;rw [f,G];simp [a],G⟩
 have E:∀(m:Nat) (s:ByteArray) (b:Nat),acc[m]?=some s→(ct s).testBit b=true→(dy aa[j].c.toNat (acc.map ct)).testBit b=true:=fun m s b h1 y=>by
  rw [iD];grind
 have J:∀(v:Nat→Nat),(∀k,v k≤65535)→(∀k:Nat,(bw ml (aK aa (k:Int))).isSome=true→c8 (rv aa aC k) (v k))→(∀k:Nat,c8 (u k) (v k))→c8 (dy aa[j].c.toNat (acc.map ct)) (FF aa aC v j):=fun v O h1 y b hb=>by
  rw [pc hR O p z];rw [iD] at hb
  rcases hb with hb | ⟨_,Q,hb⟩
  ·
   grind [cQ]
  obtain⟨s,R,rfl⟩:=List.mem_map.1 Q;obtain⟨m,hm,rfl⟩:=List.mem_iff_getElem.1 R
  have F:m<aa[j].asks.length:=by omega
  cases N:outside aa aa[j].asks[m]
  ·
   obtain⟨k,o,f,G⟩:=fM hR p z (List.getElem_mem F) N
   have S:aa[j].asks[m].n=(k:Int):=by
    obtain⟨q,a,i⟩:=iC p hR.len (fK hR p z (List.getElem_mem F))
    have hc:aa[j].asks[m].cell=false:=by grind [outside]
    rw [hc] at i;simp only [Bool.false_eq_true,if_false] at i
    unfold aX at f
    rw [hc,a] at f;simp only [Bool.false_eq_true,if_false] at f
    grind [br]
   refine .inr ⟨k,o,?_⟩
   rcases dF m F F N k S with⟨a,i⟩ | ⟨a,i,_⟩
   ·
    rw [ah hm] at a
    simp at a
    rw [a,dc (nF k)] at hb;exact h1 k i b hb
   rw [ah hm] at a
   simp at a
   rw [a,dc (hr.le k)] at hb;exact y k b hb
  grind [cQ]
 refine⟨?_,?_,?_,?_,fun he=>⟨?_,fun k hk=>⟨fun U=>?_,fun U=>?_⟩⟩⟩
 ·
  grind [lC,sQ,lB]
 ·
  intro b hb;have h1:=J (rv aa aC) nF (fun _ _ _ h=>h) hr.low b hb
  grind [pc,nF,xx]
 ·
  intro b hb;rw [pc hR (mH hr.le) p z] at hb
  rcases hb with hb | ⟨k,h1,y⟩
  ·
   exact H b hb
  obtain⟨m,hm,o,f⟩:=I k h1
  rcases dF m hm hm o k f with⟨a,i⟩ | ⟨a,i,V⟩
  ·
   exact E m _ b a (by rw [dc (nF k)];exact D5 hr.low k b y)
  refine E m _ b a (by rw [dc (hr.le k)];grind [ss])
 ·
  refine J _ (mH hr.le) (fun k hk b hb=>?_) fun k b hb=>?_
  ·
   unfold ss;rw [if_pos hk];exact hb
  unfold ss;split
  ·
   exact hr.low k b hb
  exact hb
 ·
  rw [← he];exact H
 ·
  intro b hb;rw [← he];obtain⟨m,hm,o,f⟩:=I k hk
  rcases dF m hm hm o k f with⟨a,i⟩ | ⟨a,i,V⟩
  ·
   exact E m _ b a (by rw [dc (nF k)];exact hr.low k b hb)
  exact E m _ b a (by rw [dc (hr.le k)];exact hb)
 intro b hb
 grind [dc,nF]
def kP(aa:List aF) (L:List Nat) (v:Nat→Nat) (am:List (Key × Value)):Prop:=
 (∀j∈L,bw am (aK aa (j:Int))=some (.string (itoa (v j:Int))))∧∀k,(∀j∈L,k≠aK aa (j:Int))→bw am k=none
theorem df(hR:ao aa) {i j:Nat}(hi:i<aa.length) (a:j<aa.length) (h:aK aa (i:Int)=aK aa (j:Int)):i=j:=by grind [ao.len,br]
theorem kP.meet(hR:ao aa) {L:List Nat}{v:Nat→Nat}{am:List (Key × Value)}(h:kP aa L v am) (a:∀j∈L,j<aa.length) {j:Nat}(c:j<aa.length) (hn:j∉L) (f:v j=0):kP aa (L++[j]) v (cw am (aK aa (j:Int)) (.string ⟨#[48]⟩)):=by
 have e0:itoa ((0:Nat):Int)=⟨#[48]⟩:=by decide +kernel
 refine⟨fun k hk=>?_,fun k hk=>?_⟩
 ·
  rw [dx]
  rcases List.mem_append.1 hk with hk | hk
  ·
   rw [if_neg (fun e=>hn (by grind [df]))];exact h.1 k hk
  grind
 rw [dx,if_neg (fun e=>hk j (by simp) e.symm)]
 exact h.2 k fun m hm=>hk m (by simp [hm])
theorem kP.set(hR:ao aa) {L:List Nat}{v:Nat→Nat}{am:List (Key × Value)}(h:kP aa L v am) (a:∀j∈L,j<aa.length) {j:Nat}(c:j∈L) (u:Nat):kP aa L (jn v j u) (cw am (aK aa (j:Int)) (.string (itoa (u:Int)))):=by
 refine⟨fun k hk=>?_,fun k hk=>?_⟩
 ·
  rw [dx]
  unfold jn
  by_cases e:k=j
  ·
   grind
  rw [if_neg (fun e2=>e (df hR (a k hk) (a j c) e2.symm)),if_neg e];exact h.1 k hk
 rw [dx,if_neg (fun e=>hk j c e.symm)];exact h.2 k hk
end
theorem kQ{aa:List aF}(hR:ao aa) {i:Nat}(hi:i<aa.length) (hr:az aa i=true) {x:Ask}(c:x∈aa[i].asks) (a:outside aa x=false) {k:Nat}(hk:x.n=(k:Int)):k<aa.length∧az aa k=true∧aX aa x=aK aa (k:Int):=by
 have hm:=fK hR hi hr c
 unfold outside at a
 rw [Bool.or_eq_false_iff] at a;rw [a.1,hk] at hm;refine⟨(lP hR hi hr hm).1,?_,?_⟩
 ·
  grind
 grind [aX]
theorem ao.hb{aa:List aF}(h:ao aa):∀x∈aa,0≤x.c∧x.c≤65535∧x.asks.length≤1000:=fun x a=>by
 obtain⟨i,hi,rfl⟩:=List.mem_iff_getElem.1 a;obtain⟨h1,_,f⟩:=h.at hi
 grind [oT]
theorem iZ{aa:List aF}{i:Nat}(hi:i<aa.length) (gT:i≤99) (l:List ByteArray):aO aa (aK aa (i:Int)) l=bP aa (aK aa (i:Int)) l:=by
 unfold aO;rw [if_pos (by grind [cY])]
theorem zz:∀{l:List (Key × Value)}{k:Key}{v:Value},bw l k=some v→cw l k v=l:=by
 intro l
 induction l with
 | nil=>intro k v h;simp [bw] at h
 | cons p r a=>
  obtain⟨k0,v0⟩:=p;intro k v h;simp only [bw] at h;simp only [cw]
  grind
theorem nG{aa:List aF}{i:Nat}(hi:i<aa.length) (gT:i≤99):cn (aK aa (i:Int)):=by grind [cn,cY]
end Go.Rc

namespace Go.Rc
open Go
theorem kx:∀(l:List UInt8) (u:Nat),0<u→0≤decFrom l (u:Int)→∃v:Nat,decFrom l (u:Int)=v∧Lib.decDigits v=Lib.decDigits u++l
 | [],u,_,_=>⟨u,rfl,by simp⟩
 | c::r,u,hu,h=>by
  unfold decFrom at h ⊢
  by_cases hc:c.toNat<48∨57<c.toNat
  ·
   rw [if_pos hc] at h;omega
  rw [if_neg hc] at h ⊢;obtain⟨d,f⟩:∃d:Nat,c.toNat=48+d:=⟨c.toNat - 48,by omega⟩
  have i:d<10:=by omega
  have e:10*(u:Int)+((c.toNat:Int) - 48)=((10*u+d:Nat):Int):=by omega
  rw [e] at h ⊢;obtain⟨v,h1,a⟩:=kx r (10*u+d) (by omega) h;refine⟨v,h1,?_⟩;rw [a,Lib.decDigits,dif_neg (by omega),show(10*u+d) / 10=u by omega,show(10*u+d) % 10=d by omega,List.append_assoc]
  grind [UInt8.ofNat_toNat]
theorem qC{s:ByteArray}(h:0≤cT s):∃v:Nat,cT s=v∧s=itoa (v:Int):=by
 unfold cT at h ⊢
 by_cases hc:s.size=0∨9<s.size∨(s.data.toList.head?=some 48∧s.size≠1)
 ·
  rw [if_pos hc] at h;omega
 rw [if_neg hc] at h ⊢;obtain⟨d⟩:=s
 have key:∃v:Nat,decFrom d.toList 0=v∧Lib.decDigits v=d.toList:=by
  have hsz:(⟨d⟩:ByteArray).size=d.toList.length:=by simp [ByteArray.size]
  rw [hsz] at hc;simp only at hc h ⊢
  cases hl:d.toList with
  | nil=>rw [hl] at hc;simp at hc
  | cons c r=>
   rw [hl] at hc h
   unfold decFrom at h ⊢
   by_cases hn:c.toNat<48∨57<c.toNat
   ·
    rw [if_pos hn] at h;omega
   rw [if_neg hn] at h ⊢;obtain⟨e,he⟩:∃e:Nat,c.toNat=48+e:=⟨c.toNat - 48,by omega⟩
   have h1:10*(0:Int)+((c.toNat:Int) - 48)=(e:Nat):=by omega
   rw [h1] at h ⊢
   have a:UInt8.ofNat (48+e)=c:=by grind [UInt8.ofNat_toNat]
   by_cases h0:e=0
   ·
    subst h0
    have o:c=48:=by rw [← a];rfl
    have hr:r=[]:=by grind
    subst hr;exact⟨0,rfl,by rw [Lib.decDigits,dif_pos (by omega),a]⟩
   obtain⟨v,f,i⟩:=kx r e (by omega) h;refine⟨v,f,?_⟩;rw [i,Lib.decDigits,dif_pos (by omega),a]
   rfl
 obtain⟨v,h1,f⟩:=key;refine⟨v,h1,?_⟩
 have e:Lib.itoa (v:Int)=Lib.decDigits v:=by unfold Lib.itoa;rw [if_neg (by omega)];rfl
 unfold itoa
 rw [e,f]
theorem zA{s:ByteArray}(h:∀n:Nat,n≤65535→s≠itoa (n:Int)):ct s=0:=by
 unfold ct
 split
 ·
  rfl
 grind [qC]
theorem zB(l:List aF) (m:Nat):m≤cF l m:=by unfold cF;omega
theorem xz{aa:List aF}{i:Nat}(hi:i<aa.length):(block aa (i:Int)).1≤(block aa (i:Int)).2:=by
 have hb:block aa (i:Int)=if az aa i then ((aZ aa i:Int),(cF aa (i+1):Int)) else ((i:Int),(i:Int)+1):=by
  unfold block;rw [if_neg (by omega)];rfl
 grind [dO,zB]
theorem u5(kind:Int) (c:Nat) (l:List Nat):cU kind 0 (c::l)=cU kind c l:=by
 unfold cU mB oQ dy
 simp
end Go.Rc

namespace Go.Rc
open Go
theorem u6{κ:Type} [DecidableEq κ]:∀{l:List (κ × Value)}{k:κ}{v:Value},bw l k=none→oM (cw l k v) k=l
 | [],k,v,_=>by simp [cw,oM]
 | (k0,v0)::r,k,v,h=>by
  by_cases e:k0=k
  ·
   subst e;simp [bw] at h
  simp only [bw,if_neg e] at h;simp only [cw,if_neg e,oM,u6 h]
def FZ.row(b:Nat) (r:List Value):FZ:=
 ⟨fun Z w=>Z b∧b<w.heap.size∧w.rangeAt b 0 r,fun hZ h=>⟨hZ _ h.1,h.2⟩,fun hs hc h=>⟨h.1,Nat.lt_of_lt_of_le h.2.1 hs,fun j v hv=>by rw [← h.2.2 j v hv];grind [World.cell?_of_block]⟩⟩
def SD.FV(D:SD) (P:Program) (aa:List aF) (x:bZ):FZ:=(D.F P aa x).and (FZ.row D.s (D.cells x))
theorem SD.FV.rg{D:SD}{P:Program}{aa:List aF}{x:bZ}{Z:Nat→Prop}{w:World}(h:(D.FV P aa x).p Z w):(As.rg D.s 0 (D.cells x)).ok Z w:=As.Ls h.2.1 h.2.2.1 h.2.2.2
theorem rJ{κ:Type} [DecidableEq κ]:∀(l:List (κ × Value)) (k:κ) (v u:Value),cw (cw l k v) k u=cw l k u
 | [],k,v,u=>by simp [cw]
 | (k0,v0)::r,k,v,u=>by
  by_cases e:k0=k
  ·
   simp [cw,e]
  simp [cw,e,rJ r k v u]
section
variable {aa:List aF}{aC:List bG}
def iE(aa:List aF) (i:Nat) (al:List (Key × Value)):Prop:=∀j:Nat,j≤i→j<aa.length→bw al (aK aa (j:Int))=none
theorem iE.mono{i m:Nat}{al:List (Key × Value)}(h:iE aa i al) (hm:m≤i):iE aa m al:=fun j a hl=>h j (by omega) hl
theorem iE.put(hR:ao aa) {i m:Nat}{al:List (Key × Value)}(h:iE aa i al) (hi:i<aa.length) (hm:m<i) (v:Value):iE aa m (cw al (aK aa (i:Int)) v):=fun j a hl=>by
 rw [dx,if_neg (fun e=>by have:=df hR hi hl e;omega)];exact h j (by omega) hl
theorem iE.nil(i:Nat):iE aa i []:=fun _ _ _=>rfl
noncomputable def cp(aa:List aF) (aC:List bG) (i:Nat):List Key:=(cZ (bP aa (aK aa (i:Int))) (valOf aa aC) (cj aa i)).1
noncomputable def gO(aa:List aF) (aC:List bG) (k:Key):List Key:=if ax k then [] else cp aa aC (number k).toNat
theorem dj(hR:ao aa) {i:Nat}(hi:i<aa.length):gO aa aC (aK aa (i:Int))=cp aa aC i:=by
 have a:=hR.len
 unfold gO
 rw [if_neg (by grind [bQ]),br hi (by omega),Int.toNat_natCast]
theorem dh.KD(hR:ao aa) {i:Nat}{a:Key}(h:dh aa i a):aw a=decide (a.kind=32):=by
 have c:=hR.len
 rcases h with⟨n,h1,rfl⟩ | ⟨m,h1,rfl,_⟩
 ·
  rw [gL (by omega)]
  unfold bd
  rw [if_neg (by omega)]
  rfl
 grind [bu,cY]
theorem dh.al(hR:ao aa) {i0 j:Nat}{a:Key}{al:List (Key × Value)}(h:dh aa j a) (hr:az aa j=true) (hc:aw a=false) (dF:ax a=false) (hb:aZ aa j≤i0) (c:iE aa i0 al):iE aa (number a).toNat al:=by
 have i:=hR.len
 rcases h with⟨n,h1,rfl⟩ | ⟨m,h1,rfl,_,_,_,f⟩
 ·
  grind [aY]
 rw [bu h1 (by omega)] at hc;rw [br h1 (by omega),Int.toNat_natCast];exact c.mono (by have:=f hc hr;omega)
structure RI (aa:List aF) (aC:List bG) (i0:Nat) (qs:List Ask) (u1:Nat→Nat) (L1:List Nat) (kR:Bool) (dW:List (Key × Value)) (n:Nat) (L2:List Nat) (ky:List (Key × Value)) (od:Bool) (iO:List (Key × Value)) (acc:List ByteArray):Prop where
 hn:n≤qs.length
 rd:cN aa aC i0 L2 u1
 up:jF aa aC L2 u1 iO
 at_:kP aa L2 u1 ky
 m:aR aa aC iO
 le:eP dW iO
 p:sR aa L2 u1≤sR aa L1 u1∧(od=true→kR=true∨sR aa L2 u1<sR aa L1 u1)
 c:od=false→L2=L1∧kR=false
 pre:L1 <+: L2
 ev:Ev aa aC u1 L2 dW iO qs n acc
variable {i0 j n:Nat}{u1:Nat→Nat}{L1 L2:List Nat}{kR od:Bool}{dW iO HH ky:List (Key × Value)}{acc:List ByteArray}
theorem RI.start{a:List (Key × Value)}{qs:List Ask}(h1:cN aa aC i0 L1 u1) (c:jF aa aC L1 u1 dW) (f:kP aa L1 u1 a) (i:aR aa aC dW):RI aa aC i0 qs u1 L1 kR dW 0 L1 a kR dW []:=
 ⟨Nat.zero_le _,h1,c,f,i,eP.refl _,⟨Nat.le_refl _,fun h=>.inl h⟩,fun h=>⟨rfl,h⟩,List.prefix_refl _,Ev.start⟩
theorem RI.done(hR:ao aa) (a:j<aa.length) (hr:az aa j=true) (h:RI aa aC i0 aa[j].asks u1 L1 kR dW n L2 ky od iO acc) (hn:n<aa[j].asks.length) {c:Value}(i:bw iO (aX aa aa[j].asks[n])=some c) :
  RI aa aC i0 aa[j].asks u1 L1 kR dW (n+1) L2 ky od iO (acc++[valOf aa aC (aX aa aa[j].asks[n])]):=
 {h with
  hn:=hn
  ev:=h.ev.snoc _ (fun _ _=>rfl) fun _ f k hk=>.inl (by
   obtain⟨o,p,q⟩:=kQ hR a hr (List.getElem_mem hn) f hk
   grind [fc,fL])}
theorem RI.low(hR:ao aa) (c:j<aa.length) (hr:az aa j=true) (h:RI aa aC i0 aa[j].asks u1 L1 kR dW n L2 ky od iO acc) (hn:n<aa[j].asks.length) (hc:aw (aX aa aa[j].asks[n])=false) (a:aR aa aC HH) (hle:eP iO HH) :
  RI aa aC i0 aa[j].asks u1 L1 kR dW (n+1) L2 ky od HH (acc++[valOf aa aC (aX aa aa[j].asks[n])]):=
 {h with
  hn:=hn
  up:=h.up.mono hR h.rd hle
  m:=a
  le:=h.le.trans hle
  ev:=(h.ev.mono (fun _ h=>h) hle).snoc _ (fun _ _=>rfl) fun _ f k hk=>by grind [ao.len,kQ,bu]}
theorem RI.inside(hR:ao aa) (h:j<aa.length) (hr:az aa j=true) (hn:n<aa[j].asks.length) (hc:aw (aX aa aa[j].asks[n])=true) :
  ∃a:Nat,aX aa aa[j].asks[n]=aK aa (a:Int)∧a<aa.length∧az aa a=true∧du aa j a∧outside aa aa[j].asks[n]=false:=by
 have i:=List.getElem_mem hn
 have c:outside aa aa[j].asks[n]=false:=by grind [gN]
 obtain⟨a,f,o,p⟩:=fM hR h hr i c;exact⟨a,o,p,f.lt.2.2.2,f,c⟩
theorem RI.Gp(hR:ao aa) (p:j<aa.length) (hr:az aa j=true) {c:List Nat}(h:Ev aa aC u1 c dW iO aa[j].asks n acc) (hle:eP dW iO) (hn:n<aa[j].asks.length) {a:Nat}(q:aX aa aa[j].asks[n]=aK aa (a:Int)) (r:a<aa.length) (i:outside aa aa[j].asks[n]=false)
  (y:bw iO (aX aa aa[j].asks[n])=none) (z:a∈c):Ev aa aC u1 c dW iO aa[j].asks (n+1) (acc++[itoa (u1 a:Int)]):=by
 have E:bw dW (aK aa (a:Int))=none:=by
  cases h:bw dW (aK aa (a:Int)) with
  | none=>rfl
  | some v=>have:=hle _ _ h;grind
 refine h.snoc _ (fun _ f=>by rw [i] at f;cases f) fun _ f k hk=>?_;obtain⟨u,F,o⟩:=kQ hR p hr (List.getElem_mem hn) i hk;rw [q] at o
 have:=df hR r u o
 grind
theorem RI.meet(hR:ao aa) (r:j<aa.length) (hr:az aa j=true) (h:RI aa aC i0 aa[j].asks u1 L1 kR dW n L2 ky od iO acc) (E:j∈L1) (hn:n<aa[j].asks.length) (hc:aw (aX aa aa[j].asks[n])=true)
  (F:bw iO (aX aa aa[j].asks[n])=none) (L:bw ky (aX aa aa[j].asks[n])=none) :
  ∃a:Nat,aX aa aa[j].asks[n]=aK aa (a:Int)∧a<aa.length∧az aa a=true∧RI aa aC i0 aa[j].asks u1 L1 kR dW (n+1) (L2++[a]) (cw ky (aX aa aa[j].asks[n]) (.string ⟨#[48]⟩)) true iO (acc++[⟨#[48]⟩]):=by
 obtain⟨a,i,c,o,G,H⟩:=RI.inside hR r hr hn hc
 have f:a∉L2:=fun hm=>by have:=h.at_.1 a hm;grind
 have q:=h.rd.out a f;have u:bY aa i0 a:=.step (h.rd.reach j (h.pre.subset E)) G;have I:=h.rd.meet c o f u;have J:=h.rd.D6 c o f u;have y:=Bx (v:=u1) (j:=a) J;have z:=RI.Gp hR r hr (h.ev.mono (L':=L2++[a]) (fun _ h=>by simp [h]) (eP.refl _)) h.le hn i c H F (by simp)
 have e0:itoa ((0:Nat):Int)=⟨#[48]⟩:=by decide +kernel
 rw [q,e0] at z;refine⟨a,i,c,o,⟨hn,I,h.up.meet q,?_,h.m,h.le,⟨Nat.le_of_lt (Nat.lt_of_lt_of_le y h.p.1),fun _=>.inr (Nat.lt_of_lt_of_le y h.p.1)⟩,fun h=>(by cases h),h.pre.trans (List.prefix_append _ _),z⟩⟩;rw [i];exact h.at_.meet hR (fun k hk=>(h.rd.ring k hk).1) c f q
theorem RI.LQ(hR:ao aa) (f:j<aa.length) (hr:az aa j=true) (h:RI aa aC i0 aa[j].asks u1 L1 kR dW n L2 ky od iO acc) (hn:n<aa[j].asks.length) (hc:aw (aX aa aa[j].asks[n])=true)
  (q:bw iO (aX aa aa[j].asks[n])=none) {v:Value}(r:bw ky (aX aa aa[j].asks[n])=some v) :
  ∃s:ByteArray,v=.string s∧s.size≤1000∧RI aa aC i0 aa[j].asks u1 L1 kR dW (n+1) L2 ky od iO (acc++[s]):=by
 obtain⟨a,i,o,y,z,u⟩:=RI.inside hR f hr hn hc
 have p:a∈L2:=by
  by_cases hm:a∈L2
  ·
   exact hm
  have:=h.at_.2 (aK aa (a:Int)) (fun k hk e=>hm (by have:=df hR o (h.rd.ring k hk).1 e;rw [this];exact hk))
  grind
 have c:=h.at_.1 a p;rw [← i,r] at c;simp only [Option.some.injEq] at c;refine⟨_,c,?_,{h with hn:=hn,ev:=RI.Gp hR f hr h.ev h.le hn i o u q p}⟩;have hle:=h.rd.le a
 have e:Lib.itoa (u1 a:Int)=Lib.decDigits (u1 a):=by unfold Lib.itoa;rw [if_neg (by omega)];rfl
 grind [itoa,Lib.decDigits,ByteArray.size]
end
end Go.Rc

namespace Go.Rc
open Go
/-! ### keys in order -/
def lR(k:Key):List Key→List Key
 | []=>[k]
 | x::r=>if bj x k<0 then x::lR k r else if x=k then x::r else k::x::r
def rK(l:List Key):List Key:=l.foldl (fun out k=>lR k out) []
theorem BB(k:Key):∀l,(lR k l).length≤l.length+1:=by
 intro l
 induction l with
 | nil=>simp [lR]
 | cons x r a=>grind [lR]
theorem zC(l:List Key):(rK l).length≤l.length:=by
 have key:∀(l acc:List Key),(l.foldl (fun out k=>lR k out) acc).length≤acc.length+l.length:=by
  intro l
  induction l with
  | nil=>intro acc;simp
  | cons x r a=>grind [BB]
 simpa [rK] using key l []
theorem u7(k:Key):∀(l:List Key) (x:Key),x∈lR k l↔x=k∨x∈l:=by
 intro l
 induction l with
 | nil=>intro x;simp [lR]
 | cons y r a=>grind [lR]
theorem rL(l:List Key) (x:Key):x∈rK l↔x∈l:=by
 have key:∀(l acc:List Key),x∈l.foldl (fun out k=>lR k out) acc↔x∈acc∨x∈l:=by
  intro l
  induction l with
  | nil=>intro acc;simp
  | cons y r a=>grind [u7]
 simpa [rK] using key l []
/-! ### groups -/
def Ld(l:List Rec) (rev:Int) (a x:Key):Prop:=x∈(aD l a).reads∧bH l rev x=true
inductive bE (l:List Rec) (rev:Int) (k:Key):Key→Prop where
 | one {x:Key}:Ld l rev k x→bE l rev k x
 | step {x y:Key}:bE l rev k x→Ld l rev x y→bE l rev k y
open Classical in
noncomputable def sS(l:List Rec) (rev:Int) (k x:Key):Bool:=decide (bE l rev k x)
theorem kS{l:List Rec}{rev:Int}{k x:Key}:sS l rev k x=true↔bE l rev k x:=by unfold sS;simp
noncomputable def HI(l:List Rec) (rev:Int) (k:Key) (r:Rec):Bool:=decide (r.key≠k) && (sS l rev k r.key && sS l rev r.key k)
noncomputable def pd(l:List Rec) (rev:Int) (k:Key) (rs:List Rec):List Key:=(rs.filter (HI l rev k)).map (·.key)
theorem xA(l:List Rec) (rev:Int) (k:Key) (rs:List Rec):(pd l rev k rs).length≤rs.length:=by grind [pd]
theorem dX{L S:List Key}(h:L.Nodup) (c:∀x∈L,x∈S):L.length≤S.length:=by
 induction L generalizing S with
 | nil=>simp
 | cons a r f=>
  have i:=c a (by simp);rw [List.nodup_cons] at h
  have:=f (S:=S.erase a) h.2 fun x o=>by grind
  grind
theorem pe{l:List Rec}{rev:Int}{x:Key}(h:bH l rev x=true):x∈l.map (·.key):=by
 unfold bH at h
 rw [Bool.and_eq_true] at h
 grind [ay]
theorem bE.kg{l:List Rec}{rev:Int}{k x:Key}(h:bE l rev k x):bH l rev x=true:=by
 cases h with
 | one h=>exact h.2
 | step _ h=>exact h.2
noncomputable def aB(l:List Rec) (rev:Int) (k:Key):List Key:=if bH l rev k then rK (k::pd l rev k l) else [k]
def aW(rev:Int) (group:List Key) (bU:Bool) (r:Rec):Rec:=if r.key∈group then (if bU then {r with bU:=true} else {r with ak:=rev}) else r
def dI(x:bZ) (group:List Key) (bU:Bool):bZ:={x with ai:=x.ai.map (aW x.ad group bU)}
def aA(x:bZ) (k:Key):Bool:=(ay x.ai k).isSome && decide ((aD x.ai k).ak=x.ad)
def aP(val:Key→ByteArray) (x:bZ) (k:Key):Int:=
 if ax k then (aL x.ab k).changed
 else if (ay x.ai k).isSome && (decide ((aD x.ai k).ak=x.ad) || decide (val k=(aD x.ai k).value)) then (aD x.ai k).changed else x.ad
def cB(val:Key→ByteArray) (x:bZ) (k:Key):ByteArray:=if aw k then val k else iy x k
/-! ### a request -/
structure ES where
 b:bZ
 busy:List (Key × Value)
 bO:List Key
 e:Int
/-! ### a solver, as one thing -/
section
variable {w0 w w':World}{M Z:Nat→Prop}{l:List As}{A B C:As}
theorem St.split(h:St w0 M Z w (C::l)) (p:A.ok Z w) (q:B.ok Z w) (i:∀x,A.fp x→C.fp x) (o:∀x,B.fp x→C.fp x) (r:∀x,A.fp x→¬B.fp x):St w0 M Z w (A::B::l):=by
 obtain⟨u,v⟩:=List.pairwise_cons.1 h.rC;refine⟨h.cH,h.kc,?_,?_,?_,?_⟩
 ·
  intro D a x c f;simp only [List.mem_cons] at a
  rcases a with rfl | rfl | a
  ·
   exact h.ks C (by simp) x (i x c) f
  ·
   exact h.ks C (by simp) x (o x c) f
  exact h.ks D (by simp [a]) x c f
 ·
  intro D a x c;simp only [List.mem_cons] at a
  rcases a with rfl | rfl | a
  ·
   exact h.lg C (by simp) x (i x c)
  ·
   exact h.lg C (by simp) x (o x c)
  exact h.lg D (by simp [a]) x c
 ·
  simp_all
 intro D a;simp only [List.mem_cons] at a
 rcases a with rfl | rfl | a
 ·
  exact p
 ·
  exact q
 exact h.ok D (by simp [a])
theorem St.join(h:St w0 M Z w (A::B::l)) (o:C.ok Z w) (i:∀x,C.fp x→A.fp x∨B.fp x):St w0 M Z w (C::l):=by
 obtain⟨q,p⟩:=List.pairwise_cons.1 h.rC;obtain⟨r,u⟩:=List.pairwise_cons.1 p;refine⟨h.cH,h.kc,?_,?_,?_,?_⟩
 ·
  intro D a x c f;simp only [List.mem_cons] at a
  rcases a with rfl | a
  ·
   rcases i x c with h1 | h1
   ·
    exact h.ks A (by simp) x h1 f
   exact h.ks B (by simp) x h1 f
  exact h.ks D (by simp [a]) x c f
 ·
  intro D a x c;simp only [List.mem_cons] at a
  rcases a with rfl | a
  ·
   rcases i x c with h1 | h1
   ·
    exact h.lg A (by simp) x h1
   exact h.lg B (by simp) x h1
  exact h.lg D (by simp [a]) x c
 ·
  grind [List.pairwise_cons]
 intro D a;simp only [List.mem_cons] at a
 rcases a with rfl | a
 ·
  exact o
 exact h.ok D (by simp [a])
theorem St.one(h:St w0 M Z w l) (c:A∈l):St w (nY [A]) Z w [A] where
 cH:=fD.refl _ _
 kc:=h.kc
 ks D a:=by simp at a;subst a;exact h.ks _ c
 lg D a x f:=.inl ⟨D,a,f⟩
 rC:=by simp
 ok D a:=by simp at a;subst a;exact h.ok _ c
theorem St.LS(h:St w0 M Z w l) (f:A∈l) (a:St w (nY [A]) Z w' [A]):St w0 M Z w' l:=
 h.same f (a.cH.mono fun x _ ⟨D,c,i⟩=>by simp at c;subst c;exact i) (a.ok A (by simp))
end
end Go.Rc

namespace Go.Rc
open Go
structure Good (aa:List aF) (aC:List bG) (s:ES):Prop where
 aC:s.b.ab=aC
 len:s.b.ai.length≤4000
 key:∀r∈s.b.ai,eV aa r.key
 xB:∀r∈s.b.ai,r.reads.length≤4000∧∀a∈r.reads,eV aa a
 ju:(s.busy.map (·.1)).Nodup
 busy:∀k,bw s.busy k=none∨bw s.busy k=some (.bool true)
section
variable {aa:List aF}{aC:List bG}{s:ES}{k:Key}
theorem bV(rev:Int) (g:List Key) (d:Bool) (r:Rec):(aW rev g d r).key=r.key∧(aW rev g d r).reads=r.reads:=by unfold aW;grind
theorem Good.mark(h:Good aa aC s) (g:List Key) (d:Bool):Good aa aC {s with b:=dI s.b g d}:=
 {h with
  len:=by show((s.b.ai.map _).length≤4000);rw [List.length_map];exact h.len
  key:=fun r hr=>by obtain⟨q,a,rfl⟩:=List.mem_map.1 hr;rw [(bV _ _ _ q).1];exact h.key q a
  xB:=fun r hr=>by obtain⟨q,a,rfl⟩:=List.mem_map.1 hr;rw [(bV _ _ _ q).2];exact h.xB q a}
theorem dY(r:Rec):∀(l:List Rec) (b:Bool) (x:Rec),x∈eB r l b→x=r∨x∈l:=by
 intro l
 induction l with
 | nil=>grind [eB]
 | cons y a c=>grind [eB]
theorem u9(r:Rec):∀(l:List Rec) (b:Bool),(eB r l b).length+(l.filter fun x=>decide (bj x.key r.key=0)).length=l.length+(if b then 0 else 1):=by
 intro l
 induction l with
 | nil=>intro b;cases b <;> simp [eB]
 | cons y c a=>
  intro b;have h1:=a (b || decide (0≤bj y.key r.key));simp only [eB,List.length_append,List.length_cons]
  grind
theorem BC{l:List Rec}{r:Rec}(h:(ay l r.key).isSome=true) (hc:bj r.key r.key=0):(ez l r).length≤l.length:=by
 have h1:=u9 r l false;obtain⟨x,a⟩:=Option.isSome_iff_exists.1 h;have f:=List.mem_of_find?_eq_some a;have c:=List.find?_some a
 simp at c
 have i:0<(l.filter fun x=>decide (bj x.key r.key=0)).length:=List.length_pos_of_mem (List.mem_filter.2 ⟨f,by rw [c];simp [hc]⟩)
 unfold ez
 simp at h1
 omega
theorem rM:∀l:List UInt8,Lib.compareBytes l l=0
 | []=>by simp [Lib.compareBytes]
 | a::r=>by simp [Lib.compareBytes,rM r]
theorem fe(k:Key):bj k k=0:=by unfold bj;simp [rM]
theorem Good.put(h:Good aa aC s) {r:Rec}{bO:List Key}(hk:eV aa r.key) (hr:r.reads.length≤4000∧∀a∈r.reads,eV aa a) (f:(!(ay s.b.ai r.key).isSome && decide (4000≤s.b.ai.length))=false) :
  Good aa aC {s with b:={s.b with ai:=ez s.b.ai r},bO:=bO}:=
 {h with
  len:=by grind [ez,len,BC,fe,zr]
  key:=fun x c=>by rcases dY r _ _ x c with rfl | c;exact hk;exact h.key x c
  xB:=fun x c=>by rcases dY r _ _ x c with rfl | c;exact hr;exact h.xB x c}
def hK(aa:List aF) (k:Key) (n:Nat):Prop:=∃i,i<aa.length∧k=aK aa (i:Int)∧n≤cj aa i
theorem eV.fk(h:eV aa k) (hi:ax k=false):hK aa k 0:=by
 cases h with
 | cell h=>grind [aY]
 | eU h gT=>exact⟨_,h,rfl,Nat.zero_le _⟩
theorem hK.next(hR:ao aa) {ae:List ByteArray}(h:hK aa k ae.length) (f:(aO aa k ae).done=false):hK aa k (ae.length+1)∧eV aa (aO aa k ae).ask:=by
 obtain⟨i,hi,rfl,hn⟩:=h
 have gT:i≤99:=by have:=hR.len;omega
 rw [iZ hi gT] at f ⊢
 rcases Nat.lt_or_ge ae.length (cj aa i) with c | p
 ·
  obtain⟨a,h1,o,_⟩:=dB hR hi c;rw [h1];exact⟨⟨i,hi,rfl,c⟩,o.LO hR⟩
 grind [fW]
theorem hK.le(hR:ao aa) {n:Nat}(h:hK aa k n):n≤6:=by obtain⟨i,hi,_,hn⟩:=h;have:=pa hR hi;omega
theorem hK.not(hR:ao aa) {n:Nat}(h:hK aa k n):cn k∧ax k=false:=by
 obtain⟨i,hi,rfl,hn⟩:=h;grind [ao.len,nG,bQ]
theorem hK.LO(hR:ao aa) {n:Nat}(h:hK aa k n):eV aa k:=by obtain⟨i,hi,rfl,_⟩:=h;have:=hR.len;exact .eU hi (by omega)
end
section
variable {aa:List aF}{val:Key→ByteArray}{aC:List bG}
theorem BD{aa:List aF}{aC:List bG}{s:ES}(h:Good aa aC s) {group:List Key}{n:Nat}{c:ob}(hc:(bW s.b.ai group)[n]?=some c):eV aa c.read:=by
 have h1:=List.mem_of_getElem? hc;obtain⟨m,hm,o⟩:=List.mem_flatMap.1 h1;obtain⟨a,p,rfl⟩:=List.mem_map.1 o;have f:=(List.mem_filter.1 p).1
 show eV aa a
 unfold aD at f
 cases i:ay s.b.ai m with
 | none=>rw [i] at f;simp [jB] at f
 | some r=>rw [i] at f;exact(h.xB r (List.mem_of_find?_eq_some i)).2 a f
theorem pf(l:List Rec) (rev:Int) (k:Key):(aB l rev k).length≤l.length+1:=by grind [aB,zC,xA]
theorem D8{aa:List aF}{aC:List bG}{s:ES}(h:Good aa aC s) {group:List Key}(c:group.length≤4001):∀i,((group.take i).flatMap fun m=>cA group m (aD s.b.ai m).reads).length≤100000000:=by
 intro i
 have h1:∀l:List Key,(l.flatMap fun m=>cA group m (aD s.b.ai m).reads).length≤l.length*4000:=by
  intro l
  induction l with
  | nil=>simp
  | cons m r f=>
   simp only [List.flatMap_cons,List.length_append,List.length_cons];have o:=iX group m (aD s.b.ai m).reads
   have p:(aD s.b.ai m).reads.length≤4000:=by
    unfold aD
    cases a:ay s.b.ai m with
    | none=>simp [jB]
    | some r=>exact(h.xB r (List.mem_of_find?_eq_some a)).1
   rw [Nat.add_mul]
   omega
 grind
theorem D9{aa:List aF}{aC:List bG}{s:ES}(h:Good aa aC s) {group:List Key}(a:group.length≤4001):(bW s.b.ai group).length≤100000000:=by
 have h1:=D8 h a group.length;rw [List.take_of_length_le (Nat.le_refl _)] at h1;exact h1
end
end Go.Rc

namespace Go.Rc
open Go
/-! ### counting -/
def Gq(p:Nat→Bool):Nat→Nat
 | 0=>0
 | n+1=>Gq p n+(p n).toNat
theorem xC{p q:Nat→Bool}:∀{n:Nat},(∀i,i<n→p i=true→q i=true)→Gq p n≤Gq q n
 | 0,_=>Nat.le_refl _
 | n+1,h=>by
  have h1:=xC (n:=n) fun i hi=>h i (by omega)
  have a:=h n (by omega);simp only [Gq]
  cases c:p n with
  | false=>simp;omega
  | true=>rw [a c];omega
theorem BE{p q:Nat→Bool}{j:Nat}:∀{n:Nat},(∀i,i<n→p i=true→q i=true)→j<n→q j=true→p j=false→Gq p n+1≤Gq q n
 | 0,_,c,_,_=>by omega
 | n+1,h,c,h1,a=>by
  simp only [Gq]
  rcases Nat.lt_or_ge j n with f | v
  ·
   have o:=BE (n:=n) (fun i hi=>h i (by omega)) f h1 a;have r:=h n (by omega)
   cases u:p n with
   | false=>simp;omega
   | true=>rw [r u];omega
  have e:j=n:=by omega
  subst e
  have o:=xC (n:=j) (p:=p) (q:=q) fun i hi=>h i (by omega)
  rw [h1,a];simp;omega
/-! ### what is found in what was put -/
theorem yL:∀(a b:List UInt8),Lib.compareBytes a b=0→a=b
 | [],[],_=>rfl
 | [],_::_,h=>by simp [Lib.compareBytes] at h
 | _::_,[],h=>by simp [Lib.compareBytes] at h
 | x::a,y::b,h=>by
  simp only [Lib.compareBytes] at h
  split at h
  ·
   cases h
  split at h
  ·
   cases h
  rename_i h1 c
  have e:x=y:=by grind
  rw [e,yL a b h]
theorem i1{a b:Key}(h:bj a b=0):a=b:=by
 unfold bj at h
 split at h
 ·
  cases h
 split at h
 ·
  cases h
 rename_i h1 c
 have f:=yL _ _ h;obtain⟨o,i⟩:=a;obtain⟨p,q⟩:=b;simp only at h1 c f
 congr 1
 ·
  omega
 cases i;simp_all
theorem va(r:Rec) (k:Key):∀(l:List Rec) (b:Bool),ay (eB r l b) k=if k=r.key then (if b then none else some r) else ay l k:=by
 intro l
 induction l with
 | nil=>
  intro b
  unfold eB ay
  grind
 | cons x xs a=>
  intro b;have h1:=a (b || decide (0≤bj x.key r.key))
  unfold eB
  unfold ay at h1 ⊢
  rw [List.find?_append,List.find?_append,h1]
  by_cases h:k=r.key
  ·
   subst h;simp only [if_true]
   by_cases hc:bj x.key r.key=0
   ·
    grind
   have f:x.key≠r.key:=fun e=>hc (by rw [e];exact fe _)
   grind
  simp only [if_neg h]
  have hr:(r.key == k)=false:=by simp;exact fun e=>h e.symm
  have c:(List.find? (fun y=>y.key == k) (if (decide (0≤bj x.key r.key) && !b)=true then [r] else []))=none:=by split <;> simp [hr]
  rw [c]
  by_cases hc:bj x.key r.key=0
  ·
   have e:x.key=r.key:=i1 hc
   grind
  grind
theorem cD(l:List Rec) (r:Rec) (k:Key):ay (ez l r) k=if k=r.key then some r else ay l k:=by grind [ez,va]
theorem rO(f:Rec→Rec) (a:∀r,(f r).key=r.key) (k:Key) (l:List Rec):ay (l.map f) k=(ay l k).map f:=by
 unfold ay
 rw [List.find?_map,show((fun x:Rec=>x.key == k)∘f)=(fun x:Rec=>x.key == k) from funext fun x=>by simp [a]]
/-! ### what goes on being so -/
theorem aN{x:bZ}{k:Key}:aA x k=true↔∃r,ay x.ai k=some r∧r.ak=x.ad:=by
 unfold aA aD
 cases a:ay x.ai k with
 | none=>simp
 | some r=>simp
theorem fq{x:bZ}{g:List Key}{k:Key}(h:(ay x.ai k).isSome=true) (hk:k∈g):aA (dI x g false) k=true:=by
 obtain⟨r,h1⟩:=Option.isSome_iff_exists.1 h;have a:=List.find?_some h1
 simp at a
 refine aN.2 ⟨aW x.ad g false r,?_,?_⟩
 ·
  show ay (x.ai.map (aW x.ad g false)) k=_
  grind [rO,bV]
 show _=x.ad
 grind [aW]
theorem i6{x:bZ}{r:Rec}(hr:r.ak=x.ad):aA {x with ai:=ez x.ai r} r.key=true:=
 aN.2 ⟨r,by show ay (ez x.ai r) r.key=_;rw [cD,if_pos rfl],hr⟩
section
variable {aa:List aF}{val:Key→ByteArray}{aC:List bG}
/-! ### more fuel does no harm -/
/-! ### there is fuel enough -/
end
end Go.Rc

namespace Go.Rc
open Go
end Go.Rc

namespace Go.Rc
open Go
/-! ### the order of keys -/
theorem rP:∀a b:List UInt8,Lib.compareBytes b a = - Lib.compareBytes a b
 | [],[]=>rfl
 | [],_::_=>rfl
 | _::_,[]=>rfl
 | x::a,y::b=>by
  simp only [Lib.compareBytes]
  by_cases h1:x<y
  ·
   grind
  by_cases c:y<x
  ·
   grind
  rw [if_neg c,if_neg h1,if_neg h1,if_neg c,rP a b]
theorem pg:∀a b c:List UInt8,Lib.compareBytes a b<0→Lib.compareBytes b c<0→Lib.compareBytes a c<0
 | _,[],[],_,h=>by simp [Lib.compareBytes] at h
 | [],[],_::_,h,_=>by simp [Lib.compareBytes] at h
 | _::_,[],_::_,h,_=>by simp [Lib.compareBytes] at h
 | _,_::_,[],_,h=>by simp [Lib.compareBytes] at h
 | [],_::_,_::_,_,_=>by simp [Lib.compareBytes]
 | x::a,y::b,z::c,h1,f=>by
  simp only [Lib.compareBytes] at h1 f ⊢
  by_cases e1:x<y
  ·
   grind
  rw [if_neg e1] at h1
  by_cases e3:y<x
  ·
   rw [if_pos e3] at h1;simp at h1
  rw [if_neg e3] at h1
  by_cases e2:y<z
  ·
   grind
  rw [if_neg e2] at f
  by_cases i:z<y
  ·
   rw [if_pos i] at f;simp at f
  rw [if_neg i] at f;rw [if_neg (by grind),if_neg (by grind)];exact pg a b c h1 f
theorem fN(a b:Key):bj b a = - bj a b:=by
 unfold bj
 by_cases h1:a.kind<b.kind
 ·
  grind
 by_cases c:b.kind<a.kind
 ·
  grind
 rw [if_neg c,if_neg h1,if_neg h1,if_neg c,rP]
theorem eX{a b c:Key}(h1:bj a b<0) (f:bj b c<0):bj a c<0:=by
 unfold bj at h1 f ⊢
 by_cases e1:a.kind<b.kind
 ·
  grind
 rw [if_neg e1] at h1
 by_cases h:b.kind<a.kind
 ·
  rw [if_pos h] at h1;simp at h1
 rw [if_neg h] at h1
 by_cases e2:b.kind<c.kind
 ·
  rw [if_pos (by omega)];decide
 rw [if_neg e2] at f
 by_cases e3:c.kind<b.kind
 ·
  rw [if_pos e3] at f;simp at f
 rw [if_neg e3] at f;rw [if_neg (by omega),if_neg (by omega)];exact pg _ _ _ h1 f
def lk(l:List Rec):Prop:=l.Pairwise fun a b=>bj a.key b.key<0
theorem ph(r:Rec):∀l:List Rec,eB r l true=l.filter fun x=>!decide (bj x.key r.key=0)
 | []=>rfl
 | x::xs=>by
  simp only [eB,Bool.not_true,Bool.and_false,Bool.false_eq_true,if_false,Bool.true_or,List.nil_append,ph r xs,List.filter_cons]
  grind
theorem lk.put{r:Rec}:∀{l:List Rec},lk l→lk (ez l r)
 | [],_=>by simp [lk,ez,eB]
 | x::xs,h=>by
  obtain⟨h1,c⟩:=List.pairwise_cons.1 h;have i:lk (ez xs r):=lk.put c;have f:lk (xs.filter fun y=>!decide (bj y.key r.key=0)):=List.Pairwise.filter _ c
  show lk (eB r (x::xs) false)
  simp only [eB,Bool.not_false,Bool.and_true,Bool.false_or]
  by_cases c1:bj x.key r.key<0
  ·
   rw [decide_eq_false (show ¬0≤bj x.key r.key by omega),if_neg (show ¬bj x.key r.key=0 by omega)];simp only [Bool.false_eq_true,if_false,List.nil_append,List.singleton_append];refine List.pairwise_cons.2 ⟨fun y a=>?_,i⟩
   grind [dY]
  rw [decide_eq_true (show 0≤bj x.key r.key by omega),ph];simp only [if_true]
  by_cases c2:bj x.key r.key=0
  ·
   rw [if_pos c2];simp only [List.append_nil,List.singleton_append];refine List.pairwise_cons.2 ⟨fun y a=>?_,f⟩
   grind [i1]
  rw [if_neg c2];simp only [List.singleton_append,List.cons_append]
  have c3:bj r.key x.key<0:=by rw [fN x.key r.key];omega
  refine List.pairwise_cons.2 ⟨fun y a=>?_,List.pairwise_cons.2 ⟨fun y a=>h1 y (List.mem_filter.1 a).1,f⟩⟩
  grind [eX]
theorem lk.jC{l:List Rec}(h:lk l) (hn:l.length≤4000) (c:∀r∈l,cR r=true):jC l:=by
 refine⟨hn,fun i x a=>⟨c x (List.mem_of_getElem? a),fun hi=>?_⟩⟩;obtain⟨hl,rfl⟩:=List.getElem?_eq_some_iff.1 a;rw [getElem!_pos l (i - 1) (by omega)];exact List.pairwise_iff_getElem.1 h (i - 1) i (by omega) hl (by omega)
/-! ### values are short -/
section
variable {aa:List aF}{aC:List bG}
theorem rQ{n:Nat}(h:n≤65535):(itoa (n:Int)).size≤6:=by
 have e:Lib.itoa (n:Int)=Lib.decDigits n:=by unfold Lib.itoa;rw [if_neg (by omega)];rfl
 grind [itoa,Lib.decDigits,ByteArray.size]
theorem xD(hR:ao aa) {i:Nat}(hi:i<aa.length):∃n:Nat,n≤65535∧valOf aa aC (aK aa (i:Int))=itoa (n:Int):=by
 have h1:=di (aC:=aC) hR hi;rw [fW hR hi (eL _ _ _).2] at h1;have hc:=ao.hb hR _ (List.getElem_mem hi);refine⟨_,mC (kind:=aa[i].final) (c:=aa[i].c.toNat) (l:=(cZ (bP aa (aK aa (i:Int))) (valOf aa aC) (cj aa i)).2.map ct) (by omega) (fun x a=>?_),?_⟩
 ·
  grind [lB]
 grind
theorem BF(hR:ao aa) {i:Nat}(hi:aa.length≤i):oc aa aC i=⟨#[]⟩:=by
 have hk:aK aa (i:Int)=de:=by unfold aK;rw [if_pos (by omega)]
 unfold oc lO
 rw [if_neg (by rw [iR hi];simp),hk]
 unfold bP
 rw [if_pos (.inl (by unfold number de;simp))]
theorem xE(hR:ao aa) (hi:∀x∈aC,x.value.size≤1000) (k:Key):(valOf aa aC k).size≤1000:=by
 by_cases hk:ax k=true
 ·
  unfold valOf cellOf
  rw [if_pos hk]
  unfold aL
  cases a:aC.find? fun x=>x.key == k with
  | none=>simp [ByteArray.size]
  | some x=>grind
 have e:valOf aa aC k=oc aa aC (number k).toNat:=by unfold valOf;rw [if_neg hk]
 rw [e]
 rcases Nat.lt_or_ge (number k).toNat aa.length with h | h
 ·
  rw [← fc hR h];obtain⟨n,hn,c⟩:=xD (aC:=aC) hR h
  grind [rQ]
 grind [BF,ByteArray.size]
theorem pj(aa:List aF) (aC:List bG) (i:Nat):(cp aa aC i).length=cj aa i:=(eL _ _ _).1
theorem i7(hR:ao aa) {i:Nat}(hi:i<aa.length):∀a∈cp aa aC i,dh aa i a:=by
 have key:∀n,n≤cj aa i→∀a∈(cZ (bP aa (aK aa (i:Int))) (valOf aa aC) n).1,dh aa i a:=by
  intro n
  induction n with
  | zero=>intro _ a c;simp [cZ] at c
  | succ n f=>grind [cZ,dB,eL]
 exact key _ (Nat.le_refl _)
theorem eV.valid{k:Key}(h:eV aa k):dZ k=true:=by
 cases h with
 | cell h=>
  rename_i n
  have hc:bd (n:Int)=⟨30,itoa (n:Int)⟩:=by unfold bd;rw [if_neg (by omega)]
  rw [hc]
  unfold dZ number
  simp only [];rw [if_pos (by omega)]
  grind [gy]
 | eU h gT=>
  rename_i i
  have h1:=br h gT;have a:=cY h gT
  unfold dZ
  grind
end
section
variable {aa:List aF}{aC:List bG}{s t:ES}{k:Key}
theorem aI{l:List Rec}{r:Rec}(h:ay l k=some r):r∈l∧r.key=k:=by grind [ay]
def lS(aa:List aF) (j:Nat):Nat:=if az aa j then aZ aa j else j
def Lw(aa:List aF) (i b:Nat):Prop:=if az aa i then aZ aa i≤b else i<b
theorem Ea(hR:ao aa) {i:Nat}(hi:i<aa.length) {ae:List ByteArray}(hn:ae.length<cj aa i) :
  ∃a,bP aa (aK aa (i:Int)) ae=⟨false,⟨#[]⟩,a⟩∧dh aa i a∧∀m:Nat,m<aa.length→a=aK aa (m:Int)→Lw aa m (lS aa i)∧∀b,Lw aa i b→Lw aa m b:=by
 have G:=hR.len;obtain⟨a,h1,c,h⟩:=dB hR hi hn;refine⟨a,h1,c,fun m hm o=>?_⟩;have hb:=dO aa m
 cases hr:az aa i with
 | false=>
  have H:m<i:=by
   rcases c with⟨n,f,rfl⟩ | ⟨p,f,rfl,_,q,_⟩
   ·
    grind [aY,bQ]
   grind [df]
  unfold Lw lS
  grind
 | true=>
  unfold Lw lS
  rw [hr];simp only [if_true]
  cases I:az aa m with
  | false=>
   have J:m<aZ aa i:=by
    rcases c with⟨n,f,rfl⟩ | ⟨p,f,rfl,_,_,_,q⟩
    ·
     grind [aY,bQ]
    grind [df]
   grind
  | true=>
   obtain⟨x,r,u⟩:=h hr;have v:=List.mem_of_getElem? r
   have y:outside aa x=false:=by grind [gN,bu]
   obtain⟨L,z,E,F⟩:=fM hR hi hr v y
   have:=df hR F hm (E.symm.trans (u.symm.trans o))
   subst this;have N:=gM hR (bY.step bY.refl z)
   grind
end
end Go.Rc

namespace Go.Rc
open Go
theorem dP(x:Rec):cR x=true↔(∀a∈x.reads,dZ a=true)∧dZ x.key=true∧ax x.key=false∧(x.value.size:Int)≤1073741824∧(x.reads.length:Int)≤4000∧0≤x.changed∧x.changed≤x.ak∧x.ak≤1073741824∧1≤x.cost∧x.cost≤1073741824∧(x.bU=false∨aw x.key=true):=by
 unfold cR dL
 grind
structure BG (s:ES):Prop where
 st:lk s.b.ai
 v:∀r∈s.b.ai,cR r=true∧r.ak≤s.b.ad
 r0:0≤s.b.ad
 r1:s.b.ad≤1073741824
section
variable {aa:List aF}{aC:List bG}{val:Key→ByteArray}{s t:ES}{k:Key}
theorem lk.map{l:List Rec}(h:lk l) {f:Rec→Rec}(a:∀r,(f r).key=r.key):lk (l.map f):=by grind [lk]
theorem BG.BH(h:BG s) (g:List Key):BG {s with b:=dI s.b g false}:=by
 refine⟨h.st.map fun r=>(bV _ _ _ r).1,fun r hr=>?_,h.r0,h.r1⟩;obtain⟨q,o,rfl⟩:=List.mem_map.1 hr;obtain⟨h1,p⟩:=h.v q o;have h0:=h.r0;have u:=h.r1
 unfold aW
 by_cases hk:q.key∈g
 ·
  rw [if_pos hk];simp only [Bool.false_eq_true,if_false];rw [dP] at h1 ⊢;obtain⟨a,b,c,d,e,f,g,i,j,k,l⟩:=h1;exact⟨⟨a,b,c,d,e,f,by grind,u,j,k,l⟩,Int.le_refl _⟩
 rw [if_neg hk];exact⟨h1,p⟩
theorem BG.BI(h:BG s) {g:List Key}(hc:∀x∈g,aw x=true):BG {s with b:=dI s.b g true}:=by
 refine⟨h.st.map fun r=>(bV _ _ _ r).1,fun r hr=>?_,h.r0,h.r1⟩;obtain⟨q,p,rfl⟩:=List.mem_map.1 hr;obtain⟨h1,o⟩:=h.v q p
 unfold aW
 by_cases hk:q.key∈g
 ·
  rw [if_pos hk];simp only [if_true];rw [dP] at h1 ⊢;obtain⟨a,b,c,d,e,f,g,i,j,k,l⟩:=h1;exact⟨⟨a,b,c,d,e,f,g,i,j,k,.inr (hc _ hk)⟩,o⟩
 rw [if_neg hk];exact⟨h1,o⟩
theorem xF{l:List Rec}{rev:Int}(hk:aw k=true):∀x∈aB l rev k,aw x=true:=fun x a=>by
 unfold aB at a
 split at a
 ·
  rw [rL,List.mem_cons] at a
  rcases a with rfl | a
  ·
   exact hk
  obtain⟨r,hr,rfl⟩:=List.mem_map.1 a
  have:=(List.mem_filter.1 hr).2
  unfold HI at this
  simp only [Bool.and_eq_true] at this;have c:=(kS.1 this.2.1).kg
  unfold bH at c
  grind
 grind
theorem BG.put(h:BG s) {r:Rec}{bO:List Key}(c:cR r=true) (hr:r.ak≤s.b.ad):BG {s with b:={s.b with ai:=ez s.b.ai r},bO:=bO}:=
 ⟨h.st.put,fun q a=>by rcases dY _ _ _ _ a with rfl | a;exact⟨c,hr⟩;exact h.v q a,h.r0,h.r1⟩
theorem zD(hR:ao aa) {ae:List ByteArray}(h:hK aa k ae.length) (a:(aO aa k ae).done=true):(aO aa k ae).value.size≤6:=by
 obtain⟨i,hi,rfl,hn⟩:=h;have c:=hR.len;rw [iZ hi (by omega)] at a ⊢
 rcases Nat.lt_or_ge ae.length (cj aa i) with f | o
 ·
  grind [dB]
 rw [fW hR hi (by omega)];have hc:=ao.hb hR _ (List.getElem_mem hi);exact rQ (mC (by omega) fun x p=>by grind [lB])
theorem xG(hR:ao aa) (h:BG s) {ae:List ByteArray}{reads:List Key}(f:hK aa k ae.length) (q:(aO aa k ae).done=true) (hl:reads.length=ae.length) (hr:∀a∈reads,eV aa a) :
  cR (cc s.b k (aO aa k ae).value reads)=true:=by
 have z:=f.le hR;have E:=zD hR f q;have h0:=h.r0;have h1:=h.r1;rw [dP]
 unfold cc
 have u:∀c:Int,(c=if (ay s.b.ai k).isSome && decide ((aD s.b.ai k).value=(aO aa k ae).value) then (aD s.b.ai k).changed else s.b.ad)→0≤c∧c≤s.b.ad:=fun c hc=>by
  split at hc
  ·
   rename_i i
   simp only [Bool.and_eq_true] at i;obtain⟨r,y⟩:=Option.isSome_iff_exists.1 i.1;have hm:=(aI y).1;obtain⟨o,p⟩:=h.v r hm
   grind [dP,aD]
  omega
 obtain⟨o,p⟩:=u _ rfl;exact⟨fun a hm=>(hr a hm).valid,(f.LO hR).valid,(f.not hR).2,by grind,by grind,o,p,h1,by grind,by grind,.inl rfl⟩
end
end Go.Rc

namespace Go.Rc
open Go
theorem xH{α:Type}{R:α→α→Prop}(ht:∀a b c,R a b→R b c→R a c) {l:List α}(h:∀(i:Nat) (hi:i+1<l.length),R (l[i]'(by omega)) l[i+1]):l.Pairwise R:=by
 refine List.pairwise_iff_getElem.2 fun i j hi f o=>?_;obtain⟨d,rfl⟩:∃d,j=i+1+d:=⟨j - (i+1),by omega⟩
 induction d with
 | zero=>exact h i f
 | succ d p=>grind
def oe(l:List bG):Prop:=l.Pairwise fun a b=>bj a.key b.key<0
def Eb(rev:Int) (x:bG):Prop:=dZ x.key=true∧ax x.key=true∧(x.value.size:Int)≤1073741824∧0≤x.changed∧x.changed≤rev
theorem xI{rev:Int}{l:List bG}:sL rev l↔oe l∧∀x∈l,Eb rev x:=by
 constructor
 ·
  intro h
  have h1:∀(i:Nat) (hi:i<l.length),Eb rev l[i]∧(0<i→bj (l[i - 1]!).key l[i].key<0):=fun i hi=>by
   have o:=h i _ (ah hi)
   unfold eS at o
   simp only [getElem!_pos l i hi,Bool.or_eq_false_iff,Bool.not_eq_false',Bool.and_eq_false_iff,decide_eq_false_iff_not] at o;obtain⟨a,b,c,d,e,f⟩:=o;exact⟨⟨a,b,by omega,by omega,by omega⟩,fun h0=>by rcases c with c | c <;> omega⟩
  refine⟨xH (R:=fun a b:bG=>bj a.key b.key<0) (fun a b c h k=>eX h k) fun i hi=>?_,fun x q=>?_⟩
  ·
   grind
  grind [List.mem_iff_getElem]
 rintro⟨h1,o⟩ i y p;obtain⟨hi,rfl⟩:=List.getElem?_eq_some_iff.1 p;obtain⟨a,b,c,d,e⟩:=o _ (List.getElem_mem hi)
 unfold eS
 simp only [getElem!_pos l i hi,Bool.or_eq_false_iff,Bool.not_eq_false',Bool.and_eq_false_iff,decide_eq_false_iff_not];refine⟨a,b,?_,by omega,by omega,by omega⟩
 by_cases h0:0<i
 ·
  right
  rw [getElem!_pos l (i - 1) (by omega)]
  have:=List.pairwise_iff_getElem.1 h1 (i - 1) i (by omega) hi (by omega)
  omega
 left
 omega
def dm(n:bG):List bG→Bool→List bG
 | [],put=>if put then [] else [n]
 | x::xs,put=>(if decide (0≤bj x.key n.key) && !put then [n] else [])++(if bj x.key n.key=0 then [] else [x])++dm n xs (put || decide (0≤bj x.key n.key))
theorem pk(n:bG):∀(l:List bG) (b:Bool) (x:bG),x∈dm n l b→x=n∨x∈l:=by
 intro l
 induction l with
 | nil=>grind [dm]
 | cons y a c=>grind [dm]
theorem mI(n:bG):∀l:List bG,dm n l true=l.filter fun x=>!decide (bj x.key n.key=0)
 | []=>rfl
 | x::xs=>by
  simp only [dm,Bool.not_true,Bool.and_false,Bool.false_eq_true,if_false,Bool.true_or,List.nil_append,mI n xs,List.filter_cons]
  grind
theorem jG(n:bG):∀(l:List bG) (b:Bool),(dm n l b).length≤l.length+1
 | [],b=>by cases b <;> simp [dm]
 | x::xs,b=>by
  by_cases h:(decide (0≤bj x.key n.key) && !b)=true
  ·
   have hb:(b || decide (0≤bj x.key n.key))=true:=by simp at h;simp [h.1]
   simp only [dm,List.length_append,List.length_cons];rw [if_pos h,hb,mI]
   grind
  have a:=jG n xs (b || decide (0≤bj x.key n.key));simp only [dm,List.length_append,List.length_cons]
  grind
theorem oe.put{n:bG}:∀{l:List bG},oe l→oe (dm n l false)
 | [],_=>by simp [oe,dm]
 | x::xs,h=>by
  obtain⟨h1,c⟩:=List.pairwise_cons.1 h;have i:oe (dm n xs false):=oe.put c;have f:oe (xs.filter fun y=>!decide (bj y.key n.key=0)):=List.Pairwise.filter _ c
  show oe (dm n (x::xs) false)
  simp only [dm,Bool.not_false,Bool.and_true,Bool.false_or]
  by_cases c1:bj x.key n.key<0
  ·
   rw [decide_eq_false (show ¬0≤bj x.key n.key by omega),if_neg (show ¬bj x.key n.key=0 by omega)];simp only [Bool.false_eq_true,if_false,List.nil_append,List.singleton_append];refine List.pairwise_cons.2 ⟨fun y a=>?_,i⟩
   grind [pk]
  rw [decide_eq_true (show 0≤bj x.key n.key by omega),mI];simp only [if_true]
  by_cases c2:bj x.key n.key=0
  ·
   rw [if_pos c2];simp only [List.append_nil,List.singleton_append];refine List.pairwise_cons.2 ⟨fun y a=>?_,f⟩
   grind [i1]
  rw [if_neg c2];simp only [List.singleton_append,List.cons_append]
  have c3:bj n.key x.key<0:=by rw [fN x.key n.key];omega
  refine List.pairwise_cons.2 ⟨fun y a=>?_,List.pairwise_cons.2 ⟨fun y a=>h1 y (List.mem_filter.1 a).1,f⟩⟩
  grind [eX]
end Go.Rc

namespace Go.Rc
open Go
def Ec(r:aF):Prop:=r.ring=false∧r.asks=[]∧r.final=1∧0≤r.c∧r.c≤99
theorem Ec.key{aa:List aF}{i:Nat}(hi:i<aa.length) (gT:i≤99) (h:Ec aa[i]):aK aa (i:Int)=⟨31,itoa i⟩:=by
 unfold aK
 rw [if_neg (by omega)]
 simp [bm hi,h.1]
end Go.Rc
namespace Go.Rc
open Go
def HJ(i:Nat) (v:ByteArray):Rec:=⟨⟨31,itoa i⟩,v,[],0,0,1,false⟩
def pn{α:Type}(l:List α) (p:α→Bool) (j:Int):Prop:=(∃i:Nat,∃x,l[i]?=some x∧p x=true∧(∀j x,j<i→l[j]?=some x→p x=false)∧j=i)∨((∀x∈l,p x=false)∧j = -1)
end Go.Rc
namespace Go.Rc
open Go
structure WD where
 (ar a1 a2:Option Addr) (r cr n1 c1 n2 c2 m v:Nat)
end Go.Rc

namespace Go.Rc
open Go
def qD(a b:Int):Int:=if a<b then -1 else if b<a then 1 else 0
def HK(l:List Int):Int:=(l.find? fun x=>decide (x≠0)).getD 0
theorem HL{l:List Int}{i:Nat}(hi:i<l.length) (a:∀j x,j<i→l[j]?=some x→x=0) (h:l[i]≠0):HK l=l[i]:=by grind [HK,fV]
theorem Ed{l:List Int}(h:∀x∈l,x=0):HK l=0:=by grind [HK,List.find?_eq_none]
theorem Ee{a b:Key}:HK [qD a.kind b.kind,Lib.compareBytes a.text.data.toList b.text.data.toList]=bj a b:=by
 unfold HK qD bj
 grind
theorem vb{α:Type}{R:α→List Value→Prop}{x y:α}{r s:List Value}(h1:R x r) (a:R y s):∀(i:Nat) (z:α) (t:List Value),[x,y][i]?=some z→[r,s][i]?=some t→R z t:=fun i z t c ht=>by grind
theorem eV.shape{aa:List aF}{k:Key}(h:eV aa k):∃i:Nat,i≤99∧k.text=itoa i∧(30≤k.kind∧k.kind≤32):=by
 cases h with
 | cell h=>rename_i n;exact⟨n,h,by unfold bd;rw [if_neg (by omega)],by unfold bd;rw [if_neg (by omega)];simp⟩
 | eU h gT=>rename_i i;exact⟨i,gT,by unfold aK;rw [if_neg (by omega)],by grind [cY]⟩
theorem eV.cn{aa:List aF}{k:Key}(h:eV aa k):cn k:=by
 obtain⟨_,_,_,h1⟩:=h.shape;exact .inr (by omega)
theorem lT{aa:List aF}{k:Key}(h:eV aa k) (hc:aw k=true):k.kind=32:=by
 cases h with
 | cell h=>grind [gL]
 | eU h gT=>grind [bu,cY]
theorem pn.any{α:Type}{l:List α}{p:α→Bool}{j:Int}(h:pn l p j):decide (0≤j)=l.any p:=by
 rcases h with⟨i,x,h1,a,_,rfl⟩ | ⟨h1,rfl⟩
 ·
  grind
 grind
def BJ(aa:List aF) (x:Rec):Prop:=eV aa x.key∧ax x.key=false∧(∀a∈x.reads,eV aa a)∧cR x=true
def po(aa:List aF) (x:bZ):Prop:=0≤x.ad∧x.ad≤1073741824∧(oe x.ab∧∀y∈x.ab,Eb x.ad y)∧(∀y∈x.ab,∃i:Nat,i≤99∧y.key=⟨30,itoa i⟩)∧x.ab.length≤64∧(∀r∈x.ai,BJ aa r)∧lk x.ai∧x.ai.length≤4000∧∀r∈x.ai,r.ak≤x.ad
end Go.Rc

namespace Go.Rc
open Go
section
variable {l l':List aF}
def bs(l l':List aF):Prop:=l.map (·.ring)=l'.map (·.ring)
theorem bs.len(h:bs l l'):l.length=l'.length:=by simpa using congrArg List.length h
theorem bs.rg(h:bs l l') (i:Nat):az l i=az l' i:=by
 have a:=congrArg (fun x=>x[i]?) h
 grind [az]
theorem bs.lo(h:bs l l'):∀k,aZ l k=aZ l' k
 | 0=>rfl
 | k+1=>by unfold aZ;rw [h.rg k,h.lo k]
theorem jh:∀{l l':List aF},bs l l'→(l.takeWhile (·.ring)).length=(l'.takeWhile (·.ring)).length
 | [],[],_=>rfl
 | [],_::_,h=>by simp [bs] at h
 | _::_,[],h=>by simp [bs] at h
 | x::r,y::s,h=>by
  simp only [bs,List.map_cons,List.cons.injEq] at h;have a:=jh (l:=r) (l':=s) h.2
  grind [List.takeWhile_cons]
theorem bs.hi(h:bs l l') (m:Nat):cF l m=cF l' m:=by grind [cF,jh,bs,List.map_drop]
theorem bs.block(h:bs l l') (n:Int):block l n=block l' n:=by
 unfold Go.Rc.block
 rw [h.len,h.rg,h.lo,h.hi]
theorem bs.may(h:bs l l') (i:Nat) (c:Bool) (n:Int):eK l i c n=eK l' i c n:=by grind [eK,eR,rg,block]
theorem bs.ask(h:bs l l') (i:Nat) (g:Bool) (k:Nat) (x:Ask):fG l i g k x=fG l' i g k x:=by
 unfold fG
 rw [h.may,h.may]
theorem bs.eU(h:bs l l') (i:Nat) (r:aF):kL l i r↔kL l' i r:=by
 unfold kL
 simp only [h.ask]
theorem bs.set{i:Nat}(hi:i<l.length) {r:aF}(hr:r.ring=az l i):bs (l.set i r) l:=by
 unfold bs
 rw [List.map_set,hr,bm hi];refine List.ext_getElem? fun j=>?_
 grind
def ia(l:List aF) (i:Nat):Prop:=l.length≤8∧∀(j:Nat) (r:aF),l[j]?=some r→j<i→kL l j r
theorem ia.start(h:l.length≤8):ia l 0:=⟨h,fun _ _ _ h=>by omega⟩
theorem ia.set{i:Nat}(h:ia l i) (hi:i<l.length) {r:aF}(hr:r.ring=az l i) (f:kL l i r):ia (l.set i r) (i+1):=by
 have c:=bs.set hi hr;refine⟨by rw [List.length_set];exact h.1,fun j x a o=>?_⟩;rw [c.eU];rw [List.getElem?_set] at a
 split at a
 ·
  grind
 exact h.2 j x a (by omega)
theorem ia.ok(h:ia l l.length):ao l:=⟨by have:=h.1;omega,fun i r hr=>h.2 i r hr (List.getElem?_eq_some_iff.1 hr).1⟩
theorem HM{i k:Nat}{g:Bool}{x:Ask}{most:Int}(hm:most=if x.cell then 4 else eR l i) (h0:0≤x.n) (h1:x.n<most) (a:x.pick=true→g=false∧k≠0∧0≤x.zj∧x.zj<most) (he:x.pick=false→x.zj=0):fG l i g k x=true:=by grind [eK,fG]
end
end Go.Rc

namespace Go.Rc
open Go
def As.gP(E d:Nat):As where
 fp x:=x=d
 ok Z w:=xr Z w E d
 lt h x hx:=by subst hx;exact h.lt
 mono hZ h:=by
  obtain⟨l,a,n,c,t,h1,h2,h3⟩:=h;exact⟨l,a,n,c,t,h1,SR.mono h2 (fun b hb _=>hZ b hb) (fun _ _ h=>h),h3⟩
 st hs hc h:=by
  obtain⟨l,a,n,c,t,h1,h2,h3⟩:=h;exact⟨l,a,n,c,t,(As.blk d E _).st (Z:=fun _=>False) hs (fun x hx=>hc x (hx.imp id False.elim)) h1,SR.st hs (fun x hx=>hc x (.inr hx)) (fun _ _ h=>h) h2,h3⟩
theorem As.gd{E d:Nat}{Z:Nat→Prop}{w:World}(h:(As.gP E d).ok Z w):xr Z w E d:=h
def RR.cH:RR Change:=RR.flat Change.cells
def begun(g:Bool):aF:=⟨g,[],0,0⟩
theorem Ow.flat{α:Type}{f:α→List Value}{b T k n:Nat}{Z:Nat→Prop}{w:World}{xs:List α}{l:List Value}(h:bC w b T l) (hl:l=(xs.map f).flatten) (hk:∀x∈xs,(f x).length=k) (h1:∀u∈l,u.oneCell'=true) (hn:n=xs.length) (hm:xs.length≤140737488355328) :
  Ow (RR.flat f) T k Z w (some ⟨b,0,none⟩) n n xs:=by
 subst hn hl
 have hlen:∀(a:List α),(∀x∈a,(f x).length=k)→(a.map f).flatten.length=a.length*k:=by
  intro a
  induction a with
  | nil=>simp
  | cons y a o=>grind
 refine⟨rfl,xs.map f,by simp,by simpa using hk,by simpa using OL.blk (k:=k) h (Nat.zero_le _) (m:=xs.length) (hlen xs hk) h1 hm,fun i x r c hr=>?_⟩;rw [List.getElem?_map,c] at hr
 simp at hr
 exact hr.symm
def As.R3{ι:Type}(b T:Nat) (F:ι→List Value):As where
 fp x:=x=b
 ok _ w:=∃i,bC w b T (F i)
 lt h x hx:=by obtain⟨i,h⟩:=h;subst hx;exact h.lt
 mono _ h:=h
 st hs hc h:=by obtain⟨i,h⟩:=h;exact⟨i,(As.blk b T _).st (Z:=fun _=>False) hs (fun x hx=>hc x (hx.imp id False.elim)) h⟩
theorem Ow.ring{E n c i b:Nat}{Z:Nat→Prop}{w:World}{a:Option Addr}{l:List aF}(h:Ow RR.eU E 4 Z w a n c l) (o:a=some ⟨b,0,none⟩) (hle:l.length≤140737488355328) (hi:i<l.length):w.rangeAt b (0+i*4) [.bool l[i].ring]:=by
 obtain⟨b',r,h1,_,p,q⟩:=Ow.at h hle (ah hi);rw [o] at h1;simp only [Option.some.injEq,Addr.mk.injEq,and_true] at h1;subst h1;obtain⟨u,y,z,rfl,_⟩:=p;intro j v f
 cases j with
 | zero=>exact q 0 v f
 | succ j=>simp at f
theorem sT(l:List aF) (m:Nat) (hm:m≤l.length):cF l m≤l.length:=by grind [cF,List.takeWhile_sublist]
theorem qE{l:List aF}{i:Nat}(hi:i<l.length):0≤eR l i∧eR l i≤l.length:=by
 have h1:=sT l (i+1) (by omega)
 have hb:block l (i:Int)=if az l i then ((aZ l i:Int),(cF l (i+1):Int)) else ((i:Int),(i:Int)+1):=by
  unfold block;grind
 grind [eR]
theorem zF{l:List aF}{i:Nat}{g:Bool}{xs:List Ask}{x:Ask}(h:∀(k:Nat) y,xs[k]?=some y→fG l i g k y=true) (a:fG l i g xs.length x=true):∀(k:Nat) y,(xs++[x])[k]?=some y→fG l i g k y=true:=fun k y c=>by grind
end Go.Rc

namespace Go.Rc
open Go
theorem lk.ne{l:List Rec}(h:lk l) {i:Nat}(hi:i<l.length):∀y∈l.take i,y.key≠l[i].key:=fun y a e=>by
 obtain⟨j,c,rfl⟩:=List.mem_iff_getElem.1 a
 have f:j<i:=by simp at c;omega
 have h1:bj l[j].key l[i].key<0:=List.pairwise_iff_getElem.1 h j i (by omega) hi f
 grind [fN]
end Go.Rc

namespace Go.Rc
open Go
section
variable {κ:Type}{enc:κ→Value}
def DA(enc:κ→Value) (w:World) (b m:Nat) (l left:List (κ × Value)) (cur:Option (κ × Value)):Prop:=
 ∃es clock since seen,w.heap[m]?=some (.map es clock)∧(es.toList.map (fun e=>(e.key,e.val))=l.map (fun p=>(enc p.1,p.2))∧(l.map (·.1)).Nodup∧(∀e∈es.toList,e.born<clock)∧(es.toList.map (·.born)).Nodup)∧
  w.heap[b]?=some (.mapIter (some m) since seen clock)∧b≠m∧since≤clock∧(∀e∈es.toList,e.born<since)∧
  (leftOf es seen).toList.map (fun e=>(e.key,e.val))=left.map (fun p=>(enc p.1,p.2))∧
  ∀p,cur=some p→∃e∈es.toList,seen.back?=some e.born∧e.key=enc p.1∧e.val=p.2
variable {w w':World}{b m:Nat}{l left:List (κ × Value)}{cur:Option (κ × Value)}
theorem DA.lt(h:DA enc w b m l left cur):b<w.heap.size∧m<w.heap.size:=by
 obtain⟨es,clock,since,seen,h1,_,a,_⟩:=h;exact⟨(Array.getElem?_eq_some_iff.1 a).1,(Array.getElem?_eq_some_iff.1 h1).1⟩
def As.HN(enc:κ→Value) (b m:Nat) (l left:List (κ × Value)) (cur:Option (κ × Value)):As where
 fp x:=x=b∨x=m
 ok _ w:=DA enc w b m l left cur
 lt h x hx:=by rcases hx with rfl | rfl;exact h.lt.1;exact h.lt.2
 mono _ h:=h
 st hs hc h:=by
  have hl:=h.lt;obtain⟨es,clock,since,seen,h1,h2,h3,h4⟩:=h;exact⟨es,clock,since,seen,by rw [hc m (.inl (.inr rfl)) hl.2];exact h1,h2,by rw [hc b (.inl (.inl rfl)) hl.1];exact h3,h4⟩
theorem As.Ef{Z:Nat→Prop}(h:(As.HN enc b m l left cur).ok Z w):DA enc w b m l left cur:=h
def rR(enc:κ→Value):Option (κ × Value)→Array Value
 | none=>#[.bool false]
 | some p=>#[.bool true,enc p.1,p.2]
theorem yM(r:Option (κ × Value)):(rR enc r)[0]?=some (.bool r.isSome):=by cases r <;> rfl
theorem ji:∀(L:List MapEntry) (j:Nat) (e:MapEntry),(L.map (·.born)).Nodup→L[j]?=some e→L.filter (fun x=>!(x.born == e.born))=L.eraseIdx j
 | [],_,_,_,h=>by simp at h
 | x::r,0,e,hn,h=>by
  simp at h
  subst h;simp only [List.map_cons,List.nodup_cons] at hn;rw [List.filter_cons];simp only [beq_self_eq_true,Bool.not_true,Bool.false_eq_true,if_false,List.eraseIdx_zero,List.tail_cons];refine List.filter_eq_self.2 fun y a=>?_
  have:y.born≠x.born:=fun e=>hn.1 (e ▸ List.mem_map.2 ⟨y,a,rfl⟩)
  simpa using this
 | x::r,j+1,e,hn,h=>by
  simp only [List.map_cons,List.nodup_cons] at hn;simp only [List.getElem?_cons_succ] at h;have c:x.born≠e.born:=fun f=>hn.1 (f ▸ List.mem_map.2 ⟨e,List.mem_of_getElem? h,rfl⟩);rw [List.filter_cons,if_pos (by simpa using c),ji r j e hn.2 h,List.eraseIdx_cons_succ]
theorem vc(es:Array MapEntry) (seen:Array Nat) (b:Nat):(leftOf es (seen.push b)).toList=(leftOf es seen).toList.filter fun x=>!(x.born == b):=by
 unfold leftOf
 rw [Array.toList_filter,Array.toList_filter,List.filter_filter]
 congr 1
 funext x
 rw [Array.contains_push,Bool.not_or,Bool.and_comm]
theorem map_eraseIdx{α β:Type}(f:α→β):∀(l:List α) (j:Nat),(l.eraseIdx j).map f=(l.map f).eraseIdx j
 | [],_=>by simp
 | _::_,0=>by simp
 | x::r,j+1=>by simp [map_eraseIdx f r j]
variable {P:Program}{kv:KV}{n:Nat}{K:KV→World→Prop}{d:Tmp}{ty:TypeId}{pos:String}{af:Array Edge}{g:Option (Nat × Bool)}{T kt e:TypeId}{x:Operand}
theorem OX.range(hT:P.underlying T=some (.map kt e)) (hm:KM enc w m l) (c:ev kv x=some (.map (some m))) (f:Nat.blt d n=true)
  (h:∀b w',aQ [] w w'→w.heap.size≤b→DA enc w' b m l l none→K ((d,.pointer (some ⟨b,0,none⟩))::kv) w'):OX P ⟨some d,.range T x,ty,pos,af,g⟩ n kv w K:=by
 obtain⟨es,clock,h1,a⟩:=hm;have i:m<w.heap.size:=(Array.getElem?_eq_some_iff.1 h1).1;refine⟨rfl,f,by simp [known,opers,c],?_⟩
 have hr:(execOp (gw kv) ⟨some d,.range T x,ty,pos,af,g⟩).run P w=.ok (.value (.pointer (some ⟨w.heap.size,0,none⟩))) (w.alloc (.mapIter (some m) clock #[] clock)):=by
  simp only [execOp,aH c,Sem.run_bind,run_range_map w T kt e m es clock hT h1,Result.andThen_ok];rfl
 rw [hr];refine h _ _ (gD _ _) (Nat.le_refl _) ⟨es,clock,clock,#[],by rw [heap_alloc_old w _ (h:=i)];exact h1,a,heap_alloc_new _ _,by omega,Nat.le_refl _,a.2.2.1,?_,fun p o=>by cases o⟩
 have:leftOf es #[]=es:=by unfold leftOf;simp
 rw [this];exact a.1
theorem zG(hm:DA enc w b m l left cur):∃(r:Option (κ × Value)) (v:List (κ × Value)) (w':World),(Instr.next (.pointer (some ⟨b,0,none⟩)) false ty).run P w=.ok (.tuple (rR enc r)) w'∧aQ [b] w w'∧
  (match r with | none=>left=[]∧v=[] | some p=>∃j,left[j]?=some p∧v=left.eraseIdx j)∧DA enc w' b m l v r:=by
 obtain⟨es,clock,since,seen,h1,z,f,E,F,h,o,h8⟩:=hm;have O:b<w.heap.size:=(Array.getElem?_eq_some_iff.1 f).1
 have G:∀y∈(leftOf es seen).toList,y∈es.toList:=fun y c=>by
  unfold leftOf at c
  rw [Array.toList_filter] at c;exact(List.mem_filter.1 c).1
 have J:=next_test_false seen es since clock h F
 have e1:(leftOf es seen).filter (fun x=>decide (x.born<since))=leftOf es seen:=Array.filter_eq_self.2 fun y c=>by
  have:=h y (G y (by simpa using c))
  simpa using this
 have e2:(leftOf es seen).filter (fun x=>decide (x.born≥since))=#[]:=by
  rw [Array.filter_eq_empty_iff];intro y c
  have:=h y (G y (by simpa using c))
  simp
  omega
 have hlen:(leftOf es seen).size=left.length:=by simpa using congrArg List.length o
 by_cases h0:(leftOf es seen).size=0
 ·
  have Q:leftOf es seen=#[]:=Array.eq_empty_of_size_eq_zero h0
  have R:left=[]:=by cases left with
   | nil=>rfl
   | cons a r=>rw [h0] at hlen;simp at hlen
  subst R;refine⟨none,[],w,?_,aQ.refl _ _,⟨rfl,rfl⟩,es,clock,since,seen,h1,z,f,E,F,h,o,fun p u=>by cases u⟩;simp only [Instr.next,getObj,Sem.run_bind,Sem.run,f,h1,Result.andThen,J,Bool.false_eq_true,if_false];rw [show(es.filter fun e=>!seen.contains e.born)=leftOf es seen from rfl,Q]
  simp [choose,Sem.run,Question.forced,rR]
 have S:(leftOf es seen).isEmpty=false:=by simp [Array.isEmpty,h0]
 have U:∃(j:Nat) (w1:World),j<(leftOf es seen).size∧w1.heap=w.heap∧aQ [] w w1∧(choose (Question.mapNext (leftOf es seen).size)).run P w=.ok j w1:=by
  by_cases L:(leftOf es seen).size≤1
  ·
   exact⟨0,w,by omega,rfl,aQ.refl _ _,by simp [choose,Sem.run,Question.forced,L]⟩
  exact⟨_,w.drew,Nat.mod_lt _ (by omega),rfl,⟨rfl,rfl,rfl,Nat.le_refl _,Nat.le_succ _,fun _ _ _=>rfl⟩,by
   simp only [choose,Sem.run,Question.forced,decide_eq_true_eq,L,if_false,Question.cut]
   rfl⟩
 obtain⟨j,w1,V,H,W,X⟩:=U;obtain⟨y,c⟩:∃y,(leftOf es seen)[j]?=some y:=⟨_,Array.getElem?_eq_getElem V⟩
 have I:(leftOf es seen).toList[j]?=some y:=by rw [Array.getElem?_toList];exact c
 have Y:y∈es.toList:=G y (List.mem_of_getElem? I);obtain⟨p,u⟩:∃p,left[j]?=some p:=⟨_,List.getElem?_eq_getElem (by omega)⟩
 have i:(y.key,y.val)=(enc p.1,p.2):=by
  have:=congrArg (fun x=>x[j]?) o
  simp only [List.getElem?_map,I,u,Option.map_some,Option.some.injEq] at this;exact this
 simp only [Prod.mk.injEq] at i
 have hbn:((leftOf es seen).toList.map (·.born)).Nodup:=by
  unfold leftOf
  rw [Array.toList_filter];exact(List.filter_sublist.map _).nodup z.2.2.2
 refine⟨some p,left.eraseIdx j,{w1 with heap:=w1.heap.setIfInBounds b (.mapIter (some m) since (seen.push y.born) clock)},?_,?_,⟨j,u,rfl⟩,es,clock,since,seen.push y.born,?_,z,?_,E,F,h,?_,?_⟩
 ·
  simp only [Instr.next,getObj,Sem.run_bind,Sem.run,f,h1,Result.andThen,J,Bool.false_eq_true,if_false];rw [show(es.filter fun e=>!seen.contains e.born)=leftOf es seen from rfl,e1,e2];simp only [S,Bool.false_eq_true,if_false,Array.empty_append,Array.append_empty,Array.size_map,X,Array.getElem?_map,c,Option.map_some]
  have HO:(setObj b (.mapIter (some m) since (seen.push y.born) clock)).run P w1=.ok () {w1 with heap:=w1.heap.setIfInBounds b (.mapIter (some m) since (seen.push y.born) clock)}:=by
   simp only [setObj,Sem.run];rw [H,f]
  simp only [Sem.run_bind,HO,Result.andThen,rR,i.1,i.2]
  try rfl
 ·
  have:=fm w1 b (.mapIter (some m) since (seen.push y.born) clock)
  exact aQ.trans (aQ.mono W (by simp)) this
 ·
  show(w1.heap.setIfInBounds b _)[m]?=_
  rw [H,Array.getElem?_setIfInBounds_ne E];exact h1
 ·
  show(w1.heap.setIfInBounds b _)[b]?=_
  rw [H,Array.getElem?_setIfInBounds_self]
  simp [O]
 ·
  rw [vc,ji _ j y hbn I,map_eraseIdx,map_eraseIdx,o]
 intro q N;simp only [Option.some.injEq] at N;subst N;exact⟨y,Y,Array.back?_push,i.1,i.2⟩
theorem OX.next(hm:DA enc w b m l left cur) (c:ev kv x=some (.pointer (some ⟨b,0,none⟩))) (f:Nat.blt d n=true)
  (h:∀r a w',aQ [b] w w'→(match r with | none=>left=[]∧a=[] | some p=>∃j,left[j]?=some p∧a=left.eraseIdx j)→DA enc w' b m l a r→K ((d,.tuple (rR enc r))::kv) w'):OX P ⟨some d,.next x false,ty,pos,af,g⟩ n kv w K:=by
 obtain⟨r,a,w',h1,i,o,q⟩:=zG (P:=P) (ty:=ty) hm;refine⟨rfl,f,by simp [known,opers,c],?_⟩
 have hr:(execOp (gw kv) ⟨some d,.next x false,ty,pos,af,g⟩).run P w=.ok (.value (.tuple (rR enc r))) w':=by
  simp only [execOp,aH c,Sem.run_bind,h1,Result.andThen_ok];rfl
 rw [hr];exact h _ _ _ i o q
theorem PV.entry{p:κ × Value}(hm:DA enc w b m l left (some p)) (a:ev kv x=some (.pointer (some ⟨b,0,none⟩))):PV P (.entry x) ty kv w (.tuple #[enc p.1,p.2]):=by
 obtain⟨es,clock,since,seen,h1,c,f,_,_,_,_,h⟩:=hm;obtain⟨y,i,hb,hk,o⟩:=h p rfl;refine⟨rfl,by simp [known,opers,a],fun _ _ _ _=>?_⟩
 have q:es.find? (·.born == y.born)=some y:=by rw [← Array.find?_toList];exact find_born y es.toList c.2.2.2 i
 have:(Instr.entry (.pointer (some ⟨b,0,none⟩))).run P w=.ok (.tuple #[enc p.1,p.2]) w:=by
  simp only [Instr.entry,getObj,Sem.run_bind,Sem.run,f,h1,hb,Result.andThen,bne_self_eq_false,Bool.false_eq_true,if_false,q,hk,o]
  rfl
 simp only [execOp,aH a,Sem.run_bind,this,Result.andThen_ok]
 rfl
end
end Go.Rc

namespace Go.Rc
open Go
theorem jj{α:Type}:∀{l:List α}{j:Nat}{p q:α},l[j]?=some p→q∈l→q=p∨q∈l.eraseIdx j
 | [],_,_,_,_,h=>by cases h
 | x::r,0,p,q,h,a=>by grind
 | x::r,j+1,p,q,h,a=>by
  rcases List.mem_cons.1 a with rfl | a
  ·
   exact .inr (by simp)
  rcases jj (l:=r) (by simpa using h) a with h1 | h1
  ·
   exact .inl h1
  exact .inr (by simp [h1])
section
variable {aa:List aF}{aC:List bG}
theorem kP.aV(hR:ao aa) {i0:Nat}{L:List Nat}{u:Nat→Nat}{am:List (Key × Value)}(h:kP aa L u am) (hn:(am.map (·.1)).Nodup) (hr:cN aa aC i0 L u) (i:∀j∈L,u j=rv aa aC j) :
  ∀p∈am,p.2=.string (valOf aa aC p.1):=fun p f=>by
 have c:bw am p.1=some p.2:=(oN hn).2 f
 by_cases hk:∃j∈L,p.1=aK aa (j:Int)
 ·
  obtain⟨j,a,e⟩:=hk;obtain⟨o,q⟩:=hr.ring j a;rw [e,h.1 j a] at c
  grind [fc,fL]
 rw [h.2 p.1 fun j a e=>hk ⟨j,a,e⟩] at c
 cases c
theorem kP.first{i0:Nat}{L:List Nat}{u:Nat→Nat}{am:List (Key × Value)}(h:kP aa L u am) (hn:(am.map (·.1)).Nodup) (hr:cN aa aC i0 L u):∃p∈am,p.1=aK aa (i0:Int):=
 ⟨(_,_),(oN hn).1 (h.1 i0 hr.first),rfl⟩
theorem BL{am left ml:List (Key × Value)}{j:Nat}{p:Key × Value}(a:∀q∈am,q∈left∨bw ml q.1=some q.2) (he:∀q∈am,q.2=.string (valOf aa aC q.1)) (c:left[j]?=some p) :
  ∀q∈am,q∈left.eraseIdx j∨bw (cw ml p.1 (.string (valOf aa aC p.1))) q.1=some q.2:=fun q f=>by
 rw [dx]
 by_cases e:p.1=q.1
 ·
  grind
 rw [if_neg e]
 rcases a q f with h | h
 ·
  rcases jj c h with h1 | h1
  ·
   subst h1;exact absurd rfl e
  exact .inl h1
 exact .inr h
end
end Go.Rc

namespace Go.Rc
open Go
def gh(rev:Int) (l:List bG):Prop:=oe l∧(∀y∈l,Eb rev y)∧∀y∈l,(∃i:Nat,i≤9∧y.key=⟨30,itoa i⟩)∧y.value.size≤1000
theorem gh.nil(rev:Int):gh rev []:=⟨.nil,by simp,by simp⟩
theorem gh.mono{r s:Int}{l:List bG}(h:gh r l) (i:r≤s):gh s l:=⟨h.1,fun y f=>by obtain⟨a,b,c,d,e⟩:=h.2.1 y f;exact⟨a,b,c,d,by omega⟩,h.2.2⟩
theorem Change.small.key{c:Change}(h:c.small):∃i:Nat,i≤9∧c.key=⟨30,itoa i⟩:=by
 obtain⟨⟨n,h0,a,hk⟩,_⟩:=h;refine⟨n.toNat,by omega,?_⟩;rw [hk]
 unfold bd
 grind
theorem Change.small.ok{c:Change}(h:c.small):dZ c.key=true∧ax c.key=true:=by
 obtain⟨⟨n,h0,a,hk⟩,_⟩:=h;obtain⟨m,rfl⟩:∃m:Nat,n=(m:Int):=⟨n.toNat,by omega⟩;rw [hk];exact⟨eV.valid (aa:=[]) (.cell (by omega)),aY (by omega)⟩
theorem gh.put{rev:Int}{l:List bG}{c:Change}(h:gh rev l) (hc:c.small) (h0:0≤rev):gh rev (dm ⟨c.key,c.value,rev⟩ l false):=by
 refine⟨oe.put h.1,fun y a=>?_,fun y a=>?_⟩
 ·
  rcases pk _ _ _ _ a with rfl | a
  ·
   have:=hc.2
   exact⟨hc.ok.1,hc.ok.2,by grind,h0,Int.le_refl _⟩
  exact h.2.1 y a
 rcases pk _ _ _ _ a with rfl | a
 ·
  obtain⟨i,hi,hk⟩:=hc.key;exact⟨⟨i,by omega,hk⟩,Nat.le_trans hc.2 (by decide)⟩
 exact h.2.2 y a
theorem rS{α:Type} [BEq α] [LawfulBEq α]:∀{l U:List α},l.Nodup→(∀x∈l,x∈U)→l.length≤U.length
 | [],_,_,_=>Nat.zero_le _
 | x::r,U,hn,a=>by
  have c:=a x (by simp);rw [List.nodup_cons] at hn
  have h1:r.length≤(U.erase x).length:=rS hn.2 fun y f=>by grind
  grind
theorem gh.len{rev:Int}{l:List bG}(h:gh rev l):l.length≤10:=by
 have hn:(l.map fun y=>y.key).Nodup:=by
  unfold List.Nodup
  rw [List.pairwise_map]
  exact h.1.imp fun {a b} h e=>by grind [fN]
 have:=rS (U:=(List.range 10).map fun i:Nat=>(⟨30,itoa i⟩:Key)) hn fun k hk=>by
  obtain⟨y,c,rfl⟩:=List.mem_map.1 hk;obtain⟨i,hi,he⟩:=(h.2.2 y c).1
  grind
 simpa using this
theorem gh.k99{rev:Int}{l:List bG}(h:gh rev l):∀y∈l,∃i:Nat,i≤99∧y.key=⟨30,itoa i⟩:=fun y a=>by
 obtain⟨i,hi,he⟩:=(h.2.2 y a).1;exact⟨i,by omega,he⟩
theorem vd{n:bG}{k:Key}(h:n.key≠k):∀(l:List bG) (b:Bool),(dm n l b).find? (fun x=>x.key == k)=l.find? fun x=>x.key == k
 | [],b=>by grind [dm]
 | x::xs,b=>by
  have hn:(n.key == k)=false:=by simpa using h
  unfold dm
  rw [List.find?_append,List.find?_append,vd h xs]
  have h1:(if (decide (0≤bj x.key n.key) && !b)=true then [n] else []).find? (fun x=>x.key == k)=none:=by grind
  rw [h1,Option.none_or]
  by_cases e:bj x.key n.key=0
  ·
   rw [if_pos e]
   grind [i1]
  grind
theorem gG{n:bG}{k:Key}(h:n.key≠k) (l:List bG):aL (dm n l false) k=aL l k:=by
 unfold aL
 rw [vd h]
theorem Eg{n:bG}{l:List bG}{q:Nat}{b:Bool}(a:q<l.length) {acc r:List bG}(h:acc++dm n (l.drop q) b=r):acc++(if decide (0≤bj l[q].key n.key) && !b then [n] else [])++(if bj l[q].key n.key=0 then [] else [l[q]])++dm n (l.drop (q+1)) (b || decide (0≤bj l[q].key n.key))=r:=by grind [List.drop_eq_getElem_cons,dm]
theorem Eh{n:bG}{l m acc:List bG}{b:Bool}(h:acc++dm n m b=dm n l false):acc.length≤l.length+1:=by
 have h1:=congrArg List.length h
 grind [jG]
end Go.Rc

namespace Go.Rc
open Go
section
variable {aa:List aF}{aC:List bG}{rev:Int}(hR:ao aa)
include hR
end
end Go.Rc

