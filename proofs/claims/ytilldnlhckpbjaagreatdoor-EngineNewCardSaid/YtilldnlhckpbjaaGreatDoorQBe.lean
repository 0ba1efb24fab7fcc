/- Base of the proof: frames, memory, ownership, and the plain meaning of rule systems. Conditions: as each lemma says. -/
import Derived.Test.YtilldnlhckpbjaaGreatDoorQBd
import Derived.Test.YtilldnlhckpbjaaGreatDoorQBc
import Derived.Laws.IdiomRangeMap
set_option linter.all false
namespace Go.Rc
open Go
structure FZ where
 p:(Nat→Prop)→World→Prop
 mono:∀{Z Z':Nat→Prop}{w},(∀x,Z x→Z' x)→p Z w→p Z' w
 st:∀{Z:Nat→Prop}{w w':World},w.heap.size≤w'.heap.size→(∀x,Z x→x<w.heap.size→w'.heap[x]?=w.heap[x]?)→p Z w→p Z w'
def FZ.rd{α:Type}(R:RR α) (k:Nat) (a:Option Addr) (n c:Nat) (xs:List α):FZ:=⟨fun Z w=>Rd R k Z w a n c xs,fun h=>Rd.mono h,fun h1 h2=>Rd.st h1 h2⟩
def FZ.and(F G:FZ):FZ:=⟨fun Z w=>F.p Z w∧G.p Z w,fun h ⟨a,b⟩=>⟨F.mono h a,G.mono h b⟩,fun h1 h2 ⟨a,b⟩=>⟨F.st h1 h2 a,G.st h1 h2 b⟩⟩
def FZ.Iy(P:Program):FZ where
 p Z w:=j5 P Z w
 mono h:=fun h1=>h1.of h (Nat.le_refl _) fun _ _ _=>rfl
 st h1 h2:=fun h=>h.of (fun _ h=>h) h1 h2
def As.fz(F:FZ):As where
 fp _:=False
 ok Z w:=F.p Z w
 lt _ _ hx:=hx.elim
 mono h:=F.mono h
 st h1 h2:=F.st h1 fun x hx=>h2 x (.inr hx)
theorem As.gf{F:FZ}{Z:Nat→Prop}{w:World}(h:(As.fz F).ok Z w):F.p Z w:=h
structure SD where
 (ar a1 a2:Option Addr) (r cr n1 c1 n2 c2 m q s:Nat)
def SD.F(D:SD) (P:Program) (aa:List aG) (x:cB):FZ:=
 .and (.rd RR.dM 4 D.ar D.r D.cr aa) (.and (.rd RR.aD 4 D.a1 D.n1 D.c1 x.ab) (.and (.rd RR.iV 8 D.a2 D.n2 D.c2 x.ai) (.Iy P)))
def SD.cells(D:SD) (x:cB):List Value:=
 [.slice D.ar D.r D.cr,.int .i64 x.ad,.slice D.a1 D.n1 D.c1,.slice D.a2 D.n2 D.c2,.map (some D.m),.map (some D.q)]
section
variable {D:SD}{P:Program}{aa:List aG}{x:cB}{Z:Nat→Prop}{w:World}
theorem SD.hu(h:(D.F P aa x).p Z w):Rd RR.dM 4 Z w D.ar D.r D.cr aa:=h.1
theorem SD.hi(h:(D.F P aa x).p Z w):Rd RR.aD 4 Z w D.a1 D.n1 D.c1 x.ab:=h.2.1
theorem SD.hr(h:(D.F P aa x).p Z w):Rd RR.iV 8 Z w D.a2 D.n2 D.c2 x.ai:=h.2.2.1
theorem SD.ht(h:(D.F P aa x).p Z w):j5 P Z w:=h.2.2.2
end
def aJ(aa:List aG) (aD:List bW) (ml:List (Key × Value)):Prop:=∀k v,bq ml k=some v→v=.string (valOf aa aD k)
section
variable {aa:List aG}{aD:List bW}
theorem aJ.nil:aJ aa aD []:=fun k v h=>by simp [bq] at h
theorem aJ.put{ml:List (Key × Value)}(h:aJ aa aD ml) (k:Key):aJ aa aD (cF ml k (.string (valOf aa aD k))):=fun k' v a=>by
 rw [dz] at a
 split at a
 ·
  grind
 exact h k' v a
def dC(m n:Nat):Prop:=∀b,m.testBit b=true→n.testBit b=true
theorem dC.le{m n:Nat}(h:dC m n):m≤n:=by
 have e:m ||| n=n:=Nat.eq_of_testBit_eq fun b=>by
  rw [Nat.testBit_or]
  cases hm:m.testBit b
  ·
   simp
  simp [h b hm]
 rw [← e];exact Nat.left_le_or
noncomputable def Gn(aa:List aG) (aD:List bW) (v:Nat→Nat) (k:Key):ByteArray:=if ax k then itoa (v (number k).toNat:Int) else valOf aa aD k
noncomputable def FF(aa:List aG) (aD:List bW) (v:Nat→Nat) (j:Nat):Nat:=dE ((aa[j]?.map (·.c.toNat)).getD 0) (lz aa (Gn aa aD v) j)
theorem gD(c:ao aa) {i:Nat}(hi:i<aa.length) (hr:aA aa i=true) {x:Ask}(h:x∈aa[i].asks) (f:outside aa x=true):ax (bm aa x)=false:=by
 have o:=c.len;have hm:=il c hi hr h;obtain⟨m,h1,a⟩:=jx hi c.len hm
 unfold outside at f
 unfold bm
 cases hc:x.cell
 ·
  rw [hc] at a f;simp only [Bool.false_eq_true,if_false] at a ⊢
  grind [aW]
 rw [hc] at a;simp only [if_true] at a ⊢
 grind [iv]
theorem qG(o:ao aa) {v:Nat→Nat}(p:∀j,v j≤65535) {i:Nat}(hi:i<aa.length) (hr:aA aa i=true) (b:Nat) :
  (FF aa aD v i).testBit b=true↔(iW aa (valOf aa aD) i).testBit b=true∨∃j,ee aa i j∧(v j).testBit b=true:=by
 have r:=o.len
 unfold FF
 rw [ah hi];simp only [Option.map_some,Option.getD_some];rw [oV hi];refine or_congr ?_ ?_
 ·
  rw [dI hi,dI hi];refine or_congr_right (exists_congr fun x=>and_congr_right fun u=>and_congr_right fun y=>?_)
  unfold Gn
  rw [if_neg (by grind [gD])]
 constructor
 ·
  rintro⟨x,h1,f,c⟩;obtain⟨j,a,h,q⟩:=fM o hi hr h1 f;refine⟨j,a,?_⟩
  unfold Gn at c
  rw [h,if_pos (by rw [aW q (by omega)];exact a.lt.2.2.2),bC q (by omega),Int.toNat_natCast,dH (p j)] at c;exact c
 rintro⟨j,a,h⟩;obtain⟨x,h1,f,c⟩:=my hi a;refine⟨x,h1,f,?_⟩
 unfold Gn
 rw [c,if_pos (by rw [aW a.lt.2.1 (by have:=a.lt.2.1;omega)];exact a.lt.2.2.2),bC a.lt.2.1 (by have:=a.lt.2.1;omega),Int.toNat_natCast,dH (p j)];exact h
theorem oW(i:Nat):rv aa aD i≤65535:=xg i
theorem zd(c:ao aa) {i:Nat}(hi:i<aa.length) (hr:aA aa i=true) (b:Nat) :
  (rv aa aD i).testBit b=true↔(iW aa (valOf aa aD) i).testBit b=true∨∃j,ee aa i j∧(rv aa aD j).testBit b=true:=by
 unfold rv
 rw [de c hi hr]
 constructor
 ·
  rintro⟨k,h1,o⟩
  rcases h1.cases with rfl | ⟨j,a,f⟩
  ·
   exact .inl o
  exact .inr ⟨j,a,(de c a.lt.2.1 a.lt.2.2.2 b).2 ⟨k,f,o⟩⟩
 rintro(h | ⟨j,a,f⟩)
 ·
  exact⟨i,.refl,h⟩
 obtain⟨k,p,q⟩:=(de c a.lt.2.1 a.lt.2.2.2 b).1 f;exact⟨k,.head a p,q⟩
theorem AV(a:ao aa) {v v':Nat→Nat}(c:∀j,v j≤65535) (f:∀j,v' j≤65535) (h:∀j,dC (v j) (v' j)) {i:Nat}(hi:i<aa.length) (hr:aA aa i=true):dC (FF aa aD v i) (FF aa aD v' i):=fun b hb=>by
 rw [qG a c hi hr] at hb;rw [qG a f hi hr]
 rcases hb with hb | ⟨j,h1,o⟩
 ·
  exact .inl hb
 exact .inr ⟨j,h1,h j b o⟩
structure cP (aa:List aG) (aD:List bW) (i0:Nat) (L:List Nat) (u:Nat→Nat):Prop where
 nodup:L.Nodup
 first:i0∈L
 ring:∀j∈L,j<aa.length∧aA aa j=true
 out:∀j,j∉L→u j=0
 le:∀j,u j≤65535
 low:∀j,dC (u j) (rv aa aD j)
 reach:∀j∈L,cm aa i0 j
noncomputable def AW(aa:List aG) (aD:List bW) (u:Nat→Nat) (ml:List (Key × Value)) (k:Nat):Nat:=if (bq ml (aN aa (k:Int))).isSome then rv aa aD k else u k
def eE(ml jP:List (Key × Value)):Prop:=∀k v,bq ml k=some v→bq jP k=some v
def je(aa:List aG) (aD:List bW) (L:List Nat) (u:Nat→Nat) (ml:List (Key × Value)):Prop:=∀j∈L,dC (u j) (FF aa aD (AW aa aD u ml) j)
def lA(aa:List aG) (aD:List bW) (L:List Nat) (u:Nat→Nat) (j:Nat):Prop:=
 dC (iW aa (valOf aa aD) j) (u j)∧∀k,ee aa j k→(k∈L→dC (u k) (u j))∧(k∉L→dC (rv aa aD k) (u j))
def ze(n:Nat) (v:Nat→Nat):Nat:=((List.range n).map fun j=>65535 - v j).sum
def lY(aa:List aG) (L:List Nat) (v:Nat→Nat):Nat:=ze aa.length v+(aa.length - L.length)
theorem eE.refl(ml:List (Key × Value)):eE ml ml:=fun _ _ h=>h
theorem eE.trans{a b c:List (Key × Value)}(h:eE a b) (k:eE b c):eE a c:=fun x v e=>k x v (h x v e)
theorem eE.put{ml:List (Key × Value)}(hm:aJ aa aD ml) (k:Key):eE ml (cF ml k (.string (valOf aa aD k))):=fun x v h=>by
 rw [dz]
 split
 ·
  rename_i e;subst e;rw [hm _ _ h]
 exact h
theorem n0{u:Nat→Nat}{ml:List (Key × Value)}(h:∀j,u j≤65535) (k:Nat):AW aa aD u ml k≤65535:=by grind [AW,oW]
theorem Gp{u:Nat→Nat}{ml:List (Key × Value)}(h:∀j,dC (u j) (rv aa aD j)) (k:Nat):dC (AW aa aD u ml k) (rv aa aD k):=by unfold AW;split;exact fun _ h=>h;exact h k
theorem xh{u a:Nat→Nat}{ml c:List (Key × Value)}(h:∀j,dC (u j) (rv aa aD j)) (hu:∀j,dC (u j) (a j)) (hm:eE ml c) (k:Nat):dC (AW aa aD u ml k) (AW aa aD a c k):=by
 unfold AW
 cases h1:bq ml (aN aa (k:Int)) with
 | some v=>rw [hm _ _ h1];simp;exact fun _ h=>h
 | none=>grind
theorem je.mono(f:ao aa) {i0:Nat}{L:List Nat}{u:Nat→Nat}{ml c:List (Key × Value)}(hr:cP aa aD i0 L u) (h:je aa aD L u ml) (hm:eE ml c):je aa aD L u c:=fun j a b hb=>
 AV f (n0 hr.le) (n0 hr.le) (xh hr.low (fun _ _ h=>h) hm) (hr.ring j a).1 (hr.ring j a).2 b (h j a b hb)
theorem cP.start{i0:Nat}(hi:i0<aa.length) (hr:aA aa i0=true):cP aa aD i0 [i0] fun _=>0 where
 nodup:=by simp
 first:=by simp
 ring j a:=by grind
 out _ _:=rfl
 le _:=by omega
 low _ b h:=by simp at h
 reach j a:=by simp at a;subst a;exact .refl
theorem je.start{i0:Nat}{ml:List (Key × Value)}:je aa aD [i0] (fun _=>0) ml:=fun _ _ b h=>by simp at h
theorem Dz:∀{n:Nat}{L:List Nat},L.Nodup→(∀j∈L,j<n)→L.length≤n:=by
 intro n
 induction n with
 | zero=>intro L _ hl;cases L with
  | nil=>simp
  | cons a r=>exact absurd (hl a (by simp)) (by omega)
 | succ n c=>
  intro L h hl
  have h1:=c (h.erase n) fun j f=>by grind
  grind
theorem cP.len{i0:Nat}{L:List Nat}{v:Nat→Nat}(h:cP aa aD i0 L v):L.length≤aa.length:=Dz h.nodup fun j a=>(h.ring j a).1
theorem cP.meet{i0:Nat}{L:List Nat}{v:Nat→Nat}(h:cP aa aD i0 L v) {j:Nat}(a:j<aa.length) (hr:aA aa j=true) (hn:j∉L) (c:cm aa i0 j):cP aa aD i0 (L++[j]) v where
 nodup:=by grind [nodup]
 first:=by simp [h.first]
 ring k hk:=by
  rcases List.mem_append.1 hk with hk | hk
  ·
   exact h.ring k hk
  grind
 out k hk:=h.out k fun hm=>hk (by simp [hm])
 le:=h.le
 low:=h.low
 reach k hk:=by
  rcases List.mem_append.1 hk with hk | hk
  ·
   exact h.reach k hk
  grind
theorem je.meet{L:List Nat}{u:Nat→Nat}{ml:List (Key × Value)}(h:je aa aD L u ml) {j:Nat}(hu:u j=0):je aa aD (L++[j]) u ml:=fun k hk=>by
 rcases List.mem_append.1 hk with hk | hk
 ·
  exact h k hk
 simp at hk;subst hk;rw [hu];intro b hb;simp at hb
theorem cP.AX{i0:Nat}{L:List Nat}{v:Nat→Nat}(h:cP aa aD i0 L v) {j:Nat}(a:j<aa.length) (hr:aA aa j=true) (hn:j∉L) (c:cm aa i0 j):L.length<aa.length:=by
 have:=(h.meet a hr hn c).len
 grind
theorem xi{L:List Nat}{v:Nat→Nat}{j:Nat}(hl:L.length<aa.length):lY aa (L++[j]) v<lY aa L v:=by grind [lY]
def jQ(v:Nat→Nat) (j u:Nat):Nat→Nat:=fun k=>if k=j then u else v k
theorem DA:∀n (v:Nat→Nat) (j u:Nat),v j≤u→ze n (jQ v j u)≤ze n v∧(j<n→v j<u→u≤65535→ze n (jQ v j u)<ze n v):=by
 intro n
 induction n with
 | zero=>intro v j u _;simp [ze]
 | succ n c=>
  intro v j u h;obtain⟨h1,a⟩:=c v j u h
  unfold ze at h1 a ⊢
  simp only [List.range_succ,List.map_append,List.map_cons,List.map_nil,List.sum_append,List.sum_cons,List.sum_nil]
  have o:65535 - jQ v j u n≤65535 - v n:=by
   unfold jQ;grind
  refine⟨by omega,fun p f i=>?_⟩
  by_cases e:j=n
  ·
   have:65535 - jQ v j u n<65535 - v n:=by unfold jQ;grind
   omega
  have:=a (by omega) f i
  omega
theorem B0{u:Nat→Nat}{j x:Nat}(h:dC (u j) x):∀k,dC (u k) (jQ u j x k):=fun k b hb=>by
 unfold jQ;split
 ·
  rename_i e;subst e;exact h b hb
 exact hb
theorem cP.set{i0:Nat}{L:List Nat}{u:Nat→Nat}(h:cP aa aD i0 L u) {j x:Nat}(a:j∈L) (c:x≤65535) (f:dC x (rv aa aD j)):cP aa aD i0 L (jQ u j x) where
 nodup:=h.nodup
 first:=h.first
 ring:=h.ring
 out k hk:=by unfold jQ;rw [if_neg (fun e=>hk (by rw [e];exact a))];exact h.out k hk
 le k:=by unfold jQ;split;exact c;exact h.le k
 low k b hb:=by
  unfold jQ at hb;split at hb
  ·
   rename_i e;subst e;exact f b hb
  exact h.low k b hb
 reach:=h.reach
theorem je.set(a:ao aa) {i0:Nat}{L:List Nat}{u:Nat→Nat}{ml:List (Key × Value)}(hr:cP aa aD i0 L u) (h:je aa aD L u ml) {j x:Nat}(c:j∈L) (f:x≤65535) (i:dC x (rv aa aD j)) (o:dC (u j) x) (p:dC x (FF aa aD (AW aa aD u ml) j)) :
  je aa aD L (jQ u j x) ml:=fun k hk=>by
 have q:=hr.set c f i;have hm:=AV (aD:=aD) a (n0 (aD:=aD) (aa:=aa) (ml:=ml) hr.le) (n0 q.le) (xh hr.low (B0 o) (eE.refl ml)) (hr.ring k hk).1 (hr.ring k hk).2;intro b hb;refine hm b ?_
 unfold jQ at hb;split at hb
 ·
  rename_i e;subst e;exact p b hb
 exact h k hk b hb
theorem AY{i0:Nat}{L:List Nat}{u:Nat→Nat}(h:cP aa aD i0 L u) {j x:Nat}(a:j∈L) (c:x≤65535) (f:dC (u j) x) (i:u j≠x):lY aa L (jQ u j x)<lY aa L u:=by
 have h1:=f.le
 have:=(DA aa.length u j x h1).2 (h.ring j a).1 (by omega) c
 unfold lY;omega
theorem cP.done(q:ao aa) {i0:Nat}{L:List Nat}{u:Nat→Nat}(h:cP aa aD i0 L u) (c:∀j∈L,lA aa aD L u j):∀j∈L,u j=rv aa aD j:=by
 intro j r;obtain⟨f,i⟩:=h.ring j r;refine Nat.le_antisymm (h.low j).le (dC.le fun b hb=>?_);have key:=Dy q f i (fun k=>if k∈L then u k else rv aa aD k) (fun k b hk hb=>?_) (fun k m b hk o hb=>?_) b hb
 ·
  simpa [r] using key
 ·
  have p:=gC f i hk
  by_cases hm:k∈L
  ·
   simp only [if_pos hm];exact(c k hm).1 b hb
  simp only [if_neg hm];grind [zd]
 have p:=gC f i hk
 by_cases a:k∈L
 ·
  simp only [if_pos a]
  by_cases hm:m∈L
  ·
   simp only [if_pos hm] at hb;exact((c k a).2 m o).1 hm b hb
  simp only [if_neg hm] at hb;exact((c k a).2 m o).2 hm b hb
 simp only [if_neg a];refine(zd q p.1 p.2 b).2 (.inr ⟨m,o,?_⟩)
 by_cases hm:m∈L
 ·
  simp only [if_pos hm] at hb;exact h.low m b hb
 grind
structure Ev (aa:List aG) (aD:List bW) (u:Nat→Nat) (L:List Nat) (DB ml:List (Key × Value)) (qs:List Ask) (n:Nat) (acc:List ByteArray):Prop where
 len:acc.length=n
 out:∀m (h:m<qs.length),m<n→outside aa qs[m]=true→acc[m]?=some (valOf aa aD (bm aa qs[m]))
 ins:∀m (h:m<qs.length),m<n→outside aa qs[m]=false→∀k:Nat,qs[m].n=k→
  (acc[m]?=some (itoa (rv aa aD k:Int))∧(bq ml (aN aa (k:Int))).isSome=true)∨(acc[m]?=some (itoa (u k:Int))∧k∈L∧bq DB (aN aa (k:Int))=none)
theorem Ev.start{u:Nat→Nat}{L:List Nat}{ml:List (Key × Value)}{qs:List Ask}:Ev aa aD u L ml ml qs 0 []:=⟨rfl,fun _ _ h=>by omega,fun _ _ h=>by omega⟩
theorem Ev.mono{u:Nat→Nat}{L L':List Nat}{DB ml a:List (Key × Value)}{qs:List Ask}{n:Nat}{acc:List ByteArray}(h:Ev aa aD u L DB ml qs n acc) (r:∀k∈L,k∈L') (hm:eE ml a):Ev aa aD u L' DB a qs n acc:=
 ⟨h.len,h.out,fun m h1 i o k p=>by
  rcases h.ins m h1 i o k p with⟨c,f⟩ | ⟨c,f,y⟩
  ·
   obtain⟨v,q⟩:=Option.isSome_iff_exists.1 f;exact .inl ⟨c,by rw [hm _ _ q];rfl⟩
  grind⟩
theorem Ev.snoc{u:Nat→Nat}{L:List Nat}{DB ml:List (Key × Value)}{qs:List Ask}{n:Nat}{acc:List ByteArray}(h:Ev aa aD u L DB ml qs n acc) (s:ByteArray)
  (i:∀(h:n<qs.length),outside aa qs[n]=true→s=valOf aa aD (bm aa qs[n]))
  (hi:∀(h:n<qs.length),outside aa qs[n]=false→∀k:Nat,qs[n].n=k→(s=itoa (rv aa aD k:Int)∧(bq ml (aN aa (k:Int))).isSome=true)∨(s=itoa (u k:Int)∧k∈L∧bq DB (aN aa (k:Int))=none)) :
  Ev aa aD u L DB ml qs (n+1) (acc++[s]) where
 len:=by simp [h.len]
 out m h1 f c:=by
  rcases Nat.lt_or_ge m n with a | a
  ·
   rw [List.getElem?_append_left (by rw [h.len];exact a)];exact h.out m h1 a c
  grind [len]
 ins m h1 f c k hk:=by
  rcases Nat.lt_or_ge m n with a | a
  ·
   rw [List.getElem?_append_left (by rw [h.len];exact a)];exact h.ins m h1 a c k hk
  have:m=n:=by omega
  subst this;rw [List.getElem?_append_right (by rw [h.len];omega),h.len]
  simpa using hi h1 c k hk
theorem Ev.val(y:ao aa) {i0:Nat}{L:List Nat}{u:Nat→Nat}{DB ml:List (Key × Value)}{j:Nat}{acc:List ByteArray}(hr:cP aa aD i0 L u) (p:j<aa.length) (E:aA aa j=true) (h:Ev aa aD u L DB ml aa[j].asks aa[j].asks.length acc) :
  dE aa[j].c.toNat (acc.map bR)≤65535∧dC (dE aa[j].c.toNat (acc.map bR)) (rv aa aD j)∧dC (FF aa aD (AW aa aD u DB) j) (dE aa[j].c.toNat (acc.map bR))∧
  dC (dE aa[j].c.toNat (acc.map bR)) (FF aa aD (AW aa aD u ml) j)∧(dE aa[j].c.toNat (acc.map bR)=u j→lA aa aD L u j):=by
 obtain⟨hlen,X,dw⟩:=h;have Y:=y.len
 -- an answer, by its place
 have Oo:∀m (hm:m<aa[j].asks.length),∃s,acc[m]?=some s∧s∈acc:=fun m hm=>⟨acc[m],ah (by omega),List.getElem_mem _⟩
 have I:dC (iW aa (valOf aa aD) j) (dE aa[j].c.toNat (acc.map bR)):=fun b hb=>by
  rw [jy]
  rcases(dI p b).1 hb with h1 | ⟨x,h1,z,o⟩
  ·
   exact .inl h1
  obtain⟨m,hm,rfl⟩:=List.mem_iff_getElem.1 h1
  grind
 have J:∀k,ee aa j k→∃m,∃hm:m<aa[j].asks.length,outside aa aa[j].asks[m]=false∧aa[j].asks[m].n=(k:Int):=fun k hk=>by
  obtain⟨r,x,h1,_,o,f,H,a⟩:=hk;rw [ah p] at h1
  simp at h1
  subst h1;obtain⟨m,hm,rfl⟩:=List.mem_iff_getElem.1 o;exact⟨m,hm,by unfold outside;rw [f,H];simp [a],H⟩
 have F:∀(m:Nat) (s:ByteArray) (b:Nat),acc[m]?=some s→(bR s).testBit b=true→(dE aa[j].c.toNat (acc.map bR)).testBit b=true:=fun m s b h1 z=>by
  rw [jy];grind
 have N:∀(v:Nat→Nat),(∀k,v k≤65535)→(∀k:Nat,(bq ml (aN aa (k:Int))).isSome=true→dC (rv aa aD k) (v k))→(∀k:Nat,dC (u k) (v k))→dC (dE aa[j].c.toNat (acc.map bR)) (FF aa aD v j):=fun v Q h1 z b hb=>by
  rw [qG y Q p E];rw [jy] at hb
  rcases hb with hb | ⟨_,R,hb⟩
  ·
   grind [dI]
  obtain⟨s,S,rfl⟩:=List.mem_map.1 R;obtain⟨m,hm,rfl⟩:=List.mem_iff_getElem.1 S
  have G:m<aa[j].asks.length:=by omega
  cases O:outside aa aa[j].asks[m]
  ·
   obtain⟨k,o,f,H⟩:=fM y p E (List.getElem_mem G) O
   have U:aa[j].asks[m].n=(k:Int):=by
    obtain⟨q,a,i⟩:=jx p y.len (il y p E (List.getElem_mem G))
    have hc:aa[j].asks[m].cell=false:=by grind [outside]
    rw [hc] at i;simp only [Bool.false_eq_true,if_false] at i
    unfold bm at f
    rw [hc,a] at f;simp only [Bool.false_eq_true,if_false] at f
    grind [bC]
   refine .inr ⟨k,o,?_⟩
   rcases dw m G G O k U with⟨a,i⟩ | ⟨a,i,_⟩
   ·
    rw [ah hm] at a
    simp at a
    rw [a,dH (oW k)] at hb;exact h1 k i b hb
   rw [ah hm] at a
   simp at a
   rw [a,dH (hr.le k)] at hb;exact z k b hb
  grind [dI]
 refine⟨?_,?_,?_,?_,fun he=>⟨?_,fun k hk=>⟨fun V=>?_,fun V=>?_⟩⟩⟩
 ·
  grind [ju,qF,iS]
 ·
  intro b hb;have h1:=N (rv aa aD) oW (fun _ _ _ h=>h) hr.low b hb
  grind [qG,oW,zd]
 ·
  intro b hb;rw [qG y (n0 hr.le) p E] at hb
  rcases hb with hb | ⟨k,h1,z⟩
  ·
   exact I b hb
  obtain⟨m,hm,o,f⟩:=J k h1
  rcases dw m hm hm o k f with⟨a,i⟩ | ⟨a,i,W⟩
  ·
   exact F m _ b a (by rw [dH (oW k)];exact Gp hr.low k b z)
  refine F m _ b a (by rw [dH (hr.le k)];grind [AW])
 ·
  refine N _ (n0 hr.le) (fun k hk b hb=>?_) fun k b hb=>?_
  ·
   unfold AW;rw [if_pos hk];exact hb
  unfold AW;split
  ·
   exact hr.low k b hb
  exact hb
 ·
  rw [← he];exact I
 ·
  intro b hb;rw [← he];obtain⟨m,hm,o,f⟩:=J k hk
  rcases dw m hm hm o k f with⟨a,i⟩ | ⟨a,i,W⟩
  ·
   exact F m _ b a (by rw [dH (oW k)];exact hr.low k b hb)
  exact F m _ b a (by rw [dH (hr.le k)];exact hb)
 intro b hb
 grind [dH,oW]
def kq(aa:List aG) (L:List Nat) (v:Nat→Nat) (am:List (Key × Value)):Prop:=
 (∀j∈L,bq am (aN aa (j:Int))=some (.string (itoa (v j:Int))))∧∀k,(∀j∈L,k≠aN aa (j:Int))→bq am k=none
theorem dt(a:ao aa) {i j:Nat}(hi:i<aa.length) (c:j<aa.length) (h:aN aa (i:Int)=aN aa (j:Int)):i=j:=by grind [ao.len,bC]
theorem kq.meet(a:ao aa) {L:List Nat}{v:Nat→Nat}{am:List (Key × Value)}(h:kq aa L v am) (c:∀j∈L,j<aa.length) {j:Nat}(f:j<aa.length) (hn:j∉L) (i:v j=0):kq aa (L++[j]) v (cF am (aN aa (j:Int)) (.string ⟨#[48]⟩)):=by
 have e0:itoa ((0:Nat):Int)=⟨#[48]⟩:=by decide +kernel
 refine⟨fun k hk=>?_,fun k hk=>?_⟩
 ·
  rw [dz]
  rcases List.mem_append.1 hk with hk | hk
  ·
   rw [if_neg (fun e=>hn (by grind [dt]))];exact h.1 k hk
  grind
 rw [dz,if_neg (fun e=>hk j (by simp) e.symm)]
 exact h.2 k fun m hm=>hk m (by simp [hm])
theorem kq.set(f:ao aa) {L:List Nat}{v:Nat→Nat}{am:List (Key × Value)}(h:kq aa L v am) (a:∀j∈L,j<aa.length) {j:Nat}(c:j∈L) (u:Nat):kq aa L (jQ v j u) (cF am (aN aa (j:Int)) (.string (itoa (u:Int)))):=by
 refine⟨fun k hk=>?_,fun k hk=>?_⟩
 ·
  rw [dz]
  unfold jQ
  by_cases e:k=j
  ·
   grind
  rw [if_neg (fun e2=>e (dt f (a k hk) (a j c) e2.symm)),if_neg e];exact h.1 k hk
 rw [dz,if_neg (fun e=>hk j c e.symm)];exact h.2 k hk
end
theorem gE{aa:List aG}(c:ao aa) {i:Nat}(hi:i<aa.length) (hr:aA aa i=true) {x:Ask}(f:x∈aa[i].asks) (a:outside aa x=false) {k:Nat}(hk:x.n=(k:Int)):k<aa.length∧aA aa k=true∧bm aa x=aN aa (k:Int):=by
 have hm:=il c hi hr f
 unfold outside at a
 rw [Bool.or_eq_false_iff] at a;rw [a.1,hk] at hm;refine⟨(ns c hi hr hm).1,?_,?_⟩
 ·
  grind
 grind [bm]
theorem ao.hb{aa:List aG}(h:ao aa):∀x∈aa,0≤x.c∧x.c≤65535∧x.asks.length≤1000:=fun x a=>by
 obtain⟨i,hi,rfl⟩:=List.mem_iff_getElem.1 a;obtain⟨h1,_,f⟩:=h.at hi
 grind [fH]
theorem cY{aa:List aG}{i:Nat}(hi:i<aa.length) (gu:i≤99) (l:List ByteArray):aM aa (aN aa (i:Int)) l=bN aa (aN aa (i:Int)) l:=by
 unfold aM;rw [if_pos (by grind [dn])]
theorem oX{aa:List aG}{i:Nat}(hi:i<aa.length) (gu:i≤99) (hr:aA aa i=true):mw (aN aa (i:Int))=⟨#[48]⟩:=by grind [mw,dn]
theorem tC:∀{l:List (Key × Value)}{k:Key}{v:Value},bq l k=some v→cF l k v=l:=by
 intro l
 induction l with
 | nil=>intro k v h;simp [bq] at h
 | cons p r a=>
  obtain⟨k0,v0⟩:=p;intro k v h;simp only [bq] at h;simp only [cF]
  grind
theorem dN{aa:List aG}{i:Nat}(hi:i<aa.length) (gu:i≤99):cx (aN aa (i:Int)):=by grind [cx,dn]
end Go.Rc

namespace Go.Rc
open Go
theorem lZ:∀(l:List UInt8) (u:Nat),0<u→0≤decFrom l (u:Int)→∃v:Nat,decFrom l (u:Int)=v∧Lib.decDigits v=Lib.decDigits u++l
 | [],u,_,_=>⟨u,rfl,by simp⟩
 | c::r,u,hu,h=>by
  unfold decFrom at h ⊢
  by_cases hc:c.toNat<48∨57<c.toNat
  ·
   rw [if_pos hc] at h;omega
  rw [if_neg hc] at h ⊢;obtain⟨d,f⟩:∃d:Nat,c.toNat=48+d:=⟨c.toNat - 48,by omega⟩
  have i:d<10:=by omega
  have e:10*(u:Int)+((c.toNat:Int) - 48)=((10*u+d:Nat):Int):=by omega
  rw [e] at h ⊢;obtain⟨v,h1,a⟩:=lZ r (10*u+d) (by omega) h;refine⟨v,h1,?_⟩;rw [a,Lib.decDigits,dif_neg (by omega),show(10*u+d) / 10=u by omega,show(10*u+d) % 10=d by omega,List.append_assoc]
  grind [UInt8.ofNat_toNat]
theorem sz{s:ByteArray}(h:0≤cV s):∃v:Nat,cV s=v∧s=itoa (v:Int):=by
 unfold cV at h ⊢
 by_cases hc:s.size=0∨9<s.size∨(s.data.toList.head?=some 48∧s.size≠1)
 ·
  rw [if_pos hc] at h;omega
 rw [if_neg hc] at h ⊢;obtain⟨d⟩:=s
 have key:∃v:Nat,decFrom d.toList 0=v∧Lib.decDigits v=d.toList:=by
  have hsz:(⟨d⟩:ByteArray).size=d.toList.length:=by simp [ByteArray.size]
  rw [hsz] at hc;simp only at hc h ⊢
  cases hl:d.toList with
  | nil=>rw [hl] at hc;simp at hc
  | cons c r=>
   rw [hl] at hc h
   unfold decFrom at h ⊢
   by_cases hn:c.toNat<48∨57<c.toNat
   ·
    rw [if_pos hn] at h;omega
   rw [if_neg hn] at h ⊢;obtain⟨e,he⟩:∃e:Nat,c.toNat=48+e:=⟨c.toNat - 48,by omega⟩
   have h1:10*(0:Int)+((c.toNat:Int) - 48)=(e:Nat):=by omega
   rw [h1] at h ⊢
   have a:UInt8.ofNat (48+e)=c:=by grind [UInt8.ofNat_toNat]
   by_cases h0:e=0
   ·
    subst h0
    have o:c=48:=by rw [← a];rfl
    have hr:r=[]:=by grind
    subst hr;exact⟨0,rfl,by rw [Lib.decDigits,dif_pos (by omega),a]⟩
   obtain⟨v,f,i⟩:=lZ r e (by omega) h;refine⟨v,f,?_⟩;rw [i,Lib.decDigits,dif_pos (by omega),a]
   rfl
 obtain⟨v,h1,f⟩:=key;refine⟨v,h1,?_⟩
 have e:Lib.itoa (v:Int)=Lib.decDigits v:=by unfold Lib.itoa;rw [if_neg (by omega)];rfl
 unfold itoa
 rw [e,f]
theorem B1{s:ByteArray}(h:∀n:Nat,n≤65535→s≠itoa (n:Int)):bR s=0:=by
 unfold bR
 split
 ·
  rfl
 grind [sz]
theorem B2(l:List aG) (m:Nat):m≤cU l m:=by unfold cU;omega
theorem zf{aa:List aG}{i:Nat}(hi:i<aa.length):(block aa (i:Int)).1≤(block aa (i:Int)).2:=by
 have hb:block aa (i:Int)=if aA aa i then ((bd aa i:Int),(cU aa (i+1):Int)) else ((i:Int),(i:Int)+1):=by
  unfold block;rw [if_neg (by omega)];rfl
 grind [eL,B2]
theorem xj(kind:Int) (c:Nat) (l:List Nat):cI kind 0 (c::l)=cI kind c l:=by
 unfold cI mZ oO dE
 simp
end Go.Rc

namespace Go.Rc
open Go
theorem xk{κ:Type} [DecidableEq κ]:∀{l:List (κ × Value)}{k:κ}{v:Value},bq l k=none→qi (cF l k v) k=l
 | [],k,v,_=>by simp [cF,qi]
 | (k0,v0)::r,k,v,h=>by
  by_cases e:k0=k
  ·
   subst e;simp [bq] at h
  simp only [bq,if_neg e] at h;simp only [cF,if_neg e,qi,xk h]
def FZ.row(b:Nat) (r:List Value):FZ:=
 ⟨fun Z w=>Z b∧b<w.heap.size∧w.rangeAt b 0 r,fun hZ h=>⟨hZ _ h.1,h.2⟩,fun hs hc h=>⟨h.1,Nat.lt_of_lt_of_le h.2.1 hs,fun j v hv=>by rw [← h.2.2 j v hv];grind [World.cell?_of_block]⟩⟩
def SD.FV(D:SD) (P:Program) (aa:List aG) (x:cB):FZ:=(D.F P aa x).and (FZ.row D.s (D.cells x))
theorem SD.FV.rg{D:SD}{P:Program}{aa:List aG}{x:cB}{Z:Nat→Prop}{w:World}(h:(D.FV P aa x).p Z w):(As.rg D.s 0 (D.cells x)).ok Z w:=As.N3 h.2.1 h.2.2.1 h.2.2.2
theorem tD{κ:Type} [DecidableEq κ]:∀(l:List (κ × Value)) (k:κ) (v u:Value),cF (cF l k v) k u=cF l k u
 | [],k,v,u=>by simp [cF]
 | (k0,v0)::r,k,v,u=>by
  by_cases e:k0=k
  ·
   simp [cF,e]
  simp [cF,e,tD r k v u]
section
variable {aa:List aG}{aD:List bW}
def jz(aa:List aG) (i:Nat) (al:List (Key × Value)):Prop:=∀j:Nat,j≤i→j<aa.length→bq al (aN aa (j:Int))=none
theorem jz.mono{i m:Nat}{al:List (Key × Value)}(h:jz aa i al) (hm:m≤i):jz aa m al:=fun j a hl=>h j (by omega) hl
theorem jz.put(a:ao aa) {i m:Nat}{al:List (Key × Value)}(h:jz aa i al) (hi:i<aa.length) (hm:m<i) (v:Value):jz aa m (cF al (aN aa (i:Int)) v):=fun j c hl=>by
 rw [dz,if_neg (fun e=>by have:=dt a hi hl e;omega)];exact h j (by omega) hl
theorem jz.nil(i:Nat):jz aa i []:=fun _ _ _=>rfl
noncomputable def ca(aa:List aG) (aD:List bW) (i:Nat):List Key:=(dc (bN aa (aN aa (i:Int))) (valOf aa aD) (bQ aa i)).1
noncomputable def cy(aa:List aG) (aD:List bW) (k:Key):List Key:=if aw k then [] else ca aa aD (number k).toNat
theorem di(a:ao aa) {i:Nat}(hi:i<aa.length):cy aa aD (aN aa (i:Int))=ca aa aD i:=by
 have c:=a.len
 unfold cy
 rw [if_neg (by grind [cG]),bC hi (by omega),Int.toNat_natCast]
theorem dB.Nk(c:ao aa) {i:Nat}{a:Key}(h:dB aa i a):ax a=decide (a.kind=32):=by
 have f:=c.len
 rcases h with⟨n,h1,rfl⟩ | ⟨m,h1,rfl,_⟩
 ·
  rw [iv (by omega)]
  unfold bO
  rw [if_neg (by omega)]
  rfl
 grind [aW,dn]
theorem dB.al(c:ao aa) {i0 j:Nat}{a:Key}{al:List (Key × Value)}(h:dB aa j a) (hr:aA aa j=true) (hc:ax a=false) (dw:aw a=false) (hb:bd aa j≤i0) (f:jz aa i0 al):jz aa (number a).toNat al:=by
 have o:=c.len
 rcases h with⟨n,h1,rfl⟩ | ⟨m,h1,rfl,_,_,_,i⟩
 ·
  grind [aR]
 rw [aW h1 (by omega)] at hc;rw [bC h1 (by omega),Int.toNat_natCast];exact f.mono (by have:=i hc hr;omega)
structure RI (aa:List aG) (aD:List bW) (i0:Nat) (qs:List Ask) (u1:Nat→Nat) (L1:List Nat) (iX:Bool) (dj:List (Key × Value)) (n:Nat) (L2:List Nat) (iz:List (Key × Value)) (j8:Bool) (gp:List (Key × Value)) (acc:List ByteArray):Prop where
 hn:n≤qs.length
 rd:cP aa aD i0 L2 u1
 up:je aa aD L2 u1 gp
 at_:kq aa L2 u1 iz
 m:aJ aa aD gp
 le:eE dj gp
 p:lY aa L2 u1≤lY aa L1 u1∧(j8=true→iX=true∨lY aa L2 u1<lY aa L1 u1)
 c:j8=false→L2=L1∧iX=false
 pre:L1 <+: L2
 ev:Ev aa aD u1 L2 dj gp qs n acc
variable {i0 j n:Nat}{u1:Nat→Nat}{L1 L2:List Nat}{iX j8:Bool}{dj gp Gq iz:List (Key × Value)}{acc:List ByteArray}
theorem RI.start{a:List (Key × Value)}{qs:List Ask}(h1:cP aa aD i0 L1 u1) (c:je aa aD L1 u1 dj) (f:kq aa L1 u1 a) (i:aJ aa aD dj):RI aa aD i0 qs u1 L1 iX dj 0 L1 a iX dj []:=
 ⟨Nat.zero_le _,h1,c,f,i,eE.refl _,⟨Nat.le_refl _,fun h=>.inl h⟩,fun h=>⟨rfl,h⟩,List.prefix_refl _,Ev.start⟩
theorem RI.done(a:ao aa) (c:j<aa.length) (hr:aA aa j=true) (h:RI aa aD i0 aa[j].asks u1 L1 iX dj n L2 iz j8 gp acc) (hn:n<aa[j].asks.length) {f:Value}(o:bq gp (bm aa aa[j].asks[n])=some f) :
  RI aa aD i0 aa[j].asks u1 L1 iX dj (n+1) L2 iz j8 gp (acc++[valOf aa aD (bm aa aa[j].asks[n])]):=
 {h with
  hn:=hn
  ev:=h.ev.snoc _ (fun _ _=>rfl) fun _ i k hk=>.inl (by
   obtain⟨p,q,r⟩:=gE a c hr (List.getElem_mem hn) i hk
   grind [fy,fR])}
theorem RI.low(a:ao aa) (f:j<aa.length) (hr:aA aa j=true) (h:RI aa aD i0 aa[j].asks u1 L1 iX dj n L2 iz j8 gp acc) (hn:n<aa[j].asks.length) (hc:ax (bm aa aa[j].asks[n])=false) (c:aJ aa aD Gq) (hle:eE gp Gq) :
  RI aa aD i0 aa[j].asks u1 L1 iX dj (n+1) L2 iz j8 Gq (acc++[valOf aa aD (bm aa aa[j].asks[n])]):=
 {h with
  hn:=hn
  up:=h.up.mono a h.rd hle
  m:=c
  le:=h.le.trans hle
  ev:=(h.ev.mono (fun _ h=>h) hle).snoc _ (fun _ _=>rfl) fun _ i k hk=>by grind [ao.len,gE,aW]}
theorem RI.inside(h:ao aa) (i:j<aa.length) (hr:aA aa j=true) (hn:n<aa[j].asks.length) (hc:ax (bm aa aa[j].asks[n])=true) :
  ∃a:Nat,bm aa aa[j].asks[n]=aN aa (a:Int)∧a<aa.length∧aA aa a=true∧ee aa j a∧outside aa aa[j].asks[n]=false:=by
 have o:=List.getElem_mem hn
 have c:outside aa aa[j].asks[n]=false:=by grind [gD]
 obtain⟨a,f,p,q⟩:=fM h i hr o c;exact⟨a,p,q,f.lt.2.2.2,f,c⟩
theorem RI.Iz(i:ao aa) (q:j<aa.length) (hr:aA aa j=true) {c:List Nat}(h:Ev aa aD u1 c dj gp aa[j].asks n acc) (hle:eE dj gp) (hn:n<aa[j].asks.length) {a:Nat}(r:bm aa aa[j].asks[n]=aN aa (a:Int)) (u:a<aa.length) (o:outside aa aa[j].asks[n]=false)
  (z:bq gp (bm aa aa[j].asks[n])=none) (E:a∈c):Ev aa aD u1 c dj gp aa[j].asks (n+1) (acc++[itoa (u1 a:Int)]):=by
 have F:bq dj (aN aa (a:Int))=none:=by
  cases h:bq dj (aN aa (a:Int)) with
  | none=>rfl
  | some v=>have:=hle _ _ h;grind
 refine h.snoc _ (fun _ f=>by rw [o] at f;cases f) fun _ f k hk=>?_;obtain⟨y,G,p⟩:=gE i q hr (List.getElem_mem hn) o hk;rw [r] at p
 have:=dt i u y p
 grind
theorem RI.meet(i:ao aa) (u:j<aa.length) (hr:aA aa j=true) (h:RI aa aD i0 aa[j].asks u1 L1 iX dj n L2 iz j8 gp acc) (F:j∈L1) (hn:n<aa[j].asks.length) (hc:ax (bm aa aa[j].asks[n])=true)
  (G:bq gp (bm aa aa[j].asks[n])=none) (N:bq iz (bm aa aa[j].asks[n])=none) :
  ∃a:Nat,bm aa aa[j].asks[n]=aN aa (a:Int)∧a<aa.length∧aA aa a=true∧RI aa aD i0 aa[j].asks u1 L1 iX dj (n+1) (L2++[a]) (cF iz (bm aa aa[j].asks[n]) (.string ⟨#[48]⟩)) true gp (acc++[⟨#[48]⟩]):=by
 obtain⟨a,o,c,q,H,I⟩:=RI.inside i u hr hn hc
 have f:a∉L2:=fun hm=>by have:=h.at_.1 a hm;grind
 have r:=h.rd.out a f;have y:cm aa i0 a:=.step (h.rd.reach j (h.pre.subset F)) H;have J:=h.rd.meet c q f y;have L:=h.rd.AX c q f y;have z:=xi (v:=u1) (j:=a) L;have E:=RI.Iz i u hr (h.ev.mono (L':=L2++[a]) (fun _ h=>by simp [h]) (eE.refl _)) h.le hn o c I G (by simp)
 have e0:itoa ((0:Nat):Int)=⟨#[48]⟩:=by decide +kernel
 rw [r,e0] at E;refine⟨a,o,c,q,⟨hn,J,h.up.meet r,?_,h.m,h.le,⟨Nat.le_of_lt (Nat.lt_of_lt_of_le z h.p.1),fun _=>.inr (Nat.lt_of_lt_of_le z h.p.1)⟩,fun h=>(by cases h),h.pre.trans (List.prefix_append _ _),E⟩⟩;rw [o];exact h.at_.meet i (fun k hk=>(h.rd.ring k hk).1) c f r
theorem RI.Oq(c:ao aa) (i:j<aa.length) (hr:aA aa j=true) (h:RI aa aD i0 aa[j].asks u1 L1 iX dj n L2 iz j8 gp acc) (hn:n<aa[j].asks.length) (hc:ax (bm aa aa[j].asks[n])=true)
  (r:bq gp (bm aa aa[j].asks[n])=none) {v:Value}(u:bq iz (bm aa aa[j].asks[n])=some v) :
  ∃s:ByteArray,v=.string s∧s.size≤1000∧RI aa aD i0 aa[j].asks u1 L1 iX dj (n+1) L2 iz j8 gp (acc++[s]):=by
 obtain⟨a,o,p,z,E,y⟩:=RI.inside c i hr hn hc
 have q:a∈L2:=by
  by_cases hm:a∈L2
  ·
   exact hm
  have:=h.at_.2 (aN aa (a:Int)) (fun k hk e=>hm (by have:=dt c p (h.rd.ring k hk).1 e;rw [this];exact hk))
  grind
 have f:=h.at_.1 a q;rw [← o,u] at f;simp only [Option.some.injEq] at f;refine⟨_,f,?_,{h with hn:=hn,ev:=RI.Iz c i hr h.ev h.le hn o p y r q}⟩;have hle:=h.rd.le a
 have e:Lib.itoa (u1 a:Int)=Lib.decDigits (u1 a):=by unfold Lib.itoa;rw [if_neg (by omega)];rfl
 grind [itoa,Lib.decDigits,ByteArray.size]
end
end Go.Rc

namespace Go.Rc
open Go
/-! ### keys in order -/
def ks(k:Key):List Key→List Key
 | []=>[k]
 | x::r=>if bl x k<0 then x::ks k r else if x=k then x::r else k::x::r
def iY(l:List Key):List Key:=l.foldl (fun out k=>ks k out) []
theorem Gr:∀(l:List Key) (k:Key) (p:Nat),p≤l.length→(∀q x,q<p→l[q]?=some x→bl x k<0)→(∀x,l[p]?=some x→0≤bl x k)→ks k l=if l[p]?=some k then l else l.take p++[k]++l.drop p:=by
 intro l
 induction l with
 | nil=>intro k p a _ _;simp at a;subst a;rfl
 | cons x r f=>
  intro k p a h1 c
  cases p with
  | zero=>
   have:=c x rfl
   simp only [ks]
   grind
  | succ p=>
   have:=h1 0 x (by omega) rfl
   simp only [ks];rw [if_pos this,f k p (by simpa using a) (fun q y h hy=>h1 (q+1) y (by omega) (by simpa using hy)) (fun y hy=>c y (by simpa using hy))]
   grind
theorem DC(k:Key):∀l,(ks k l).length≤l.length+1:=by
 intro l
 induction l with
 | nil=>simp [ks]
 | cons x r a=>grind [ks]
theorem qH(l:List Key) (k:Key):iY (l++[k])=ks k (iY l):=by simp [iY]
theorem lB(l:List Key):(iY l).length≤l.length:=by
 have key:∀(l acc:List Key),(l.foldl (fun out k=>ks k out) acc).length≤acc.length+l.length:=by
  intro l
  induction l with
  | nil=>intro acc;simp
  | cons x r a=>grind [DC]
 simpa [iY] using key l []
theorem xl(k:Key):∀(l:List Key) (x:Key),x∈ks k l↔x=k∨x∈l:=by
 intro l
 induction l with
 | nil=>intro x;simp [ks]
 | cons y r a=>grind [ks]
theorem lC(l:List Key) (x:Key):x∈iY l↔x∈l:=by
 have key:∀(l acc:List Key),x∈l.foldl (fun out k=>ks k out) acc↔x∈acc∨x∈l:=by
  intro l
  induction l with
  | nil=>intro acc;simp
  | cons y r a=>grind [xl]
 simpa [iY] using key l []
def xm(out:List Key) (p:Nat) (x:Key):Bool:=match out[p]? with | some y=>decide (bl y x<0) | none=>false
/-! ### groups -/
def Ld(l:List Rec) (rev:Int) (a x:Key):Prop:=x∈(aF l a).reads∧bU l rev x=true
inductive bK (l:List Rec) (rev:Int) (k:Key):Key→Prop where
 | one {x:Key}:Ld l rev k x→bK l rev k x
 | step {x y:Key}:bK l rev k x→Ld l rev x y→bK l rev k y
open Classical in
noncomputable def uN(l:List Rec) (rev:Int) (k x:Key):Bool:=decide (bK l rev k x)
theorem mz{l:List Rec}{rev:Int}{k x:Key}:uN l rev k x=true↔bK l rev k x:=by unfold uN;simp
noncomputable def J2(l:List Rec) (rev:Int) (k:Key) (r:Rec):Bool:=decide (r.key≠k) && (uN l rev k r.key && uN l rev r.key k)
noncomputable def qI(l:List Rec) (rev:Int) (k:Key) (rs:List Rec):List Key:=(rs.filter (J2 l rev k)).map (·.key)
theorem zg(l:List Rec) (rev:Int) (k:Key) (rs:List Rec):(qI l rev k rs).length≤rs.length:=by grind [qI]
theorem eV{L S:List Key}(h:L.Nodup) (c:∀x∈L,x∈S):L.length≤S.length:=by
 induction L generalizing S with
 | nil=>simp
 | cons a r f=>
  have i:=c a (by simp);rw [List.nodup_cons] at h
  have:=f (S:=S.erase a) h.2 fun x o=>by grind
  grind
theorem qJ{l:List Rec}{rev:Int}{x:Key}(h:bU l rev x=true):x∈l.map (·.key):=by
 unfold bU at h
 rw [Bool.and_eq_true] at h
 grind [ay]
theorem bK.kA{l:List Rec}{rev:Int}{k x:Key}(h:bK l rev k x):bU l rev x=true:=by
 cases h with
 | one h=>exact h.2
 | step _ h=>exact h.2
noncomputable def aB(l:List Rec) (rev:Int) (k:Key):List Key:=if bU l rev k then iY (k::qI l rev k l) else [k]
def aY(rev:Int) (group:List Key) (bV:Bool) (r:Rec):Rec:=if r.key∈group then (if bV then {r with bV:=true} else {r with aq:=rev}) else r
def eG(x:cB) (group:List Key) (bV:Bool):cB:={x with ai:=x.ai.map (aY x.ad group bV)}
def az(x:cB) (k:Key):Bool:=(ay x.ai k).isSome && decide ((aF x.ai k).aq=x.ad)
def aZ(val:Key→ByteArray) (x:cB) (k:Key):Int:=
 if aw k then (bf x.ab k).changed
 else if (ay x.ai k).isSome && (decide ((aF x.ai k).aq=x.ad) || decide (val k=(aF x.ai k).value)) then (aF x.ai k).changed else x.ad
def cS(val:Key→ByteArray) (x:cB) (k:Key):ByteArray:=if ax k then val k else jw x k
/-! ### a request -/
structure ES where
 b:cB
 busy:List (Key × Value)
 bG:List Key
 e:Int
/-! ### a solver, as one thing -/
section
variable {w0 w w':World}{M Z:Nat→Prop}{l:List As}{A B C:As}
theorem St.split(h:St w0 M Z w (C::l)) (p:A.ok Z w) (q:B.ok Z w) (i:∀x,A.fp x→C.fp x) (o:∀x,B.fp x→C.fp x) (r:∀x,A.fp x→¬B.fp x):St w0 M Z w (A::B::l):=by
 obtain⟨u,v⟩:=List.pairwise_cons.1 h.sq;refine⟨h.cq,h.jC,?_,?_,?_,?_⟩
 ·
  intro D a x c f;simp only [List.mem_cons] at a
  rcases a with rfl | rfl | a
  ·
   exact h.lx C (by simp) x (i x c) f
  ·
   exact h.lx C (by simp) x (o x c) f
  exact h.lx D (by simp [a]) x c f
 ·
  intro D a x c;simp only [List.mem_cons] at a
  rcases a with rfl | rfl | a
  ·
   exact h.lV C (by simp) x (i x c)
  ·
   exact h.lV C (by simp) x (o x c)
  exact h.lV D (by simp [a]) x c
 ·
  simp_all
 intro D a;simp only [List.mem_cons] at a
 rcases a with rfl | rfl | a
 ·
  exact p
 ·
  exact q
 exact h.ok D (by simp [a])
theorem St.join(h:St w0 M Z w (A::B::l)) (o:C.ok Z w) (i:∀x,C.fp x→A.fp x∨B.fp x):St w0 M Z w (C::l):=by
 obtain⟨q,p⟩:=List.pairwise_cons.1 h.sq;obtain⟨r,u⟩:=List.pairwise_cons.1 p;refine⟨h.cq,h.jC,?_,?_,?_,?_⟩
 ·
  intro D a x c f;simp only [List.mem_cons] at a
  rcases a with rfl | a
  ·
   rcases i x c with h1 | h1
   ·
    exact h.lx A (by simp) x h1 f
   exact h.lx B (by simp) x h1 f
  exact h.lx D (by simp [a]) x c f
 ·
  intro D a x c;simp only [List.mem_cons] at a
  rcases a with rfl | a
  ·
   rcases i x c with h1 | h1
   ·
    exact h.lV A (by simp) x h1
   exact h.lV B (by simp) x h1
  exact h.lV D (by simp [a]) x c
 ·
  grind [List.pairwise_cons]
 intro D a;simp only [List.mem_cons] at a
 rcases a with rfl | a
 ·
  exact o
 exact h.ok D (by simp [a])
theorem St.one(h:St w0 M Z w l) (c:A∈l):St w (nZ [A]) Z w [A] where
 cq:=fZ.refl _ _
 jC:=h.jC
 lx D a:=by simp at a;subst a;exact h.lx _ c
 lV D a x f:=.inl ⟨D,a,f⟩
 sq:=by simp
 ok D a:=by simp at a;subst a;exact h.ok _ c
theorem St.Ot(h:St w0 M Z w l) (f:A∈l) (a:St w (nZ [A]) Z w' [A]):St w0 M Z w' l:=
 h.same f (a.cq.mono fun x _ ⟨D,c,i⟩=>by simp at c;subst c;exact i) (a.ok A (by simp))
end
end Go.Rc

namespace Go.Rc
open Go
structure Good (aa:List aG) (aD:List bW) (s:ES):Prop where
 aD:s.b.ab=aD
 len:s.b.ai.length≤4000
 key:∀r∈s.b.ai,dU aa r.key
 zh:∀r∈s.b.ai,r.reads.length≤4000∧∀a∈r.reads,dU aa a
 jq:(s.busy.map (·.1)).Nodup
 busy:∀k,bq s.busy k=none∨bq s.busy k=some (.bool true)
section
variable {aa:List aG}{aD:List bW}{s:ES}{k:Key}
theorem cn(rev:Int) (g:List Key) (d:Bool) (r:Rec):(aY rev g d r).key=r.key∧(aY rev g d r).reads=r.reads:=by unfold aY;grind
theorem Good.mark(h:Good aa aD s) (g:List Key) (d:Bool):Good aa aD {s with b:=eG s.b g d}:=
 {h with
  len:=by show((s.b.ai.map _).length≤4000);rw [List.length_map];exact h.len
  key:=fun r hr=>by obtain⟨q,a,rfl⟩:=List.mem_map.1 hr;rw [(cn _ _ _ q).1];exact h.key q a
  zh:=fun r hr=>by obtain⟨q,a,rfl⟩:=List.mem_map.1 hr;rw [(cn _ _ _ q).2];exact h.zh q a}
theorem eW(r:Rec):∀(l:List Rec) (b:Bool) (x:Rec),x∈fD r l b→x=r∨x∈l:=by
 intro l
 induction l with
 | nil=>grind [fD]
 | cons y a c=>grind [fD]
theorem xn(r:Rec):∀(l:List Rec) (b:Bool),(fD r l b).length+(l.filter fun x=>decide (bl x.key r.key=0)).length=l.length+(if b then 0 else 1):=by
 intro l
 induction l with
 | nil=>intro b;cases b <;> simp [fD]
 | cons y c a=>
  intro b;have h1:=a (b || decide (0≤bl y.key r.key));simp only [fD,List.length_append,List.length_cons]
  grind
theorem DD{l:List Rec}{r:Rec}(h:(ay l r.key).isSome=true) (hc:bl r.key r.key=0):(eJ l r).length≤l.length:=by
 have h1:=xn r l false;obtain⟨x,a⟩:=Option.isSome_iff_exists.1 h;have f:=List.mem_of_find?_eq_some a;have c:=List.find?_some a
 simp at c
 have i:0<(l.filter fun x=>decide (bl x.key r.key=0)).length:=List.length_pos_of_mem (List.mem_filter.2 ⟨f,by rw [c];simp [hc]⟩)
 unfold eJ
 simp at h1
 omega
theorem tE:∀l:List UInt8,Lib.compareBytes l l=0
 | []=>by simp [Lib.compareBytes]
 | a::r=>by simp [Lib.compareBytes,tE r]
theorem fA(k:Key):bl k k=0:=by unfold bl;simp [tE]
theorem Good.put(h:Good aa aD s) {r:Rec}{bG:List Key}(hk:dU aa r.key) (hr:r.reads.length≤4000∧∀a∈r.reads,dU aa a) (f:(!(ay s.b.ai r.key).isSome && decide (4000≤s.b.ai.length))=false) :
  Good aa aD {s with b:={s.b with ai:=eJ s.b.ai r},bG:=bG}:=
 {h with
  len:=by grind [eJ,len,DD,fA,BL]
  key:=fun x c=>by rcases eW r _ _ x c with rfl | c;exact hk;exact h.key x c
  zh:=fun x c=>by rcases eW r _ _ x c with rfl | c;exact hr;exact h.zh x c}
def iZ(aa:List aG) (k:Key) (n:Nat):Prop:=∃i,i<aa.length∧k=aN aa (i:Int)∧n≤bQ aa i
theorem dU.fW(h:dU aa k) (hi:aw k=false):iZ aa k 0:=by
 cases h with
 | cell h=>grind [aR]
 | dM h gu=>exact⟨_,h,rfl,Nat.zero_le _⟩
theorem iZ.next(c:ao aa) {ae:List ByteArray}(h:iZ aa k ae.length) (o:(aM aa k ae).done=false):iZ aa k (ae.length+1)∧dU aa (aM aa k ae).ask:=by
 obtain⟨i,hi,rfl,hn⟩:=h
 have gu:i≤99:=by have:=c.len;omega
 rw [cY hi gu] at o ⊢
 rcases Nat.lt_or_ge ae.length (bQ aa i) with f | q
 ·
  obtain⟨a,h1,p,_⟩:=cR c hi f;rw [h1];exact⟨⟨i,hi,rfl,f⟩,p.yN c⟩
 grind [et]
theorem iZ.le(a:ao aa) {n:Nat}(h:iZ aa k n):n≤6:=by obtain⟨i,hi,_,hn⟩:=h;have:=iw a hi;omega
theorem iZ.not(a:ao aa) {n:Nat}(h:iZ aa k n):cx k∧aw k=false:=by
 obtain⟨i,hi,rfl,hn⟩:=h;grind [ao.len,dN,cG]
theorem iZ.yN(a:ao aa) {n:Nat}(h:iZ aa k n):dU aa k:=by obtain⟨i,hi,rfl,_⟩:=h;have:=a.len;exact .dM hi (by omega)
end
section
variable {aa:List aG}{val:Key→ByteArray}{aD:List bW}
theorem DE{aa:List aG}{aD:List bW}{s:ES}(h:Good aa aD s) {group:List Key}{n:Nat}{c:oU}(hc:(cj s.b.ai group)[n]?=some c):dU aa c.read:=by
 have h1:=List.mem_of_getElem? hc;obtain⟨m,hm,o⟩:=List.mem_flatMap.1 h1;obtain⟨a,p,rfl⟩:=List.mem_map.1 o;have f:=(List.mem_filter.1 p).1
 show dU aa a
 unfold aF at f
 cases i:ay s.b.ai m with
 | none=>rw [i] at f;simp [na] at f
 | some r=>rw [i] at f;exact(h.zh r (List.mem_of_find?_eq_some i)).2 a f
theorem qK(l:List Rec) (rev:Int) (k:Key):(aB l rev k).length≤l.length+1:=by grind [aB,lB,zg]
theorem Gs{aa:List aG}{aD:List bW}{s:ES}(h:Good aa aD s) {group:List Key}(c:group.length≤4001):∀i,((group.take i).flatMap fun m=>cN group m (aF s.b.ai m).reads).length≤100000000:=by
 intro i
 have h1:∀l:List Key,(l.flatMap fun m=>cN group m (aF s.b.ai m).reads).length≤l.length*4000:=by
  intro l
  induction l with
  | nil=>simp
  | cons m r f=>
   simp only [List.flatMap_cons,List.length_append,List.length_cons];have o:=jO group m (aF s.b.ai m).reads
   have p:(aF s.b.ai m).reads.length≤4000:=by
    unfold aF
    cases a:ay s.b.ai m with
    | none=>simp [na]
    | some r=>exact(h.zh r (List.mem_of_find?_eq_some a)).1
   rw [Nat.add_mul]
   omega
 grind
theorem Gt{aa:List aG}{aD:List bW}{s:ES}(h:Good aa aD s) {group:List Key}(a:group.length≤4001):(cj s.b.ai group).length≤100000000:=by
 have h1:=Gs h a group.length;rw [List.take_of_length_le (Nat.le_refl _)] at h1;exact h1
end
end Go.Rc

namespace Go.Rc
open Go
/-! ### counting -/
def IA(p:Nat→Bool):Nat→Nat
 | 0=>0
 | n+1=>IA p n+(p n).toNat
theorem zi{p q:Nat→Bool}:∀{n:Nat},(∀i,i<n→p i=true→q i=true)→IA p n≤IA q n
 | 0,_=>Nat.le_refl _
 | n+1,h=>by
  have h1:=zi (n:=n) fun i hi=>h i (by omega)
  have a:=h n (by omega);simp only [IA]
  cases c:p n with
  | false=>simp;omega
  | true=>rw [a c];omega
theorem DF{p q:Nat→Bool}{j:Nat}:∀{n:Nat},(∀i,i<n→p i=true→q i=true)→j<n→q j=true→p j=false→IA p n+1≤IA q n
 | 0,_,c,_,_=>by omega
 | n+1,h,c,h1,a=>by
  simp only [IA]
  rcases Nat.lt_or_ge j n with f | v
  ·
   have o:=DF (n:=n) (fun i hi=>h i (by omega)) f h1 a;have r:=h n (by omega)
   cases u:p n with
   | false=>simp;omega
   | true=>rw [r u];omega
  have e:j=n:=by omega
  subst e
  have o:=zi (n:=j) (p:=p) (q:=q) fun i hi=>h i (by omega)
  rw [h1,a];simp;omega
/-! ### what is found in what was put -/
theorem AZ:∀(a b:List UInt8),Lib.compareBytes a b=0→a=b
 | [],[],_=>rfl
 | [],_::_,h=>by simp [Lib.compareBytes] at h
 | _::_,[],h=>by simp [Lib.compareBytes] at h
 | x::a,y::b,h=>by
  simp only [Lib.compareBytes] at h
  split at h
  ·
   cases h
  split at h
  ·
   cases h
  rename_i h1 c
  have e:x=y:=by grind
  rw [e,AZ a b h]
theorem jR{a b:Key}(h:bl a b=0):a=b:=by
 unfold bl at h
 split at h
 ·
  cases h
 split at h
 ·
  cases h
 rename_i h1 c
 have f:=AZ _ _ h;obtain⟨o,i⟩:=a;obtain⟨p,q⟩:=b;simp only at h1 c f
 congr 1
 ·
  omega
 cases i;simp_all
theorem xo(r:Rec) (k:Key):∀(l:List Rec) (b:Bool),ay (fD r l b) k=if k=r.key then (if b then none else some r) else ay l k:=by
 intro l
 induction l with
 | nil=>
  intro b
  unfold fD ay
  grind
 | cons x xs a=>
  intro b;have h1:=a (b || decide (0≤bl x.key r.key))
  unfold fD
  unfold ay at h1 ⊢
  rw [List.find?_append,List.find?_append,h1]
  by_cases h:k=r.key
  ·
   subst h;simp only [if_true]
   by_cases hc:bl x.key r.key=0
   ·
    grind
   have f:x.key≠r.key:=fun e=>hc (by rw [e];exact fA _)
   grind
  simp only [if_neg h]
  have hr:(r.key == k)=false:=by simp;exact fun e=>h e.symm
  have c:(List.find? (fun y=>y.key == k) (if (decide (0≤bl x.key r.key) && !b)=true then [r] else []))=none:=by split <;> simp [hr]
  rw [c]
  by_cases hc:bl x.key r.key=0
  ·
   have e:x.key=r.key:=jR hc
   grind
  grind
theorem ck(l:List Rec) (r:Rec) (k:Key):ay (eJ l r) k=if k=r.key then some r else ay l k:=by grind [eJ,xo]
theorem tF(f:Rec→Rec) (a:∀r,(f r).key=r.key) (k:Key) (l:List Rec):ay (l.map f) k=(ay l k).map f:=by
 unfold ay
 rw [List.find?_map,show((fun x:Rec=>x.key == k)∘f)=(fun x:Rec=>x.key == k) from funext fun x=>by simp [a]]
/-! ### what goes on being so -/
theorem aL{x:cB}{k:Key}:az x k=true↔∃r,ay x.ai k=some r∧r.aq=x.ad:=by
 unfold az aF
 cases a:ay x.ai k with
 | none=>simp
 | some r=>simp
theorem gh{x:cB}{g:List Key}{k:Key}(h:(ay x.ai k).isSome=true) (hk:k∈g):az (eG x g false) k=true:=by
 obtain⟨r,h1⟩:=Option.isSome_iff_exists.1 h;have a:=List.find?_some h1
 simp at a
 refine aL.2 ⟨aY x.ad g false r,?_,?_⟩
 ·
  show ay (x.ai.map (aY x.ad g false)) k=_
  grind [tF,cn]
 show _=x.ad
 grind [aY]
theorem jS{x:cB}{r:Rec}(hr:r.aq=x.ad):az {x with ai:=eJ x.ai r} r.key=true:=
 aL.2 ⟨r,by show ay (eJ x.ai r) r.key=_;rw [ck,if_pos rfl],hr⟩
end Go.Rc

namespace Go.Rc
open Go
end Go.Rc

namespace Go.Rc
open Go
/-! ### the order of keys -/
theorem tH:∀a b:List UInt8,Lib.compareBytes b a = - Lib.compareBytes a b
 | [],[]=>rfl
 | [],_::_=>rfl
 | _::_,[]=>rfl
 | x::a,y::b=>by
  simp only [Lib.compareBytes]
  by_cases h1:x<y
  ·
   grind
  by_cases c:y<x
  ·
   grind
  rw [if_neg c,if_neg h1,if_neg h1,if_neg c,tH a b]
theorem qL:∀a b c:List UInt8,Lib.compareBytes a b<0→Lib.compareBytes b c<0→Lib.compareBytes a c<0
 | _,[],[],_,h=>by simp [Lib.compareBytes] at h
 | [],[],_::_,h,_=>by simp [Lib.compareBytes] at h
 | _::_,[],_::_,h,_=>by simp [Lib.compareBytes] at h
 | _,_::_,[],_,h=>by simp [Lib.compareBytes] at h
 | [],_::_,_::_,_,_=>by simp [Lib.compareBytes]
 | x::a,y::b,z::c,h1,f=>by
  simp only [Lib.compareBytes] at h1 f ⊢
  by_cases e1:x<y
  ·
   grind
  rw [if_neg e1] at h1
  by_cases e3:y<x
  ·
   rw [if_pos e3] at h1;simp at h1
  rw [if_neg e3] at h1
  by_cases e2:y<z
  ·
   grind
  rw [if_neg e2] at f
  by_cases i:z<y
  ·
   rw [if_pos i] at f;simp at f
  rw [if_neg i] at f;rw [if_neg (by grind),if_neg (by grind)];exact qL a b c h1 f
theorem gF(a b:Key):bl b a = - bl a b:=by
 unfold bl
 by_cases h1:a.kind<b.kind
 ·
  grind
 by_cases c:b.kind<a.kind
 ·
  grind
 rw [if_neg c,if_neg h1,if_neg h1,if_neg c,tH]
theorem fN{a b c:Key}(h1:bl a b<0) (f:bl b c<0):bl a c<0:=by
 unfold bl at h1 f ⊢
 by_cases e1:a.kind<b.kind
 ·
  grind
 rw [if_neg e1] at h1
 by_cases h:b.kind<a.kind
 ·
  rw [if_pos h] at h1;simp at h1
 rw [if_neg h] at h1
 by_cases e2:b.kind<c.kind
 ·
  rw [if_pos (by omega)];decide
 rw [if_neg e2] at f
 by_cases e3:c.kind<b.kind
 ·
  rw [if_pos e3] at f;simp at f
 rw [if_neg e3] at f;rw [if_neg (by omega),if_neg (by omega)];exact qL _ _ _ h1 f
def mR(l:List Rec):Prop:=l.Pairwise fun a b=>bl a.key b.key<0
theorem qM(r:Rec):∀l:List Rec,fD r l true=l.filter fun x=>!decide (bl x.key r.key=0)
 | []=>rfl
 | x::xs=>by
  simp only [fD,Bool.not_true,Bool.and_false,Bool.false_eq_true,if_false,Bool.true_or,List.nil_append,qM r xs,List.filter_cons]
  grind
theorem mR.put{r:Rec}:∀{l:List Rec},mR l→mR (eJ l r)
 | [],_=>by simp [mR,eJ,fD]
 | x::xs,h=>by
  obtain⟨h1,a⟩:=List.pairwise_cons.1 h;have f:mR (eJ xs r):=mR.put a;have c:mR (xs.filter fun y=>!decide (bl y.key r.key=0)):=List.Pairwise.filter _ a
  show mR (fD r (x::xs) false)
  simp only [fD,Bool.not_false,Bool.and_true,Bool.false_or]
  by_cases c1:bl x.key r.key<0
  ·
   rw [decide_eq_false (show ¬0≤bl x.key r.key by omega),if_neg (show ¬bl x.key r.key=0 by omega)];simp only [Bool.false_eq_true,if_false,List.nil_append,List.singleton_append];refine List.pairwise_cons.2 ⟨fun y hy=>?_,f⟩
   grind [eW]
  rw [decide_eq_true (show 0≤bl x.key r.key by omega),qM];simp only [if_true]
  by_cases c2:bl x.key r.key=0
  ·
   rw [if_pos c2];simp only [List.append_nil,List.singleton_append];refine List.pairwise_cons.2 ⟨fun y hy=>?_,c⟩
   grind [jR]
  rw [if_neg c2];simp only [List.singleton_append,List.cons_append]
  have c3:bl r.key x.key<0:=by rw [gF x.key r.key];omega
  refine List.pairwise_cons.2 ⟨fun y hy=>?_,List.pairwise_cons.2 ⟨fun y hy=>h1 y (List.mem_filter.1 hy).1,c⟩⟩
  grind [fN]
theorem mR.kJ{l:List Rec}(h:mR l) (hn:l.length≤4000) (c:∀r∈l,dm r=true):kJ l:=by
 refine⟨hn,fun i x a=>⟨c x (List.mem_of_getElem? a),fun hi=>?_⟩⟩;obtain⟨hl,rfl⟩:=List.getElem?_eq_some_iff.1 a;rw [getElem!_pos l (i - 1) (by omega)];exact List.pairwise_iff_getElem.1 h (i - 1) i (by omega) hl (by omega)
/-! ### values are short -/
section
variable {aa:List aG}{aD:List bW}
theorem tI{n:Nat}(h:n≤65535):(itoa (n:Int)).size≤6:=by
 have e:Lib.itoa (n:Int)=Lib.decDigits n:=by unfold Lib.itoa;rw [if_neg (by omega)];rfl
 grind [itoa,Lib.decDigits,ByteArray.size]
theorem zj(a:ao aa) {i:Nat}(hi:i<aa.length):∃n:Nat,n≤65535∧valOf aa aD (aN aa (i:Int))=itoa (n:Int):=by
 have h1:=eM (aD:=aD) a hi;rw [et a hi (ep _ _ _).2] at h1;have hc:=ao.hb a _ (List.getElem_mem hi);refine⟨_,lu (kind:=aa[i].final) (c:=aa[i].c.toNat) (l:=(dc (bN aa (aN aa (i:Int))) (valOf aa aD) (bQ aa i)).2.map bR) (by omega) (fun x f=>?_),?_⟩
 ·
  grind [iS]
 grind
theorem DH(a:ao aa) {i:Nat}(hi:aa.length≤i):pG aa aD i=⟨#[]⟩:=by
 have hk:aN aa (i:Int)=dA:=by unfold aN;rw [if_pos (by omega)]
 unfold pG nq
 rw [if_neg (by rw [jG hi];simp),hk]
 unfold bN
 rw [if_pos (.inl (by unfold number dA;simp))]
theorem zk(a:ao aa) (hi:∀x∈aD,x.value.size≤1000) (k:Key):(valOf aa aD k).size≤1000:=by
 by_cases hk:aw k=true
 ·
  unfold valOf cellOf
  rw [if_pos hk]
  unfold bf
  cases c:aD.find? fun x=>x.key == k with
  | none=>simp [ByteArray.size]
  | some x=>grind
 have e:valOf aa aD k=pG aa aD (number k).toNat:=by unfold valOf;rw [if_neg hk]
 rw [e]
 rcases Nat.lt_or_ge (number k).toNat aa.length with h | h
 ·
  rw [← fy a h];obtain⟨n,hn,f⟩:=zj (aD:=aD) a h
  grind [tI]
 grind [DH,ByteArray.size]
theorem jT(aa:List aG) (aD:List bW) (i:Nat):(ca aa aD i).length=bQ aa i:=(ep _ _ _).1
theorem jU(f:ao aa) {i:Nat}(hi:i<aa.length):∀a∈ca aa aD i,dB aa i a:=by
 have key:∀n,n≤bQ aa i→∀a∈(dc (bN aa (aN aa (i:Int))) (valOf aa aD) n).1,dB aa i a:=by
  intro n
  induction n with
  | zero=>intro _ a c;simp [dc] at c
  | succ n h=>grind [dc,cR,ep]
 exact key _ (Nat.le_refl _)
theorem dU.valid{k:Key}(h:dU aa k):ek k=true:=by
 cases h with
 | cell h=>
  rename_i n
  have hc:bO (n:Int)=⟨30,itoa (n:Int)⟩:=by unfold bO;rw [if_neg (by omega)]
  rw [hc]
  unfold ek number
  simp only [];rw [if_pos (by omega)]
  grind [hV]
 | dM h gu=>
  rename_i i
  have h1:=bC h gu;have a:=dn h gu
  unfold ek
  grind
end
section
variable {aa:List aG}{aD:List bW}{s t:ES}{k:Key}
theorem aH{l:List Rec}{r:Rec}(h:ay l k=some r):r∈l∧r.key=k:=by grind [ay]
def nt(aa:List aG) (j:Nat):Nat:=if aA aa j then bd aa j else j
def Lw(aa:List aG) (i b:Nat):Prop:=if aA aa i then bd aa i≤b else i<b
theorem Gu(c:ao aa) {i:Nat}(hi:i<aa.length) {ae:List ByteArray}(hn:ae.length<bQ aa i) :
  ∃a,bN aa (aN aa (i:Int)) ae=⟨false,⟨#[]⟩,a⟩∧dB aa i a∧∀m:Nat,m<aa.length→a=aN aa (m:Int)→Lw aa m (nt aa i)∧∀b,Lw aa i b→Lw aa m b:=by
 have H:=c.len;obtain⟨a,h1,f,o⟩:=cR c hi hn;refine⟨a,h1,f,fun m hm p=>?_⟩;have hb:=eL aa m
 cases hr:aA aa i with
 | false=>
  have I:m<i:=by
   rcases f with⟨n,h,rfl⟩ | ⟨q,h,rfl,_,r,_⟩
   ·
    grind [aR,cG]
   grind [dt]
  unfold Lw nt
  grind
 | true=>
  unfold Lw nt
  rw [hr];simp only [if_true]
  cases J:aA aa m with
  | false=>
   have L:m<bd aa i:=by
    rcases f with⟨n,h,rfl⟩ | ⟨q,h,rfl,_,_,_,r⟩
    ·
     grind [aR,cG]
    grind [dt]
   grind
  | true=>
   obtain⟨x,u,v⟩:=o hr;have y:=List.mem_of_getElem? u
   have z:outside aa x=false:=by grind [gD,aW]
   obtain⟨N,E,F,G⟩:=fM c hi hr y z
   have:=dt c G hm (F.symm.trans (v.symm.trans p))
   subst this;have O:=iy c (cm.step cm.refl E)
   grind
end
end Go.Rc

namespace Go.Rc
open Go
theorem eN(x:Rec):dm x=true↔(∀a∈x.reads,ek a=true)∧ek x.key=true∧aw x.key=false∧(x.value.size:Int)≤1073741824∧(x.reads.length:Int)≤4000∧0≤x.changed∧x.changed≤x.aq∧x.aq≤1073741824∧1≤x.cost∧x.cost≤1073741824∧(x.bV=false∨ax x.key=true):=by
 unfold dm eK
 grind
structure DI (s:ES):Prop where
 st:mR s.b.ai
 v:∀r∈s.b.ai,dm r=true∧r.aq≤s.b.ad
 r0:0≤s.b.ad
 r1:s.b.ad≤1073741824
section
variable {aa:List aG}{aD:List bW}{val:Key→ByteArray}{s t:ES}{k:Key}
theorem mR.map{l:List Rec}(h:mR l) {f:Rec→Rec}(a:∀r,(f r).key=r.key):mR (l.map f):=by grind [mR]
theorem DI.DJ(h:DI s) (g:List Key):DI {s with b:=eG s.b g false}:=by
 refine⟨h.st.map fun r=>(cn _ _ _ r).1,fun r hr=>?_,h.r0,h.r1⟩;obtain⟨q,o,rfl⟩:=List.mem_map.1 hr;obtain⟨h1,p⟩:=h.v q o;have h0:=h.r0;have u:=h.r1
 unfold aY
 by_cases hk:q.key∈g
 ·
  rw [if_pos hk];simp only [Bool.false_eq_true,if_false];rw [eN] at h1 ⊢;obtain⟨a,b,c,d,e,f,g,i,j,k,l⟩:=h1;exact⟨⟨a,b,c,d,e,f,by grind,u,j,k,l⟩,Int.le_refl _⟩
 rw [if_neg hk];exact⟨h1,p⟩
theorem DI.DK(h:DI s) {g:List Key}(hc:∀x∈g,ax x=true):DI {s with b:=eG s.b g true}:=by
 refine⟨h.st.map fun r=>(cn _ _ _ r).1,fun r hr=>?_,h.r0,h.r1⟩;obtain⟨q,p,rfl⟩:=List.mem_map.1 hr;obtain⟨h1,o⟩:=h.v q p
 unfold aY
 by_cases hk:q.key∈g
 ·
  rw [if_pos hk];simp only [if_true];rw [eN] at h1 ⊢;obtain⟨a,b,c,d,e,f,g,i,j,k,l⟩:=h1;exact⟨⟨a,b,c,d,e,f,g,i,j,k,.inr (hc _ hk)⟩,o⟩
 rw [if_neg hk];exact⟨h1,o⟩
theorem zl{l:List Rec}{rev:Int}(hk:ax k=true):∀x∈aB l rev k,ax x=true:=fun x a=>by
 unfold aB at a
 split at a
 ·
  rw [lC,List.mem_cons] at a
  rcases a with rfl | a
  ·
   exact hk
  obtain⟨r,hr,rfl⟩:=List.mem_map.1 a
  have:=(List.mem_filter.1 hr).2
  unfold J2 at this
  simp only [Bool.and_eq_true] at this;have c:=(mz.1 this.2.1).kA
  unfold bU at c
  grind
 grind
theorem DI.put(h:DI s) {r:Rec}{bG:List Key}(c:dm r=true) (hr:r.aq≤s.b.ad):DI {s with b:={s.b with ai:=eJ s.b.ai r},bG:=bG}:=
 ⟨h.st.put,fun q a=>by rcases eW _ _ _ _ a with rfl | a;exact⟨c,hr⟩;exact h.v q a,h.r0,h.r1⟩
theorem B3(a:ao aa) {ae:List ByteArray}(h:iZ aa k ae.length) (c:(aM aa k ae).done=true):(aM aa k ae).value.size≤6:=by
 obtain⟨i,hi,rfl,hn⟩:=h;have f:=a.len;rw [cY hi (by omega)] at c ⊢
 rcases Nat.lt_or_ge ae.length (bQ aa i) with o | p
 ·
  grind [cR]
 rw [et a hi (by omega)];have hc:=ao.hb a _ (List.getElem_mem hi);exact tI (lu (by omega) fun x q=>by grind [iS])
theorem zm(f:ao aa) (h:DI s) {ae:List ByteArray}{reads:List Key}(i:iZ aa k ae.length) (u:(aM aa k ae).done=true) (hl:reads.length=ae.length) (hr:∀a∈reads,dU aa a) :
  dm (bY s.b k (aM aa k ae).value reads)=true:=by
 have E:=i.le f;have F:=B3 f i u;have h0:=h.r0;have h1:=h.r1;rw [eN]
 unfold bY
 have y:∀c:Int,(c=if (ay s.b.ai k).isSome && decide ((aF s.b.ai k).value=(aM aa k ae).value) then (aF s.b.ai k).changed else s.b.ad)→0≤c∧c≤s.b.ad:=fun c hc=>by
  split at hc
  ·
   rename_i o
   simp only [Bool.and_eq_true] at o;obtain⟨r,z⟩:=Option.isSome_iff_exists.1 o.1;have hm:=(aH z).1;obtain⟨p,q⟩:=h.v r hm
   grind [eN,aF]
  omega
 obtain⟨p,q⟩:=y _ rfl;exact⟨fun a hm=>(hr a hm).valid,(i.yN f).valid,(i.not f).2,by grind,by grind,p,q,h1,by grind,by grind,.inl rfl⟩
end
end Go.Rc

namespace Go.Rc
open Go
theorem zn{α:Type}{R:α→α→Prop}(ht:∀a b c,R a b→R b c→R a c) {l:List α}(h:∀(i:Nat) (hi:i+1<l.length),R (l[i]'(by omega)) l[i+1]):l.Pairwise R:=by
 refine List.pairwise_iff_getElem.2 fun i j hi f o=>?_;obtain⟨d,rfl⟩:∃d,j=i+1+d:=⟨j - (i+1),by omega⟩
 induction d with
 | zero=>exact h i f
 | succ d p=>grind
def pH(l:List bW):Prop:=l.Pairwise fun a b=>bl a.key b.key<0
def Gv(rev:Int) (x:bW):Prop:=ek x.key=true∧aw x.key=true∧(x.value.size:Int)≤1073741824∧0≤x.changed∧x.changed≤rev
theorem zo{rev:Int}{l:List bW}:uJ rev l↔pH l∧∀x∈l,Gv rev x:=by
 constructor
 ·
  intro h
  have h1:∀(i:Nat) (hi:i<l.length),Gv rev l[i]∧(0<i→bl (l[i - 1]!).key l[i].key<0):=fun i hi=>by
   have o:=h i _ (ah hi)
   unfold fK at o
   simp only [getElem!_pos l i hi,Bool.or_eq_false_iff,Bool.not_eq_false',Bool.and_eq_false_iff,decide_eq_false_iff_not] at o;obtain⟨a,b,c,d,e,f⟩:=o;exact⟨⟨a,b,by omega,by omega,by omega⟩,fun h0=>by rcases c with c | c <;> omega⟩
  refine⟨zn (R:=fun a b:bW=>bl a.key b.key<0) (fun a b c h k=>fN h k) fun i hi=>?_,fun x p=>?_⟩
  ·
   grind
  grind [List.mem_iff_getElem]
 rintro⟨h1,o⟩ i y hy;obtain⟨hi,rfl⟩:=List.getElem?_eq_some_iff.1 hy;obtain⟨a,b,c,d,e⟩:=o _ (List.getElem_mem hi)
 unfold fK
 simp only [getElem!_pos l i hi,Bool.or_eq_false_iff,Bool.not_eq_false',Bool.and_eq_false_iff,decide_eq_false_iff_not];refine⟨a,b,?_,by omega,by omega,by omega⟩
 by_cases h0:0<i
 ·
  right
  rw [getElem!_pos l (i - 1) (by omega)]
  have:=List.pairwise_iff_getElem.1 h1 (i - 1) i (by omega) hi (by omega)
  omega
 left
 omega
def eu(n:bW):List bW→Bool→List bW
 | [],put=>if put then [] else [n]
 | x::xs,put=>(if decide (0≤bl x.key n.key) && !put then [n] else [])++(if bl x.key n.key=0 then [] else [x])++eu n xs (put || decide (0≤bl x.key n.key))
theorem qN(n:bW):∀(l:List bW) (b:Bool) (x:bW),x∈eu n l b→x=n∨x∈l:=by
 intro l
 induction l with
 | nil=>grind [eu]
 | cons y a c=>grind [eu]
theorem n5(n:bW):∀l:List bW,eu n l true=l.filter fun x=>!decide (bl x.key n.key=0)
 | []=>rfl
 | x::xs=>by
  simp only [eu,Bool.not_true,Bool.and_false,Bool.false_eq_true,if_false,Bool.true_or,List.nil_append,n5 n xs,List.filter_cons]
  grind
theorem kN(n:bW):∀(l:List bW) (b:Bool),(eu n l b).length≤l.length+1
 | [],b=>by cases b <;> simp [eu]
 | x::xs,b=>by
  by_cases h:(decide (0≤bl x.key n.key) && !b)=true
  ·
   have hb:(b || decide (0≤bl x.key n.key))=true:=by simp at h;simp [h.1]
   simp only [eu,List.length_append,List.length_cons];rw [if_pos h,hb,n5]
   grind
  have a:=kN n xs (b || decide (0≤bl x.key n.key));simp only [eu,List.length_append,List.length_cons]
  grind
theorem pH.put{n:bW}:∀{l:List bW},pH l→pH (eu n l false)
 | [],_=>by simp [pH,eu]
 | x::xs,h=>by
  obtain⟨h1,a⟩:=List.pairwise_cons.1 h;have f:pH (eu n xs false):=pH.put a;have c:pH (xs.filter fun y=>!decide (bl y.key n.key=0)):=List.Pairwise.filter _ a
  show pH (eu n (x::xs) false)
  simp only [eu,Bool.not_false,Bool.and_true,Bool.false_or]
  by_cases c1:bl x.key n.key<0
  ·
   rw [decide_eq_false (show ¬0≤bl x.key n.key by omega),if_neg (show ¬bl x.key n.key=0 by omega)];simp only [Bool.false_eq_true,if_false,List.nil_append,List.singleton_append];refine List.pairwise_cons.2 ⟨fun y hy=>?_,f⟩
   grind [qN]
  rw [decide_eq_true (show 0≤bl x.key n.key by omega),n5];simp only [if_true]
  by_cases c2:bl x.key n.key=0
  ·
   rw [if_pos c2];simp only [List.append_nil,List.singleton_append];refine List.pairwise_cons.2 ⟨fun y hy=>?_,c⟩
   grind [jR]
  rw [if_neg c2];simp only [List.singleton_append,List.cons_append]
  have c3:bl n.key x.key<0:=by rw [gF x.key n.key];omega
  refine List.pairwise_cons.2 ⟨fun y hy=>?_,List.pairwise_cons.2 ⟨fun y hy=>h1 y (List.mem_filter.1 hy).1,c⟩⟩
  grind [fN]
end Go.Rc

namespace Go.Rc
open Go
def Gw(r:aG):Prop:=r.ring=false∧r.asks=[]∧r.final=1∧0≤r.c∧r.c≤99
theorem Gw.key{aa:List aG}{i:Nat}(hi:i<aa.length) (gu:i≤99) (h:Gw aa[i]):aN aa (i:Int)=⟨31,itoa i⟩:=by
 unfold aN
 rw [if_neg (by omega)]
 simp [bs hi,h.1]
end Go.Rc
namespace Go.Rc
open Go
def J3(i:Nat) (v:ByteArray):Rec:=⟨⟨31,itoa i⟩,v,[],0,0,1,false⟩
def qO{α:Type}(l:List α) (p:α→Bool) (j:Int):Prop:=(∃i:Nat,∃x,l[i]?=some x∧p x=true∧(∀j x,j<i→l[j]?=some x→p x=false)∧j=i)∨((∀x∈l,p x=false)∧j = -1)
end Go.Rc
namespace Go.Rc
open Go
structure WD where
 (ar a1 a2:Option Addr) (r cr n1 c1 n2 c2 m v:Nat)
end Go.Rc

namespace Go.Rc
open Go
def sA(a b:Int):Int:=if a<b then -1 else if b<a then 1 else 0
def J4(l:List Int):Int:=(l.find? fun x=>decide (x≠0)).getD 0
theorem J5{l:List Int}{i:Nat}(hi:i<l.length) (a:∀j x,j<i→l[j]?=some x→x=0) (h:l[i]≠0):J4 l=l[i]:=by grind [J4,iT]
theorem Gx{l:List Int}(h:∀x∈l,x=0):J4 l=0:=by grind [J4,List.find?_eq_none]
theorem Gy{a b:Key}:J4 [sA a.kind b.kind,Lib.compareBytes a.text.data.toList b.text.data.toList]=bl a b:=by
 unfold J4 sA bl
 grind
theorem xp{α:Type}{R:α→List Value→Prop}{x y:α}{r s:List Value}(h1:R x r) (a:R y s):∀(i:Nat) (z:α) (t:List Value),[x,y][i]?=some z→[r,s][i]?=some t→R z t:=fun i z t c ht=>by grind
theorem dU.shape{aa:List aG}{k:Key}(h:dU aa k):∃i:Nat,i≤99∧k.text=itoa i∧(30≤k.kind∧k.kind≤32):=by
 cases h with
 | cell h=>rename_i n;exact⟨n,h,by unfold bO;rw [if_neg (by omega)],by unfold bO;rw [if_neg (by omega)];simp⟩
 | dM h gu=>rename_i i;exact⟨i,gu,by unfold aN;rw [if_neg (by omega)],by grind [dn]⟩
theorem dU.cx{aa:List aG}{k:Key}(h:dU aa k):cx k:=by
 obtain⟨_,_,_,h1⟩:=h.shape;exact .inr (by omega)
theorem nu{aa:List aG}{k:Key}(h:dU aa k) (hc:ax k=true):k.kind=32:=by
 cases h with
 | cell h=>grind [iv]
 | dM h gu=>grind [aW,dn]
theorem qO.any{α:Type}{l:List α}{p:α→Bool}{j:Int}(h:qO l p j):decide (0≤j)=l.any p:=by
 rcases h with⟨i,x,h1,a,_,rfl⟩ | ⟨h1,rfl⟩
 ·
  grind
 grind
def DL(aa:List aG) (x:Rec):Prop:=dU aa x.key∧aw x.key=false∧(∀a∈x.reads,dU aa a)∧dm x=true
def qP(aa:List aG) (x:cB):Prop:=0≤x.ad∧x.ad≤1073741824∧(pH x.ab∧∀y∈x.ab,Gv x.ad y)∧(∀y∈x.ab,∃i:Nat,i≤99∧y.key=⟨30,itoa i⟩)∧x.ab.length≤64∧(∀r∈x.ai,DL aa r)∧mR x.ai∧x.ai.length≤4000∧∀r∈x.ai,r.aq≤x.ad
end Go.Rc

namespace Go.Rc
open Go
section
variable {l l':List aG}
def bH(l l':List aG):Prop:=l.map (·.ring)=l'.map (·.ring)
theorem bH.len(h:bH l l'):l.length=l'.length:=by simpa using congrArg List.length h
theorem bH.rg(h:bH l l') (i:Nat):aA l i=aA l' i:=by
 have a:=congrArg (fun x=>x[i]?) h
 grind [aA]
theorem bH.lo(h:bH l l'):∀k,bd l k=bd l' k
 | 0=>rfl
 | k+1=>by unfold bd;rw [h.rg k,h.lo k]
theorem j9:∀{l l':List aG},bH l l'→(l.takeWhile (·.ring)).length=(l'.takeWhile (·.ring)).length
 | [],[],_=>rfl
 | [],_::_,h=>by simp [bH] at h
 | _::_,[],h=>by simp [bH] at h
 | x::r,y::s,h=>by
  simp only [bH,List.map_cons,List.cons.injEq] at h;have a:=j9 (l:=r) (l':=s) h.2
  grind [List.takeWhile_cons]
theorem bH.hi(h:bH l l') (m:Nat):cU l m=cU l' m:=by grind [cU,j9,bH,List.map_drop]
theorem bH.block(h:bH l l') (n:Int):block l n=block l' n:=by
 unfold Go.Rc.block
 rw [h.len,h.rg,h.lo,h.hi]
theorem bH.may(h:bH l l') (i:Nat) (c:Bool) (n:Int):eS l i c n=eS l' i c n:=by grind [eS,dT,rg,block]
theorem bH.ask(h:bH l l') (i:Nat) (g:Bool) (k:Nat) (x:Ask):dL l i g k x=dL l' i g k x:=by
 unfold dL
 rw [h.may,h.may]
theorem bH.dM(h:bH l l') (i:Nat) (r:aG):jI l i r↔jI l' i r:=by
 unfold jI
 simp only [h.ask]
theorem bH.set{i:Nat}(hi:i<l.length) {r:aG}(hr:r.ring=aA l i):bH (l.set i r) l:=by
 unfold bH
 rw [List.map_set,hr,bs hi];refine List.ext_getElem? fun j=>?_
 grind
def jf(l:List aG) (i:Nat):Prop:=l.length≤8∧∀(j:Nat) (r:aG),l[j]?=some r→j<i→jI l j r
theorem jf.start(h:l.length≤8):jf l 0:=⟨h,fun _ _ _ h=>by omega⟩
theorem jf.set{i:Nat}(h:jf l i) (hi:i<l.length) {r:aG}(hr:r.ring=aA l i) (f:jI l i r):jf (l.set i r) (i+1):=by
 have c:=bH.set hi hr;refine⟨by rw [List.length_set];exact h.1,fun j x a o=>?_⟩;rw [c.dM];rw [List.getElem?_set] at a
 split at a
 ·
  grind
 exact h.2 j x a (by omega)
theorem jf.ok(h:jf l l.length):ao l:=⟨by have:=h.1;omega,fun i r hr=>h.2 i r hr (List.getElem?_eq_some_iff.1 hr).1⟩
theorem J6{i k:Nat}{g:Bool}{x:Ask}{most:Int}(hm:most=if x.cell then 4 else dT l i) (h0:0≤x.n) (h1:x.n<most) (a:x.pick=true→g=false∧k≠0∧0≤x.yZ∧x.yZ<most) (he:x.pick=false→x.yZ=0):dL l i g k x=true:=by grind [eS,dL]
end
end Go.Rc

namespace Go.Rc
open Go
def As.gv(E d:Nat):As where
 fp x:=x=d
 ok Z w:=y7 Z w E d
 lt h x hx:=by subst hx;exact h.lt
 mono hZ h:=by
  obtain⟨l,a,n,c,t,h1,h2,h3⟩:=h;exact⟨l,a,n,c,t,h1,SR.mono h2 (fun b hb _=>hZ b hb) (fun _ _ h=>h),h3⟩
 st hs hc h:=by
  obtain⟨l,a,n,c,t,h1,h2,h3⟩:=h;exact⟨l,a,n,c,t,(As.blk d E _).st (Z:=fun _=>False) hs (fun x hx=>hc x (hx.imp id False.elim)) h1,SR.st hs (fun x hx=>hc x (.inr hx)) (fun _ _ h=>h) h2,h3⟩
theorem As.gd{E d:Nat}{Z:Nat→Prop}{w:World}(h:(As.gv E d).ok Z w):y7 Z w E d:=h
def RR.cq:RR Change:=RR.flat Change.cells
def begun(g:Bool):aG:=⟨g,[],0,0⟩
theorem Ow.flat{α:Type}{f:α→List Value}{b T k n:Nat}{Z:Nat→Prop}{w:World}{xs:List α}{l:List Value}(h:bJ w b T l) (hl:l=(xs.map f).flatten) (hk:∀x∈xs,(f x).length=k) (h1:∀u∈l,u.oneCell'=true) (hn:n=xs.length) (hm:xs.length≤140737488355328) :
  Ow (RR.flat f) T k Z w (some ⟨b,0,none⟩) n n xs:=by
 subst hn hl
 have hlen:∀(a:List α),(∀x∈a,(f x).length=k)→(a.map f).flatten.length=a.length*k:=by
  intro a
  induction a with
  | nil=>simp
  | cons y a o=>grind
 refine⟨rfl,xs.map f,by simp,by simpa using hk,by simpa using OL.blk (k:=k) h (Nat.zero_le _) (m:=xs.length) (hlen xs hk) h1 hm,fun i x r c hr=>?_⟩;rw [List.getElem?_map,c] at hr
 simp at hr
 exact hr.symm
def As.T5{ι:Type}(b T:Nat) (F:ι→List Value):As where
 fp x:=x=b
 ok _ w:=∃i,bJ w b T (F i)
 lt h x hx:=by obtain⟨i,h⟩:=h;subst hx;exact h.lt
 mono _ h:=h
 st hs hc h:=by obtain⟨i,h⟩:=h;exact⟨i,(As.blk b T _).st (Z:=fun _=>False) hs (fun x hx=>hc x (hx.imp id False.elim)) h⟩
theorem Ow.ring{E n c i b:Nat}{Z:Nat→Prop}{w:World}{a:Option Addr}{l:List aG}(h:Ow RR.dM E 4 Z w a n c l) (o:a=some ⟨b,0,none⟩) (hle:l.length≤140737488355328) (hi:i<l.length):w.rangeAt b (0+i*4) [.bool l[i].ring]:=by
 obtain⟨b',r,h1,_,p,q⟩:=Ow.at h hle (ah hi);rw [o] at h1;simp only [Option.some.injEq,Addr.mk.injEq,and_true] at h1;subst h1;obtain⟨u,y,z,rfl,_⟩:=p;intro j v f
 cases j with
 | zero=>exact q 0 v f
 | succ j=>simp at f
theorem uO(l:List aG) (m:Nat) (hm:m≤l.length):cU l m≤l.length:=by grind [cU,List.takeWhile_sublist]
theorem sB{l:List aG}{i:Nat}(hi:i<l.length):0≤dT l i∧dT l i≤l.length:=by
 have h1:=uO l (i+1) (by omega)
 have hb:block l (i:Int)=if aA l i then ((bd l i:Int),(cU l (i+1):Int)) else ((i:Int),(i:Int)+1):=by
  unfold block;grind
 grind [dT]
theorem B4{l:List aG}{i:Nat}{g:Bool}{xs:List Ask}{x:Ask}(h:∀(k:Nat) y,xs[k]?=some y→dL l i g k y=true) (a:dL l i g xs.length x=true):∀(k:Nat) y,(xs++[x])[k]?=some y→dL l i g k y=true:=fun k y hy=>by grind
end Go.Rc

namespace Go.Rc
open Go
theorem mR.ne{l:List Rec}(h:mR l) {i:Nat}(hi:i<l.length):∀y∈l.take i,y.key≠l[i].key:=fun y hy e=>by
 obtain⟨j,a,rfl⟩:=List.mem_iff_getElem.1 hy
 have c:j<i:=by simp at a;omega
 have h1:bl l[j].key l[i].key<0:=List.pairwise_iff_getElem.1 h j i (by omega) hi c
 grind [gF]
end Go.Rc

namespace Go.Rc
open Go
section
variable {κ:Type}{enc:κ→Value}
def FW(enc:κ→Value) (w:World) (b m:Nat) (l left:List (κ × Value)) (cur:Option (κ × Value)):Prop:=
 ∃es clock since seen,w.heap[m]?=some (.map es clock)∧(es.toList.map (fun e=>(e.key,e.val))=l.map (fun p=>(enc p.1,p.2))∧(l.map (·.1)).Nodup∧(∀e∈es.toList,e.born<clock)∧(es.toList.map (·.born)).Nodup)∧
  w.heap[b]?=some (.mapIter (some m) since seen clock)∧b≠m∧since≤clock∧(∀e∈es.toList,e.born<since)∧
  (leftOf es seen).toList.map (fun e=>(e.key,e.val))=left.map (fun p=>(enc p.1,p.2))∧
  ∀p,cur=some p→∃e∈es.toList,seen.back?=some e.born∧e.key=enc p.1∧e.val=p.2
variable {w w':World}{b m:Nat}{l left:List (κ × Value)}{cur:Option (κ × Value)}
theorem FW.lt(h:FW enc w b m l left cur):b<w.heap.size∧m<w.heap.size:=by
 obtain⟨es,clock,since,seen,h1,_,a,_⟩:=h;exact⟨(Array.getElem?_eq_some_iff.1 a).1,(Array.getElem?_eq_some_iff.1 h1).1⟩
def As.J7(enc:κ→Value) (b m:Nat) (l left:List (κ × Value)) (cur:Option (κ × Value)):As where
 fp x:=x=b∨x=m
 ok _ w:=FW enc w b m l left cur
 lt h x hx:=by rcases hx with rfl | rfl;exact h.lt.1;exact h.lt.2
 mono _ h:=h
 st hs hc h:=by
  have hl:=h.lt;obtain⟨es,clock,since,seen,h1,h2,h3,h4⟩:=h;exact⟨es,clock,since,seen,by rw [hc m (.inl (.inr rfl)) hl.2];exact h1,h2,by rw [hc b (.inl (.inl rfl)) hl.1];exact h3,h4⟩
theorem As.Gz{Z:Nat→Prop}(h:(As.J7 enc b m l left cur).ok Z w):FW enc w b m l left cur:=h
def tJ(enc:κ→Value):Option (κ × Value)→Array Value
 | none=>#[.bool false]
 | some p=>#[.bool true,enc p.1,p.2]
theorem Ba(r:Option (κ × Value)):(tJ enc r)[0]?=some (.bool r.isSome):=by cases r <;> rfl
theorem ka:∀(L:List MapEntry) (j:Nat) (e:MapEntry),(L.map (·.born)).Nodup→L[j]?=some e→L.filter (fun x=>!(x.born == e.born))=L.eraseIdx j
 | [],_,_,_,h=>by simp at h
 | x::r,0,e,hn,h=>by
  simp at h
  subst h;simp only [List.map_cons,List.nodup_cons] at hn;rw [List.filter_cons];simp only [beq_self_eq_true,Bool.not_true,Bool.false_eq_true,if_false,List.eraseIdx_zero,List.tail_cons];refine List.filter_eq_self.2 fun y hy=>?_
  have:y.born≠x.born:=fun e=>hn.1 (e ▸ List.mem_map.2 ⟨y,hy,rfl⟩)
  simpa using this
 | x::r,j+1,e,hn,h=>by
  simp only [List.map_cons,List.nodup_cons] at hn;simp only [List.getElem?_cons_succ] at h;have a:x.born≠e.born:=fun c=>hn.1 (c ▸ List.mem_map.2 ⟨e,List.mem_of_getElem? h,rfl⟩);rw [List.filter_cons,if_pos (by simpa using a),ka r j e hn.2 h,List.eraseIdx_cons_succ]
theorem xr(es:Array MapEntry) (seen:Array Nat) (b:Nat):(leftOf es (seen.push b)).toList=(leftOf es seen).toList.filter fun x=>!(x.born == b):=by
 unfold leftOf
 rw [Array.toList_filter,Array.toList_filter,List.filter_filter]
 congr 1
 funext x
 rw [Array.contains_push,Bool.not_or,Bool.and_comm]
theorem map_eraseIdx{α β:Type}(f:α→β):∀(l:List α) (j:Nat),(l.eraseIdx j).map f=(l.map f).eraseIdx j
 | [],_=>by simp
 | _::_,0=>by simp
 | x::r,j+1=>by simp [map_eraseIdx f r j]
variable {P:Program}{kv:KV}{n:Nat}{K:KV→World→Prop}{d:Tmp}{ty:TypeId}{pos:String}{af:Array Edge}{g:Option (Nat × Bool)}{T kt e:TypeId}{x:Operand}
theorem OX.range(hT:P.underlying T=some (.map kt e)) (hm:KM enc w m l) (c:ev kv x=some (.map (some m))) (f:Nat.blt d n=true)
  (h:∀b w',aQ [] w w'→w.heap.size≤b→FW enc w' b m l l none→K ((d,.pointer (some ⟨b,0,none⟩))::kv) w'):OX P ⟨some d,.range T x,ty,pos,af,g⟩ n kv w K:=by
 obtain⟨es,clock,h1,a⟩:=hm;have i:m<w.heap.size:=(Array.getElem?_eq_some_iff.1 h1).1;refine⟨rfl,f,by simp [known,opers,c],?_⟩
 have hr:(execOp (hh kv) ⟨some d,.range T x,ty,pos,af,g⟩).run P w=.ok (.value (.pointer (some ⟨w.heap.size,0,none⟩))) (w.alloc (.mapIter (some m) clock #[] clock)):=by
  simp only [execOp,aI c,Sem.run_bind,run_range_map w T kt e m es clock hT h1,Result.andThen_ok];rfl
 rw [hr];refine h _ _ (ie _ _) (Nat.le_refl _) ⟨es,clock,clock,#[],by rw [heap_alloc_old w _ (h:=i)];exact h1,a,heap_alloc_new _ _,by omega,Nat.le_refl _,a.2.2.1,?_,fun p o=>by cases o⟩
 have:leftOf es #[]=es:=by unfold leftOf;simp
 rw [this];exact a.1
theorem B5(hm:FW enc w b m l left cur):∃(r:Option (κ × Value)) (u:List (κ × Value)) (w':World),(Instr.next (.pointer (some ⟨b,0,none⟩)) false ty).run P w=.ok (.tuple (tJ enc r)) w'∧aQ [b] w w'∧
  (match r with | none=>left=[]∧u=[] | some p=>∃j,left[j]?=some p∧u=left.eraseIdx j)∧FW enc w' b m l u r:=by
 obtain⟨es,clock,since,seen,h1,v,c,z,E,f,i,h8⟩:=hm;have N:b<w.heap.size:=(Array.getElem?_eq_some_iff.1 c).1
 have F:∀y∈(leftOf es seen).toList,y∈es.toList:=fun y hy=>by
  unfold leftOf at hy
  rw [Array.toList_filter] at hy;exact(List.mem_filter.1 hy).1
 have I:=next_test_false seen es since clock f E
 have e1:(leftOf es seen).filter (fun x=>decide (x.born<since))=leftOf es seen:=Array.filter_eq_self.2 fun y hy=>by
  have:=f y (F y (by simpa using hy))
  simpa using this
 have e2:(leftOf es seen).filter (fun x=>decide (x.born≥since))=#[]:=by
  rw [Array.filter_eq_empty_iff];intro y hy
  have:=f y (F y (by simpa using hy))
  simp
  omega
 have hlen:(leftOf es seen).size=left.length:=by simpa using congrArg List.length i
 by_cases h0:(leftOf es seen).size=0
 ·
  have O:leftOf es seen=#[]:=Array.eq_empty_of_size_eq_zero h0
  have Q:left=[]:=by cases left with
   | nil=>rfl
   | cons a r=>rw [h0] at hlen;simp at hlen
  subst Q;refine⟨none,[],w,?_,aQ.refl _ _,⟨rfl,rfl⟩,es,clock,since,seen,h1,v,c,z,E,f,i,fun p o=>by cases o⟩;simp only [Instr.next,getObj,Sem.run_bind,Sem.run,c,h1,Result.andThen,I,Bool.false_eq_true,if_false];rw [show(es.filter fun e=>!seen.contains e.born)=leftOf es seen from rfl,O]
  simp [choose,Sem.run,Question.forced,tJ]
 have R:(leftOf es seen).isEmpty=false:=by simp [Array.isEmpty,h0]
 have S:∃(j:Nat) (w1:World),j<(leftOf es seen).size∧w1.heap=w.heap∧aQ [] w w1∧(choose (Question.mapNext (leftOf es seen).size)).run P w=.ok j w1:=by
  by_cases J:(leftOf es seen).size≤1
  ·
   exact⟨0,w,by omega,rfl,aQ.refl _ _,by simp [choose,Sem.run,Question.forced,J]⟩
  exact⟨_,w.drew,Nat.mod_lt _ (by omega),rfl,⟨rfl,rfl,rfl,Nat.le_refl _,Nat.le_succ _,fun _ _ _=>rfl⟩,by
   simp only [choose,Sem.run,Question.forced,decide_eq_true_eq,J,if_false,Question.cut]
   rfl⟩
 obtain⟨j,w1,U,G,V,W⟩:=S;obtain⟨y,hy⟩:∃y,(leftOf es seen)[j]?=some y:=⟨_,Array.getElem?_eq_getElem U⟩
 have H:(leftOf es seen).toList[j]?=some y:=by rw [Array.getElem?_toList];exact hy
 have X:y∈es.toList:=F y (List.mem_of_getElem? H);obtain⟨p,o⟩:∃p,left[j]?=some p:=⟨_,List.getElem?_eq_getElem (by omega)⟩
 have h:(y.key,y.val)=(enc p.1,p.2):=by
  have:=congrArg (fun x=>x[j]?) i
  simp only [List.getElem?_map,H,o,Option.map_some,Option.some.injEq] at this;exact this
 simp only [Prod.mk.injEq] at h
 have Y:((leftOf es seen).toList.map (·.born)).Nodup:=by
  unfold leftOf
  rw [Array.toList_filter];exact(List.filter_sublist.map _).nodup v.2.2.2
 refine⟨some p,left.eraseIdx j,{w1 with heap:=w1.heap.setIfInBounds b (.mapIter (some m) since (seen.push y.born) clock)},?_,?_,⟨j,o,rfl⟩,es,clock,since,seen.push y.born,?_,v,?_,z,E,f,?_,?_⟩
 ·
  simp only [Instr.next,getObj,Sem.run_bind,Sem.run,c,h1,Result.andThen,I,Bool.false_eq_true,if_false];rw [show(es.filter fun e=>!seen.contains e.born)=leftOf es seen from rfl,e1,e2];simp only [R,Bool.false_eq_true,if_false,Array.empty_append,Array.append_empty,Array.size_map,W,Array.getElem?_map,hy,Option.map_some]
  have DM:(setObj b (.mapIter (some m) since (seen.push y.born) clock)).run P w1=.ok () {w1 with heap:=w1.heap.setIfInBounds b (.mapIter (some m) since (seen.push y.born) clock)}:=by
   simp only [setObj,Sem.run];rw [G,c]
  simp only [Sem.run_bind,DM,Result.andThen,tJ,h.1,h.2]
  try rfl
 ·
  have:=fY w1 b (.mapIter (some m) since (seen.push y.born) clock)
  exact aQ.trans (aQ.mono V (by simp)) this
 ·
  show(w1.heap.setIfInBounds b _)[m]?=_
  rw [G,Array.getElem?_setIfInBounds_ne z];exact h1
 ·
  show(w1.heap.setIfInBounds b _)[b]?=_
  rw [G,Array.getElem?_setIfInBounds_self]
  simp [N]
 ·
  rw [xr,ka _ j y Y H,map_eraseIdx,map_eraseIdx,i]
 intro q L;simp only [Option.some.injEq] at L;subst L;exact⟨y,X,Array.back?_push,h.1,h.2⟩
theorem OX.next(hm:FW enc w b m l left cur) (c:ev kv x=some (.pointer (some ⟨b,0,none⟩))) (f:Nat.blt d n=true)
  (h:∀r a w',aQ [b] w w'→(match r with | none=>left=[]∧a=[] | some p=>∃j,left[j]?=some p∧a=left.eraseIdx j)→FW enc w' b m l a r→K ((d,.tuple (tJ enc r))::kv) w'):OX P ⟨some d,.next x false,ty,pos,af,g⟩ n kv w K:=by
 obtain⟨r,a,w',h1,i,o,q⟩:=B5 (P:=P) (ty:=ty) hm;refine⟨rfl,f,by simp [known,opers,c],?_⟩
 have hr:(execOp (hh kv) ⟨some d,.next x false,ty,pos,af,g⟩).run P w=.ok (.value (.tuple (tJ enc r))) w':=by
  simp only [execOp,aI c,Sem.run_bind,h1,Result.andThen_ok];rfl
 rw [hr];exact h _ _ _ i o q
theorem PV.entry{p:κ × Value}(hm:FW enc w b m l left (some p)) (a:ev kv x=some (.pointer (some ⟨b,0,none⟩))):PV P (.entry x) ty kv w (.tuple #[enc p.1,p.2]):=by
 obtain⟨es,clock,since,seen,h1,c,f,_,_,_,_,h⟩:=hm;obtain⟨y,hy,hb,hk,i⟩:=h p rfl;refine⟨rfl,by simp [known,opers,a],fun _ _ _ _=>?_⟩
 have o:es.find? (·.born == y.born)=some y:=by rw [← Array.find?_toList];exact find_born y es.toList c.2.2.2 hy
 have:(Instr.entry (.pointer (some ⟨b,0,none⟩))).run P w=.ok (.tuple #[enc p.1,p.2]) w:=by
  simp only [Instr.entry,getObj,Sem.run_bind,Sem.run,f,h1,hb,Result.andThen,bne_self_eq_false,Bool.false_eq_true,if_false,o,hk,i]
  rfl
 simp only [execOp,aI a,Sem.run_bind,this,Result.andThen_ok]
 rfl
end
end Go.Rc

namespace Go.Rc
open Go
theorem kb{α:Type}:∀{l:List α}{j:Nat}{p q:α},l[j]?=some p→q∈l→q=p∨q∈l.eraseIdx j
 | [],_,_,_,_,h=>by cases h
 | x::r,0,p,q,h,a=>by grind
 | x::r,j+1,p,q,h,a=>by
  rcases List.mem_cons.1 a with rfl | a
  ·
   exact .inr (by simp)
  rcases kb (l:=r) (by simpa using h) a with h1 | h1
  ·
   exact .inl h1
  exact .inr (by simp [h1])
section
variable {aa:List aG}{aD:List bW}
theorem kq.aU(i:ao aa) {i0:Nat}{L:List Nat}{u:Nat→Nat}{am:List (Key × Value)}(h:kq aa L u am) (hn:(am.map (·.1)).Nodup) (hr:cP aa aD i0 L u) (o:∀j∈L,u j=rv aa aD j) :
  ∀p∈am,p.2=.string (valOf aa aD p.1):=fun p f=>by
 have c:bq am p.1=some p.2:=(qj hn).2 f
 by_cases hk:∃j∈L,p.1=aN aa (j:Int)
 ·
  obtain⟨j,a,e⟩:=hk;obtain⟨q,r⟩:=hr.ring j a;rw [e,h.1 j a] at c
  grind [fy,fR]
 rw [h.2 p.1 fun j a e=>hk ⟨j,a,e⟩] at c
 cases c
theorem kq.first{i0:Nat}{L:List Nat}{u:Nat→Nat}{am:List (Key × Value)}(h:kq aa L u am) (hn:(am.map (·.1)).Nodup) (hr:cP aa aD i0 L u):∃p∈am,p.1=aN aa (i0:Int):=
 ⟨(_,_),(qj hn).1 (h.1 i0 hr.first),rfl⟩
theorem DN{am left ml:List (Key × Value)}{j:Nat}{p:Key × Value}(a:∀q∈am,q∈left∨bq ml q.1=some q.2) (he:∀q∈am,q.2=.string (valOf aa aD q.1)) (c:left[j]?=some p) :
  ∀q∈am,q∈left.eraseIdx j∨bq (cF ml p.1 (.string (valOf aa aD p.1))) q.1=some q.2:=fun q f=>by
 rw [dz]
 by_cases e:p.1=q.1
 ·
  grind
 rw [if_neg e]
 rcases a q f with h | h
 ·
  rcases kb c h with h1 | h1
  ·
   subst h1;exact absurd rfl e
  exact .inl h1
 exact .inr h
end
end Go.Rc

namespace Go.Rc
open Go
def hW(rev:Int) (l:List bW):Prop:=pH l∧(∀y∈l,Gv rev y)∧∀y∈l,(∃i:Nat,i≤9∧y.key=⟨30,itoa i⟩)∧y.value.size≤1000
theorem hW.nil(rev:Int):hW rev []:=⟨.nil,by simp,by simp⟩
theorem hW.mono{r s:Int}{l:List bW}(h:hW r l) (f:r≤s):hW s l:=⟨h.1,fun y hy=>by obtain⟨a,b,c,d,e⟩:=h.2.1 y hy;exact⟨a,b,c,d,by omega⟩,h.2.2⟩
theorem Change.small.key{c:Change}(h:c.small):∃i:Nat,i≤9∧c.key=⟨30,itoa i⟩:=by
 obtain⟨⟨n,h0,a,hk⟩,_⟩:=h;refine⟨n.toNat,by omega,?_⟩;rw [hk]
 unfold bO
 grind
theorem Change.small.ok{c:Change}(h:c.small):ek c.key=true∧aw c.key=true:=by
 obtain⟨⟨n,h0,a,hk⟩,_⟩:=h;obtain⟨m,rfl⟩:∃m:Nat,n=(m:Int):=⟨n.toNat,by omega⟩;rw [hk];exact⟨dU.valid (aa:=[]) (.cell (by omega)),aR (by omega)⟩
theorem hW.put{rev:Int}{l:List bW}{c:Change}(h:hW rev l) (hc:c.small) (h0:0≤rev):hW rev (eu ⟨c.key,c.value,rev⟩ l false):=by
 refine⟨pH.put h.1,fun y hy=>?_,fun y hy=>?_⟩
 ·
  rcases qN _ _ _ _ hy with rfl | hy
  ·
   have:=hc.2
   exact⟨hc.ok.1,hc.ok.2,by grind,h0,Int.le_refl _⟩
  exact h.2.1 y hy
 rcases qN _ _ _ _ hy with rfl | hy
 ·
  obtain⟨i,hi,hk⟩:=hc.key;exact⟨⟨i,by omega,hk⟩,Nat.le_trans hc.2 (by decide)⟩
 exact h.2.2 y hy
theorem n9{α:Type} [BEq α] [LawfulBEq α]:∀{l U:List α},l.Nodup→(∀x∈l,x∈U)→l.length≤U.length
 | [],_,_,_=>Nat.zero_le _
 | x::r,U,hn,a=>by
  have c:=a x (by simp);rw [List.nodup_cons] at hn
  have h1:r.length≤(U.erase x).length:=n9 hn.2 fun y hy=>by grind
  grind
theorem hW.len{rev:Int}{l:List bW}(h:hW rev l):l.length≤10:=by
 have hn:(l.map fun y=>y.key).Nodup:=by
  unfold List.Nodup
  rw [List.pairwise_map]
  exact h.1.imp fun {a b} h e=>by grind [gF]
 have:=n9 (U:=(List.range 10).map fun i:Nat=>(⟨30,itoa i⟩:Key)) hn fun k hk=>by
  obtain⟨y,hy,rfl⟩:=List.mem_map.1 hk;obtain⟨i,hi,he⟩:=(h.2.2 y hy).1
  grind
 simpa using this
theorem hW.k99{rev:Int}{l:List bW}(h:hW rev l):∀y∈l,∃i:Nat,i≤99∧y.key=⟨30,itoa i⟩:=fun y hy=>by
 obtain⟨i,hi,he⟩:=(h.2.2 y hy).1;exact⟨i,by omega,he⟩
theorem xt{n:bW}{k:Key}(h:n.key≠k):∀(l:List bW) (b:Bool),(eu n l b).find? (fun x=>x.key == k)=l.find? fun x=>x.key == k
 | [],b=>by grind [eu]
 | x::xs,b=>by
  have hn:(n.key == k)=false:=by simpa using h
  unfold eu
  rw [List.find?_append,List.find?_append,xt h xs]
  have h1:(if (decide (0≤bl x.key n.key) && !b)=true then [n] else []).find? (fun x=>x.key == k)=none:=by grind
  rw [h1,Option.none_or]
  by_cases e:bl x.key n.key=0
  ·
   rw [if_pos e]
   grind [jR]
  grind
theorem lD{n:bW}{k:Key}(h:n.key≠k) (l:List bW):bf (eu n l false) k=bf l k:=by
 unfold bf
 rw [xt h]
theorem GA{n:bW}{l:List bW}{q:Nat}{b:Bool}(a:q<l.length) {acc r:List bW}(h:acc++eu n (l.drop q) b=r):acc++(if decide (0≤bl l[q].key n.key) && !b then [n] else [])++(if bl l[q].key n.key=0 then [] else [l[q]])++eu n (l.drop (q+1)) (b || decide (0≤bl l[q].key n.key))=r:=by grind [List.drop_eq_getElem_cons,eu]
theorem GB{n:bW}{l m acc:List bW}{b:Bool}(h:acc++eu n m b=eu n l false):acc.length≤l.length+1:=by
 have h1:=congrArg List.length h
 grind [kN]
end Go.Rc

namespace Go.Rc
open Go
end Go.Rc

