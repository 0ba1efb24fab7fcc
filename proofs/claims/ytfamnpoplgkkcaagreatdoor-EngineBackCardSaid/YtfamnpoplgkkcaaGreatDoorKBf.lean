/- Base of the proof: frames, memory, ownership, and the plain meaning of rule systems. Conditions: as each lemma says. -/
import Derived.Test.YtfamnpoplgkkcaaGreatDoorKBe
import Derived.Test.YtfamnpoplgkkcaaGreatDoorKBd
import Derived.Test.YtfamnpoplgkkcaaGreatDoorKBc
set_option linter.all false
namespace Go.Rc
open Go
def HP(L:List As) (Z:Nat→Prop) (w:World):Prop:=(List.Pairwise (fun(A B:As)=>∀x,A.fp x→¬B.fp x) L)∧∀A∈L,A.ok Z w
def As.many(L:List As):As where
 fp x:=∃A∈L,A.fp x
 ok:=HP L
 lt h x hx:=by obtain⟨A,hA,hx⟩:=hx;exact A.lt (h.2 A hA) x hx
 mono hZ h:=⟨h.1,fun A hA=>A.mono hZ (h.2 A hA)⟩
 st hs hc h:=⟨h.1,fun A hA=>A.st hs (fun x hx=>hc x (hx.imp (fun hx=>⟨A,hA,hx⟩) id)) (h.2 A hA)⟩
section
variable {w0 w:World}{M Z:Nat→Prop}{A:As}{L l:List As}
theorem St.Gr(h:St w0 M Z w l):St w0 M Z w (As.many []::l):=by
 refine⟨h.cH,h.kc,?_,?_,.cons ?_ h.rC,?_⟩
 ·
  intro B d x e
  rcases List.mem_cons.1 d with rfl | d
  ·
   obtain⟨A,i,_⟩:=e;cases i
  exact h.ks B d x e
 ·
  intro B d x e
  rcases List.mem_cons.1 d with rfl | d
  ·
   obtain⟨A,i,_⟩:=e;cases i
  exact h.lg B d x e
 ·
  intro B _ x e;obtain⟨A,i,_⟩:=e;cases i
 intro B d
 rcases List.mem_cons.1 d with rfl | d
 ·
  exact⟨.nil,fun A i=>by cases i⟩
 exact h.ok B d
theorem St.xJ(h:St w0 M Z w (A::As.many L::l)):St w0 M Z w (As.many (A::L)::l):=by
 obtain⟨d1,d2⟩:=List.pairwise_cons.1 h.rC;obtain⟨d3,d4⟩:=List.pairwise_cons.1 d2;have hm:(As.many L).ok Z w:=h.ok _ (by simp);refine⟨h.cH,h.kc,?_,?_,.cons ?_ d4,?_⟩
 ·
  intro B i x d
  rcases List.mem_cons.1 i with rfl | i
  ·
   obtain⟨C,e,d⟩:=d
   rcases List.mem_cons.1 e with rfl | e
   ·
    exact h.ks C (by simp) x d
   exact h.ks (As.many L) (by simp) x ⟨C,e,d⟩
  exact h.ks B (by simp [i]) x d
 ·
  intro B i x d
  rcases List.mem_cons.1 i with rfl | i
  ·
   obtain⟨C,e,d⟩:=d
   rcases List.mem_cons.1 e with rfl | e
   ·
    exact h.lg C (by simp) x d
   exact h.lg (As.many L) (by simp) x ⟨C,e,d⟩
  exact h.lg B (by simp [i]) x d
 ·
  intro B i x d;obtain⟨C,e,d⟩:=d
  rcases List.mem_cons.1 e with rfl | e
  ·
   exact d1 B (by simp [i]) x d
  exact d3 B i x ⟨C,e,d⟩
 intro B i
 rcases List.mem_cons.1 i with rfl | i
 ·
  refine⟨.cons (fun C e x d j=>d1 (As.many L) (by simp) x d ⟨C,e,j⟩) hm.1,fun C e=>?_⟩
  rcases List.mem_cons.1 e with rfl | e
  ·
   exact h.ok C (by simp)
  exact hm.2 C e
 exact h.ok B (by simp [i])
theorem St.sU(h:St w0 M Z w (As.many (A::L)::l)):St w0 M Z w (A::As.many L::l):=by
 obtain⟨d1,d2⟩:=List.pairwise_cons.1 h.rC;have hm:(As.many (A::L)).ok Z w:=h.ok _ (by simp);obtain⟨d3,d4⟩:=List.pairwise_cons.1 hm.1;refine⟨h.cH,h.kc,?_,?_,.cons ?_ (.cons ?_ d2),?_⟩
 ·
  intro B d x e
  rcases List.mem_cons.1 d with rfl | d
  ·
   exact h.ks _ M0 x ⟨B,.head _,e⟩
  rcases List.mem_cons.1 d with rfl | d
  ·
   obtain⟨C,i,e⟩:=e;exact h.ks _ M0 x ⟨C,.tail _ i,e⟩
  exact h.ks B (.tail _ d) x e
 ·
  intro B d x e
  rcases List.mem_cons.1 d with rfl | d
  ·
   exact h.lg _ M0 x ⟨B,.head _,e⟩
  rcases List.mem_cons.1 d with rfl | d
  ·
   obtain⟨C,i,e⟩:=e;exact h.lg _ M0 x ⟨C,.tail _ i,e⟩
  exact h.lg B (.tail _ d) x e
 ·
  intro B d x e j
  rcases List.mem_cons.1 d with rfl | d
  ·
   obtain⟨C,i,j⟩:=j;exact d3 C i x e j
  exact d1 B d x ⟨A,.head _,e⟩ j
 ·
  intro B d x e;obtain⟨C,i,e⟩:=e;exact d1 B d x ⟨C,.tail _ i,e⟩
 intro B d
 rcases List.mem_cons.1 d with rfl | d
 ·
  exact hm.2 B M0
 rcases List.mem_cons.1 d with rfl | d
 ·
  exact⟨d4,fun C i=>hm.2 C (.tail _ i)⟩
 exact h.ok B (.tail _ d)
theorem St.LU{L':List As}(i:L.Perm L') (h:St w0 M Z w (As.many L::l)):St w0 M Z w (As.many L'::l):=by
 obtain⟨d1,d2⟩:=List.pairwise_cons.1 h.rC;have hm:(As.many L).ok Z w:=h.ok _ (by simp);have j:∀x,(As.many L').fp x→(As.many L).fp x:=fun x ⟨C,m,e⟩=>⟨C,i.mem_iff.2 m,e⟩;refine⟨h.cH,h.kc,?_,?_,.cons (fun B d x e=>d1 B d x (j x e)) d2,?_⟩
 ·
  intro B d x e
  rcases List.mem_cons.1 d with rfl | d
  ·
   exact h.ks _ M0 x (j x e)
  exact h.ks B (.tail _ d) x e
 ·
  intro B d x e
  rcases List.mem_cons.1 d with rfl | d
  ·
   exact h.lg _ M0 x (j x e)
  exact h.lg B (.tail _ d) x e
 intro B d
 rcases List.mem_cons.1 d with rfl | d
 ·
  exact⟨hm.1.perm i (fun h x e o=>h x o e),fun C m=>hm.2 C (i.mem_iff.2 m)⟩
 exact h.ok B (.tail _ d)
end
structure RE where
 key:Key
 a:Option Addr
 n:Nat
 c:Nat
 reads:List Key
def RE.as(EK:Nat) (e:RE):As:=As.os RR.key EK 2 e.a e.n e.c e.reads
end Go.Rc

namespace Go.Rc
open Go
section
variable {aa:List aF}{aC:List bG}{val:Key→ByteArray}
end
theorem HQ:iw ⟨0,[],[]⟩:=⟨fun i y h=>by simp at h,fun i r h=>by simp at h,by decide,by decide,by decide,⟨by decide,fun i x h=>by simp at h⟩⟩
theorem gh.iw{rev:Int}{aC:List bG}(h:gh rev aC) (h0:0≤rev) (h1:rev≤1073741824) (d:aC.length≤64):iw ⟨rev,aC,[]⟩:=
 ⟨xI.2 ⟨h.1,h.2.1⟩,fun i r h=>by simp at h,h0,h1,d,⟨Nat.zero_le _,fun i x h=>by simp at h⟩⟩
end Go.Rc

namespace Go.Rc
open Go
theorem bT.one(x:bT) (a1:Option Addr) (n1 c1:Nat) (a2:Option Addr) (n2 c2:Nat):∀u∈x.row a1 n1 c1 a2 n2 c2,u.oneCell'=true:=by simp [bT.row,Value.oneCell']
end Go.Rc

namespace Go.Rc
open Go
structure KF where
 aa:List aF
 base:bZ
 goals:List Key
 stack:List bT
 bO:List Key
end Go.Rc

namespace Go.Rc
open Go
structure ek where
 a:Option Addr
 n:Nat
 c:Nat
 a2:Option Addr
 n2:Nat
 c2:Nat
def bT.ve(x:bT × ek):List Value:=x.1.row x.2.a x.2.n x.2.c x.2.a2 x.2.n2 x.2.c2
def RR.gU:RR (bT × ek):=RR.flat bT.ve
end Go.Rc

namespace Go.Rc
open Go
structure BK (aa:List aF) (aC:List bG) (rev:Int) (b:bZ):Prop where
 fO:Good aa aC ⟨b,[],[],0⟩
 qF:BG ⟨b,[],[],0⟩
 rv:b.ad=rev
 vf:sL rev aC
 pq:aC.length≤64
section
variable {aa:List aF}{aC:List bG}{rev:Int}{b:bZ}
theorem BK.iw(h:BK aa aC rev b):iw b:=
 ⟨by rw [h.rv,show b.ab=aC from h.fO.aC];exact h.vf,fun i r hr=>(h.qF.v r (List.mem_of_getElem? hr)).2,h.qF.r0,h.qF.r1,by rw [show b.ab=aC from h.fO.aC];exact h.pq,h.qF.st.jC h.fO.len fun r hr=>(h.qF.v r hr).1⟩
theorem BK.BH(h:BK aa aC rev b) (g:List Key):BK aa aC rev (dI b g false):=⟨h.fO.mark g false,h.qF.BH g,h.rv,h.vf,h.pq⟩
theorem BK.BI(h:BK aa aC rev b) {g:List Key}(hc:∀x∈g,aw x=true):BK aa aC rev (dI b g true):=⟨h.fO.mark g true,h.qF.BI hc,h.rv,h.vf,h.pq⟩
theorem BK.put(h:BK aa aC rev b) {r:Rec}(hk:eV aa r.key) (hr:r.reads.length≤4000∧∀a∈r.reads,eV aa a) (d:(!(ay b.ai r.key).isSome && decide (4000≤b.ai.length))=false) (e:cR r=true) (i:r.ak≤b.ad):BK aa aC rev {b with ai:=ez b.ai r}:=
 ⟨h.fO.put (bO:=[]) hk hr d,h.qF.put (bO:=[]) e i,h.rv,h.vf,h.pq⟩
theorem BK.sub(h:BK aa aC rev b) {rs:List Rec}(d:rs.Sublist b.ai):BK aa aC rev {b with ai:=rs}:=
 ⟨⟨h.fO.aC,Nat.le_trans d.length_le h.fO.len,fun r hr=>h.fO.key r (d.subset hr),fun r hr=>h.fO.xB r (d.subset hr),.nil,fun k=>.inl rfl⟩,⟨h.qF.st.sublist d,fun r hr=>h.qF.v r (d.subset hr),h.qF.r0,h.qF.r1⟩,h.rv,h.vf,h.pq⟩
end
structure fX (aa:List aF) (f:bT):Prop where
 key:eV aa f.key
 aC:ax f.key=false
 xB:∀a∈f.reads,eV aa a
 len:f.reads.length=f.ae.length
 fk:hK aa f.key f.ae.length
 R4:0≤f.at_
theorem fX.new{aa:List aF}{k:Key}(hk:eV aa k) (hi:ax k=false):fX aa ⟨k,false,0,[],[]⟩:=⟨hk,hi,fun a h=>(by cases h),rfl,hk.fk hi,Int.le_refl _⟩
theorem PV.cast{P:Program}{op:Op}{ty:TypeId}{kv:KV}{w:World}{v v':Value}(h:PV P op ty kv w v) (e:v=v'):PV P op ty kv w v':=e ▸ h
theorem ck{α:Type}(L:List α) (x:α):(L++[x])[L.length]?=some x:=by simp
theorem pr{x:bZ}{l others:List bT}{k:Key}(h:bD x l others k=1):ax k=false:=by grind [cG,bD]
section
variable {w0 w:World}{M Z:Nat→Prop}{l:List As}{A0 A1 A2 A3 A4 A5 A6 A7 A8 A9 ir j4 mE A13 A14 Gs KG QC:As}
end
end Go.Rc

namespace Go.Rc
open Go
section
variable {α:Type}{R:RR α}{P:Program}{E k n c b:Nat}{a:Option Addr}{L:List α}{u:α}{Z:Nat→Prop}{w:World}
variable {N:Nat}{kv:KV}{K:KV→World→Prop}{ty:TypeId}{pos:String}{af:Array Edge}{g:Option (Nat × Bool)}{T:TypeId}
theorem OX.Ei{x y:Operand}{f:Nat}{v:Value}(hT:(P.info? T).map (·.size)=some 1) (h:Ow R E k Z w a n c (L++[u])) (e:a=some ⟨b,0,none⟩) (i:f<k) (j:ev kv x=some (.pointer (some ⟨b,0+L.length*k+f,none⟩))) (m:ev kv y=some v)
  (h1:v.oneCell'=true) (d:α) (B:∀r,R.r Z w u r→R.r Z w d (r.set f v)) (C:∀w',aQ (bN a) w w'→OR 0 w' E k (R.r Z w) a n c (L++[d])→K kv w'):OX P ⟨none,.store T x y,ty,pos,af,g⟩ N kv w K:=
 OX.RO hT h e (ck L u) i j m h1 d (fun r _ h=>B r h) fun w' c o=>C w' c (by grind)
end
section
variable {aa:List aF}{f:bT}
theorem fX.read(h:fX aa f) {k:Key}{a:ByteArray}(hk:eV aa k) (d:hK aa f.key (f.ae.length+1)):fX aa {f with reads:=f.reads++[k],ae:=f.ae++[a]}:=
 ⟨h.key,h.aC,fun b hb=>by
  rcases List.mem_append.1 hb with hb | hb
  ·
   exact h.xB b hb
  grind,by simp [h.len],by simpa using d,h.R4⟩
theorem fX.runs(h:fX aa f):fX aa {f with running:=true,at_:=0}:=⟨h.key,h.aC,h.xB,h.len,h.fk,Int.le_refl _⟩
theorem fX.step(h:fX aa f):fX aa {f with at_:=f.at_+1}:=⟨h.key,h.aC,h.xB,h.len,h.fk,by have:=h.R4;show 0≤f.at_+1;omega⟩
end
section
variable {aa:List aF}{aC:List bG}{rev:Int}{n:Nat}{t:KF}
end
end Go.Rc

namespace Go.Rc
open Go
structure LB (aa:List aF) (x:bZ):Prop where
 ok:BK aa x.ab x.ad x
 aC:gh x.ad x.ab
section
variable {aa:List aF}{x:bZ}
theorem LB.apply(h:LB aa x) {y:bZ}(hr:y.ai=x.ai) (h0:x.ad≤y.ad) (h1:y.ad≤1073741824) (e:gh y.ad y.ab) (i:y.ab.length≤64):LB aa y:=by
 have m:=h.ok.fO;have d:=h.ok.qF;have j:0≤y.ad:=Int.le_trans d.r0 h0;have hb:=e.iw j h1 i;exact⟨⟨⟨rfl,by show y.ai.length≤_;rw [hr];exact m.len,by grind [Good.key],by grind [Good.xB],.nil,fun k=>.inl rfl⟩,⟨by show lk y.ai;rw [hr];exact d.st,by show ∀r∈y.ai,_;rw [hr];exact fun r hm=>⟨(d.v r hm).1,Int.le_trans (d.v r hm).2 h0⟩,j,h1⟩,rfl,hb.1,i⟩,e⟩
theorem LB.sub(h:LB aa x) {rs:List Rec}(d:rs.Sublist x.ai):LB aa ⟨x.ad,x.ab,rs⟩:=⟨h.ok.sub d,h.aC⟩
theorem LB.of(h:LB aa x) {b:bZ}(hb:BK aa x.ab x.ad b):LB aa b:=by
 have h1:b.ab=x.ab:=hb.fO.aC;have d:b.ad=x.ad:=hb.rv;refine⟨?_,?_⟩
 ·
  rw [h1,d];exact hb
 rw [h1,d];exact h.aC
theorem LB.task(h:LB aa x) {b:bZ}(hb:BK aa x.ab x.ad b) {rs:List Rec}(d:rs.Sublist b.ai):LB aa ⟨b.ad,b.ab,rs⟩:=(h.of hb).sub d
theorem LB.nil{aa:List aF}(y:bZ) (hr:y.ai=[]) (h0:0≤y.ad) (h1:y.ad≤1073741824) (d:gh y.ad y.ab) (e:y.ab.length≤64):LB aa y:=by
 have hb:=d.iw h0 h1 e;exact⟨⟨⟨rfl,by grind,by grind,by grind,.nil,fun k=>.inl rfl⟩,⟨by show lk y.ai;rw [hr];exact .nil,by grind,h0,h1⟩,rfl,hb.1,e⟩,d⟩
end
end Go.Rc

namespace Go.Rc
open Go
def sV(l:List Key):Prop:=l.Pairwise fun a b=>bj a b<0
theorem sX{l l':List Key}(d:l'.Perm l) (hn:l.Nodup) (e:l'.Pairwise fun a b=>¬bj b a<0):sV l':=by
 have i:l'.Pairwise fun a b=>a≠b:=d.nodup_iff.2 hn
 refine(e.and i).imp fun {a b} h=>?_
 grind [fN,i1]
section
variable {aa:List aF}{aC:List bG}{k:Key}
inductive DB (aa:List aF) (aC:List bG) (k:Key):Key→Prop where
 | refl:DB aa aC k k
 | step {x y:Key}:DB aa aC k x→y∈gO aa aC x→DB aa aC k y
theorem jH{l:List Key}{q:Nat}{y z:Key}(d:l[q]?=some y) (e:z∈l.take (q+1)):z∈l.take q∨z=y:=by grind [List.take_succ_eq_append_getElem]
def iF(l:List Key):List (Key × Value):=l.map fun x=>(x,.bool true)
theorem vg(l:List Key) (y:Key):(bw (iF l) y).getD (.bool false)=.bool (decide (y∈l)):=by
 unfold iF
 induction l with
 | nil=>simp [bw]
 | cons x r d=>
  simp only [List.map_cons,bw]
  grind
theorem vh(l:List Key) {y:Key}(h:y∉l):cw (iF l) y (.bool true)=iF (l++[y]):=by
 unfold iF
 induction l with
 | nil=>rfl
 | cons x r d=>
  rw [List.mem_cons,not_or] at h;simp only [List.map_cons,List.cons_append,cw];rw [if_neg (Ne.symm h.1),d h.2]
end
end Go.Rc

namespace Go.Rc
open Go
structure LR {α:Type}(A:Nat→Prop) (w:World) (k:Nat) (R:α→List Value→Prop) (a:Option Addr) (n:Nat) (xs:List α):Prop where
 len:n=xs.length
 le:n≤140737488355328
 at_:∀{i:Nat}{x:α},xs[i]?=some x→∃b o r,a=some ⟨b,o,none⟩∧r.length=k∧R x r∧w.rangeAt b (o+i*k) r∧A b∧b<w.heap.size
theorem SR.Ha{α:Type}{w:World}{k b E:Nat}{R:α→List Value→Prop}{xs:List α}{rows:List (List Value)}(h:bC w b E rows.flatten) (hl:xs.length=rows.length) (hk:∀r∈rows,r.length=k) (h1:∀u∈rows.flatten,u.oneCell'=true)
  (hle:rows.length≤140737488355328) (d:∀(i:Nat) (x:α) (r:List Value),xs[i]?=some x→rows[i]?=some r→R x r):SR (fun _=>True) w k R (some ⟨b,0,none⟩) rows.length rows.length xs:=by
 have hlen:rows.flatten.length=rows.length*k:=by
  clear h hl h1 hle d
  induction rows with
  | nil=>simp
  | cons r t j=>grind
 have e:=OL.blk (base:=0) (k:=k) h (Nat.zero_le _) hlen h1 hle;exact⟨hl.symm,rows,hl.symm,hk,e.sl (A:=fun _=>True) (fun _ _=>trivial) hle,d⟩
end Go.Rc

namespace Go.Rc
open Go
theorem LB.BM{aa:List aF}{x:bZ}(h:LB aa x):po aa x:=
 ⟨h.ok.qF.r0,h.ok.qF.r1,⟨h.aC.1,h.aC.2.1⟩,h.aC.k99,h.ok.pq,fun r hr=>⟨h.ok.fO.key r hr,((dP _).1 (h.ok.qF.v r hr).1).2.2.1,(h.ok.fO.xB r hr).2,(h.ok.qF.v r hr).1⟩,h.ok.qF.st,h.ok.fO.len,fun r hr=>(h.ok.qF.v r hr).2⟩
theorem LB.small{aa:List aF}{x:bZ}(d:ao aa) (h:LB aa x):∀k,(valOf aa x.ab k).size≤1000:=xE d fun y e=>(h.aC.2.2 y e).2
theorem OR.LV{α:Type}{R:α→List Value→Prop}{base b E k:Nat}{w:World}{x y:α}{r s:List Value}(h:bC w b E (r++s)) (hb:base≤b) (hr:r.length=k) (d:s.length=k) (h1:∀u∈r++s,u.oneCell'=true) (e:R x r) (i:R y s):OR base w E k R (some ⟨b,0,none⟩) 2 2 [x,y]:=
 ⟨rfl,[r,s],rfl,by simp [hr,d],by grind [OL.blk],vb e i⟩
def BN:Ask:=⟨false,false,0,0⟩
end Go.Rc

namespace Go.Rc
open Go
section
variable {aa:List aF}{aC:List bG}
noncomputable def zH(aa:List aF) (aC:List bG) (i q:Nat):List ByteArray:=(cZ (bP aa (aK aa (i:Int))) (valOf aa aC) q).2
noncomputable def jo(aa:List aF) (aC:List bG) (i q:Nat):Key:=(bP aa (aK aa (i:Int)) (zH aa aC i q)).ask
theorem lU(i q:Nat):(zH aa aC i q).length=q:=(eL _ _ _).2
theorem eY{i q:Nat}(d:q<cj aa i):(cp aa aC i)[q]?=some (jo aa aC i q):=by
 unfold cp jo zH
 generalize cj aa i=n at d ⊢
 induction n with
 | zero=>omega
 | succ n e=>
  have hl:=(eL (bP aa (aK aa (i:Int))) (valOf aa aC) n).1;simp only [cZ]
  grind
theorem yN(d:ao aa) {i q:Nat}(hi:i<aa.length) (e:q<cj aa i):bP aa (aK aa (i:Int)) (zH aa aC i q)=⟨false,⟨#[]⟩,jo aa aC i q⟩:=by grind [dB,lU,jo]
theorem yO(d:ao aa) {i:Nat}(hi:i<aa.length):bP aa (aK aa (i:Int)) (zH aa aC i (cj aa i))=⟨true,valOf aa aC (aK aa (i:Int)),de⟩:=di d hi
theorem vi(d:ao aa) {i q:Nat}(hi:i<aa.length) (e:q<cj aa i):eV aa (jo aa aC i q):=
 (i7 d hi _ (List.mem_of_getElem? (eY (aC:=aC) e))).LO d
theorem zI(d:ao aa) {i:Nat}(hi:i<aa.length) (hr:az aa i=true):ct (valOf aa aC (aK aa (i:Int)))=rv aa aC i:=by grind [fc,fL,dc,nF]
end
end Go.Rc

namespace Go.Rc
open Go
section
variable {aa:List aF}{aC:List bG}{k:Key}{L:List Key}
end
end Go.Rc

namespace Go.Rc
open Go
section
variable {aa:List aF}{aC:List bG}
theorem bY.trans{i j k:Nat}(h:bY aa i j) (d:bY aa j k):bY aa i k:=by
 induction d with
 | refl=>exact h
 | step _ e m=>exact .step m e
variable {lo n q v:Nat}{S:List Int}{r:aF}
end
end Go.Rc

namespace Go.Rc
open Go
section
variable {aa:List aF}{aC fi:List bG}
theorem DB.trans{k x y:Key}(h:DB aa aC k x) (d:DB aa aC x y):DB aa aC k y:=by
 induction d with
 | refl=>exact h
 | step _ e i=>exact .step i e
theorem pw(d:ao aa) {i:Nat}(hi:i<aa.length) (hr:az aa i=true) {x:Ask}(e:x∈aa[i].asks):aX aa x∈gO aa aC (aK aa (i:Int)):=by
 rw [dj d hi]
 unfold cp
 rw [rI d hi hr _ _ (by rw [dA hi];exact Nat.le_refl _),dA hi,List.take_length];exact List.mem_map_of_mem e
theorem zJ(e:ao aa) {i j:Nat}(hi:i<aa.length) (hr:az aa i=true) (h:bY aa i j):DB aa aC (aK aa (i:Int)) (aK aa (j:Int)):=by
 induction h with
 | refl=>exact .refl
 | step h1 m o=>
  obtain⟨d,B⟩:=eW hi hr h1;obtain⟨x,C,_,hk⟩:=iY d m;exact .step o (hk ▸ pw e d B C)
def xK(aa:List aF) (aC fi:List bG) (k:Key):Prop:=∀y,DB aa aC k y→ax y=true→cellOf aC y=cellOf fi y
theorem xK.at{k x:Key}(h:xK aa aC fi k) (d:DB aa aC k x):xK aa aC fi x:=fun y e=>h y (d.trans e)
theorem BO(d:ao aa):∀(i:Nat),i<aa.length→xK aa aC fi (aK aa (i:Int))→valOf aa aC (aK aa (i:Int))=valOf aa fi (aK aa (i:Int)):=by
 have cell:∀y,ax y=true→xK aa aC fi y→valOf aa aC y=valOf aa fi y:=fun y C h=>by
  unfold valOf
  rw [if_pos C,if_pos C];exact h y .refl C
 intro i
 induction i using Nat.strongRecOn with
 | _ i Q=>
  intro hi h
  cases hr:az aa i with
  | false=>
   have e:cZ (bP aa (aK aa (i:Int))) (valOf aa aC) (cj aa i)=cZ (bP aa (aK aa (i:Int))) (valOf aa fi) (cj aa i):=kN _ fun m hm=>by
    have G:=List.mem_of_getElem? (eY (aC:=aC) hm);have I:xK aa aC fi (jo aa aC i m):=h.at (.step .refl (by rw [dj d hi];exact G))
    show valOf aa aC (jo aa aC i m)=valOf aa fi (jo aa aC i m)
    rcases i7 d hi _ G with⟨n,hn,hk⟩ | ⟨j,B,hk,_,U,_⟩
    ·
     grind [aY]
    grind
   have h1:=di (aC:=aC) d hi;have V:=di (aC:=fi) d hi
   grind
  | true=>
   have e:rv aa aC i=rv aa fi i:=by
    apply Nat.eq_of_testBit_eq
    intro b;rw [Bool.eq_iff_iff]
    show(lN aa (valOf aa aC) i).testBit b=true↔(lN aa (valOf aa fi) i).testBit b=true
    rw [cE d hi hr,cE d hi hr];refine exists_congr fun j=>?_;refine and_congr_right fun B=>?_;obtain⟨o,D⟩:=eW hi hr B;rw [cQ o,cQ o];refine or_congr Iff.rfl (exists_congr fun x=>and_congr_right fun F=>and_congr_right fun J=>?_);have I:xK aa aC fi (aX aa x):=h.at ((zJ d hi hr B).trans (.step .refl (pw d o D F)));have W:=gM d B;have X:=dO aa i
    have O:valOf aa aC (aX aa x)=valOf aa fi (aX aa x):=by
     have hl:=lQ d o D F J
     rcases sO d o (fK d o D F) with⟨n,hn,hk⟩ | ⟨m,hm,hk,_⟩
     ·
      grind [aX,aY]
     grind [aX,ao.len,br]
    rw [O]
   grind [fc,fL]
end
end Go.Rc
namespace Go.Rc
open Go
end Go.Rc

namespace Go.Rc
open Go
section
variable {aa:List aF}{aC fi:List bG}
theorem px(d:ao aa) {i:Nat}(hi:i<aa.length) (h:∀a∈cp aa aC i,valOf aa aC a=valOf aa fi a):cp aa fi i=cp aa aC i∧valOf aa fi (aK aa (i:Int))=valOf aa aC (aK aa (i:Int)):=by
 have e:cZ (bP aa (aK aa (i:Int))) (valOf aa aC) (cj aa i)=cZ (bP aa (aK aa (i:Int))) (valOf aa fi) (cj aa i):=kN _ fun m hm=>h _ (List.mem_of_getElem? (eY hm))
 refine⟨?_,?_⟩
 ·
  unfold cp
  rw [e]
 have h1:=di (aC:=aC) d hi;have j:=di (aC:=fi) d hi
 grind
theorem nH(d:ao aa) {G:Nat→Prop}(i:∀j,G j→j<aa.length∧az aa j=true) (h:∀j,G j→∀r x,aa[j]?=some r→x∈r.asks→(∀m,G m→aX aa x≠aK aa (m:Int))→valOf aa aC (aX aa x)=valOf aa fi (aX aa x)) {j:Nat}(I:G j) (b:Nat) (hb:(rv aa aC j).testBit b=true):(rv aa fi j).testBit b=true:=by
 obtain⟨C,D⟩:=i j I;obtain⟨n,hn,J⟩:=(cE d C D b).1 hb
 have key:∀n,bY aa j n→(G n∧bY aa j n)∨∃(m:Nat) (x:Ask) (r:aF) (q:Nat),G m∧bY aa j m∧aa[m]?=some r∧x∈r.asks∧aX aa x=aK aa (q:Int)∧¬G q∧du aa m q∧bY aa q n:=by
  intro n hn
  induction hn with
  | refl=>exact .inl ⟨I,.refl⟩
  | @step m q hm o V=>
   rcases V with⟨g1,g2⟩ | ⟨m2,x,r,W,g1,g2,g3,g4,g5,g6,g7,g8⟩
   ·
    by_cases O:G q
    ·
     exact .inl ⟨O,.step g2 o⟩
    obtain⟨x,B,_,hk⟩:=iY (i m g1).1 o;exact .inr ⟨m,x,_,q,g1,g2,ah (i m g1).1,B,hk,O,o,.refl⟩
   exact .inr ⟨m2,x,r,W,g1,g2,g3,g4,g5,g6,g7,.step g8 o⟩
 rcases key n hn with⟨g1,g2⟩ | ⟨m,x,r,q,g1,g2,g3,g4,g5,g6,g7,g8⟩
 ·
  obtain⟨F,XN⟩:=i n g1;refine(cE d C D b).2 ⟨n,g2,?_⟩
  rcases(cQ F b).1 J with h1 | ⟨x,B,X,h1⟩
  ·
   grind [cQ]
  refine(cQ F b).2 (.inr ⟨x,B,X,?_⟩);rw [← h n g1 _ x (ah F) B fun m hm e=>?_]
  ·
   exact h1
  grind [gN,bu,ao.len]
 have Q:=g7.lt.2.1;have U:=g7.lt.2.2.2;have h1:(rv aa aC q).testBit b=true:=(cE d Q U b).2 ⟨n,g8,J⟩
 have h2:=h m g1 r x g3 g4 fun m2 yP e=>by grind [df]
 have Y:rv aa aC q=rv aa fi q:=by grind [zI]
 rw [Y] at h1;obtain⟨n2,h4,h5⟩:=(cE d Q U b).1 h1;exact(cE d C D b).2 ⟨n2,(bY.step g2 g7).trans h4,h5⟩
theorem xL(o:ao aa) {G:Nat→Prop}(i:∀j,G j→j<aa.length∧az aa j=true) (h:∀j,G j→∀r x,aa[j]?=some r→x∈r.asks→(∀m,G m→aX aa x≠aK aa (m:Int))→valOf aa aC (aX aa x)=valOf aa fi (aX aa x)) {j:Nat}(d:G j):valOf aa aC (aK aa (j:Int))=valOf aa fi (aK aa (j:Int)):=by
 obtain⟨D,F⟩:=i j d
 have e:rv aa aC j=rv aa fi j:=by
  apply Nat.eq_of_testBit_eq
  intro b;rw [Bool.eq_iff_iff];exact⟨nH o i h d b,nH o i (fun j d r x h1 B C=>(h j d r x h1 B C).symm) d b⟩
 grind [fc,fL]
structure Cons (aa:List aF) (H:Int→List bG) (on:Key→Bool) (b:bZ):Prop where
 now:H b.ad=b.ab
 dF:∀k t,ax k=true→(aL b.ab k).changed≤t→t≤b.ad→cellOf (H t) k=cellOf b.ab k
 yR:∀r∈b.ai,r.ak≤b.ad∧r.changed≤r.ak
 vr:∀r∈b.ai,r.value=valOf aa (H r.ak) r.key∧r.reads=gO aa (H r.ak) r.key
 rr:∀r∈b.ai,∀a∈r.reads,ax a=false→∀ra,ay b.ai a=some ra→(r.ak=b.ad∧on a=true)∨(ra.changed≤r.ak→valOf aa (H r.ak) a=ra.value)
 rs:∀r∈b.ai,aw r.key=true→∀a∈r.reads,aw a=true→∀ra,ay b.ai a=some ra→(r.ak=b.ad∧on a=true)∨r.ak≤ra.ak
variable {H:Int→List bG}{on:Key→Bool}{b:bZ}{k:Key}
theorem Cons.up(h:Cons aa H on b) (hu:aA b k=true):∃r,ay b.ai k=some r∧r.ak=b.ad∧r.value=valOf aa b.ab k:=by
 obtain⟨r,hr,d⟩:=aN.1 hu;obtain⟨h1,e⟩:=aI hr;refine⟨r,hr,d,?_⟩;rw [(h.vr r h1).1,d,h.now,e]
theorem Cons.changed(h:Cons aa H on b) {m:Rec}(hm:m∈b.ai) (B:m.ak<b.ad) {a:Key}(j:a∈m.reads) (hc:aP (valOf aa b.ab) b a≤m.ak):valOf aa (H m.ak) a=valOf aa b.ab a:=by
 cases hi:ax a with
 | true=>
  unfold aP at hc
  rw [if_pos hi] at hc
  have:=h.dF a m.ak hi hc (by omega)
  unfold valOf
  grind
 | false=>
  unfold aP at hc
  rw [if_neg (by rw [hi];simp)] at hc
  split at hc
  ·
   rename_i h1
   rw [Bool.and_eq_true] at h1;obtain⟨ra,i⟩:=Option.isSome_iff_exists.1 h1.1
   have e:aD b.ai a=ra:=by unfold aD;rw [i];rfl
   rw [e] at h1 hc
   have o:valOf aa b.ab a=ra.value:=by
    rw [Bool.or_eq_true] at h1
    rcases h1.2 with d | d
    ·
     have d:=of_decide_eq_true d;obtain⟨g1,g2⟩:=aI i;rw [(h.vr ra g1).1,d,h.now,g2]
    exact of_decide_eq_true d
   rcases h.rr m hm a j hi ra i with⟨d,_⟩ | d
   ·
    omega
   rw [d hc,o]
  omega
end
end Go.Rc

namespace Go.Rc
open Go
/-! ### lists of keys in order -/
def Ej(l:List Key):Prop:=l.Pairwise fun a b=>bj a b<0
theorem kT{a b:Key}(h:bj a b<0) (d:bj b a<0):False:=by grind [eX,fe]
theorem yS{k:Key}:∀{l:List Key},Ej l→Ej (lR k l)
 | [],_=>by simp [lR,Ej]
 | x::r,h=>by
  obtain⟨h1,d⟩:=List.pairwise_cons.1 h
  unfold lR
  split
  ·
   rename_i c
   refine List.pairwise_cons.2 ⟨fun y i=>?_,yS d⟩
   grind [u7]
  rename_i c
  split
  ·
   exact h
  rename_i e
  have j:bj k x<0:=by grind [fN,i1]
  refine List.pairwise_cons.2 ⟨fun y i=>?_,h⟩
  grind [eX]
theorem BP(l:List Key):Ej (rK l):=by
 have key:∀(l acc:List Key),Ej acc→Ej (l.foldl (fun out k=>lR k out) acc):=by
  intro l
  induction l with
  | nil=>intro acc h;exact h
  | cons x r d=>grind [yS]
 exact key l [] List.Pairwise.nil
theorem sY:∀{a b:List Key},Ej a→Ej b→(∀x,x∈a↔x∈b)→a=b
 | [],[],_,_,_=>rfl
 | [],y::b,_,_,h=>by have:=(h y).2 (by simp);cases this
 | x::a,[],_,_,h=>by have:=(h x).1 (by simp);cases this
 | x::a,y::b,h1,d,h=>by
  obtain⟨o,i⟩:=List.pairwise_cons.1 h1;obtain⟨B,j⟩:=List.pairwise_cons.1 d
  have e:x=y:=by
   rcases List.mem_cons.1 ((h x).1 (by simp)) with e | e
   ·
    exact e
   rcases List.mem_cons.1 ((h y).2 (by simp)) with e2 | e2
   ·
    exact e2.symm
   grind [kT]
  subst e
  congr 1
  refine sY i j fun z=>⟨fun m=>?_,fun m=>?_⟩
  ·
   grind [kT]
  grind [kT]
/-! ### rings that belong together -/
section
variable {l l':List Rec}{rev:Int}{k x y z:Key}
theorem bB:bH l rev k=true↔∃r,ay l k=some r∧aw k=true∧r.ak<rev∧r.bU=false:=by
 unfold bH aD
 cases h:ay l k with
 | none=>simp
 | some r=>simp
theorem bE.trans(h:bE l rev k x) (d:bE l rev x y):bE l rev k y:=by
 induction d with
 | one d=>exact .step h d
 | step _ e i=>exact .step i e
def rT(l:List Rec) (rev:Int) (x y:Key):Prop:=bE l rev x y∧bE l rev y x
theorem rT.symm(h:rT l rev x y):rT l rev y x:=⟨h.2,h.1⟩
theorem rT.trans(h:rT l rev x y) (d:rT l rev y z):rT l rev x z:=⟨h.1.trans d.1,d.2.trans h.2⟩
theorem rT.kg(h:rT l rev x y):bH l rev y=true:=h.1.kg
theorem xM:y∈pd l rev k l↔y≠k∧rT l rev k y:=by
 unfold pd HI
 rw [List.mem_map]
 constructor
 ·
  rintro⟨r,hr,rfl⟩;rw [List.mem_filter] at hr;simp only [Bool.and_eq_true,decide_eq_true_eq,kS] at hr;exact⟨hr.2.1,hr.2.2.1,hr.2.2.2⟩
 rintro⟨h1,d⟩;obtain⟨r,hr,rfl⟩:=List.mem_map.1 (pe d.kg);exact⟨r,List.mem_filter.2 ⟨hr,by simp only [Bool.and_eq_true,decide_eq_true_eq,kS];exact⟨h1,d.1,d.2⟩⟩,rfl⟩
theorem bK:y∈aB l rev k↔y=k∨(bH l rev k=true∧rT l rev k y):=by
 unfold aB
 split
 ·
  rename_i h
  rw [rL,List.mem_cons,xM]
  grind
 grind
theorem ep:k∈aB l rev k:=bK.2 (.inl rfl)
theorem mJ(l:List Rec) (rev:Int) (k:Key):Ej (aB l rev k):=by
 unfold aB
 split
 ·
  exact BP _
 exact List.pairwise_singleton _ _
theorem et(h:aw k=false):aB l rev k=[k]:=by
 unfold aB
 rw [if_neg]
 grind [bB]
theorem rU(hk:bH l rev k=true) (h:rT l rev k y) (z:Key):z∈aB l rev y↔z∈aB l rev k:=by
 rw [bK,bK]
 constructor
 ·
  rintro(rfl | ⟨_,h1⟩)
  ·
   exact .inr ⟨hk,h⟩
  exact .inr ⟨hk,h.trans h1⟩
 rintro(rfl | ⟨_,h1⟩)
 ·
  exact .inr ⟨h.kg,h.symm⟩
 exact .inr ⟨h.kg,h.symm.trans h1⟩
theorem dJ{g:List Key}{c:ob}:c∈bW l g↔c.eT∈g∧c.read∈(aD l c.eT).reads∧c.read∉g:=by
 unfold bW cA
 grind
theorem qG{g:List Key}(h:∀m∈g,aD l' m=aD l m):bW l' g=bW l g:=by
 unfold bW
 have key:∀s:List Key,(∀m∈s,aD l' m=aD l m)→(s.flatMap fun m=>cA g m (aD l' m).reads)=s.flatMap fun m=>cA g m (aD l m).reads:=by
  intro s
  induction s with
  | nil=>intro _;rfl
  | cons m r d=>grind
 exact key g h
end
/-! ### the change of records -/
def Pt(val:Key→ByteArray) (N:Key→Prop) (rev:Int) (bO:List Key) (y:Key) (o o':Option Rec):Prop:=
 o'=o∨((aw y=true∨N y)∧∃r,o=some r∧r.bU=false∧r.ak<rev∧(o'=some {r with ak:=rev}∨o'=some {r with bU:=true}))∨
 ((y∈bO∧N y)∧(∀r,o=some r→r.ak<rev)∧∃r',o'=some r'∧r'.ak=rev∧r'.bU=false∧r'.value=val y∧(∀r,o=some r→r'.changed=if r.value=r'.value then r.changed else rev)∧(o=none→r'.changed=rev))
structure gq (val:Key→ByteArray) (N:Key→Prop) (bO:List Key) (rev:Int) (l l':List Rec):Prop where
 pt:∀y,Pt val N rev bO y (ay l y) (ay l' y)
 scc:∀y z,rT l rev y z→bH l' rev y=true→bH l' rev z=true
def Live(l:List Rec) (rev:Int) (k:Key):Prop:=∃r,ay l k=some r∧r.bU=false∧r.ak<rev
theorem Live.ta{l:List Rec}{rev:Int}{k:Key}(h:bH l rev k=true):Live l rev k:=by
 obtain⟨r,h1,_,d,e⟩:=bB.1 h;exact⟨r,h1,e,d⟩
theorem Live.kg{l:List Rec}{rev:Int}{k:Key}(h:Live l rev k) (hc:aw k=true):bH l rev k=true:=by
 obtain⟨r,h1,d,e⟩:=h
 grind [bB]
section
variable {val:Key→ByteArray}{N N':Key→Prop}{bO LW:List Key}{rev:Int}{l l' l2:List Rec}{k x y z:Key}
theorem gq.refl(l:List Rec):gq val N bO rev l l:=⟨fun _=>.inl rfl,fun _ _ h _=>h.kg⟩
theorem gq.mono(h:gq val N bO rev l l') (hr:∀y∈bO,y∈LW) (e:∀y,N y→N' y):gq val N' LW rev l l':=
 ⟨fun y=>by
  rcases h.pt y with h | ⟨h1,d⟩ | ⟨⟨h1,d⟩,i⟩
  ·
   exact .inl h
  ·
   exact .inr (.inl ⟨h1.imp id (e y),d⟩)
  exact .inr (.inr ⟨⟨hr y h1,e y d⟩,i⟩),h.scc⟩
theorem gq.live(h:gq val N bO rev l l') (hl:Live l' rev y):ay l' y=ay l y:=by
 obtain⟨r,h1,d,i⟩:=hl
 rcases h.pt y with e | ⟨_,q,_,_,_,e | e⟩ | ⟨_,_,q,e,j,_⟩
 ·
  exact e
 ·
  grind
 ·
  grind
 grind
theorem gq.Gt(h:gq val N bO rev l l') (hl:Live l' rev y):Live l rev y:=by
 obtain⟨r,h1,d,e⟩:=id hl;exact⟨r,by rw [← h.live hl];exact h1,d,e⟩
theorem gq.kg(h:gq val N bO rev l l') (d:bH l' rev y=true):ay l' y=ay l y:=h.live (.ta d)
theorem gq.Ek(h:gq val N bO rev l l') (d:bH l' rev y=true):bH l rev y=true:=by
 obtain⟨r,h1,e,i,j⟩:=bB.1 d;exact bB.2 ⟨r,by rw [← h.kg d];exact h1,e,i,j⟩
theorem gq.aD(h:gq val N bO rev l l') (d:bH l' rev y=true):aD l' y=Rc.aD l y:=by
 unfold Rc.aD
 rw [h.kg d]
theorem gq.leads(h:gq val N bO rev l l') (hk:bH l' rev k=true) (hl:bE l' rev k x):bE l rev k x:=by
 induction hl with
 | one h1=>exact .one ⟨by rw [← h.aD hk];exact h1.1,h.Ek h1.2⟩
 | step h1 d e=>exact .step e ⟨by rw [← h.aD h1.kg];exact d.1,h.Ek d.2⟩
theorem gq.back(h:gq val N bO rev l l') (hk:bH l' rev k=true) (hl:bE l rev k x):bE l rev x k→bE l' rev k x:=by
 induction hl with
 | one h1=>exact fun d=>.one ⟨by rw [h.aD hk];exact h1.1,h.scc k _ ⟨.one h1,d⟩ hk⟩
 | step h1 e i=>
  intro d;have g:=i ((bE.one e).trans d);exact .step g ⟨by rw [h.aD g.kg];exact e.1,h.scc k _ ⟨.step h1 e,d⟩ hk⟩
theorem gq.mut(h:gq val N bO rev l l') (hk:bH l' rev k=true):rT l' rev k y↔rT l rev k y:=
 ⟨fun m=>⟨h.leads hk m.1,h.leads m.kg m.2⟩,fun m=>⟨h.back hk m.1 m.2,h.back (h.scc k y m hk) m.2 m.1⟩⟩
theorem gq.group(h:gq val N bO rev l l') (hk:Live l' rev k):aB l' rev k=aB l rev k∧∀m∈aB l rev k,ay l' m=ay l m:=by
 cases hc:aw k with
 | false=>
  rw [et hc,et hc];refine⟨rfl,fun m hm=>?_⟩;rw [List.mem_singleton.1 hm];exact h.live hk
 | true=>
  have d:=hk.kg hc;refine⟨sY (mJ _ _ _) (mJ _ _ _) fun y=>?_,fun m hm=>?_⟩
  ·
   rw [bK,bK,h.mut d,d,h.Ek d]
  rcases bK.1 hm with rfl | ⟨_,m2⟩
  ·
   exact h.live hk
  exact h.kg (h.scc _ _ m2 d)
theorem gq.HR(h:gq val N bO rev l l') (hk:Live l' rev k):bW l' (aB l' rev k)=bW l (aB l rev k):=by
 obtain⟨h1,d⟩:=h.group hk;rw [h1];refine qG fun m hm=>?_
 unfold Rc.aD
 rw [d m hm]
theorem gq.trans(h:gq val N bO rev l l') (i:gq val N bO rev l' l2):gq val N bO rev l l2:=by
 refine⟨fun y=>?_,fun y z m j=>?_⟩
 ·
  have g2:=i.pt y
  rcases h.pt y with e | ⟨e0,r,e1,e2,e3,d | d⟩ | ⟨e1,e2,r',e3,d,e5,e6,o,e8⟩
  ·
   rw [e] at g2;exact g2
  ·
   rcases g2 with g | ⟨_,q,g1,g2,g3,_⟩ | ⟨_,g1,_⟩
   ·
    exact .inr (.inl ⟨e0,r,e1,e2,e3,.inl (g.trans d)⟩)
   ·
    grind
   grind
  ·
   rcases g2 with g | ⟨_,q,g1,g2,g3,_⟩ | ⟨g1,g2,q,g3,g4,g5,g6,g7,g8⟩
   ·
    exact .inr (.inl ⟨e0,r,e1,e2,e3,.inr (g.trans d)⟩)
   ·
    grind
   refine .inr (.inr ⟨g1,fun r2 B=>?_,q,g3,g4,g5,g6,fun r2 B=>?_,fun hn=>?_⟩)
   ·
    grind
   ·
    grind
   grind
  rcases g2 with g | ⟨_,q,g1,g2,g3,_⟩ | ⟨_,g1,_⟩
  ·
   exact .inr (.inr ⟨e1,e2,r',g.trans e3,d,e5,e6,o,e8⟩)
  ·
   grind
  have:=g1 _ e3
  omega
 have C:=i.Ek j;exact i.scc y z ((h.mut C).2 m) j
theorem bL{g:List Key}{d:Bool}:ay (l.map (aW rev g d)) y=(ay l y).map (aW rev g d):=rO _ (fun r=>(bV rev g d r).1) y l
theorem gq.mark(hl:Live l rev k) (d:Bool) (B:aw k=true∨N k):gq val N bO rev l (l.map (aW rev (aB l rev k) d)):=by
 have dF:∀y∈aB l rev k,Live l rev y:=fun y h=>by
  rcases bK.1 h with rfl | ⟨_,m⟩
  ·
   exact hl
  exact .ta m.kg
 have C:∀y,y∉aB l rev k→ay (l.map (aW rev (aB l rev k) d)) y=ay l y:=fun y h=>by
  rw [bL]
  cases D:ay l y with
  | none=>rfl
  | some r=>
   have e:=(aI D).2
   show some (aW rev (aB l rev k) d r)=some r
   unfold aW
   rw [if_neg (by rw [e];exact h)]
 have F:∀y∈aB l rev k,∃r,ay l y=some r∧r.bU=false∧r.ak<rev∧ay (l.map (aW rev (aB l rev k) d)) y=some (if d then {r with bU:=true} else {r with ak:=rev}):=fun y h=>by
  obtain⟨r,h1,i,j⟩:=dF y h;refine⟨r,h1,i,j,?_⟩;rw [bL,h1]
  show some (aW rev (aB l rev k) d r)=_
  unfold aW
  rw [if_pos (by rw [(aI h1).2];exact h)]
 refine⟨fun y=>?_,fun y z m I=>?_⟩
 ·
  by_cases h:y∈aB l rev k
  ·
   obtain⟨r,h1,i,j,G⟩:=F y h;refine .inr (.inl ⟨?_,r,h1,i,j,?_⟩)
   ·
    rcases bK.1 h with rfl | ⟨_,m⟩
    ·
     exact B
    obtain⟨_,_,g,_⟩:=bB.1 m.kg;exact .inl g
   grind
  exact .inl (C y h)
 have h:y∉aB l rev k:=fun h=>by grind [bB]
 have o:z∉aB l rev k:=fun o=>h (by
  rcases bK.1 o with rfl | ⟨h1,i⟩
  ·
   grind [bK,rT.kg,rT.symm]
  exact bK.2 (.inr ⟨h1,i.trans m.symm⟩))
 obtain⟨r,h1,i,j,G⟩:=bB.1 m.kg
 grind [bB]
theorem gq.put{r':Rec}(hk:bH l rev r'.key=false) (d:∀r,ay l r'.key=some r→r.ak<rev) (h:r'.key∈bO∧N r'.key) (i:r'.ak=rev) (j:r'.bU=false) (o:r'.value=val r'.key)
  (hc:∀r,ay l r'.key=some r→r'.changed=if r.value=r'.value then r.changed else rev) (hn:ay l r'.key=none→r'.changed=rev):gq val N bO rev l (ez l r'):=by
 refine⟨fun y=>?_,fun y z m G=>?_⟩
 ·
  rw [cD]
  by_cases e:y=r'.key
  ·
   rw [if_pos e,e];exact .inr (.inr ⟨h,d,r',rfl,i,j,o,hc,hn⟩)
  rw [if_neg e];exact .inl rfl
 have B:z≠r'.key:=fun e=>by grind [rT.kg]
 obtain⟨r,h1,C,D,F⟩:=bB.1 m.kg;exact bB.2 ⟨r,by rw [cD,if_neg B];exact h1,C,D,F⟩
end
end Go.Rc

namespace Go.Rc
open Go
theorem aJ{l:List Rec}{k:Key}{r:Rec}(h:ay l k=some r):aD l k=r:=by
 unfold aD
 rw [h]
 rfl
theorem eu:∀{l:List Rec},lk l→∀{r:Rec},r∈l→ay l r.key=some r
 | [],_,r,hr=>by cases hr
 | x::xs,h,r,hr=>by
  obtain⟨h1,d⟩:=List.pairwise_cons.1 h
  unfold ay
  rw [List.find?_cons]
  rcases List.mem_cons.1 hr with rfl | hr
  ·
   simp
  have i:=h1 r hr
  have j:x.key≠r.key:=fun e=>by rw [e,fe] at i;omega
  have:(x.key == r.key)=false:=by simpa using j
  rw [this];exact eu d hr
structure Bi (aa:List aF) (H:Int→List bG) (on:Key→Bool) (b:bZ):Prop where
 c:Cons aa H on b
 st:lk b.ai
 kr:∀r∈b.ai,∃i:Nat,i<aa.length∧r.key=aK aa (i:Int)
 dv:∀r∈b.ai,r.bU=true→r.ak<b.ad
section
variable {aa:List aF}{H:Int→List bG}{on QD:Key→Bool}{b:bZ}{k:Key}
theorem Bi.R5(h:Bi aa H on b) (i:∀k,on k=true→QD k=true):Bi aa H QD b:=
 ⟨{h.c with
   rr:=fun r hr a d hi ra e=>(h.c.rr r hr a d hi ra e).imp (fun⟨x,y⟩=>⟨x,i _ y⟩) id
   rs:=fun r hr hc a d hi ra e=>(h.c.rs r hr hc a d hi ra e).imp (fun⟨x,y⟩=>⟨x,i _ y⟩) id},h.st,h.kr,h.dv⟩
theorem Bi.off(h:Bi aa H on b) (hu:aA b k=true) (j:∀y,on y=true→y=k∨QD y=true):Bi aa H QD b:=by
 obtain⟨q,i,o,m⟩:=h.c.up hu;refine⟨{h.c with rr:=fun r hr a e hi ra d=>?_,rs:=fun r hr hc a e hi ra d=>?_},h.st,h.kr,h.dv⟩
 ·
  rcases h.c.rr r hr a e hi ra d with⟨x,y⟩ | z
  ·
   rcases j a y with rfl | y
   ·
    rw [d] at i
    have:=Option.some.inj i
    subst this;refine .inr fun _=>?_;rw [x,h.c.now];exact m.symm
   exact .inl ⟨x,y⟩
  exact .inr z
 rcases h.c.rs r hr hc a e hi ra d with⟨x,y⟩ | z
 ·
  grind
 exact .inr z
theorem zK(h:ao aa) {aC:List bG}{i:Nat}(hi:i<aa.length) (hr:az aa i=true) {x:Ask}(d:x∈aa[i].asks):aX aa x∈cp aa aC i:=by
 obtain⟨q,j⟩:=List.mem_iff_getElem?.1 d
 have e:q<cj aa i:=by grind [cj]
 have h1:=eY (aC:=aC) e
 grind [dB,lU,jo]
theorem Cons.lead(h:Cons aa H on b) {x y:Key}(d:bH b.ai b.ad x=true) (hl:bE b.ai b.ad x y):(aD b.ai x).ak≤(aD b.ai y).ak:=by
 have step:∀x y,bH b.ai b.ad x=true→Ld b.ai b.ad x y→(aD b.ai x).ak≤(aD b.ai y).ak:=by
  intro x y d i;obtain⟨r,h1,j,o,B⟩:=bB.1 d;obtain⟨q,g1,g2,g3,g4⟩:=bB.1 i.2;have m:=i.1;rw [aJ h1] at m;rw [aJ h1,aJ g1]
  rcases h.rs r (aI h1).1 (by rw [(aI h1).2];exact j) y m g2 q g1 with⟨e,_⟩ | e
  ·
   omega
  exact e
 induction hl with
 | one h1=>exact step _ _ d h1
 | step h1 j C=>grind [bE.kg]
theorem Bi.key(h:Bi aa H on b) (hl:Live b.ai b.ad k):∃i:Nat,i<aa.length∧k=aK aa (i:Int):=by
 obtain⟨r,h1,_⟩:=hl;obtain⟨d,j⟩:=aI h1;obtain⟨i,hi,e⟩:=h.kr r d
 grind
theorem j6{l:List Rec}{rev:Int}{y:Key}(hl:Live l rev k) (d:y∈aB l rev k):Live l rev y:=by
 rcases bK.1 d with rfl | ⟨_,m⟩
 ·
  exact hl
 exact .ta m.kg
theorem Bi.fixed(B:ao aa) (h:Bi aa H on b) (hl:Live b.ai b.ad k)
  (D:∀m∈aB b.ai b.ad k,∀a∈(aD b.ai m).reads,a∉aB b.ai b.ad k→valOf aa (H (aD b.ai m).ak) a=valOf aa b.ab a) :
  ∀m∈aB b.ai b.ad k,valOf aa b.ab m=valOf aa (H (aD b.ai m).ak) m∧gO aa b.ab m=gO aa (H (aD b.ai m).ak) m:=by
 have V:=B.len
 have o:∀m∈aB b.ai b.ad k,∃i:Nat,i<aa.length∧m=aK aa (i:Int)∧(aD b.ai m).reads=cp aa (H (aD b.ai m).ak) i:=fun m hm=>by
  have F:=j6 hl hm;obtain⟨i,hi,e⟩:=h.key F;obtain⟨r,h1,_⟩:=F;refine⟨i,hi,e,?_⟩;have I:=(h.c.vr r (aI h1).1).2;rw [aJ h1,I,(aI h1).2,e,dj B hi]
 cases hc:aw k with
 | false=>
  rw [et hc] at D o ⊢;intro m hm;rw [List.mem_singleton] at hm;subst hm;obtain⟨i,hi,e,o⟩:=o m (by simp)
  have J:=px B hi (aC:=H (aD b.ai m).ak) (fi:=b.ab) fun a C=>by
   refine D m (by simp) a (by rw [o];exact C) fun hm=>?_;rw [List.mem_singleton] at hm;rw [e] at hm;rw [e,bu hi (by omega)] at hc
   rcases i7 B hi a C with⟨n,hn,rfl⟩ | ⟨j,d,rfl,_,W,_⟩
   ·
    grind [aY,bQ]
   grind [df]
  grind [dj]
 | true=>
  have O:=hl.kg hc
  have ht:∀m∈aB b.ai b.ad k,(aD b.ai m).ak=(aD b.ai k).ak:=fun m hm=>by
   rcases bK.1 hm with rfl | ⟨_,m1,m2⟩
   ·
    rfl
   have a1:=h.c.lead O m1;have a2:=h.c.lead m1.kg m2
   omega
  have Q:∀j:Nat,j<aa.length→aK aa (j:Int)∈aB b.ai b.ad k→az aa j=true:=fun j d hm=>by
   have h1:bH b.ai b.ad (aK aa (j:Int))=true:=by grind [bK,rT.kg]
   grind [bB,bu]
  have U:∀j:Nat,j<aa.length→aK aa (j:Int)∈aB b.ai b.ad k→valOf aa (H (aD b.ai k).ak) (aK aa (j:Int))=valOf aa b.ab (aK aa (j:Int)):=fun j d hm=>by
   refine xL B (G:=fun j=>j<aa.length∧aK aa (j:Int)∈aB b.ai b.ad k) (fun j d=>⟨d.1,Q j d.1 d.2⟩) (fun j d r x hr X Y=>?_) ⟨d,hm⟩
   grind [df,zK]
  intro m hm;obtain⟨i,hi,e,o⟩:=o m hm;have h1:=U i hi (e ▸ hm);rw [ht m hm] at o ⊢;refine⟨by rw [e];exact h1.symm,?_⟩
  have J:=px B hi (aC:=H (aD b.ai k).ak) (fi:=b.ab) fun a C=>by grind
  grind [dj]
theorem ff(rev:Int) (g:List Key) (d:Bool) (r:Rec):(aW rev g d r).value=r.value∧(aW rev g d r).changed=r.changed:=by
 unfold aW
 grind
theorem Bi.mark(W:ao aa) (h:Bi aa H on b) (hl:Live b.ai b.ad k)
  (J:∀m∈aB b.ai b.ad k,∀a∈(aD b.ai m).reads,a∉aB b.ai b.ad k→valOf aa (H (aD b.ai m).ak) a=valOf aa b.ab a∧(ax a=true∨(on a=true∧aw a=true)∨aA b a=true)) :
  Bi aa H on (dI b (aB b.ai b.ad k) false):=by
 have Q:=h.fixed W hl fun m hm a d X=>(J m hm a d X).1
 generalize Y:aB b.ai b.ad k=G at Q J
 have R6:∀a ra,a∈G→ay b.ai a=some ra→ra.value=valOf aa b.ab a:=fun a ra d i=>by
  have h1:=(h.c.vr ra (aI i).1).1;have C:=(Q a d).1;rw [aJ i] at C;rw [h1,(aI i).2,C]
 have O:∀r:Rec,r.key∈G→(aW b.ad G false r).ak=b.ad:=fun r hr=>by
  unfold aW
  rw [if_pos hr]
  rfl
 have D:∀r:Rec,r.key∉G→aW b.ad G false r=r:=fun r hr=>by
  unfold aW
  rw [if_neg hr]
 refine⟨⟨h.c.now,h.c.dF,fun r' o=>?_,fun r' o=>?_,fun r' o a d hi QE F=>?_,fun r' o hc a d hi QE F=>?_⟩,h.st.map fun r=>(bV _ _ _ r).1,fun r' o=>?_,fun r' o U=>?_⟩
 ·
  obtain⟨r,hr,rfl⟩:=List.mem_map.1 o;have h1:=h.c.yR r hr
  by_cases e:r.key∈G
  ·
   rw [O r e,(ff _ _ _ r).2];exact⟨Int.le_refl _,by omega⟩
  rw [D r e];exact h1
 ·
  obtain⟨r,hr,rfl⟩:=List.mem_map.1 o;have h1:=h.c.vr r hr
  by_cases e:r.key∈G
  ·
   have B:=eu h.st hr;have C:=Q r.key e;rw [aJ B] at C;rw [O r e,(ff _ _ _ r).1,(bV _ _ _ r).1,(bV _ _ _ r).2,h.c.now,C.1,C.2];exact h1
  rw [D r e];exact h1
 ·
  obtain⟨r,hr,rfl⟩:=List.mem_map.1 o;rw [show(dI b G false).ai=b.ai.map (aW b.ad G false) from rfl,bL] at F;obtain⟨ra,i,rfl⟩:=Option.map_eq_some_iff.1 F;have B:=eu h.st hr;rw [(bV _ _ _ r).2] at d;rw [(ff _ _ _ ra).1,(ff _ _ _ ra).2]
  show((aW b.ad G false r).ak=b.ad∧_)∨_
  by_cases e:r.key∈G
  ·
   rw [O r e]
   by_cases I:a∈G
   ·
    refine .inr fun _=>?_;rw [h.c.now];exact(R6 a ra I i).symm
   rcases(J r.key e a (by rw [aJ B];exact d) I).2 with h1 | h1 | h1
   ·
    rw [hi] at h1
    cases h1
   ·
    exact .inl ⟨rfl,h1.1⟩
   refine .inr fun _=>?_;obtain⟨q,V,_,qH⟩:=h.c.up h1;rw [i] at V
   have:=Option.some.inj V
   subst this;rw [h.c.now];exact qH.symm
  rw [D r e];exact h.c.rr r hr a d hi ra i
 ·
  obtain⟨r,hr,rfl⟩:=List.mem_map.1 o;rw [show(dI b G false).ai=b.ai.map (aW b.ad G false) from rfl,bL] at F;obtain⟨ra,i,rfl⟩:=Option.map_eq_some_iff.1 F;have B:=eu h.st hr;rw [(bV _ _ _ r).2] at d;rw [(bV _ _ _ r).1] at hc
  show((aW b.ad G false r).ak=b.ad∧_)∨_
  have R7:=(aI i).2;have hle:=(h.c.yR r hr).1
  by_cases e:r.key∈G
  ·
   rw [O r e]
   by_cases I:a∈G
   ·
    grind
   rcases(J r.key e a (by rw [aJ B];exact d) I).2 with h1 | h1 | h1
   ·
    obtain⟨j,hj,ej⟩:=h.kr ra (aI i).1
    grind [ao.len,bQ]
   ·
    exact .inl ⟨rfl,h1.1⟩
   obtain⟨q,V,hqv⟩:=aN.1 h1
   grind
  rw [D r e]
  rcases h.c.rs r hr hc a d hi ra i with h1 | h1
  ·
   exact .inl h1
  refine .inr ?_
  by_cases I:ra.key∈G
  ·
   grind
  grind
 ·
  obtain⟨r,hr,rfl⟩:=List.mem_map.1 o;rw [(bV _ _ _ r).1];exact h.kr r hr
 obtain⟨r,hr,rfl⟩:=List.mem_map.1 o
 by_cases e:r.key∈G
 ·
  have B:=eu h.st hr;obtain⟨q,g1,g2,_⟩:=j6 hl (y:=r.key) (by rw [Y];exact e);rw [B] at g1
  have:=Option.some.inj g1
  subst this
  unfold aW at U
  grind
 rw [D r e] at U ⊢;exact h.dv r hr U
theorem Bi.bU(h:Bi aa H on b) {G:List Key}(C:∀m∈G,Live b.ai b.ad m):Bi aa H on (dI b G true):=by
 have hm:∀r:Rec,(aW b.ad G true r).ak=r.ak:=fun r=>by
  unfold aW
  grind
 refine⟨⟨h.c.now,h.c.dF,fun r' d=>?_,fun r' d=>?_,fun r' d a i hi D j=>?_,fun r' d hc a i hi D j=>?_⟩,h.st.map fun r=>(bV _ _ _ r).1,fun r' d=>?_,fun r' d o=>?_⟩
 ·
  obtain⟨r,hr,rfl⟩:=List.mem_map.1 d;rw [hm,(ff _ _ _ r).2];exact h.c.yR r hr
 ·
  obtain⟨r,hr,rfl⟩:=List.mem_map.1 d;rw [hm,(ff _ _ _ r).1,(bV _ _ _ r).1,(bV _ _ _ r).2];exact h.c.vr r hr
 ·
  obtain⟨r,hr,rfl⟩:=List.mem_map.1 d;rw [show(dI b G true).ai=b.ai.map (aW b.ad G true) from rfl,bL] at j;obtain⟨ra,B,rfl⟩:=Option.map_eq_some_iff.1 j;rw [(bV _ _ _ r).2] at i;rw [hm,(ff _ _ _ ra).1,(ff _ _ _ ra).2];exact h.c.rr r hr a i hi ra B
 ·
  obtain⟨r,hr,rfl⟩:=List.mem_map.1 d;rw [show(dI b G true).ai=b.ai.map (aW b.ad G true) from rfl,bL] at j;obtain⟨ra,B,rfl⟩:=Option.map_eq_some_iff.1 j;rw [(bV _ _ _ r).2] at i;rw [(bV _ _ _ r).1] at hc;rw [hm,hm];exact h.c.rs r hr hc a i hi ra B
 ·
  obtain⟨r,hr,rfl⟩:=List.mem_map.1 d;rw [(bV _ _ _ r).1];exact h.kr r hr
 obtain⟨r,hr,rfl⟩:=List.mem_map.1 d;rw [hm]
 by_cases e:r.key∈G
 ·
  obtain⟨q,g1,_,g2⟩:=C _ e;rw [eu h.st hr] at g1
  have:=Option.some.inj g1
  subst this;exact g2
 unfold aW at o
 rw [if_neg e] at o;exact h.dv r hr o
theorem Bi.put(G:ao aa) (h:Bi aa H on b) {i:Nat}(hi:i<aa.length) (V:aw (aK aa (i:Int))=true→on (aK aa (i:Int))=true)
  (J:∀a∈cp aa b.ab i,ax a=true∨(on a=true∧aw a=true)∨aA b a=true) :
  Bi aa H on {b with ai:=ez b.ai (cc b (aK aa (i:Int)) (valOf aa b.ab (aK aa (i:Int))) (cp aa b.ab i))}:=by
 have DC:=G.len
 generalize o:cc b (aK aa (i:Int)) (valOf aa b.ab (aK aa (i:Int))) (cp aa b.ab i)=q
 have q1:q.key=aK aa (i:Int):=by rw [← o];rfl
 have B:q.ak=b.ad:=by rw [← o];rfl
 have O:q.value=valOf aa b.ab (aK aa (i:Int)):=by rw [← o];rfl
 have F:q.reads=cp aa b.ab i:=by rw [← o];rfl
 have Q:(∃r,ay b.ai q.key=some r∧r.value=q.value∧q.changed=r.changed)∨q.changed=b.ad:=by
  rw [← o]
  unfold cc
  simp only
  split
  ·
   rename_i hc
   simp only [Bool.and_eq_true,decide_eq_true_eq] at hc;obtain⟨r,hr⟩:=Option.isSome_iff_exists.1 hc.1;rw [aJ hr] at hc ⊢;exact .inl ⟨r,hr,hc.2,rfl⟩
  exact .inr rfl
 refine⟨⟨h.c.now,h.c.dF,fun r hr=>?_,fun r hr=>?_,fun r hr a m D ra d=>?_,fun r hr hc a m D ra d=>?_⟩,lk.put h.st,fun r hr=>?_,fun r hr I=>?_⟩
 ·
  rcases dY _ _ _ _ hr with rfl | hr
  ·
   refine⟨by rw [B];exact Int.le_refl _,?_⟩
   rcases Q with⟨p,C,_,e⟩ | e
   ·
    have:=h.c.yR p (aI C).1
    omega
   omega
  exact h.c.yR r hr
 ·
  rcases dY _ _ _ _ hr with rfl | hr
  ·
   rw [q1,B,O,F,h.c.now,dj G hi];exact⟨rfl,rfl⟩
  exact h.c.vr r hr
 ·
  rw [show({b with ai:=ez b.ai q}:bZ).ai=ez b.ai q from rfl,cD] at d
  show(r.ak=b.ad∧_)∨_
  rcases dY _ _ _ _ hr with rfl | hr
  ·
   by_cases e:a=r.key
   ·
    refine .inl ⟨B,?_⟩;rw [e,q1];refine V ?_;rw [F] at m;rw [bu hi (by omega)]
    cases XO:az aa i with
    | true=>rfl
    | false=>
     rcases i7 G hi a m with⟨n,hn,h1⟩ | ⟨j,U,h1,_,h5,_⟩
     ·
      grind [aY]
     grind [df]
   rw [if_neg e] at d
   rcases J a (by rw [← F];exact m) with h1 | h1 | h1
   ·
    rw [D] at h1
    cases h1
   ·
    exact .inl ⟨B,h1.1⟩
   refine .inr fun _=>?_;obtain⟨p,C,_,W⟩:=h.c.up h1;rw [d] at C
   have:=Option.some.inj C
   subst this;rw [B,h.c.now];exact W.symm
  by_cases e:a=q.key
  ·
   rw [if_pos e] at d
   have:=Option.some.inj d
   subst this
   rcases Q with⟨p,C,e2,e3⟩ | e2
   ·
    rcases h.c.rr r hr a m D p (by rw [e];exact C) with h1 | h1
    ·
     exact .inl h1
    grind
   refine .inr fun hc=>?_;have h1:=(h.c.yR r hr).1
   have X:r.ak=b.ad:=by omega
   rw [X,h.c.now,O,e,q1]
  rw [if_neg e] at d;exact h.c.rr r hr a m D ra d
 ·
  rw [show({b with ai:=ez b.ai q}:bZ).ai=ez b.ai q from rfl,cD] at d
  show(r.ak=b.ad∧_)∨_
  rcases dY _ _ _ _ hr with rfl | hr
  ·
   by_cases e:a=r.key
   ·
    grind
   rw [if_neg e] at d
   rcases J a (by rw [← F];exact m) with h1 | h1 | h1
   ·
    obtain⟨j,U,Y⟩:=h.kr ra (aI d).1;rw [← (aI d).2,Y,bQ U (by omega)] at h1
    cases h1
   ·
    exact .inl ⟨B,h1.1⟩
   grind [aN]
  by_cases e:a=q.key
  ·
   rw [if_pos e] at d
   have:=Option.some.inj d
   subst this
   have:=(h.c.yR r hr).1
   exact .inr (by omega)
  rw [if_neg e] at d;exact h.c.rs r hr hc a m D ra d
 ·
  rcases dY _ _ _ _ hr with rfl | hr
  ·
   exact⟨i,hi,q1⟩
  exact h.kr r hr
 rcases dY _ _ _ _ hr with rfl | hr
 ·
  have:r.bU=false:=by rw [← o];rfl
  rw [this] at I
  cases I
 exact h.dv r hr I
end
end Go.Rc

namespace Go.Rc
open Go
def DD(val:Key→ByteArray) (b:bZ) (y:Key):Prop:=∃m a,m∈aB b.ai b.ad y∧a∈(aD b.ai m).reads∧a∉aB b.ai b.ad y∧(aD b.ai m).ak<aP val b a
def BQ(val:Key→ByteArray) (b:bZ) (y:Key):Prop:=ax y=false∧aA b y=false∧(ay b.ai y=none∨(aD b.ai y).bU=true∨DD val b y)
section
variable {aa:List aF}{H:Int→List bG}{on:Key→Bool}{b b0:bZ}{k:Key}{s t:ES}
structure Wy (aa:List aF) (b0:bZ) (s:ES):Prop where
 rev:s.b.ad=b0.ad
 aC:s.b.ab=b0.ab
 ev:gq (valOf aa b0.ab) (fun _=>True) s.bO b0.ad b0.ai s.b.ai
 QF:∀y r,ay s.b.ai y=some r→r.bU=true→(aD b0.ai y).bU=true∨DD (valOf aa b0.ab) b0 y
 bO:∀y∈s.bO,BQ (valOf aa b0.ab) b0 y
 HS:∀y∈s.bO,aA s.b y=true
 XP:∀y,aA b0 y=false→aA s.b y=true→y∈s.bO∨¬DD (valOf aa b0.ab) b0 y
 ju:s.bO.Nodup
theorem kz{val:Key→ByteArray}(hi:ax k=false) (h:ay b.ai k=none):aP val b k=b.ad:=by grind [aP]
theorem cW{val:Key→ByteArray}(hi:ax k=false) {r:Rec}(h:ay b.ai k=some r):aP val b k=if r.ak=b.ad∨val k=r.value then r.changed else b.ad:=by
 unfold aP
 rw [hi,aJ h,h]
 grind
theorem Wy.changed(o:Bi aa H on s.b) (h:Wy aa b0 s) (a:Key):aP (valOf aa b0.ab) s.b a=aP (valOf aa b0.ab) b0 a:=by
 cases hi:ax a with
 | true=>
  unfold aP
  rw [hi,if_pos rfl,if_pos rfl,h.aC]
 | false=>
  rcases h.ev.pt a with e | ⟨_,r,e1,e2,e3,d | d⟩ | ⟨_,e2,r',e3,d,e5,e6,B,e8⟩
  ·
   cases i:ay b0.ai a with
   | none=>grind [kz,rev]
   | some r=>rw [cW hi (e.trans i),cW hi i,h.rev]
  ·
   have hu:aA s.b a=true:=aN.2 ⟨_,d,h.rev.symm⟩;obtain⟨q,j,_,m⟩:=o.c.up hu;rw [d] at j
   have:=Option.some.inj j
   subst this;rw [h.aC] at m;rw [cW hi d,cW hi e1,if_pos (.inl h.rev.symm),if_pos (.inr m.symm)]
  ·
   rw [cW hi d,cW hi e1,h.rev]
  rw [cW hi e3,if_pos (.inl (d.trans h.rev.symm))]
  cases i:ay b0.ai a with
  | none=>rw [kz hi i,e8 i]
  | some r=>
   rw [cW hi i,B r i,e6]
   grind
theorem Wy.KH(C:Bi aa H on s.b) (h:Wy aa b0 s) (hl:Live s.b.ai s.b.ad k) {m a:Key}(hm:m∈aB s.b.ai s.b.ad k) (o:a∈(aD s.b.ai m).reads) (d:a∉aB s.b.ai s.b.ad k)
  (hc:(aD s.b.ai m).ak<aP (valOf aa b0.ab) s.b a):∀y∈aB s.b.ai s.b.ad k,DD (valOf aa b0.ab) b0 y:=by
 intro y i;rw [h.rev] at hl hm d i;obtain⟨h1,D⟩:=h.ev.group hl;rw [h1] at hm d i;have G:=h.ev.Gt hl
 have e:aD s.b.ai m=aD b0.ai m:=by
  unfold aD
  rw [D m hm]
 rw [e] at o hc
 have B:∀z,z∈aB b0.ai b0.ad y↔z∈aB b0.ai b0.ad k:=fun z=>by
  rcases bK.1 i with rfl | ⟨j,F⟩
  ·
   exact Iff.rfl
  exact rU j F z
 exact⟨m,a,(B m).2 hm,o,fun j=>d ((B a).1 j),by rw [← h.changed C a];exact hc⟩
theorem Wy.LX(h:Wy aa b0 s) (hl:Live s.b.ai s.b.ad k) (i:∀m∈aB s.b.ai s.b.ad k,∀a∈(aD s.b.ai m).reads,a∉aB s.b.ai s.b.ad k→aP (valOf aa b0.ab) b0 a≤(aD s.b.ai m).ak):∀y∈aB s.b.ai s.b.ad k,¬DD (valOf aa b0.ab) b0 y:=by
 rintro y d ⟨m,a,hm,B,C,hc⟩;rw [h.rev] at hl i d;obtain⟨h1,D⟩:=h.ev.group hl;rw [h1] at i d
 have F:∀z,z∈aB b0.ai b0.ad y↔z∈aB b0.ai b0.ad k:=fun z=>by
  rcases bK.1 d with rfl | ⟨j,o⟩
  ·
   exact Iff.rfl
  exact rU j o z
 have e:aD s.b.ai m=aD b0.ai m:=by grind [aD]
 grind
theorem Wy.none(h:Wy aa b0 s) (i:ay s.b.ai k=none):ay b0.ai k=none:=by
 rcases h.ev.pt k with e | ⟨_,r,e1,e2,e3,d | d⟩ | ⟨_,e2,r',e3,_⟩
 ·
  exact e.symm.trans i
 ·
  rw [i] at d;cases d
 ·
  rw [i] at d;cases d
 rw [i] at e3;cases e3
theorem gq.aA{val:Key→ByteArray}{N:Key→Prop}{bO:List Key}{b b':bZ}(h:gq val N bO b.ad b.ai b'.ai) (hr:b'.ad=b.ad) (hu:Rc.aA b k=true):Rc.aA b' k=true:=by
 obtain⟨r,h1,d⟩:=aN.1 hu
 rcases h.pt k with e | ⟨_,q,e1,e2,e3,_⟩ | ⟨_,e2,_⟩
 ·
  exact aN.2 ⟨r,e.trans h1,d.trans hr.symm⟩
 ·
  grind
 have:=e2 r h1
 omega
theorem El{G:List Key}(hu:Rc.aA b k=false) (h:Rc.aA (dI b G false) k=true):k∈G:=by
 obtain⟨r',h1,d⟩:=aN.1 h;have i:(ay b.ai k).map (aW b.ad G false)=some r':=bL.symm.trans h1;obtain⟨r,hr,rfl⟩:=Option.map_eq_some_iff.1 i;have e:=(aI hr).2;refine Classical.byContradiction fun hk=>?_
 unfold aW at d
 rw [if_neg (by rw [e];exact hk)] at d
 have:=aN.2 ⟨r,hr,d⟩
 rw [hu] at this
 cases this
theorem lV{G:List Key}:Rc.aA (dI b G true) k=Rc.aA b k:=by
 have e:ay (dI b G true).ai k=(ay b.ai k).map (aW b.ad G true):=bL
 have hm:∀r:Rec,(aW b.ad G true r).ak=r.ak:=fun r=>by
  unfold aW
  grind
 rw [Bool.eq_iff_iff,aN,aN,e]
 constructor
 ·
  rintro⟨r',h1,d⟩;obtain⟨r,hr,rfl⟩:=Option.map_eq_some_iff.1 h1;rw [hm] at d;exact⟨r,hr,d⟩
 rintro⟨r,h1,d⟩;exact⟨_,by rw [h1];rfl,by rw [hm];exact d⟩
theorem zL{l:List Key}(h:l.Nodup) (hk:k∉l):(l++[k]).Nodup:=by grind
theorem Wy.step{d:ES}(h:Wy aa b0 s) (h1:d.b.ad=s.b.ad) (m:d.b.ab=s.b.ab) (i:gq (valOf aa b0.ab) (fun _=>True) d.bO b0.ad s.b.ai d.b.ai) (hr:∀y∈s.bO,y∈d.bO)
  (o:∀y r,ay d.b.ai y=some r→r.bU=true→(aD b0.ai y).bU=true∨DD (valOf aa b0.ab) b0 y) (hw:∀y∈d.bO,BQ (valOf aa b0.ab) b0 y) (hn:∀y∈d.bO,y∈s.bO∨Rc.aA d.b y=true)
  (hm:∀y,Rc.aA s.b y=false→Rc.aA d.b y=true→y∈d.bO∨¬DD (valOf aa b0.ab) b0 y) (B:d.bO.Nodup):Wy aa b0 d:=by
 have C:gq (valOf aa b0.ab) (fun _=>True) d.bO s.b.ad s.b.ai d.b.ai:=by rw [h.rev];exact i
 refine⟨h1.trans h.rev,m.trans h.aC,(h.ev.mono hr fun _ h=>h).trans i,o,hw,fun y D=>?_,fun y hu F=>?_,B⟩
 ·
  rcases hn y D with e | e
  ·
   exact C.aA h1 (h.HS y e)
  exact e
 cases j:Rc.aA s.b y with
 | true=>exact(h.XP y hu j).imp (hr y) id
 | false=>exact hm y j F
theorem Wy.yT(h:Wy aa b0 s) (hu:aA s.b k=false):aA b0 k=false:=by
 cases hb:aA b0 k with
 | false=>rfl
 | true=>
  have:=h.ev.aA h.rev hb
  rw [hu] at this
  cases this
theorem mK{r:Rec}(h:ay b.ai k=some r) (d:r.ak<b.ad):aA b k=false:=by grind [aN]
theorem Bi.answer(d:Bi aa H on b) (hk:eV aa k) (ht:ax k=true∨aw k=true∨aA b k=true):cB (valOf aa b.ab) b k=valOf aa b.ab k:=by
 unfold cB
 by_cases hc:aw k=true
 ·
  rw [if_pos hc]
 rw [if_neg hc]
 unfold iy
 by_cases hi:ax k=true
 ·
  rw [if_pos hi]
  unfold valOf cellOf
  rw [if_pos hi]
 rw [if_neg hi]
 have hu:aA b k=true:=by grind
 obtain⟨r,e,j,h⟩:=d.c.up hu
 have i:fo b k=true:=by grind [fo,aJ]
 rw [if_pos i,aJ e,h]
theorem Bi.len(d:Bi aa H on b):b.ai.length≤aa.length:=by
 have h1:(b.ai.map (·.key)).Nodup:=by
  refine List.pairwise_map.2 (d.st.imp fun {x y} h e=>?_);rw [e,fe] at h
  omega
 have j:=dX (S:=(List.range aa.length).map fun i:Nat=>aK aa (i:Int)) h1 fun x m=>by
  obtain⟨r,hr,rfl⟩:=List.mem_map.1 m;obtain⟨i,hi,e⟩:=d.kr r hr
  grind
 simpa using j
/-! ### the order of what is asked -/
theorem mL(d:ao aa) {aC:List bG}{i:Nat}(hi:i<aa.length) {a:Key}(e:a∈cp aa aC i):dh aa i a∧∀m:Nat,m<aa.length→a=aK aa (m:Int)→Lw aa m (lS aa i)∧∀b,Lw aa i b→Lw aa m b:=by grind [List.mem_iff_getElem?,pj,eY,Ea,lU,jo]
theorem zM(d:ao aa) {aC:List bG}{i:Nat}(hi:i<aa.length) (hr:az aa i=true) {a:Key}(e:a∈cp aa aC i) (hc:aw a=true):∃j:Nat,j<aa.length∧a=aK aa (j:Int)∧du aa i j:=by grind [List.mem_iff_getElem?,pj,eY,dB,lU,jo,gN,fM]
theorem nI(o:ao aa) (C:Bi aa H on b) {i:Nat}(hi:i<aa.length) (D:bH b.ai b.ad (aK aa (i:Int))=true) {x:Key}(hl:bE b.ai b.ad (aK aa (i:Int)) x):∃j:Nat,j<aa.length∧x=aK aa (j:Int)∧bY aa i j:=by
 have U:=o.len
 have step:∀(m:Nat) y,m<aa.length→bH b.ai b.ad (aK aa (m:Int))=true→Ld b.ai b.ad (aK aa (m:Int)) y→∃j:Nat,j<aa.length∧y=aK aa (j:Int)∧du aa m j:=by
  intro m y hm F B;obtain⟨r,h1,d,e,h⟩:=bB.1 F;obtain⟨q,g1,g2,_⟩:=bB.1 B.2;have G:=B.1;rw [aJ h1,(C.c.vr r (aI h1).1).2,(aI h1).2,dj o hm] at G
  grind [bu,zM]
 induction hl with
 | one h1=>
  obtain⟨j,d,e,h⟩:=step i _ hi D h1;exact⟨j,d,e,.step .refl h⟩
 | step h1 d I=>
  obtain⟨j,e,rfl,h⟩:=I;obtain⟨q,J,O,Q⟩:=step j _ e h1.kg d;exact⟨q,J,O,.step h Q⟩
theorem Em(d:ao aa) (m:Bi aa H on b) {i j:Nat}(hi:i<aa.length) (h:j<aa.length) (hl:Live b.ai b.ad (aK aa (i:Int))) (hm:aK aa (j:Int)∈aB b.ai b.ad (aK aa (i:Int))):lS aa j=lS aa i∧∀b,Lw aa i b→Lw aa j b:=by
 have G:=d.len
 rcases bK.1 hm with e | ⟨o,m1,m2⟩
 ·
  have:=df d h hi e
  grind
 obtain⟨q,B,eq,h1⟩:=nI d m hi o m1
 have:=df d h B eq
 subst this;obtain⟨p,C,D,F⟩:=nI d m h m1.kg m2
 have:=df d hi C D
 subst this;have I:=gM d h1;have J:=gM d F;obtain⟨_,_,c1,_⟩:=bB.1 o;obtain⟨_,_,c2,_⟩:=bB.1 m1.kg;rw [bu hi (by omega)] at c1;rw [bu h (by omega)] at c2
 unfold lS Lw
 grind
end
/-! ### a request -/
section
variable {aa:List aF}{H:Int→List bG}{b0:bZ}
theorem vj(rev:Int) (G:List Key) (r:Rec):(aW rev G false r).bU=r.bU:=by
 unfold aW
 grind
end
end Go.Rc

namespace Go.Rc
open Go
def Bh(aa:List aF) (b:bZ):Prop:=∃H:Int→List bG,Bi aa H (fun _=>false) b
section
variable {aa:List aF}{H:Int→List bG}{on:Key→Bool}{x y b:bZ}{k:Key}
theorem Bh.new(aa:List aF) (rev:Int) (aC:List bG):Bh aa ⟨rev,aC,[]⟩:=
 ⟨fun _=>aC,⟨⟨rfl,fun _ _ _ _ _=>rfl,fun r hr=>(by cases hr),fun r hr=>(by cases hr),fun r hr=>(by cases hr),fun r hr=>(by cases hr)⟩,List.Pairwise.nil,fun r hr=>(by cases hr),fun r hr=>(by cases hr)⟩⟩
theorem Bi.drop(h:Bi aa H on b) {rs:List Rec}(d:rs.Sublist b.ai) (C:∀r∈rs,on r.key=false):Bi aa H (fun _=>false) {b with ai:=rs}:=by
 have o:lk rs:=h.st.sublist d
 have j:∀a ra,ay rs a=some ra→ay b.ai a=some ra:=fun a ra e=>by
  obtain⟨h1,m⟩:=aI e
  grind [eu,st]
 refine⟨⟨h.c.now,h.c.dF,fun r hr=>h.c.yR r (d.subset hr),fun r hr=>h.c.vr r (d.subset hr),fun r hr a i hi ra e=>?_,fun r hr hc a i hi ra e=>?_⟩,o,fun r hr=>h.kr r (d.subset hr),fun r hr=>h.dv r (d.subset hr)⟩
 ·
  rcases h.c.rr r (d.subset hr) a i hi ra (j a ra e) with⟨_,h1⟩ | h1
  ·
   obtain⟨m,B⟩:=aI e
   grind
  exact .inr h1
 rcases h.c.rs r (d.subset hr) hc a i hi ra (j a ra e) with⟨_,h1⟩ | h1
 ·
  obtain⟨m,B⟩:=aI e
  grind
 exact .inr h1
theorem Bh.apply(h:Bh aa x) (hr:y.ai=x.ai) (B:y.ad=x.ad+1) (hk:∀k,aL y.ab k=aL x.ab k∨(aL y.ab k).changed=y.ad):Bh aa y:=by
 obtain⟨H,h⟩:=h;have hH:∀t,t≤x.ad→(if t≤x.ad then H t else y.ab)=H t:=fun t ht=>if_pos ht;refine⟨fun t=>if t≤x.ad then H t else y.ab,⟨⟨?_,fun k t hi h1 i=>?_,fun r d=>?_,fun r d=>?_,fun r d a m hi ra j=>?_,fun r d hc a m hi ra j=>?_⟩,by rw [hr];exact h.st,by rw [hr];exact h.kr,fun r d o=>?_⟩⟩
 ·
  grind
 ·
  by_cases ht:t≤x.ad
  ·
   show cellOf (if t≤x.ad then H t else y.ab) k=_
   rw [if_pos ht]
   rcases hk k with e | e
   ·
    rw [e] at h1;rw [h.c.dF k t hi h1 ht]
    unfold cellOf
    rw [e]
   omega
  grind
 ·
  rw [hr] at d
  have:=h.c.yR r d
  omega
 ·
  rw [hr] at d;have h1:=h.c.yR r d;rw [hH _ h1.1];exact h.c.vr r d
 ·
  rw [hr] at d j;have h1:=h.c.yR r d;rw [hH _ h1.1]
  rcases h.c.rr r d a m hi ra j with⟨_,i⟩ | i
  ·
   cases i
  exact .inr i
 ·
  rw [hr] at d j
  rcases h.c.rs r d hc a m hi ra j with⟨_,i⟩ | i
  ·
   cases i
  exact .inr i
 rw [hr] at d
 have:=h.dv r d o
 omega
theorem Wy.start(b:bZ):Wy aa b ⟨b,[],[],0⟩:=⟨rfl,rfl,.refl _,fun y r h i=>.inl (by rw [aJ h];exact i),fun y d=>(by cases d),fun y d=>(by cases d),fun y h1 e=>(by rw [h1] at e;cases e),List.nodup_nil⟩
end
end Go.Rc

namespace Go.Rc
open Go
def dC(l:List bT) (b:bZ) (a:Key):Prop:=ax a=true∨(eb l a=true∧aw a=true)∨aA b a=true
section
variable {x b b':bZ}{l l' p q:List bT}{f g:bT}{k a:Key}
theorem eZ:cG x l k=false↔ax k=true∨eb l k=true∨aA x k=true:=by
 unfold cG aA
 grind
theorem fh:bD x l [] k=if (!aw k && eb l k)=true then 3 else if cG x l k=true then 1 else 0:=by grind [bD,eb]
theorem kU(h1:bD x l [] k≠1) (e:bD x l [] k≠3):dC l x k:=by
 rw [fh] at h1 e
 by_cases d:(!aw k && eb l k)=true
 ·
  grind
 rw [if_neg d] at h1
 by_cases hn:cG x l k=true
 ·
  grind
 rcases eZ.1 (by simpa using hn) with h | h | h
 ·
  exact .inl h
 ·
  exact .inr (.inl ⟨h,by rw [h] at d;simpa using d⟩)
 exact .inr (.inr h)
theorem py(h:bD x l [] k=1):eb l k=false∧ax k=false∧aA x k=false:=by
 rw [fh] at h
 by_cases d:(!aw k && eb l k)=true
 ·
  rw [if_pos d] at h;cases h
 rw [if_neg d] at h
 by_cases hn:cG x l k=true
 ·
  have e:¬(ax k=true∨eb l k=true∨aA x k=true):=fun h=>by grind [eZ]
  grind
 rw [if_neg hn] at h;cases h
theorem xN(h:bD x l [] k=3):aw k=false∧eb l k=true:=by
 rw [fh] at h
 grind
theorem dn:eb (p++q) k=(eb p k || eb q k):=by simp [eb]
theorem hM:eb [f] k=decide (f.key=k):=by simp [eb]
theorem xO{z:bT}{p1:List bT}(h:p++[z]=p1++g::q):(q=[]∧p1=p∧g=z)∨∃d,q=d++[z]∧p=p1++g::d:=by
 rcases List.eq_nil_or_concat q with rfl | ⟨d,y,rfl⟩
 ·
  simp_all
 rw [List.concat_eq_append,← List.cons_append,← List.append_assoc] at h;obtain⟨h1,e⟩:=List.append_inj' h rfl
 grind
end
inductive FS (aa:List aF) (val:Key→ByteArray) (b:bZ) (p:List bT) (f:bT):bZ→List bT→List Key→Int→Prop where
 | stay:FS aa val b p f b (p++[f]) [] 0
 | full:f.running=true→(aO aa f.key f.ae).done=true→(!(ay b.ai f.key).isSome && decide (4000≤b.ai.length))=true→FS aa val b p f b (p++[f]) [] 45
 | put:f.running=true→(aO aa f.key f.ae).done=true→FS aa val b p f {b with ai:=ez b.ai (cc b f.key (aO aa f.key f.ae).value f.reads)} p [f.key] 0
 | push:f.running=true→(aO aa f.key f.ae).done=false→bD b (p++[f]) [] (aO aa f.key f.ae).ask=1→FS aa val b p f b (p++[f]++[⟨(aO aa f.key f.ae).ask,false,0,[],[]⟩]) [] 0
 | KD:f.running=true→(aO aa f.key f.ae).done=false→bD b (p++[f]) [] (aO aa f.key f.ae).ask=3→FS aa val b p f b (p++[f]) [] 43
 | read:f.running=true→(aO aa f.key f.ae).done=false→bD b (p++[f]) [] (aO aa f.key f.ae).ask≠1→bD b (p++[f]) [] (aO aa f.key f.ae).ask≠3→
   FS aa val b p f b (p++[{f with reads:=f.reads++[(aO aa f.key f.ae).ask],ae:=f.ae++[cB val b (aO aa f.key f.ae).ask]}]) [] 0
 | up:f.running=false→aA b f.key=true→FS aa val b p f b p [] 0
 | start:f.running=false→aA b f.key=false→(ay b.ai f.key=none∨(aD b.ai f.key).bU=true)→FS aa val b p f b (p++[{f with running:=true,at_:=0}]) [] 0
 | mark:f.running=false→Live b.ai b.ad f.key→(bW b.ai (aB b.ai b.ad f.key)).length≤f.at_.toNat→FS aa val b p f (dI b (aB b.ai b.ad f.key) false) p [] 0
 | rV (c:ob):f.running=false→Live b.ai b.ad f.key→(bW b.ai (aB b.ai b.ad f.key))[f.at_.toNat]?=some c→bD b (p++[f]) [] c.read=1→FS aa val b p f b (p++[f]++[⟨c.read,false,0,[],[]⟩]) [] 0
 | HT (c:ob):f.running=false→Live b.ai b.ad f.key→(bW b.ai (aB b.ai b.ad f.key))[f.at_.toNat]?=some c→bD b (p++[f]) [] c.read=3→FS aa val b p f b (p++[f]) [] 43
 | pass (c:ob):f.running=false→Live b.ai b.ad f.key→(bW b.ai (aB b.ai b.ad f.key))[f.at_.toNat]?=some c→bD b (p++[f]) [] c.read≠1→bD b (p++[f]) [] c.read≠3→
   aP val b c.read≤(aD b.ai c.eT).ak→FS aa val b p f b (p++[{f with at_:=f.at_+1}]) [] 0
 | fail (c:ob):f.running=false→Live b.ai b.ad f.key→(bW b.ai (aB b.ai b.ad f.key))[f.at_.toNat]?=some c→bD b (p++[f]) [] c.read≠1→bD b (p++[f]) [] c.read≠3→
   (aD b.ai c.eT).ak<aP val b c.read→FS aa val b p f (if aw f.key then dI b (aB b.ai b.ad f.key) true else b) (p++[{f with running:=true,at_:=0}]) [] 0
section
variable {aa:List aF}{H:Int→List bG}{b0 b b':bZ}{p q l l':List bT}{f g:bT}{bO:List Key}
structure FI (aa:List aF) (H:Int→List bG) (b0 b:bZ) (p:List bT) (f:bT):Prop where
 key:∃i:Nat,i<aa.length∧f.key=aK aa (i:Int)
 new:eb p f.key=false
 low:∀i j:Nat,i<aa.length→j<aa.length→f.key=aK aa (i:Int)→eb p (aK aa (j:Int))=true→Lw aa i (lS aa j)
 run:f.running=true→bH b.ai b.ad f.key=false∧aA b f.key=false∧BQ (valOf aa b0.ab) b0 f.key∧(∀i:Nat,i<aa.length→f.key=aK aa (i:Int)→∃n,n≤cj aa i∧f.reads=(cZ (bP aa f.key) (valOf aa b0.ab) n).1∧f.ae=(cZ (bP aa f.key) (valOf aa b0.ab) n).2)∧∀a∈f.reads,dC (p++[f]) b a
 AG:f.running=false→f.reads=[]∧f.ae=[]∧0≤f.at_∧(Live b.ai b.ad f.key→∀j c,j<f.at_.toNat→(bW b.ai (aB b.ai b.ad f.key))[j]?=some c→valOf aa (H (aD b.ai c.eT).ak) c.read=valOf aa b0.ab c.read∧dC (p++[f]) b c.read∧aP (valOf aa b0.ab) b0 c.read≤(aD b.ai c.eT).ak)
structure TI (aa:List aF) (H:Int→List bG) (b0 b:bZ) (l:List bT) (bO:List Key):Prop where
 bi:Bi aa H (fun y=>eb l y && aw y) b
 wy:Wy aa b0 ⟨b,[],bO,0⟩
 fr:∀p f q,l=p++f::q→FI aa H b0 b p f
 nr:∀f∈l,f.key∉bO∧aA b0 f.key=false
theorem dC.ke{N:Key→Prop}{a:Key}(h:dC l b a) (d:gq (valOf aa b0.ab) N bO b.ad b.ai b'.ai) (hr:b'.ad=b.ad):dC l b' a:=
 h.imp id (Or.imp id (d.aA hr))
theorem dC.mono{a:Key}(h:dC l b a) (d:∀k,eb l k=true→eb l' k=true):dC l' b a:=h.imp id (Or.imp (fun⟨x,y⟩=>⟨d _ x,y⟩) id)
theorem FI.ke{N:Key→Prop}(h:FI aa H b0 b p g) (d:gq (valOf aa b0.ab) N bO b.ad b.ai b'.ai) (hr:b'.ad=b.ad) (C:¬N g.key):FI aa H b0 b' p g:=by
 refine⟨h.key,h.new,h.low,fun i=>?_,fun i=>?_⟩
 ·
  obtain⟨h1,B,m,o,D⟩:=h.run i
  have I:ay b'.ai g.key=ay b.ai g.key:=by
   rcases d.pt g.key with e | ⟨e0,r,e1,e2,e3,_⟩ | ⟨⟨_,e0⟩,_⟩
   ·
    exact e
   ·
    grind [bB]
   exact absurd e0 C
  refine⟨?_,?_,m,o,fun a F=>(D a F).ke d hr⟩
  ·
   grind [bH,aD]
  grind [aA,aD]
 obtain⟨h1,B,m,o⟩:=h.AG i;refine⟨h1,B,m,fun hl j c G hc=>?_⟩;rw [hr] at hl hc;rw [d.HR hl] at hc;obtain⟨p1,p2,p3⟩:=o (d.Gt hl) j c G hc;have hm:=(dJ.1 (List.mem_of_getElem? hc)).1
 have e:aD b'.ai c.eT=aD b.ai c.eT:=by
  unfold aD
  rw [(d.group hl).2 _ hm]
 rw [e];exact⟨p1,p2.ke d hr,p3⟩
theorem TI.top(h:TI aa H b0 b (p++[f]) bO):FI aa H b0 b p f:=h.fr p f [] rfl
theorem TI.under(h:TI aa H b0 b (p++[f]) bO) {p1:List bT}(d:p=p1++g::q):FI aa H b0 b p1 g∧g.key≠f.key:=by
 refine⟨h.fr p1 g (q++[f]) (by rw [d];simp),fun e=>?_⟩;have h1:=h.top.new
 grind [eb]
theorem TI.snoc(h:∀p1 g q,p=p1++g::q→FI aa H b0 b p1 g) (d:FI aa H b0 b p f):∀p1 g q,p++[f]=p1++g::q→FI aa H b0 b p1 g:=fun p1 g q e=>by grind [xO]
theorem kV(U:ao aa) {rk:List Key}{er:Int}(h:TI aa H b0 b (p++[f]) bO) (Y:Good aa b0.ab ⟨b,[],[],0⟩) (hs:FS aa (valOf aa b0.ab) b p f b' l' rk er):er=0∧TI aa H b0 b' l' (bO++rk):=by
 have DC:=U.len;have I:=h.bi;have d:=h.wy;have hrv:b.ad=b0.ad:=d.rev;have dF:b.ab=b0.ab:=d.aC;have hT:=h.top;obtain⟨i,hi,D⟩:=hT.key
 have Gk:ax f.key=false:=by grind [bQ]
 have hor:∀j:Nat,j<aa.length→eb (p++[f]) (aK aa (j:Int))=true→j=i∨Lw aa i (lS aa j):=fun j B V=>by
  rw [dn,hM] at V;simp only [Bool.or_eq_true,decide_eq_true_eq] at V
  rcases V with V | V
  ·
   exact .inr (hT.low i j hi B D V)
  grind [df]
 have HU:∀{b2:bZ}{F:List Key},gq (valOf aa b0.ab) (fun y=>y=f.key) F b.ad b.ai b2.ai→(∀y∈bO,y∈F)→b2.ad=b.ad→b2.ab=b.ab→(∀y r,ay b2.ai y=some r→r.bU=true→(aD b0.ai y).bU=true∨DD (valOf aa b0.ab) b0 y)→(∀y∈F,BQ (valOf aa b0.ab) b0 y)→(∀y∈F,y∈bO∨aA b2 y=true)→(∀y,aA b y=false→aA b2 y=true→y∈F∨¬DD (valOf aa b0.ab) b0 y)→F.Nodup→Wy aa b0 ⟨b2,[],F,0⟩:=fun J zN h1 C W O h5 h6 h7=>
  d.step h1 C (by rw [← hrv];exact J.mono (fun _ h=>h) fun _ _=>trivial) zN W O h5 h6 h7
 -- a frame is R8
 have LY:∀a,eV aa a→bD b (p++[f]) [] a=1→(∀m:Nat,m<aa.length→a=aK aa (m:Int)→∀j:Nat,j<aa.length→eb (p++[f]) (aK aa (j:Int))=true→Lw aa m (lS aa j))→TI aa H b0 b (p++[f]++[⟨a,false,0,[],[]⟩]) bO:=fun a hka hl zO=>by
  obtain⟨h1,C,W⟩:=py hl;obtain⟨m,hm,ham,_⟩:=hka.fk C;refine⟨I.R5 fun y o=>?_,d,TI.snoc h.fr ⟨⟨m,hm,ham⟩,h1,fun m' j hm' B e V=>zO m' hm' e j B V,(fun hc=>by cases hc),fun _=>⟨rfl,rfl,Int.le_refl _,fun _ j c B=>by simp at B⟩⟩,fun g Y=>?_⟩
  rotate_left
  ·
   rcases List.mem_append.1 Y with Y | Y
   ·
    exact h.nr g Y
   rw [List.mem_singleton] at Y;subst Y;refine⟨fun hr=>?_,d.yT W⟩
   have:=d.HS a hr
   grind
  rw [Bool.and_eq_true] at o ⊢;rw [dn,o.1];exact⟨rfl,o.2⟩
 -- the last frame is QG one of the same key
 have BR:∀{g:bT}{b2:bZ}{F:List Key},g.key=f.key→Bi aa H (fun y=>eb (p++[f]) y && aw y) b2→Wy aa b0 ⟨b2,[],F,0⟩→gq (valOf aa b0.ab) (fun y=>y=f.key) F b.ad b.ai b2.ai→b2.ad=b.ad→(∀y∈F,y∈bO)→FI aa H b0 b2 p g→TI aa H b0 b2 (p++[g]) F:=fun {g b2 F} hk X LZ J hr zN hF=>by
  refine⟨?_,LZ,TI.snoc (fun p1 g q hp=>?_) hF,fun q hq=>?_⟩
  ·
   have e:(fun y=>eb (p++[g]) y && aw y)=fun y=>eb (p++[f]) y && aw y:=by
    funext y
    grind [dn,hM]
   rw [e];exact X
  ·
   obtain⟨h1,C⟩:=h.under hp;exact h1.ke J hr C
  rcases List.mem_append.1 hq with hq | hq
  ·
   have:=h.nr q (List.mem_append_left _ hq)
   grind
  rw [List.mem_singleton] at hq;subst hq
  have:=h.nr f (by simp)
  grind
 have En:∀{g:bT},g.key=f.key→∀k,eb (p++[f]) k=true→eb (p++[g]) k=true:=fun hk k HV=>by grind [dn,hM]
 -- the last frame is done
 have HW:∀{b2:bZ}{F:List Key},Bi aa H (fun y=>eb (p++[f]) y && aw y) b2→aA b2 f.key=true→Wy aa b0 ⟨b2,[],F,0⟩→gq (valOf aa b0.ab) (fun y=>y=f.key) F b.ad b.ai b2.ai→b2.ad=b.ad→(∀y∈F,y∈bO∨y=f.key)→TI aa H b0 b2 p F:=fun {b2 F} X hu LZ J hr zN=>by
  refine⟨X.off hu fun y o=>?_,LZ,fun p1 g q hp=>?_,fun g Y=>?_⟩
  ·
   rw [Bool.and_eq_true,dn,hM] at o
   grind
  ·
   obtain⟨h1,C⟩:=h.under hp;exact h1.ke J hr C
  have h1:=h.nr g (List.mem_append_left _ Y);refine⟨fun W=>?_,h1.2⟩
  rcases zN _ W with O | O
  ·
   exact h1.1 O
  obtain⟨p1,q1,hp⟩:=List.append_of_mem Y;exact(h.under hp).2 O
 have BU:∀n,f.ae=(cZ (bP aa f.key) (valOf aa b0.ab) n).2→aO aa f.key f.ae=bP aa (aK aa (i:Int)) (zH aa b0.ab i n):=fun n hn=>by
  rw [hn,D,iZ hi (by omega)]
  rfl
 have R9:∀{y},eb (p++[f]) y=true→∃j:Nat,j<aa.length∧y=aK aa (j:Int):=fun {y} o=>by
  rw [dn,hM] at o;simp only [Bool.or_eq_true,decide_eq_true_eq] at o
  rcases o with o | o
  ·
   unfold eb at o
   obtain⟨g,QH,hgy⟩:=List.any_eq_true.1 o;obtain⟨p1,q1,hp⟩:=List.append_of_mem QH;obtain⟨j,B,e⟩:=(h.under hp).1.key
   grind
  grind
 have aaG:∀a,(∀m:Nat,m<aa.length→a=aK aa (m:Int)→∀j:Nat,j<aa.length→eb (p++[f]) (aK aa (j:Int))=true→Lw aa m (lS aa j))→bD b (p++[f]) [] a≠3:=fun a zO hl=>by
  obtain⟨h1,C⟩:=xN hl;obtain⟨j,B,rfl⟩:=R9 C;have W:=zO j B rfl j B C
  grind [bu,Lw,lS]
 have L0:∀n,n<cj aa i→∀m:Nat,m<aa.length→jo aa b0.ab i n=aK aa (m:Int)→∀j:Nat,j<aa.length→eb (p++[f]) (aK aa (j:Int))=true→Lw aa m (lS aa j):=fun n hn m hm e j B V=>by
  obtain⟨h1,C⟩:=(mL U hi (List.mem_of_getElem? (eY (aC:=b0.ab) hn))).2 m hm e
  grind
 have XQ:Live b.ai b.ad f.key→∀c∈bW b.ai (aB b.ai b.ad f.key),eV aa c.read∧∀m:Nat,m<aa.length→c.read=aK aa (m:Int)→∀j:Nat,j<aa.length→eb (p++[f]) (aK aa (j:Int))=true→Lw aa m (lS aa j):=fun hl c hc=>by
  obtain⟨hm,G,HX⟩:=dJ.1 hc;obtain⟨j,B,ej⟩:=I.key (j6 hl hm);obtain⟨rm,g1,g2,g3⟩:=j6 hl hm;have h1:=(I.c.vr rm (aI g1).1).2;rw [(aI g1).2,ej,dj U B] at h1;rw [aJ g1,h1] at G;have zO:=mL U B G;refine⟨zO.1.LO U,fun m yP e q hq V=>?_⟩;obtain⟨O,h5⟩:=zO.2 m yP e;rw [D] at hl hm;obtain⟨g4,g5⟩:=Em U I hi B hl (ej ▸ hm)
  grind
 have aaH:∀{a},dC (p++[f]) b a→ax a=true∨((eb (p++[f]) a && aw a)=true∧aw a=true)∨aA b a=true:=fun {a} h=>h.imp id (Or.imp (fun⟨x,y⟩=>⟨by rw [x,y];rfl,y⟩) id)
 have xP:∀{b2:bZ},f.running=false→Bi aa H (fun y=>eb (p++[f]) y && aw y) b2→Wy aa b0 ⟨b2,[],bO,0⟩→gq (valOf aa b0.ab) (fun y=>y=f.key) bO b.ad b.ai b2.ai→b2.ad=b.ad→bH b2.ai b2.ad f.key=false→aA b2 f.key=false→BQ (valOf aa b0.ab) b0 f.key→TI aa H b0 b2 (p++[{f with running:=true,at_:=0}]) bO:=fun {b2} hr X LZ J Sa V hu hw=>by
  obtain⟨c1,c2,_,_⟩:=hT.AG hr;refine BR (g:={f with running:=true,at_:=0}) rfl X LZ J Sa (fun _ h=>h) ⟨⟨i,hi,D⟩,hT.new,hT.low,fun _=>⟨V,hu,hw,fun j B e=>⟨0,Nat.zero_le _,c1,c2⟩,fun a G=>?_⟩,fun hc=>by cases hc⟩
  grind
 have vk:Live b.ai b.ad f.key→aA b f.key=false:=fun⟨r,h1,_,C⟩=>mK h1 C
 cases hs with
 | stay=>grind
 | full hr Q hn=>
  have:=I.len
  simp at hn
  omega
 | put hr Q=>
  obtain⟨h1,C,W,O,h5⟩:=hT.run hr;obtain⟨n,hn,BV,HY⟩:=O i hi D;have ht:=BU n HY
  have XR:n=cj aa i:=by grind [yN]
  rw [XR,yO U hi] at ht
  have HZ:f.reads=cp aa b0.ab i:=by
   rw [BV,XR,D]
   rfl
  have hm:cc b f.key (aO aa f.key f.ae).value f.reads=cc b (aK aa (i:Int)) (valOf aa b0.ab (aK aa (i:Int))) (cp aa b0.ab i):=by rw [ht,HZ,D]
  rw [hm];have X:=I.put U hi (fun hc=>by grind [dn,hM]) (by grind);rw [dF] at X
  have X:Bi aa H (fun y=>eb (p++[f]) y && aw y) ⟨b.ad,b.ab,ez b.ai (cc b (aK aa (i:Int)) (valOf aa b0.ab (aK aa (i:Int))) (cp aa b0.ab i))⟩:=by rw [dF];exact X
  have J:gq (valOf aa b0.ab) (fun y=>y=f.key) (bO++[f.key]) b.ad b.ai (ez b.ai (cc b (aK aa (i:Int)) (valOf aa b0.ab (aK aa (i:Int))) (cp aa b0.ab i))):=by
   rw [D] at h1 C;refine gq.put h1 (fun r hr=>?_) ⟨by simp [cc,D],D.symm⟩ rfl rfl rfl (fun r hr=>?_) fun hn=>?_
   ·
    have h1:=(I.c.yR r (aI hr).1).1
    have h6:r.ak≠b.ad:=fun e=>by
     have:aA b (aK aa (i:Int))=true:=aN.2 ⟨r,hr,e⟩
     grind
    omega
   ·
    have QI:ay b.ai (aK aa (i:Int))=some r:=hr
    unfold cc
    simp only [QI,aJ QI]
    grind
   grind [cc]
  have xQ:aA {b with ai:=ez b.ai (cc b (aK aa (i:Int)) (valOf aa b0.ab (aK aa (i:Int))) (cp aa b0.ab i))} f.key=true:=by
   rw [D];exact i6 (r:=cc b (aK aa (i:Int)) (valOf aa b0.ab (aK aa (i:Int))) (cp aa b0.ab i)) rfl
  refine⟨rfl,HW X xQ (HU J (fun y o=>by simp [o]) rfl rfl (fun y r hf Q=>?_) (fun y o=>?_) (fun y o=>?_) (fun y hu Eo=>?_) (zL d.ju fun hr=>by have:=d.HS _ hr;rw [C] at this;cases this)) J rfl fun y o=>by simpa using o⟩
  ·
   have Gu:ay (ez b.ai (cc b (aK aa (i:Int)) (valOf aa b0.ab (aK aa (i:Int))) (cp aa b0.ab i))) y=some r:=hf;rw [cD] at Gu
   split at Gu
   ·
    have:=Option.some.inj Gu
    subst this
    cases Q
   exact d.QF y r Gu Q
  ·
   rcases List.mem_append.1 o with o | o
   ·
    exact d.bO y o
   grind
  ·
   grind
  refine .inl ?_
  by_cases e:y=f.key
  ·
   rw [e]
   simp
  obtain⟨r,hr,hv⟩:=aN.1 Eo;have QI:ay (ez b.ai (cc b (aK aa (i:Int)) (valOf aa b0.ab (aK aa (i:Int))) (cp aa b0.ab i))) y=some r:=hr;rw [cD,if_neg (show ¬y=(cc b (aK aa (i:Int)) (valOf aa b0.ab (aK aa (i:Int))) (cp aa b0.ab i)).key from fun h=>e (h.trans D.symm))] at QI
  grind [aN]
 | push hr Q hl=>
  obtain⟨h1,C,W,O,h5⟩:=hT.run hr;obtain⟨n,hn,BV,HY⟩:=O i hi D;have ht:=BU n HY
  have rD:n<cj aa i:=by grind [yO]
  rw [yN U hi rD] at ht;rw [ht] at hl ⊢;rw [List.append_nil];exact⟨rfl,LY _ (vi U hi rD) hl (L0 n rD)⟩
 | KD hr Q hl=>
  obtain⟨h1,C,W,O,h5⟩:=hT.run hr;obtain⟨n,hn,BV,HY⟩:=O i hi D
  grind [yO,yN]
 | read hr Q DE zP=>
  obtain⟨h1,C,W,O,h5⟩:=hT.run hr;obtain⟨n,hn,BV,HY⟩:=O i hi D;have ht:=BU n HY
  have rD:n<cj aa i:=by grind [yO]
  rw [yN U hi rD] at ht;rw [ht] at DE zP ⊢;rw [List.append_nil];have Sb:=kU DE zP
  have Sc:cB (valOf aa b0.ab) b (jo aa b0.ab i n)=valOf aa b0.ab (jo aa b0.ab i n):=by
   rw [← dF];refine I.answer (by grind [vi]) ?_
   grind
  refine⟨rfl,BR (g:={f with reads:=f.reads++[jo aa b0.ab i n],ae:=f.ae++[cB (valOf aa b0.ab) b (jo aa b0.ab i n)]}) rfl I d (.refl _) rfl (fun _ h=>h) ⟨⟨i,hi,D⟩,hT.new,hT.low,fun _=>⟨h1,C,W,fun j B e=>?_,fun a G=>?_⟩,fun hc=>?_⟩⟩
  ·
   have:=df U B hi (e.symm.trans D)
   subst this;refine⟨n+1,rD,?_,?_⟩
   ·
    show f.reads++[jo aa b0.ab j n]=_
    rw [BV,D]
    rfl
   show f.ae++[cB (valOf aa b0.ab) b (jo aa b0.ab j n)]=_
   rw [Sc,HY,D]
   rfl
  ·
   rcases List.mem_append.1 G with G | G
   ·
    exact(h5 a G).mono (En rfl)
   rw [List.mem_singleton] at G;rw [G];exact Sb.mono (En rfl)
  grind
 | up hr hu=>
  rw [List.append_nil];exact⟨rfl,HW I hu d (.refl _) rfl fun _ h=>.inl h⟩
 | start hr hu hx=>
  rw [List.append_nil];refine⟨rfl,xP hr I d (.refl _) rfl ?_ hu ⟨Gk,d.yT hu,?_⟩⟩
  ·
   rw [Bool.eq_false_iff]
   grind [bB,aJ]
  cases hf:ay b.ai f.key with
  | none=>exact .inl (d.none hf)
  | some r=>
   refine .inr ?_
   rcases hx with hx | hx
   ·
    rw [hf] at hx
    cases hx
   rw [aJ hf] at hx;exact d.QF _ r hf hx
 | mark hr hl hn=>
  obtain⟨c1,c2,c3,c4⟩:=hT.AG hr;have c4:=c4 hl;have J:gq (valOf aa b0.ab) (fun y=>y=f.key) bO b.ad b.ai (dI b (aB b.ai b.ad f.key) false).ai:=gq.mark hl false (.inr rfl)
  have X:=I.mark U hl fun m hm a G HX=>by
   have AV:(⟨m,a⟩:ob)∈bW b.ai (aB b.ai b.ad f.key):=dJ.2 ⟨hm,G,HX⟩;obtain⟨j,B⟩:=List.mem_iff_getElem?.1 AV;have h1:=(List.getElem?_eq_some_iff.1 B).1;obtain⟨C,W,_⟩:=c4 j ⟨m,a⟩ (by omega) B
   grind
  have zs:=d.LX hl fun m hm a G HX=>by
   have AV:(⟨m,a⟩:ob)∈bW b.ai (aB b.ai b.ad f.key):=dJ.2 ⟨hm,G,HX⟩;obtain⟨j,B⟩:=List.mem_iff_getElem?.1 AV
   grind
  rw [List.append_nil];refine⟨rfl,HW X ?_ (HU J (fun _ h=>h) rfl rfl (fun y r' hf Q=>?_) d.bO (fun _ h=>.inl h) (fun y hu Eo=>.inr (zs y (El hu Eo))) d.ju) J rfl fun _ h=>.inl h⟩
  ·
   obtain⟨r,h1,_⟩:=hl
   grind [fq,ep]
  have Gu:(ay b.ai y).map (aW b.ad (aB b.ai b.ad f.key) false)=some r':=bL.symm.trans hf;obtain⟨r,hr,rfl⟩:=Option.map_eq_some_iff.1 Gu;rw [vj] at Q;exact d.QF y r hr Q
 | rV c hr hl hc hk=>grind
 | HT c hr hl hc hk=>grind
 | pass c hr hl hc DF L4 hle=>
  obtain⟨c1,c2,c3,c4⟩:=hT.AG hr;have Sb:=kU DF L4;rw [List.append_nil];refine⟨rfl,BR (g:={f with at_:=f.at_+1}) rfl I d (.refl _) rfl (fun _ h=>h) ⟨⟨i,hi,D⟩,hT.new,hT.low,fun hc=>?_,fun _=>⟨c1,c2,by show 0≤f.at_+1;omega,fun _ j c' B XS=>?_⟩⟩⟩
  ·
   grind
  have hj':j<f.at_.toNat+1:=by grind
  rcases Nat.lt_or_ge j f.at_.toNat with rD | QJ
  ·
   obtain⟨p1,p2,p3⟩:=c4 hl j c' rD XS;exact⟨p1,p2.mono (En rfl),p3⟩
  have e:j=f.at_.toNat:=by omega
  subst e;have L5:(bW b.ai (aB b.ai b.ad f.key))[f.at_.toNat]?=some c':=XS;rw [hc] at L5
  have:=Option.some.inj L5
  subst this;refine⟨?_,Sb.mono (En rfl),by rw [← d.changed I c.read];exact hle⟩;obtain⟨hm,G,HX⟩:=dJ.1 (List.mem_of_getElem? hc);obtain⟨rm,g1,g2,g3⟩:=j6 hl hm;rw [aJ g1] at hle G ⊢;have h1:=I.c.changed (aI g1).1 g3 G (by rw [dF];exact hle);rw [dF] at h1;exact h1
 | fail c hr hl hc DF L4 rD=>
  obtain⟨hm,G,HX⟩:=dJ.1 (List.mem_of_getElem? hc);have L6:=d.KH I hl hm G HX rD;have L7:BQ (valOf aa b0.ab) b0 f.key:=⟨Gk,d.yT (vk hl),.inr (.inr (L6 _ ep))⟩;rw [List.append_nil]
  cases L8:aw f.key with
  | false=>
   simp only [Bool.false_eq_true,if_false];refine⟨trivial,xP hr I d (.refl _) rfl ?_ (vk hl) L7⟩;rw [Bool.eq_false_iff]
   grind [bB]
  | true=>
   simp only [if_true];have J:gq (valOf aa b0.ab) (fun y=>y=f.key) bO b.ad b.ai (dI b (aB b.ai b.ad f.key) true).ai:=gq.mark hl true (.inl L8);obtain⟨r,f1,f2,f3⟩:=id hl
   have hfk:ay (dI b (aB b.ai b.ad f.key) true).ai f.key=some {r with bU:=true}:=by
    refine bL.trans ?_;rw [f1]
    show some (aW _ _ _ r)=_
    unfold aW
    rw [if_pos (by rw [(aI f1).2];exact ep)]
    rfl
   refine⟨trivial,xP hr (I.bU fun m hm=>j6 hl hm) (HU J (fun _ h=>h) rfl rfl (fun y r' hf Q=>?_) d.bO (fun _ h=>.inl h) (fun y hu Eo=>by grind [lV]) d.ju) J rfl ?_ (mK hfk f3) L7⟩
   ·
    have Gu:(ay b.ai y).map (aW b.ad (aB b.ai b.ad f.key) true)=some r':=bL.symm.trans hf;obtain⟨q,hq,rfl⟩:=Option.map_eq_some_iff.1 Gu
    by_cases o:y∈aB b.ai b.ad f.key
    ·
     exact .inr (L6 y o)
    unfold aW at Q
    rw [if_neg (by rw [(aI hq).2];exact o)] at Q;exact d.QF y q hq Q
   rw [Bool.eq_false_iff]
   grind [bB]
end
end Go.Rc

