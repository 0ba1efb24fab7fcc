/- Base of the proof: frames, memory, ownership, and the plain meaning of rule systems. Conditions: as each lemma says. -/
import Derived.Test.YtilldnlhckpbjaaGreatDoorQBe
import Derived.Test.YtilldnlhckpbjaaGreatDoorQBd
set_option linter.all false
namespace Go.Rc
open Go
def J8(L:List As) (Z:Nat→Prop) (w:World):Prop:=(List.Pairwise (fun(A B:As)=>∀x,A.fp x→¬B.fp x) L)∧∀A∈L,A.ok Z w
def As.many(L:List As):As where
 fp x:=∃A∈L,A.fp x
 ok:=J8 L
 lt h x hx:=by obtain⟨A,hA,hx⟩:=hx;exact A.lt (h.2 A hA) x hx
 mono hZ h:=⟨h.1,fun A hA=>A.mono hZ (h.2 A hA)⟩
 st hs hc h:=⟨h.1,fun A hA=>A.st hs (fun x hx=>hc x (hx.imp (fun hx=>⟨A,hA,hx⟩) id)) (h.2 A hA)⟩
section
variable {w0 w:World}{M Z:Nat→Prop}{A:As}{L l:List As}
theorem St.IB(h:St w0 M Z w l):St w0 M Z w (As.many []::l):=by
 refine⟨h.cq,h.jC,?_,?_,.cons ?_ h.sq,?_⟩
 ·
  intro B d x e
  rcases List.mem_cons.1 d with rfl | d
  ·
   obtain⟨A,i,_⟩:=e;cases i
  exact h.lx B d x e
 ·
  intro B d x e
  rcases List.mem_cons.1 d with rfl | d
  ·
   obtain⟨A,i,_⟩:=e;cases i
  exact h.lV B d x e
 ·
  intro B _ x e;obtain⟨A,i,_⟩:=e;cases i
 intro B d
 rcases List.mem_cons.1 d with rfl | d
 ·
  exact⟨.nil,fun A i=>by cases i⟩
 exact h.ok B d
theorem St.zp(h:St w0 M Z w (A::As.many L::l)):St w0 M Z w (As.many (A::L)::l):=by
 obtain⟨d1,d2⟩:=List.pairwise_cons.1 h.sq;obtain⟨d3,d4⟩:=List.pairwise_cons.1 d2;have hm:(As.many L).ok Z w:=h.ok _ (by simp);refine⟨h.cq,h.jC,?_,?_,.cons ?_ d4,?_⟩
 ·
  intro B i x d
  rcases List.mem_cons.1 i with rfl | i
  ·
   obtain⟨C,e,d⟩:=d
   rcases List.mem_cons.1 e with rfl | e
   ·
    exact h.lx C (by simp) x d
   exact h.lx (As.many L) (by simp) x ⟨C,e,d⟩
  exact h.lx B (by simp [i]) x d
 ·
  intro B i x d
  rcases List.mem_cons.1 i with rfl | i
  ·
   obtain⟨C,e,d⟩:=d
   rcases List.mem_cons.1 e with rfl | e
   ·
    exact h.lV C (by simp) x d
   exact h.lV (As.many L) (by simp) x ⟨C,e,d⟩
  exact h.lV B (by simp [i]) x d
 ·
  intro B i x d;obtain⟨C,e,d⟩:=d
  rcases List.mem_cons.1 e with rfl | e
  ·
   exact d1 B (by simp [i]) x d
  exact d3 B i x ⟨C,e,d⟩
 intro B i
 rcases List.mem_cons.1 i with rfl | i
 ·
  refine⟨.cons (fun C e x d j=>d1 (As.many L) (by simp) x d ⟨C,e,j⟩) hm.1,fun C e=>?_⟩
  rcases List.mem_cons.1 e with rfl | e
  ·
   exact h.ok C (by simp)
  exact hm.2 C e
 exact h.ok B (by simp [i])
theorem St.uP(h:St w0 M Z w (As.many (A::L)::l)):St w0 M Z w (A::As.many L::l):=by
 obtain⟨d1,d2⟩:=List.pairwise_cons.1 h.sq;have hm:(As.many (A::L)).ok Z w:=h.ok _ (by simp);obtain⟨d3,d4⟩:=List.pairwise_cons.1 hm.1;refine⟨h.cq,h.jC,?_,?_,.cons ?_ (.cons ?_ d2),?_⟩
 ·
  intro B d x e
  rcases List.mem_cons.1 d with rfl | d
  ·
   exact h.lx _ M0 x ⟨B,.head _,e⟩
  rcases List.mem_cons.1 d with rfl | d
  ·
   obtain⟨C,i,e⟩:=e;exact h.lx _ M0 x ⟨C,.tail _ i,e⟩
  exact h.lx B (.tail _ d) x e
 ·
  intro B d x e
  rcases List.mem_cons.1 d with rfl | d
  ·
   exact h.lV _ M0 x ⟨B,.head _,e⟩
  rcases List.mem_cons.1 d with rfl | d
  ·
   obtain⟨C,i,e⟩:=e;exact h.lV _ M0 x ⟨C,.tail _ i,e⟩
  exact h.lV B (.tail _ d) x e
 ·
  intro B d x e j
  rcases List.mem_cons.1 d with rfl | d
  ·
   obtain⟨C,i,j⟩:=j;exact d3 C i x e j
  exact d1 B d x ⟨A,.head _,e⟩ j
 ·
  intro B d x e;obtain⟨C,i,e⟩:=e;exact d1 B d x ⟨C,.tail _ i,e⟩
 intro B d
 rcases List.mem_cons.1 d with rfl | d
 ·
  exact hm.2 B M0
 rcases List.mem_cons.1 d with rfl | d
 ·
  exact⟨d4,fun C i=>hm.2 C (.tail _ i)⟩
 exact h.ok B (.tail _ d)
theorem St.Ou{L':List As}(i:L.Perm L') (h:St w0 M Z w (As.many L::l)):St w0 M Z w (As.many L'::l):=by
 obtain⟨d1,d2⟩:=List.pairwise_cons.1 h.sq;have hm:(As.many L).ok Z w:=h.ok _ (by simp);have j:∀x,(As.many L').fp x→(As.many L).fp x:=fun x ⟨C,m,e⟩=>⟨C,i.mem_iff.2 m,e⟩;refine⟨h.cq,h.jC,?_,?_,.cons (fun B d x e=>d1 B d x (j x e)) d2,?_⟩
 ·
  intro B d x e
  rcases List.mem_cons.1 d with rfl | d
  ·
   exact h.lx _ M0 x (j x e)
  exact h.lx B (.tail _ d) x e
 ·
  intro B d x e
  rcases List.mem_cons.1 d with rfl | d
  ·
   exact h.lV _ M0 x (j x e)
  exact h.lV B (.tail _ d) x e
 intro B d
 rcases List.mem_cons.1 d with rfl | d
 ·
  exact⟨hm.1.perm i (fun h x e o=>h x o e),fun C m=>hm.2 C (i.mem_iff.2 m)⟩
 exact h.ok B (.tail _ d)
end
structure RE where
 key:Key
 a:Option Addr
 n:Nat
 c:Nat
 reads:List Key
def RE.as(EK:Nat) (e:RE):As:=As.os RR.key EK 2 e.a e.n e.c e.reads
end Go.Rc

namespace Go.Rc
open Go
theorem tK{aa:List aG}(d:ao aa) {i:Nat}(hi:i<aa.length):fL aa (aN aa (i:Int))=true:=by
 have e:=d.len
 unfold fL
 rw [dU.valid (aa:=aa) (.dM hi (by omega)),bC hi (by omega)]
 simp
theorem J9:gz ⟨0,[],[]⟩:=⟨fun i y h=>by simp at h,fun i r h=>by simp at h,by decide,by decide,by decide,⟨by decide,fun i x h=>by simp at h⟩⟩
theorem hW.gz{rev:Int}{aD:List bW}(h:hW rev aD) (h0:0≤rev) (h1:rev≤1073741824) (d:aD.length≤64):gz ⟨rev,aD,[]⟩:=
 ⟨zo.2 ⟨h.1,h.2.1⟩,fun i r h=>by simp at h,h0,h1,d,⟨Nat.zero_le _,fun i x h=>by simp at h⟩⟩
end Go.Rc

namespace Go.Rc
open Go
theorem bZ.one(x:bZ) (a1:Option Addr) (n1 c1:Nat) (a2:Option Addr) (n2 c2:Nat):∀u∈x.row a1 n1 c1 a2 n2 c2,u.oneCell'=true:=by simp [bZ.row,Value.oneCell']
end Go.Rc

namespace Go.Rc
open Go
structure Ov where
 aa:List aG
 base:cB
 goals:List Key
 stack:List bZ
 bG:List Key
end Go.Rc

namespace Go.Rc
open Go
structure fo where
 a:Option Addr
 n:Nat
 c:Nat
 a2:Option Addr
 n2:Nat
 c2:Nat
def bZ.xu(x:bZ × fo):List Value:=x.1.row x.2.a x.2.n x.2.c x.2.a2 x.2.n2 x.2.c2
def RR.iN:RR (bZ × fo):=RR.flat bZ.xu
end Go.Rc

namespace Go.Rc
open Go
structure BK (aa:List aG) (aD:List bW) (rev:Int) (b:cB):Prop where
 gO:Good aa aD ⟨b,[],[],0⟩
 tL:DI ⟨b,[],[],0⟩
 rv:b.ad=rev
 xv:uJ rev aD
 sC:aD.length≤64
section
variable {aa:List aG}{aD:List bW}{rev:Int}{b:cB}
theorem BK.gz(h:BK aa aD rev b):gz b:=
 ⟨by rw [h.rv,show b.ab=aD from h.gO.aD];exact h.xv,fun i r hr=>(h.tL.v r (List.mem_of_getElem? hr)).2,h.tL.r0,h.tL.r1,by rw [show b.ab=aD from h.gO.aD];exact h.sC,h.tL.st.kJ h.gO.len fun r hr=>(h.tL.v r hr).1⟩
theorem BK.DJ(h:BK aa aD rev b) (g:List Key):BK aa aD rev (eG b g false):=⟨h.gO.mark g false,h.tL.DJ g,h.rv,h.xv,h.sC⟩
theorem BK.DK(h:BK aa aD rev b) {g:List Key}(hc:∀x∈g,ax x=true):BK aa aD rev (eG b g true):=⟨h.gO.mark g true,h.tL.DK hc,h.rv,h.xv,h.sC⟩
theorem BK.put(h:BK aa aD rev b) {r:Rec}(hk:dU aa r.key) (hr:r.reads.length≤4000∧∀a∈r.reads,dU aa a) (d:(!(ay b.ai r.key).isSome && decide (4000≤b.ai.length))=false) (e:dm r=true) (i:r.aq≤b.ad):BK aa aD rev {b with ai:=eJ b.ai r}:=
 ⟨h.gO.put (bG:=[]) hk hr d,h.tL.put (bG:=[]) e i,h.rv,h.xv,h.sC⟩
theorem BK.sub(h:BK aa aD rev b) {rs:List Rec}(d:rs.Sublist b.ai):BK aa aD rev {b with ai:=rs}:=
 ⟨⟨h.gO.aD,Nat.le_trans d.length_le h.gO.len,fun r hr=>h.gO.key r (d.subset hr),fun r hr=>h.gO.zh r (d.subset hr),.nil,fun k=>.inl rfl⟩,⟨h.tL.st.sublist d,fun r hr=>h.tL.v r (d.subset hr),h.tL.r0,h.tL.r1⟩,h.rv,h.xv,h.sC⟩
end
structure gP (aa:List aG) (f:bZ):Prop where
 key:dU aa f.key
 aD:aw f.key=false
 zh:∀a∈f.reads,dU aa a
 len:f.reads.length=f.ae.length
 fW:iZ aa f.key f.ae.length
 T6:0≤f.at_
theorem gP.new{aa:List aG}{k:Key}(hk:dU aa k) (hi:aw k=false):gP aa ⟨k,false,0,[],[]⟩:=⟨hk,hi,fun a h=>(by cases h),rfl,hk.fW hi,Int.le_refl _⟩
theorem PV.cast{P:Program}{op:Op}{ty:TypeId}{kv:KV}{w:World}{v v':Value}(h:PV P op ty kv w v) (e:v=v'):PV P op ty kv w v':=e ▸ h
theorem cD{α:Type}(L:List α) (x:α):(L++[x])[L.length]?=some x:=by simp
theorem qQ{x:cB}{l others:List bZ}{k:Key}(h:bF x l others k=1):aw k=false:=by grind [da,bF]
end Go.Rc

namespace Go.Rc
open Go
section
variable {α:Type}{R:RR α}{P:Program}{E k n c b:Nat}{a:Option Addr}{L:List α}{u:α}{Z:Nat→Prop}{w:World}
variable {N:Nat}{kv:KV}{K:KV→World→Prop}{ty:TypeId}{pos:String}{af:Array Edge}{g:Option (Nat × Bool)}{T:TypeId}
theorem OX.GC{x y:Operand}{f:Nat}{v:Value}(hT:(P.info? T).map (·.size)=some 1) (h:Ow R E k Z w a n c (L++[u])) (e:a=some ⟨b,0,none⟩) (i:f<k) (j:ev kv x=some (.pointer (some ⟨b,0+L.length*k+f,none⟩))) (hy:ev kv y=some v)
  (h1:v.oneCell'=true) (d:α) (m:∀r,R.r Z w u r→R.r Z w d (r.set f v)) (B:∀w',aQ (bA a) w w'→OR 0 w' E k (R.r Z w) a n c (L++[d])→K kv w'):OX P ⟨none,.store T x y,ty,pos,af,g⟩ N kv w K:=
 OX.TR hT h e (cD L u) i j hy h1 d (fun r _ h=>m r h) fun w' c o=>B w' c (by grind)
end
section
variable {aa:List aG}{f:bZ}
theorem gP.read(h:gP aa f) {k:Key}{a:ByteArray}(hk:dU aa k) (d:iZ aa f.key (f.ae.length+1)):gP aa {f with reads:=f.reads++[k],ae:=f.ae++[a]}:=
 ⟨h.key,h.aD,fun b hb=>by
  rcases List.mem_append.1 hb with hb | hb
  ·
   exact h.zh b hb
  grind,by simp [h.len],by simpa using d,h.T6⟩
theorem gP.runs(h:gP aa f):gP aa {f with running:=true,at_:=0}:=⟨h.key,h.aD,h.zh,h.len,h.fW,Int.le_refl _⟩
theorem gP.step(h:gP aa f):gP aa {f with at_:=f.at_+1}:=⟨h.key,h.aD,h.zh,h.len,h.fW,by have:=h.T6;show 0≤f.at_+1;omega⟩
end
end Go.Rc

namespace Go.Rc
open Go
theorem mu.yN{aa:List aG}{k:Key}(d:ao aa) (h:mu aa k):dU aa k:=by
 have e:=d.len
 rcases h with⟨n,h0,j,rfl⟩ | ⟨i,hi,rfl⟩
 ·
  obtain⟨m,rfl⟩:∃m:Nat,n=m:=⟨n.toNat,by omega⟩;exact .cell (by omega)
 exact .dM hi (by omega)
theorem mu.right{aa:List aG}{k:Key}(d:ao aa) (h:mu aa k):fL aa k=true:=by
 have hk:=h.yN d
 rcases h with⟨n,h0,e,rfl⟩ | ⟨i,hi,rfl⟩
 ·
  unfold fL
  rw [dU.valid hk]
  unfold bO
  rw [if_neg (by omega)]
  simp
 exact tK d hi
structure LB (aa:List aG) (x:cB):Prop where
 ok:BK aa x.ab x.ad x
 aD:hW x.ad x.ab
section
variable {aa:List aG}{x:cB}
theorem LB.apply(h:LB aa x) {y:cB}(hr:y.ai=x.ai) (h0:x.ad≤y.ad) (h1:y.ad≤1073741824) (e:hW y.ad y.ab) (i:y.ab.length≤64):LB aa y:=by
 have m:=h.ok.gO;have d:=h.ok.tL;have j:0≤y.ad:=Int.le_trans d.r0 h0;have hb:=e.gz j h1 i;exact⟨⟨⟨rfl,by show y.ai.length≤_;rw [hr];exact m.len,by grind [Good.key],by grind [Good.zh],.nil,fun k=>.inl rfl⟩,⟨by show mR y.ai;rw [hr];exact d.st,by show ∀r∈y.ai,_;rw [hr];exact fun r hm=>⟨(d.v r hm).1,Int.le_trans (d.v r hm).2 h0⟩,j,h1⟩,rfl,hb.1,i⟩,e⟩
theorem LB.sub(h:LB aa x) {rs:List Rec}(d:rs.Sublist x.ai):LB aa ⟨x.ad,x.ab,rs⟩:=⟨h.ok.sub d,h.aD⟩
theorem LB.of(h:LB aa x) {b:cB}(hb:BK aa x.ab x.ad b):LB aa b:=by
 have h1:b.ab=x.ab:=hb.gO.aD;have d:b.ad=x.ad:=hb.rv;refine⟨?_,?_⟩
 ·
  rw [h1,d];exact hb
 rw [h1,d];exact h.aD
theorem LB.task(h:LB aa x) {b:cB}(hb:BK aa x.ab x.ad b) {rs:List Rec}(d:rs.Sublist b.ai):LB aa ⟨b.ad,b.ab,rs⟩:=(h.of hb).sub d
theorem LB.nil{aa:List aG}(y:cB) (hr:y.ai=[]) (h0:0≤y.ad) (h1:y.ad≤1073741824) (d:hW y.ad y.ab) (e:y.ab.length≤64):LB aa y:=by
 have hb:=d.gz h0 h1 e;exact⟨⟨⟨rfl,by grind,by grind,by grind,.nil,fun k=>.inl rfl⟩,⟨by show mR y.ai;rw [hr];exact .nil,by grind,h0,h1⟩,rfl,hb.1,e⟩,d⟩
end
end Go.Rc

namespace Go.Rc
open Go
def sD(l:List Key):Prop:=l.Pairwise fun a b=>bl a b<0
theorem uQ{l l':List Key}(d:l'.Perm l) (hn:l.Nodup) (e:l'.Pairwise fun a b=>¬bl b a<0):sD l':=by
 have i:l'.Pairwise fun a b=>a≠b:=d.nodup_iff.2 hn
 refine(e.and i).imp fun {a b} h=>?_
 grind [gF,jR]
theorem GD{aa:List aG}{l:List Key}(hn:l.Nodup) (hk:∀x∈l,dU aa x):l.length≤100+aa.length:=by
 have h:=n9 (U:=(List.range 100).map (fun n:Nat=>bO (n:Int))++(List.range aa.length).map fun n:Nat=>aN aa (n:Int)) hn fun x d=>by
  rw [List.mem_append,List.mem_map,List.mem_map]
  cases hk x d with
  | cell h=>grind
  | dM h _=>grind
 simpa using h
section
variable {aa:List aG}{aD:List bW}{k:Key}
inductive zq (aa:List aG) (aD:List bW) (k:Key):Key→Prop where
 | refl:zq aa aD k k
 | step {x y:Key}:zq aa aD k x→y∈cy aa aD x→zq aa aD k y
theorem zr(d:ao aa) {x:Key}(e:dU aa x):∀y∈cy aa aD x,dU aa y:=fun y hy=>by
 cases e with
 | cell h=>unfold cy at hy;rw [if_pos (aR h)] at hy;cases hy
 | dM hi _=>rw [di d hi] at hy;exact(jU d hi y hy).yN d
theorem qR(e:ao aa) {x:Key}(d:dU aa x):(cy aa aD x).length≤6:=by
 cases d with
 | cell h=>unfold cy;rw [if_pos (aR h)];simp
 | dM hi _=>grind [di,jT,iw]
structure wA (aa:List aG) (aD:List bW) (k:Key) (l:List Key) (i q:Nat):Prop where
 jq:l.Nodup
 yN:∀x∈l,dU aa x
 Ox:∀x∈l,zq aa aD k x
 mem:k∈l
 cl:∀j x,j<i→l[j]?=some x→∀y∈cy aa aD x,y∈l
 cur:∀x,l[i]?=some x→∀y∈(cy aa aD x).take q,y∈l
theorem wA.start(hk:dU aa k):wA aa aD k [k] 0 0:=
 ⟨by simp,by simpa using hk,by simpa using zq.refl,by simp,fun j x h=>by omega,fun x _ y hy=>by simp at hy⟩
theorem wA.len(d:ao aa) {l:List Key}{i q:Nat}(h:wA aa aD k l i q):l.length≤124:=by
 have:=GD h.jq h.yN
 have:=d.len
 omega
theorem iC{l:List Key}{q:Nat}{y z:Key}(hy:l[q]?=some y) (d:z∈l.take (q+1)):z∈l.take q∨z=y:=by grind [List.take_succ_eq_append_getElem]
theorem wA.has{l:List Key}{i q:Nat}(h:wA aa aD k l i q) {x y:Key}(e:l[i]?=some x) (hy:(cy aa aD x)[q]?=some y) (hm:y∈l):wA aa aD k l i (q+1):=
 ⟨h.jq,h.yN,h.Ox,h.mem,h.cl,fun m j z d=>by
  rw [e] at j
  cases j
  rcases iC hy d with d | rfl
  ·
   exact h.cur x e z d
  exact hm⟩
theorem wA.add(C:ao aa) {l:List Key}{i q:Nat}(h:wA aa aD k l i q) {x y:Key}(e:l[i]?=some x) (hy:(cy aa aD x)[q]?=some y) (hm:y∉l):wA aa aD k (l++[y]) i (q+1):=by
 have m:=List.mem_of_getElem? e;have o:=List.mem_of_getElem? hy;have D:i<l.length:=(List.getElem?_eq_some_iff.1 e).1;refine⟨?_,fun z d=>?_,fun z d=>?_,by simp [h.mem],fun j z F d w hw=>?_,fun G B z d=>?_⟩
 ·
  grind [jq]
 ·
  rcases List.mem_append.1 d with d | d
  ·
   exact h.yN z d
  rw [List.mem_singleton] at d;exact d ▸ zr C (h.yN x m) y o
 ·
  rcases List.mem_append.1 d with d | d
  ·
   exact h.Ox z d
  rw [List.mem_singleton] at d;exact d ▸ .step (h.Ox x m) o
 ·
  rw [List.getElem?_append_left (by omega)] at d;exact List.mem_append_left _ (h.cl j z F d w hw)
 rw [List.getElem?_append_left D,e] at B
 cases B
 rcases iC hy d with d | rfl
 ·
  exact List.mem_append_left _ (h.cur x e z d)
 simp
theorem wA.next{l:List Key}{i q:Nat}(h:wA aa aD k l i q) {x:Key}(m:l[i]?=some x) (o:(cy aa aD x).length≤q):wA aa aD k l (i+1) 0:=
 ⟨h.jq,h.yN,h.Ox,h.mem,fun j z B d w hw=>by
  by_cases e:j=i
  ·
   subst e;rw [m] at d
   cases d
   exact h.cur x m w (by grind [List.take_of_length_le])
  exact h.cl j z (by omega) d w hw,fun z _ y hy=>by simp at hy⟩
theorem wA.done{l:List Key}{i:Nat}(h:wA aa aD k l i 0) (hi:l.length≤i) (y:Key):y∈l↔zq aa aD k y:=
 ⟨h.Ox y,fun hy=>by
  induction hy with
  | refl=>exact h.mem
  | step _ d e=>
   obtain⟨j,m,rfl⟩:=List.mem_iff_getElem.1 e;exact h.cl j _ (by omega) (List.getElem?_eq_getElem m) _ d⟩
def gQ(l:List Key):List (Key × Value):=l.map fun x=>(x,.bool true)
theorem qS(l:List Key) (y:Key):(bq (gQ l) y).getD (.bool false)=.bool (decide (y∈l)):=by
 unfold gQ
 induction l with
 | nil=>simp [bq]
 | cons x r d=>
  simp only [List.map_cons,bq]
  grind
theorem qT(l:List Key) {y:Key}(h:y∉l):cF (gQ l) y (.bool true)=gQ (l++[y]):=by
 unfold gQ
 induction l with
 | nil=>rfl
 | cons x r d=>
  rw [List.mem_cons,not_or] at h;simp only [List.map_cons,List.cons_append,cF];rw [if_neg (Ne.symm h.1),d h.2]
end
end Go.Rc

namespace Go.Rc
open Go
structure LR {α:Type}(A:Nat→Prop) (w:World) (k:Nat) (R:α→List Value→Prop) (a:Option Addr) (n:Nat) (xs:List α):Prop where
 len:n=xs.length
 le:n≤140737488355328
 at_:∀{i:Nat}{x:α},xs[i]?=some x→∃b o r,a=some ⟨b,o,none⟩∧r.length=k∧R x r∧w.rangeAt b (o+i*k) r∧A b∧b<w.heap.size
theorem SR.Jy{α:Type}{w:World}{k b E:Nat}{R:α→List Value→Prop}{xs:List α}{rows:List (List Value)}(h:bJ w b E rows.flatten) (hl:xs.length=rows.length) (hk:∀r∈rows,r.length=k) (h1:∀u∈rows.flatten,u.oneCell'=true)
  (hle:rows.length≤140737488355328) (d:∀(i:Nat) (x:α) (r:List Value),xs[i]?=some x→rows[i]?=some r→R x r):SR (fun _=>True) w k R (some ⟨b,0,none⟩) rows.length rows.length xs:=by
 have hlen:rows.flatten.length=rows.length*k:=by
  clear h hl h1 hle d
  induction rows with
  | nil=>simp
  | cons r t j=>grind
 have e:=OL.blk (base:=0) (k:=k) h (Nat.zero_le _) hlen h1 hle;exact⟨hl.symm,rows,hl.symm,hk,e.sl (A:=fun _=>True) (fun _ _=>trivial) hle,d⟩
end Go.Rc

namespace Go.Rc
open Go
theorem LB.tM{aa:List aG}{x:cB}(h:LB aa x):qP aa x:=
 ⟨h.ok.tL.r0,h.ok.tL.r1,⟨h.aD.1,h.aD.2.1⟩,h.aD.k99,h.ok.sC,fun r hr=>⟨h.ok.gO.key r hr,((eN _).1 (h.ok.tL.v r hr).1).2.2.1,(h.ok.gO.zh r hr).2,(h.ok.tL.v r hr).1⟩,h.ok.tL.st,h.ok.gO.len,fun r hr=>(h.ok.tL.v r hr).2⟩
theorem LB.small{aa:List aG}{x:cB}(d:ao aa) (h:LB aa x):∀k,(valOf aa x.ab k).size≤1000:=zk d fun y hy=>(h.aD.2.2 y hy).2
theorem OR.Oy{α:Type}{R:α→List Value→Prop}{base b E k:Nat}{w:World}{x y:α}{r s:List Value}(h:bJ w b E (r++s)) (hb:base≤b) (hr:r.length=k) (d:s.length=k) (h1:∀u∈r++s,u.oneCell'=true) (e:R x r) (hy:R y s):OR base w E k R (some ⟨b,0,none⟩) 2 2 [x,y]:=
 ⟨rfl,[r,s],rfl,by simp [hr,d],by grind [OL.blk],xp e hy⟩
def DO:Ask:=⟨false,false,0,0⟩
end Go.Rc

namespace Go.Rc
open Go
section
variable {aa:List aG}{aD:List bW}
noncomputable def pI(aa:List aG) (aD:List bW) (i q:Nat):List ByteArray:=(dc (bN aa (aN aa (i:Int))) (valOf aa aD) q).2
noncomputable def iD(aa:List aG) (aD:List bW) (i q:Nat):Key:=(bN aa (aN aa (i:Int)) (pI aa aD i q)).ask
theorem kO(i q:Nat):(pI aa aD i q).length=q:=(ep _ _ _).2
theorem B6(i q:Nat):pI aa aD i (q+1)=pI aa aD i q++[valOf aa aD (iD aa aD i q)]:=rfl
theorem dV{i q:Nat}(d:q<bQ aa i):(ca aa aD i)[q]?=some (iD aa aD i q):=by
 unfold ca iD pI
 generalize bQ aa i=n at d ⊢
 induction n with
 | zero=>omega
 | succ n e=>
  have hl:=(ep (bN aa (aN aa (i:Int))) (valOf aa aD) n).1;simp only [dc]
  grind
theorem Bb(d:ao aa) {i q:Nat}(hi:i<aa.length) (e:q<bQ aa i):bN aa (aN aa (i:Int)) (pI aa aD i q)=⟨false,⟨#[]⟩,iD aa aD i q⟩:=by grind [cR,kO,iD]
theorem Bc(d:ao aa) {i:Nat}(hi:i<aa.length):bN aa (aN aa (i:Int)) (pI aa aD i (bQ aa i))=⟨true,valOf aa aD (aN aa (i:Int)),dA⟩:=eM d hi
theorem xw(d:ao aa) {i q:Nat}(hi:i<aa.length) (e:q<bQ aa i):dU aa (iD aa aD i q):=
 (jU d hi _ (List.mem_of_getElem? (dV (aD:=aD) e))).yN d
theorem B7(d:ao aa) {i:Nat}(hi:i<aa.length) (hr:aA aa i=true):bR (valOf aa aD (aN aa (i:Int)))=rv aa aD i:=by grind [fy,fR,dH,oW]
end
end Go.Rc

namespace Go.Rc
open Go
section
variable {aa:List aG}{aD:List bW}{k:Key}{L:List Key}
theorem uR{x:Key}(h:aw x=true):cy aa aD x=[]:=if_pos h
end
end Go.Rc

namespace Go.Rc
open Go
section
variable {aa:List aG}{aD:List bW}
theorem cm.trans{i j k:Nat}(h:cm aa i j) (d:cm aa j k):cm aa i k:=by
 induction d with
 | refl=>exact h
 | step _ e m=>exact .step m e
variable {lo n q v:Nat}{S:List Int}{r:aG}
end
end Go.Rc

namespace Go.Rc
open Go
end Go.Rc
namespace Go.Rc
open Go
end Go.Rc

namespace Go.Rc
open Go
section
variable {aa:List aG}{aD kP:List bW}
theorem qU(d:ao aa) {i:Nat}(hi:i<aa.length) (h:∀a∈ca aa aD i,valOf aa aD a=valOf aa kP a):ca aa kP i=ca aa aD i∧valOf aa kP (aN aa (i:Int))=valOf aa aD (aN aa (i:Int)):=by
 have e:dc (bN aa (aN aa (i:Int))) (valOf aa aD) (bQ aa i)=dc (bN aa (aN aa (i:Int))) (valOf aa kP) (bQ aa i):=qE _ fun m hm=>h _ (List.mem_of_getElem? (dV hm))
 refine⟨?_,?_⟩
 ·
  unfold ca
  rw [e]
 have h1:=eM (aD:=aD) d hi;have j:=eM (aD:=kP) d hi
 grind
theorem oY(d:ao aa) {G:Nat→Prop}(i:∀j,G j→j<aa.length∧aA aa j=true) (h:∀j,G j→∀r x,aa[j]?=some r→x∈r.asks→(∀m,G m→bm aa x≠aN aa (m:Int))→valOf aa aD (bm aa x)=valOf aa kP (bm aa x)) {j:Nat}(I:G j) (b:Nat) (hb:(rv aa aD j).testBit b=true):(rv aa kP j).testBit b=true:=by
 obtain⟨C,D⟩:=i j I;obtain⟨n,hn,J⟩:=(de d C D b).1 hb
 have key:∀n,cm aa j n→(G n∧cm aa j n)∨∃(m:Nat) (x:Ask) (r:aG) (q:Nat),G m∧cm aa j m∧aa[m]?=some r∧x∈r.asks∧bm aa x=aN aa (q:Int)∧¬G q∧ee aa m q∧cm aa q n:=by
  intro n hn
  induction hn with
  | refl=>exact .inl ⟨I,.refl⟩
  | @step m q hm o V=>
   rcases V with⟨g1,g2⟩ | ⟨m2,x,r,W,g1,g2,g3,g4,g5,g6,g7,g8⟩
   ·
    by_cases O:G q
    ·
     exact .inl ⟨O,.step g2 o⟩
    obtain⟨x,B,_,hk⟩:=my (i m g1).1 o;exact .inr ⟨m,x,_,q,g1,g2,ah (i m g1).1,B,hk,O,o,.refl⟩
   exact .inr ⟨m2,x,r,W,g1,g2,g3,g4,g5,g6,g7,.step g8 o⟩
 rcases key n hn with⟨g1,g2⟩ | ⟨m,x,r,q,g1,g2,g3,g4,g5,g6,g7,g8⟩
 ·
  obtain⟨F,SO⟩:=i n g1;refine(de d C D b).2 ⟨n,g2,?_⟩
  rcases(dI F b).1 J with h1 | ⟨x,B,X,h1⟩
  ·
   grind [dI]
  refine(dI F b).2 (.inr ⟨x,B,X,?_⟩);rw [← h n g1 _ x (ah F) B fun m hm e=>?_]
  ·
   exact h1
  grind [gD,aW,ao.len]
 have Q:=g7.lt.2.1;have U:=g7.lt.2.2.2;have h1:(rv aa aD q).testBit b=true:=(de d Q U b).2 ⟨n,g8,J⟩
 have h2:=h m g1 r x g3 g4 fun m2 ss e=>by grind [dt]
 have Y:rv aa aD q=rv aa kP q:=by grind [B7]
 rw [Y] at h1;obtain⟨n2,h4,h5⟩:=(de d Q U b).1 h1;exact(de d C D b).2 ⟨n2,(cm.step g2 g7).trans h4,h5⟩
theorem zs(o:ao aa) {G:Nat→Prop}(i:∀j,G j→j<aa.length∧aA aa j=true) (h:∀j,G j→∀r x,aa[j]?=some r→x∈r.asks→(∀m,G m→bm aa x≠aN aa (m:Int))→valOf aa aD (bm aa x)=valOf aa kP (bm aa x)) {j:Nat}(d:G j):valOf aa aD (aN aa (j:Int))=valOf aa kP (aN aa (j:Int)):=by
 obtain⟨D,F⟩:=i j d
 have e:rv aa aD j=rv aa kP j:=by
  apply Nat.eq_of_testBit_eq
  intro b;rw [Bool.eq_iff_iff];exact⟨oY o i h d b,oY o i (fun j d r x h1 B C=>(h j d r x h1 B C).symm) d b⟩
 grind [fy,fR]
structure Cons (aa:List aG) (H:Int→List bW) (on:Key→Bool) (b:cB):Prop where
 now:H b.ad=b.ab
 dw:∀k t,aw k=true→(bf b.ab k).changed≤t→t≤b.ad→cellOf (H t) k=cellOf b.ab k
 B8:∀r∈b.ai,r.aq≤b.ad∧r.changed≤r.aq
 vr:∀r∈b.ai,r.value=valOf aa (H r.aq) r.key∧r.reads=cy aa (H r.aq) r.key
 rr:∀r∈b.ai,∀a∈r.reads,aw a=false→∀ra,ay b.ai a=some ra→(r.aq=b.ad∧on a=true)∨(ra.changed≤r.aq→valOf aa (H r.aq) a=ra.value)
 rs:∀r∈b.ai,ax r.key=true→∀a∈r.reads,ax a=true→∀ra,ay b.ai a=some ra→(r.aq=b.ad∧on a=true)∨r.aq≤ra.aq
variable {H:Int→List bW}{on:Key→Bool}{b:cB}{k:Key}
theorem Cons.up(h:Cons aa H on b) (hu:az b k=true):∃r,ay b.ai k=some r∧r.aq=b.ad∧r.value=valOf aa b.ab k:=by
 obtain⟨r,hr,d⟩:=aL.1 hu;obtain⟨h1,e⟩:=aH hr;refine⟨r,hr,d,?_⟩;rw [(h.vr r h1).1,d,h.now,e]
theorem Cons.changed(h:Cons aa H on b) {m:Rec}(hm:m∈b.ai) (B:m.aq<b.ad) {a:Key}(j:a∈m.reads) (hc:aZ (valOf aa b.ab) b a≤m.aq):valOf aa (H m.aq) a=valOf aa b.ab a:=by
 cases hi:aw a with
 | true=>
  unfold aZ at hc
  rw [if_pos hi] at hc
  have:=h.dw a m.aq hi hc (by omega)
  unfold valOf
  grind
 | false=>
  unfold aZ at hc
  rw [if_neg (by rw [hi];simp)] at hc
  split at hc
  ·
   rename_i h1
   rw [Bool.and_eq_true] at h1;obtain⟨ra,i⟩:=Option.isSome_iff_exists.1 h1.1
   have e:aF b.ai a=ra:=by unfold aF;rw [i];rfl
   rw [e] at h1 hc
   have o:valOf aa b.ab a=ra.value:=by
    rw [Bool.or_eq_true] at h1
    rcases h1.2 with d | d
    ·
     have d:=of_decide_eq_true d;obtain⟨g1,g2⟩:=aH i;rw [(h.vr ra g1).1,d,h.now,g2]
    exact of_decide_eq_true d
   rcases h.rr m hm a j hi ra i with⟨d,_⟩ | d
   ·
    omega
   rw [d hc,o]
  omega
end
end Go.Rc

namespace Go.Rc
open Go
/-! ### lists of keys in order -/
def GF(l:List Key):Prop:=l.Pairwise fun a b=>bl a b<0
theorem mA{a b:Key}(h:bl a b<0) (d:bl b a<0):False:=by grind [fN,fA]
theorem Bd{k:Key}:∀{l:List Key},GF l→GF (ks k l)
 | [],_=>by simp [ks,GF]
 | x::r,h=>by
  obtain⟨h1,d⟩:=List.pairwise_cons.1 h
  unfold ks
  split
  ·
   rename_i c
   refine List.pairwise_cons.2 ⟨fun y hy=>?_,Bd d⟩
   grind [xl]
  rename_i c
  split
  ·
   exact h
  rename_i e
  have i:bl k x<0:=by grind [gF,jR]
  refine List.pairwise_cons.2 ⟨fun y hy=>?_,h⟩
  grind [fN]
theorem xx(l:List Key):GF (iY l):=by
 have key:∀(l acc:List Key),GF acc→GF (l.foldl (fun out k=>ks k out) acc):=by
  intro l
  induction l with
  | nil=>intro acc h;exact h
  | cons x r d=>grind [Bd]
 exact key l [] List.Pairwise.nil
theorem qV:∀{a b:List Key},GF a→GF b→(∀x,x∈a↔x∈b)→a=b
 | [],[],_,_,_=>rfl
 | [],y::b,_,_,h=>by have:=(h y).2 (by simp);cases this
 | x::a,[],_,_,h=>by have:=(h x).1 (by simp);cases this
 | x::a,y::b,h1,d,h=>by
  obtain⟨o,i⟩:=List.pairwise_cons.1 h1;obtain⟨B,j⟩:=List.pairwise_cons.1 d
  have e:x=y:=by
   rcases List.mem_cons.1 ((h x).1 (by simp)) with e | e
   ·
    exact e
   rcases List.mem_cons.1 ((h y).2 (by simp)) with e2 | e2
   ·
    exact e2.symm
   grind [mA]
  subst e
  congr 1
  refine qV i j fun z=>⟨fun m=>?_,fun m=>?_⟩
  ·
   grind [mA]
  grind [mA]
/-! ### rings that belong together -/
section
variable {l l':List Rec}{rev:Int}{k x y z:Key}
theorem bw:bU l rev k=true↔∃r,ay l k=some r∧ax k=true∧r.aq<rev∧r.bV=false:=by
 unfold bU aF
 cases h:ay l k with
 | none=>simp
 | some r=>simp
theorem bK.trans(h:bK l rev k x) (d:bK l rev x y):bK l rev k y:=by
 induction d with
 | one d=>exact .step h d
 | step _ e i=>exact .step i e
def tN(l:List Rec) (rev:Int) (x y:Key):Prop:=bK l rev x y∧bK l rev y x
theorem tN.symm(h:tN l rev x y):tN l rev y x:=⟨h.2,h.1⟩
theorem tN.trans(h:tN l rev x y) (d:tN l rev y z):tN l rev x z:=⟨h.1.trans d.1,d.2.trans h.2⟩
theorem tN.kA(h:tN l rev x y):bU l rev y=true:=h.1.kA
theorem zt:y∈qI l rev k l↔y≠k∧tN l rev k y:=by
 unfold qI J2
 rw [List.mem_map]
 constructor
 ·
  rintro⟨r,hr,rfl⟩;rw [List.mem_filter] at hr;simp only [Bool.and_eq_true,decide_eq_true_eq,mz] at hr;exact⟨hr.2.1,hr.2.2.1,hr.2.2.2⟩
 rintro⟨h1,d⟩;obtain⟨r,hr,rfl⟩:=List.mem_map.1 (qJ d.kA);exact⟨r,List.mem_filter.2 ⟨hr,by simp only [Bool.and_eq_true,decide_eq_true_eq,mz];exact⟨h1,d.1,d.2⟩⟩,rfl⟩
theorem bD:y∈aB l rev k↔y=k∨(bU l rev k=true∧tN l rev k y):=by
 unfold aB
 split
 ·
  rename_i h
  rw [lC,List.mem_cons,zt]
  grind
 grind
theorem fq:k∈aB l rev k:=bD.2 (.inl rfl)
theorem oa(l:List Rec) (rev:Int) (k:Key):GF (aB l rev k):=by
 unfold aB
 split
 ·
  exact xx _
 exact List.pairwise_singleton _ _
theorem ft(h:ax k=false):aB l rev k=[k]:=by
 unfold aB
 rw [if_neg]
 grind [bw]
theorem tO(hk:bU l rev k=true) (h:tN l rev k y) (z:Key):z∈aB l rev y↔z∈aB l rev k:=by
 rw [bD,bD]
 constructor
 ·
  rintro(rfl | ⟨_,h1⟩)
  ·
   exact .inr ⟨hk,h⟩
  exact .inr ⟨hk,h.trans h1⟩
 rintro(rfl | ⟨_,h1⟩)
 ·
  exact .inr ⟨h.kA,h.symm⟩
 exact .inr ⟨h.kA,h.symm.trans h1⟩
theorem dO{g:List Key}{c:oU}:c∈cj l g↔c.fm∈g∧c.read∈(aF l c.fm).reads∧c.read∉g:=by
 unfold cj cN
 grind
theorem sE{g:List Key}(h:∀m∈g,aF l' m=aF l m):cj l' g=cj l g:=by
 unfold cj
 have key:∀s:List Key,(∀m∈s,aF l' m=aF l m)→(s.flatMap fun m=>cN g m (aF l' m).reads)=s.flatMap fun m=>cN g m (aF l m).reads:=by
  intro s
  induction s with
  | nil=>intro _;rfl
  | cons m r d=>grind
 exact key g h
end
/-! ### the change of records -/
def Pt(val:Key→ByteArray) (N:Key→Prop) (rev:Int) (bG:List Key) (y:Key) (o o':Option Rec):Prop:=
 o'=o∨((ax y=true∨N y)∧∃r,o=some r∧r.bV=false∧r.aq<rev∧(o'=some {r with aq:=rev}∨o'=some {r with bV:=true}))∨
 ((y∈bG∧N y)∧(∀r,o=some r→r.aq<rev)∧∃r',o'=some r'∧r'.aq=rev∧r'.bV=false∧r'.value=val y∧(∀r,o=some r→r'.changed=if r.value=r'.value then r.changed else rev)∧(o=none→r'.changed=rev))
structure hM (val:Key→ByteArray) (N:Key→Prop) (bG:List Key) (rev:Int) (l l':List Rec):Prop where
 pt:∀y,Pt val N rev bG y (ay l y) (ay l' y)
 scc:∀y z,tN l rev y z→bU l' rev y=true→bU l' rev z=true
def Live(l:List Rec) (rev:Int) (k:Key):Prop:=∃r,ay l k=some r∧r.bV=false∧r.aq<rev
theorem Live.uS{l:List Rec}{rev:Int}{k:Key}(h:bU l rev k=true):Live l rev k:=by
 obtain⟨r,h1,_,d,e⟩:=bw.1 h;exact⟨r,h1,e,d⟩
theorem Live.kA{l:List Rec}{rev:Int}{k:Key}(h:Live l rev k) (hc:ax k=true):bU l rev k=true:=by
 obtain⟨r,h1,d,e⟩:=h
 grind [bw]
section
variable {val:Key→ByteArray}{N N':Key→Prop}{bG Oz:List Key}{rev:Int}{l l' l2:List Rec}{k x y z:Key}
theorem hM.refl(l:List Rec):hM val N bG rev l l:=⟨fun _=>.inl rfl,fun _ _ h _=>h.kA⟩
theorem hM.mono(h:hM val N bG rev l l') (hr:∀y∈bG,y∈Oz) (e:∀y,N y→N' y):hM val N' Oz rev l l':=
 ⟨fun y=>by
  rcases h.pt y with h | ⟨h1,d⟩ | ⟨⟨h1,d⟩,i⟩
  ·
   exact .inl h
  ·
   exact .inr (.inl ⟨h1.imp id (e y),d⟩)
  exact .inr (.inr ⟨⟨hr y h1,e y d⟩,i⟩),h.scc⟩
theorem hM.live(h:hM val N bG rev l l') (hl:Live l' rev y):ay l' y=ay l y:=by
 obtain⟨r,h1,d,i⟩:=hl
 rcases h.pt y with e | ⟨_,q,_,_,_,e | e⟩ | ⟨_,_,q,e,j,_⟩
 ·
  exact e
 ·
  grind
 ·
  grind
 grind
theorem hM.IC(h:hM val N bG rev l l') (hl:Live l' rev y):Live l rev y:=by
 obtain⟨r,h1,d,e⟩:=id hl;exact⟨r,by rw [← h.live hl];exact h1,d,e⟩
theorem hM.kA(h:hM val N bG rev l l') (d:bU l' rev y=true):ay l' y=ay l y:=h.live (.uS d)
theorem hM.GG(h:hM val N bG rev l l') (d:bU l' rev y=true):bU l rev y=true:=by
 obtain⟨r,h1,e,i,j⟩:=bw.1 d;exact bw.2 ⟨r,by rw [← h.kA d];exact h1,e,i,j⟩
theorem hM.aF(h:hM val N bG rev l l') (d:bU l' rev y=true):aF l' y=Rc.aF l y:=by
 unfold Rc.aF
 rw [h.kA d]
theorem hM.leads(h:hM val N bG rev l l') (hk:bU l' rev k=true) (hl:bK l' rev k x):bK l rev k x:=by
 induction hl with
 | one h1=>exact .one ⟨by rw [← h.aF hk];exact h1.1,h.GG h1.2⟩
 | step h1 d e=>exact .step e ⟨by rw [← h.aF h1.kA];exact d.1,h.GG d.2⟩
theorem hM.back(h:hM val N bG rev l l') (hk:bU l' rev k=true) (hl:bK l rev k x):bK l rev x k→bK l' rev k x:=by
 induction hl with
 | one h1=>exact fun d=>.one ⟨by rw [h.aF hk];exact h1.1,h.scc k _ ⟨.one h1,d⟩ hk⟩
 | step h1 e i=>
  intro d;have g:=i ((bK.one e).trans d);exact .step g ⟨by rw [h.aF g.kA];exact e.1,h.scc k _ ⟨.step h1 e,d⟩ hk⟩
theorem hM.mut(h:hM val N bG rev l l') (hk:bU l' rev k=true):tN l' rev k y↔tN l rev k y:=
 ⟨fun m=>⟨h.leads hk m.1,h.leads m.kA m.2⟩,fun m=>⟨h.back hk m.1 m.2,h.back (h.scc k y m hk) m.2 m.1⟩⟩
theorem hM.group(h:hM val N bG rev l l') (hk:Live l' rev k):aB l' rev k=aB l rev k∧∀m∈aB l rev k,ay l' m=ay l m:=by
 cases hc:ax k with
 | false=>
  rw [ft hc,ft hc];refine⟨rfl,fun m hm=>?_⟩;rw [List.mem_singleton.1 hm];exact h.live hk
 | true=>
  have d:=hk.kA hc;refine⟨qV (oa _ _ _) (oa _ _ _) fun y=>?_,fun m hm=>?_⟩
  ·
   rw [bD,bD,h.mut d,d,h.GG d]
  rcases bD.1 hm with rfl | ⟨_,m2⟩
  ·
   exact h.live hk
  exact h.kA (h.scc _ _ m2 d)
theorem hM.Ka(h:hM val N bG rev l l') (hk:Live l' rev k):cj l' (aB l' rev k)=cj l (aB l rev k):=by
 obtain⟨h1,d⟩:=h.group hk;rw [h1];refine sE fun m hm=>?_
 unfold Rc.aF
 rw [d m hm]
theorem hM.trans(h:hM val N bG rev l l') (i:hM val N bG rev l' l2):hM val N bG rev l l2:=by
 refine⟨fun y=>?_,fun y z m j=>?_⟩
 ·
  have g2:=i.pt y
  rcases h.pt y with e | ⟨e0,r,e1,e2,e3,d | d⟩ | ⟨e1,e2,r',e3,d,e5,e6,o,e8⟩
  ·
   rw [e] at g2;exact g2
  ·
   rcases g2 with g | ⟨_,q,g1,g2,g3,_⟩ | ⟨_,g1,_⟩
   ·
    exact .inr (.inl ⟨e0,r,e1,e2,e3,.inl (g.trans d)⟩)
   ·
    grind
   grind
  ·
   rcases g2 with g | ⟨_,q,g1,g2,g3,_⟩ | ⟨g1,g2,q,g3,g4,g5,g6,g7,g8⟩
   ·
    exact .inr (.inl ⟨e0,r,e1,e2,e3,.inr (g.trans d)⟩)
   ·
    grind
   refine .inr (.inr ⟨g1,fun r2 B=>?_,q,g3,g4,g5,g6,fun r2 B=>?_,fun hn=>?_⟩)
   ·
    grind
   ·
    grind
   grind
  rcases g2 with g | ⟨_,q,g1,g2,g3,_⟩ | ⟨_,g1,_⟩
  ·
   exact .inr (.inr ⟨e1,e2,r',g.trans e3,d,e5,e6,o,e8⟩)
  ·
   grind
  have:=g1 _ e3
  omega
 have C:=i.GG j;exact i.scc y z ((h.mut C).2 m) j
theorem bE{g:List Key}{d:Bool}:ay (l.map (aY rev g d)) y=(ay l y).map (aY rev g d):=tF _ (fun r=>(cn rev g d r).1) y l
theorem hM.mark(hl:Live l rev k) (d:Bool) (o:ax k=true∨N k):hM val N bG rev l (l.map (aY rev (aB l rev k) d)):=by
 have dw:∀y∈aB l rev k,Live l rev y:=fun y hy=>by
  rcases bD.1 hy with rfl | ⟨_,m⟩
  ·
   exact hl
  exact .uS m.kA
 have B:∀y,y∉aB l rev k→ay (l.map (aY rev (aB l rev k) d)) y=ay l y:=fun y hy=>by
  rw [bE]
  cases C:ay l y with
  | none=>rfl
  | some r=>
   have e:=(aH C).2
   show some (aY rev (aB l rev k) d r)=some r
   unfold aY
   rw [if_neg (by rw [e];exact hy)]
 have D:∀y∈aB l rev k,∃r,ay l y=some r∧r.bV=false∧r.aq<rev∧ay (l.map (aY rev (aB l rev k) d)) y=some (if d then {r with bV:=true} else {r with aq:=rev}):=fun y hy=>by
  obtain⟨r,h1,h,i⟩:=dw y hy;refine⟨r,h1,h,i,?_⟩;rw [bE,h1]
  show some (aY rev (aB l rev k) d r)=_
  unfold aY
  rw [if_pos (by rw [(aH h1).2];exact hy)]
 refine⟨fun y=>?_,fun y z m G=>?_⟩
 ·
  by_cases hy:y∈aB l rev k
  ·
   obtain⟨r,h1,h,i,F⟩:=D y hy;refine .inr (.inl ⟨?_,r,h1,h,i,?_⟩)
   ·
    rcases bD.1 hy with rfl | ⟨_,m⟩
    ·
     exact o
    obtain⟨_,_,g,_⟩:=bw.1 m.kA;exact .inl g
   grind
  exact .inl (B y hy)
 have hy:y∉aB l rev k:=fun hy=>by grind [bw]
 have j:z∉aB l rev k:=fun j=>hy (by
  rcases bD.1 j with rfl | ⟨h1,h⟩
  ·
   grind [bD,tN.kA,tN.symm]
  exact bD.2 (.inr ⟨h1,h.trans m.symm⟩))
 obtain⟨r,h1,h,i,F⟩:=bw.1 m.kA
 grind [bw]
theorem hM.put{r':Rec}(hk:bU l rev r'.key=false) (d:∀r,ay l r'.key=some r→r.aq<rev) (h:r'.key∈bG∧N r'.key) (i:r'.aq=rev) (j:r'.bV=false) (o:r'.value=val r'.key)
  (hc:∀r,ay l r'.key=some r→r'.changed=if r.value=r'.value then r.changed else rev) (hn:ay l r'.key=none→r'.changed=rev):hM val N bG rev l (eJ l r'):=by
 refine⟨fun y=>?_,fun y z m G=>?_⟩
 ·
  rw [ck]
  by_cases e:y=r'.key
  ·
   rw [if_pos e,e];exact .inr (.inr ⟨h,d,r',rfl,i,j,o,hc,hn⟩)
  rw [if_neg e];exact .inl rfl
 have B:z≠r'.key:=fun e=>by grind [tN.kA]
 obtain⟨r,h1,C,D,F⟩:=bw.1 m.kA;exact bw.2 ⟨r,by rw [ck,if_neg B];exact h1,C,D,F⟩
end
end Go.Rc

namespace Go.Rc
open Go
theorem aK{l:List Rec}{k:Key}{r:Rec}(h:ay l k=some r):aF l k=r:=by
 unfold aF
 rw [h]
 rfl
theorem eT:∀{l:List Rec},mR l→∀{r:Rec},r∈l→ay l r.key=some r
 | [],_,r,hr=>by cases hr
 | x::xs,h,r,hr=>by
  obtain⟨h1,d⟩:=List.pairwise_cons.1 h
  unfold ay
  rw [List.find?_cons]
  rcases List.mem_cons.1 hr with rfl | hr
  ·
   simp
  have i:=h1 r hr
  have j:x.key≠r.key:=fun e=>by rw [e,fA] at i;omega
  have:(x.key == r.key)=false:=by simpa using j
  rw [this];exact eT d hr
structure Bi (aa:List aG) (H:Int→List bW) (on:Key→Bool) (b:cB):Prop where
 c:Cons aa H on b
 st:mR b.ai
 kr:∀r∈b.ai,∃i:Nat,i<aa.length∧r.key=aN aa (i:Int)
 dv:∀r∈b.ai,r.bV=true→r.aq<b.ad
section
variable {aa:List aG}{H:Int→List bW}{on SP:Key→Bool}{b:cB}{k:Key}
theorem Bi.T7(h:Bi aa H on b) (i:∀k,on k=true→SP k=true):Bi aa H SP b:=
 ⟨{h.c with
   rr:=fun r hr a d hi ra e=>(h.c.rr r hr a d hi ra e).imp (fun⟨x,y⟩=>⟨x,i _ y⟩) id
   rs:=fun r hr hc a d hi ra e=>(h.c.rs r hr hc a d hi ra e).imp (fun⟨x,y⟩=>⟨x,i _ y⟩) id},h.st,h.kr,h.dv⟩
theorem Bi.off(h:Bi aa H on b) (hu:az b k=true) (j:∀y,on y=true→y=k∨SP y=true):Bi aa H SP b:=by
 obtain⟨q,i,o,m⟩:=h.c.up hu;refine⟨{h.c with rr:=fun r hr a e hi ra d=>?_,rs:=fun r hr hc a e hi ra d=>?_},h.st,h.kr,h.dv⟩
 ·
  rcases h.c.rr r hr a e hi ra d with⟨x,y⟩ | z
  ·
   rcases j a y with rfl | y
   ·
    rw [d] at i
    have:=Option.some.inj i
    subst this;refine .inr fun _=>?_;rw [x,h.c.now];exact m.symm
   exact .inl ⟨x,y⟩
  exact .inr z
 rcases h.c.rs r hr hc a e hi ra d with⟨x,y⟩ | z
 ·
  grind
 exact .inr z
theorem B9(h:ao aa) {aD:List bW}{i:Nat}(hi:i<aa.length) (hr:aA aa i=true) {x:Ask}(d:x∈aa[i].asks):bm aa x∈ca aa aD i:=by
 obtain⟨q,j⟩:=List.mem_iff_getElem?.1 d
 have e:q<bQ aa i:=by grind [bQ]
 have h1:=dV (aD:=aD) e
 grind [cR,kO,iD]
theorem Cons.lead(h:Cons aa H on b) {x y:Key}(d:bU b.ai b.ad x=true) (hl:bK b.ai b.ad x y):(aF b.ai x).aq≤(aF b.ai y).aq:=by
 have step:∀x y,bU b.ai b.ad x=true→Ld b.ai b.ad x y→(aF b.ai x).aq≤(aF b.ai y).aq:=by
  intro x y d hy;obtain⟨r,h1,i,m,o⟩:=bw.1 d;obtain⟨q,g1,g2,g3,g4⟩:=bw.1 hy.2;have j:=hy.1;rw [aK h1] at j;rw [aK h1,aK g1]
  rcases h.rs r (aH h1).1 (by rw [(aH h1).2];exact i) y j g2 q g1 with⟨e,_⟩ | e
  ·
   omega
  exact e
 induction hl with
 | one h1=>exact step _ _ d h1
 | step h1 i B=>grind [bK.kA]
theorem Bi.key(h:Bi aa H on b) (hl:Live b.ai b.ad k):∃i:Nat,i<aa.length∧k=aN aa (i:Int):=by
 obtain⟨r,h1,_⟩:=hl;obtain⟨d,j⟩:=aH h1;obtain⟨i,hi,e⟩:=h.kr r d
 grind
theorem lE{l:List Rec}{rev:Int}{y:Key}(hl:Live l rev k) (hy:y∈aB l rev k):Live l rev y:=by
 rcases bD.1 hy with rfl | ⟨_,m⟩
 ·
  exact hl
 exact .uS m.kA
theorem Bi.fixed(B:ao aa) (h:Bi aa H on b) (hl:Live b.ai b.ad k)
  (D:∀m∈aB b.ai b.ad k,∀a∈(aF b.ai m).reads,a∉aB b.ai b.ad k→valOf aa (H (aF b.ai m).aq) a=valOf aa b.ab a) :
  ∀m∈aB b.ai b.ad k,valOf aa b.ab m=valOf aa (H (aF b.ai m).aq) m∧cy aa b.ab m=cy aa (H (aF b.ai m).aq) m:=by
 have V:=B.len
 have o:∀m∈aB b.ai b.ad k,∃i:Nat,i<aa.length∧m=aN aa (i:Int)∧(aF b.ai m).reads=ca aa (H (aF b.ai m).aq) i:=fun m hm=>by
  have F:=lE hl hm;obtain⟨i,hi,e⟩:=h.key F;obtain⟨r,h1,_⟩:=F;refine⟨i,hi,e,?_⟩;have I:=(h.c.vr r (aH h1).1).2;rw [aK h1,I,(aH h1).2,e,di B hi]
 cases hc:ax k with
 | false=>
  rw [ft hc] at D o ⊢;intro m hm;rw [List.mem_singleton] at hm;subst hm;obtain⟨i,hi,e,o⟩:=o m (by simp)
  have J:=qU B hi (aD:=H (aF b.ai m).aq) (kP:=b.ab) fun a C=>by
   refine D m (by simp) a (by rw [o];exact C) fun hm=>?_;rw [List.mem_singleton] at hm;rw [e] at hm;rw [e,aW hi (by omega)] at hc
   rcases jU B hi a C with⟨n,hn,rfl⟩ | ⟨j,d,rfl,_,W,_⟩
   ·
    grind [aR,cG]
   grind [dt]
  grind [di]
 | true=>
  have O:=hl.kA hc
  have ht:∀m∈aB b.ai b.ad k,(aF b.ai m).aq=(aF b.ai k).aq:=fun m hm=>by
   rcases bD.1 hm with rfl | ⟨_,m1,m2⟩
   ·
    rfl
   have a1:=h.c.lead O m1;have a2:=h.c.lead m1.kA m2
   omega
  have Q:∀j:Nat,j<aa.length→aN aa (j:Int)∈aB b.ai b.ad k→aA aa j=true:=fun j d hm=>by
   have h1:bU b.ai b.ad (aN aa (j:Int))=true:=by grind [bD,tN.kA]
   grind [bw,aW]
  have U:∀j:Nat,j<aa.length→aN aa (j:Int)∈aB b.ai b.ad k→valOf aa (H (aF b.ai k).aq) (aN aa (j:Int))=valOf aa b.ab (aN aa (j:Int)):=fun j d hm=>by
   refine zs B (G:=fun j=>j<aa.length∧aN aa (j:Int)∈aB b.ai b.ad k) (fun j d=>⟨d.1,Q j d.1 d.2⟩) (fun j d r x hr X Y=>?_) ⟨d,hm⟩
   grind [dt,B9]
  intro m hm;obtain⟨i,hi,e,o⟩:=o m hm;have h1:=U i hi (e ▸ hm);rw [ht m hm] at o ⊢;refine⟨by rw [e];exact h1.symm,?_⟩
  have J:=qU B hi (aD:=H (aF b.ai k).aq) (kP:=b.ab) fun a C=>by grind
  grind [di]
theorem fS(rev:Int) (g:List Key) (d:Bool) (r:Rec):(aY rev g d r).value=r.value∧(aY rev g d r).changed=r.changed:=by
 unfold aY
 grind
theorem Bi.mark(W:ao aa) (h:Bi aa H on b) (hl:Live b.ai b.ad k)
  (J:∀m∈aB b.ai b.ad k,∀a∈(aF b.ai m).reads,a∉aB b.ai b.ad k→valOf aa (H (aF b.ai m).aq) a=valOf aa b.ab a∧(aw a=true∨(on a=true∧ax a=true)∨az b a=true)) :
  Bi aa H on (eG b (aB b.ai b.ad k) false):=by
 have Q:=h.fixed W hl fun m hm a d X=>(J m hm a d X).1
 generalize Y:aB b.ai b.ad k=G at Q J
 have T8:∀a ra,a∈G→ay b.ai a=some ra→ra.value=valOf aa b.ab a:=fun a ra d i=>by
  have h1:=(h.c.vr ra (aH i).1).1;have C:=(Q a d).1;rw [aK i] at C;rw [h1,(aH i).2,C]
 have O:∀r:Rec,r.key∈G→(aY b.ad G false r).aq=b.ad:=fun r hr=>by
  unfold aY
  rw [if_pos hr]
  rfl
 have D:∀r:Rec,r.key∉G→aY b.ad G false r=r:=fun r hr=>by
  unfold aY
  rw [if_neg hr]
 refine⟨⟨h.c.now,h.c.dw,fun r' o=>?_,fun r' o=>?_,fun r' o a d hi SQ F=>?_,fun r' o hc a d hi SQ F=>?_⟩,h.st.map fun r=>(cn _ _ _ r).1,fun r' o=>?_,fun r' o U=>?_⟩
 ·
  obtain⟨r,hr,rfl⟩:=List.mem_map.1 o;have h1:=h.c.B8 r hr
  by_cases e:r.key∈G
  ·
   rw [O r e,(fS _ _ _ r).2];exact⟨Int.le_refl _,by omega⟩
  rw [D r e];exact h1
 ·
  obtain⟨r,hr,rfl⟩:=List.mem_map.1 o;have h1:=h.c.vr r hr
  by_cases e:r.key∈G
  ·
   have B:=eT h.st hr;have C:=Q r.key e;rw [aK B] at C;rw [O r e,(fS _ _ _ r).1,(cn _ _ _ r).1,(cn _ _ _ r).2,h.c.now,C.1,C.2];exact h1
  rw [D r e];exact h1
 ·
  obtain⟨r,hr,rfl⟩:=List.mem_map.1 o;rw [show(eG b G false).ai=b.ai.map (aY b.ad G false) from rfl,bE] at F;obtain⟨ra,i,rfl⟩:=Option.map_eq_some_iff.1 F;have B:=eT h.st hr;rw [(cn _ _ _ r).2] at d;rw [(fS _ _ _ ra).1,(fS _ _ _ ra).2]
  show((aY b.ad G false r).aq=b.ad∧_)∨_
  by_cases e:r.key∈G
  ·
   rw [O r e]
   by_cases I:a∈G
   ·
    refine .inr fun _=>?_;rw [h.c.now];exact(T8 a ra I i).symm
   rcases(J r.key e a (by rw [aK B];exact d) I).2 with h1 | h1 | h1
   ·
    rw [hi] at h1
    cases h1
   ·
    exact .inl ⟨rfl,h1.1⟩
   refine .inr fun _=>?_;obtain⟨q,V,_,ob⟩:=h.c.up h1;rw [i] at V
   have:=Option.some.inj V
   subst this;rw [h.c.now];exact ob.symm
  rw [D r e];exact h.c.rr r hr a d hi ra i
 ·
  obtain⟨r,hr,rfl⟩:=List.mem_map.1 o;rw [show(eG b G false).ai=b.ai.map (aY b.ad G false) from rfl,bE] at F;obtain⟨ra,i,rfl⟩:=Option.map_eq_some_iff.1 F;have B:=eT h.st hr;rw [(cn _ _ _ r).2] at d;rw [(cn _ _ _ r).1] at hc
  show((aY b.ad G false r).aq=b.ad∧_)∨_
  have T9:=(aH i).2;have hle:=(h.c.B8 r hr).1
  by_cases e:r.key∈G
  ·
   rw [O r e]
   by_cases I:a∈G
   ·
    grind
   rcases(J r.key e a (by rw [aK B];exact d) I).2 with h1 | h1 | h1
   ·
    obtain⟨j,hj,ej⟩:=h.kr ra (aH i).1
    grind [ao.len,cG]
   ·
    exact .inl ⟨rfl,h1.1⟩
   obtain⟨q,V,hqv⟩:=aL.1 h1
   grind
  rw [D r e]
  rcases h.c.rs r hr hc a d hi ra i with h1 | h1
  ·
   exact .inl h1
  refine .inr ?_
  by_cases I:ra.key∈G
  ·
   grind
  grind
 ·
  obtain⟨r,hr,rfl⟩:=List.mem_map.1 o;rw [(cn _ _ _ r).1];exact h.kr r hr
 obtain⟨r,hr,rfl⟩:=List.mem_map.1 o
 by_cases e:r.key∈G
 ·
  have B:=eT h.st hr;obtain⟨q,g1,g2,_⟩:=lE hl (y:=r.key) (by rw [Y];exact e);rw [B] at g1
  have:=Option.some.inj g1
  subst this
  unfold aY at U
  grind
 rw [D r e] at U ⊢;exact h.dv r hr U
theorem Bi.bV(h:Bi aa H on b) {G:List Key}(C:∀m∈G,Live b.ai b.ad m):Bi aa H on (eG b G true):=by
 have hm:∀r:Rec,(aY b.ad G true r).aq=r.aq:=fun r=>by
  unfold aY
  grind
 refine⟨⟨h.c.now,h.c.dw,fun r' d=>?_,fun r' d=>?_,fun r' d a i hi D j=>?_,fun r' d hc a i hi D j=>?_⟩,h.st.map fun r=>(cn _ _ _ r).1,fun r' d=>?_,fun r' d o=>?_⟩
 ·
  obtain⟨r,hr,rfl⟩:=List.mem_map.1 d;rw [hm,(fS _ _ _ r).2];exact h.c.B8 r hr
 ·
  obtain⟨r,hr,rfl⟩:=List.mem_map.1 d;rw [hm,(fS _ _ _ r).1,(cn _ _ _ r).1,(cn _ _ _ r).2];exact h.c.vr r hr
 ·
  obtain⟨r,hr,rfl⟩:=List.mem_map.1 d;rw [show(eG b G true).ai=b.ai.map (aY b.ad G true) from rfl,bE] at j;obtain⟨ra,B,rfl⟩:=Option.map_eq_some_iff.1 j;rw [(cn _ _ _ r).2] at i;rw [hm,(fS _ _ _ ra).1,(fS _ _ _ ra).2];exact h.c.rr r hr a i hi ra B
 ·
  obtain⟨r,hr,rfl⟩:=List.mem_map.1 d;rw [show(eG b G true).ai=b.ai.map (aY b.ad G true) from rfl,bE] at j;obtain⟨ra,B,rfl⟩:=Option.map_eq_some_iff.1 j;rw [(cn _ _ _ r).2] at i;rw [(cn _ _ _ r).1] at hc;rw [hm,hm];exact h.c.rs r hr hc a i hi ra B
 ·
  obtain⟨r,hr,rfl⟩:=List.mem_map.1 d;rw [(cn _ _ _ r).1];exact h.kr r hr
 obtain⟨r,hr,rfl⟩:=List.mem_map.1 d;rw [hm]
 by_cases e:r.key∈G
 ·
  obtain⟨q,g1,_,g2⟩:=C _ e;rw [eT h.st hr] at g1
  have:=Option.some.inj g1
  subst this;exact g2
 unfold aY at o
 rw [if_neg e] at o;exact h.dv r hr o
theorem Bi.put(G:ao aa) (h:Bi aa H on b) {i:Nat}(hi:i<aa.length) (V:ax (aN aa (i:Int))=true→on (aN aa (i:Int))=true)
  (J:∀a∈ca aa b.ab i,aw a=true∨(on a=true∧ax a=true)∨az b a=true) :
  Bi aa H on {b with ai:=eJ b.ai (bY b (aN aa (i:Int)) (valOf aa b.ab (aN aa (i:Int))) (ca aa b.ab i))}:=by
 have CT:=G.len
 generalize o:bY b (aN aa (i:Int)) (valOf aa b.ab (aN aa (i:Int))) (ca aa b.ab i)=q
 have q1:q.key=aN aa (i:Int):=by rw [← o];rfl
 have B:q.aq=b.ad:=by rw [← o];rfl
 have O:q.value=valOf aa b.ab (aN aa (i:Int)):=by rw [← o];rfl
 have F:q.reads=ca aa b.ab i:=by rw [← o];rfl
 have Q:(∃r,ay b.ai q.key=some r∧r.value=q.value∧q.changed=r.changed)∨q.changed=b.ad:=by
  rw [← o]
  unfold bY
  simp only
  split
  ·
   rename_i hc
   simp only [Bool.and_eq_true,decide_eq_true_eq] at hc;obtain⟨r,hr⟩:=Option.isSome_iff_exists.1 hc.1;rw [aK hr] at hc ⊢;exact .inl ⟨r,hr,hc.2,rfl⟩
  exact .inr rfl
 refine⟨⟨h.c.now,h.c.dw,fun r hr=>?_,fun r hr=>?_,fun r hr a m D ra d=>?_,fun r hr hc a m D ra d=>?_⟩,mR.put h.st,fun r hr=>?_,fun r hr I=>?_⟩
 ·
  rcases eW _ _ _ _ hr with rfl | hr
  ·
   refine⟨by rw [B];exact Int.le_refl _,?_⟩
   rcases Q with⟨p,C,_,e⟩ | e
   ·
    have:=h.c.B8 p (aH C).1
    omega
   omega
  exact h.c.B8 r hr
 ·
  rcases eW _ _ _ _ hr with rfl | hr
  ·
   rw [q1,B,O,F,h.c.now,di G hi];exact⟨rfl,rfl⟩
  exact h.c.vr r hr
 ·
  rw [show({b with ai:=eJ b.ai q}:cB).ai=eJ b.ai q from rfl,ck] at d
  show(r.aq=b.ad∧_)∨_
  rcases eW _ _ _ _ hr with rfl | hr
  ·
   by_cases e:a=r.key
   ·
    refine .inl ⟨B,?_⟩;rw [e,q1];refine V ?_;rw [F] at m;rw [aW hi (by omega)]
    cases hrg:aA aa i with
    | true=>rfl
    | false=>
     rcases jU G hi a m with⟨n,hn,h1⟩ | ⟨j,U,h1,_,h5,_⟩
     ·
      grind [aR]
     grind [dt]
   rw [if_neg e] at d
   rcases J a (by rw [← F];exact m) with h1 | h1 | h1
   ·
    rw [D] at h1
    cases h1
   ·
    exact .inl ⟨B,h1.1⟩
   refine .inr fun _=>?_;obtain⟨p,C,_,W⟩:=h.c.up h1;rw [d] at C
   have:=Option.some.inj C
   subst this;rw [B,h.c.now];exact W.symm
  by_cases e:a=q.key
  ·
   rw [if_pos e] at d
   have:=Option.some.inj d
   subst this
   rcases Q with⟨p,C,e2,e3⟩ | e2
   ·
    rcases h.c.rr r hr a m D p (by rw [e];exact C) with h1 | h1
    ·
     exact .inl h1
    grind
   refine .inr fun hc=>?_;have h1:=(h.c.B8 r hr).1
   have X:r.aq=b.ad:=by omega
   rw [X,h.c.now,O,e,q1]
  rw [if_neg e] at d;exact h.c.rr r hr a m D ra d
 ·
  rw [show({b with ai:=eJ b.ai q}:cB).ai=eJ b.ai q from rfl,ck] at d
  show(r.aq=b.ad∧_)∨_
  rcases eW _ _ _ _ hr with rfl | hr
  ·
   by_cases e:a=r.key
   ·
    grind
   rw [if_neg e] at d
   rcases J a (by rw [← F];exact m) with h1 | h1 | h1
   ·
    obtain⟨j,U,Y⟩:=h.kr ra (aH d).1;rw [← (aH d).2,Y,cG U (by omega)] at h1
    cases h1
   ·
    exact .inl ⟨B,h1.1⟩
   grind [aL]
  by_cases e:a=q.key
  ·
   rw [if_pos e] at d
   have:=Option.some.inj d
   subst this
   have:=(h.c.B8 r hr).1
   exact .inr (by omega)
  rw [if_neg e] at d;exact h.c.rs r hr hc a m D ra d
 ·
  rcases eW _ _ _ _ hr with rfl | hr
  ·
   exact⟨i,hi,q1⟩
  exact h.kr r hr
 rcases eW _ _ _ _ hr with rfl | hr
 ·
  have:r.bV=false:=by rw [← o];rfl
  rw [this] at I
  cases I
 exact h.dv r hr I
end
end Go.Rc

namespace Go.Rc
open Go
def GH(val:Key→ByteArray) (b:cB) (y:Key):Prop:=∃m a,m∈aB b.ai b.ad y∧a∈(aF b.ai m).reads∧a∉aB b.ai b.ad y∧(aF b.ai m).aq<aZ val b a
def zu(val:Key→ByteArray) (b:cB) (y:Key):Prop:=aw y=false∧az b y=false∧(ay b.ai y=none∨(aF b.ai y).bV=true∨GH val b y)
section
variable {aa:List aG}{H:Int→List bW}{on:Key→Bool}{b b0:cB}{k:Key}{s t:ES}
structure Wy (aa:List aG) (b0:cB) (s:ES):Prop where
 rev:s.b.ad=b0.ad
 aD:s.b.ab=b0.ab
 ev:hM (valOf aa b0.ab) (fun _=>True) s.bG b0.ad b0.ai s.b.ai
 SS:∀y r,ay s.b.ai y=some r→r.bV=true→(aF b0.ai y).bV=true∨GH (valOf aa b0.ab) b0 y
 bG:∀y∈s.bG,zu (valOf aa b0.ab) b0 y
 ID:∀y∈s.bG,az s.b y=true
 mrk:∀y,az b0 y=false→az s.b y=true→y∈s.bG∨¬GH (valOf aa b0.ab) b0 y
 jq:s.bG.Nodup
theorem l4{val:Key→ByteArray}(hi:aw k=false) (h:ay b.ai k=none):aZ val b k=b.ad:=by grind [aZ]
theorem dy{val:Key→ByteArray}(hi:aw k=false) {r:Rec}(h:ay b.ai k=some r):aZ val b k=if r.aq=b.ad∨val k=r.value then r.changed else b.ad:=by
 unfold aZ
 rw [hi,aK h,h]
 grind
theorem Wy.changed(o:Bi aa H on s.b) (h:Wy aa b0 s) (a:Key):aZ (valOf aa b0.ab) s.b a=aZ (valOf aa b0.ab) b0 a:=by
 cases hi:aw a with
 | true=>
  unfold aZ
  rw [hi,if_pos rfl,if_pos rfl,h.aD]
 | false=>
  rcases h.ev.pt a with e | ⟨_,r,e1,e2,e3,d | d⟩ | ⟨_,e2,r',e3,d,e5,e6,B,e8⟩
  ·
   cases i:ay b0.ai a with
   | none=>grind [l4,rev]
   | some r=>rw [dy hi (e.trans i),dy hi i,h.rev]
  ·
   have hu:az s.b a=true:=aL.2 ⟨_,d,h.rev.symm⟩;obtain⟨q,j,_,m⟩:=o.c.up hu;rw [d] at j
   have:=Option.some.inj j
   subst this;rw [h.aD] at m;rw [dy hi d,dy hi e1,if_pos (.inl h.rev.symm),if_pos (.inr m.symm)]
  ·
   rw [dy hi d,dy hi e1,h.rev]
  rw [dy hi e3,if_pos (.inl (d.trans h.rev.symm))]
  cases i:ay b0.ai a with
  | none=>rw [l4 hi i,e8 i]
  | some r=>
   rw [dy hi i,B r i,e6]
   grind
theorem Wy.Nl(B:Bi aa H on s.b) (h:Wy aa b0 s) (hl:Live s.b.ai s.b.ad k) {m a:Key}(hm:m∈aB s.b.ai s.b.ad k) (j:a∈(aF s.b.ai m).reads) (d:a∉aB s.b.ai s.b.ad k)
  (hc:(aF s.b.ai m).aq<aZ (valOf aa b0.ab) s.b a):∀y∈aB s.b.ai s.b.ad k,GH (valOf aa b0.ab) b0 y:=by
 intro y hy;rw [h.rev] at hl hm d hy;obtain⟨h1,C⟩:=h.ev.group hl;rw [h1] at hm d hy;have F:=h.ev.IC hl
 have e:aF s.b.ai m=aF b0.ai m:=by
  unfold aF
  rw [C m hm]
 rw [e] at j hc
 have o:∀z,z∈aB b0.ai b0.ad y↔z∈aB b0.ai b0.ad k:=fun z=>by
  rcases bD.1 hy with rfl | ⟨i,D⟩
  ·
   exact Iff.rfl
  exact tO i D z
 exact⟨m,a,(o m).2 hm,j,fun i=>d ((o a).1 i),by rw [← h.changed B a];exact hc⟩
theorem Wy.OA(h:Wy aa b0 s) (hl:Live s.b.ai s.b.ad k) (d:∀m∈aB s.b.ai s.b.ad k,∀a∈(aF s.b.ai m).reads,a∉aB s.b.ai s.b.ad k→aZ (valOf aa b0.ab) b0 a≤(aF s.b.ai m).aq):∀y∈aB s.b.ai s.b.ad k,¬GH (valOf aa b0.ab) b0 y:=by
 rintro y hy ⟨m,a,hm,o,B,hc⟩;rw [h.rev] at hl d hy;obtain⟨h1,C⟩:=h.ev.group hl;rw [h1] at d hy
 have D:∀z,z∈aB b0.ai b0.ad y↔z∈aB b0.ai b0.ad k:=fun z=>by
  rcases bD.1 hy with rfl | ⟨i,j⟩
  ·
   exact Iff.rfl
  exact tO i j z
 have e:aF s.b.ai m=aF b0.ai m:=by grind [aF]
 grind
theorem Wy.none(h:Wy aa b0 s) (i:ay s.b.ai k=none):ay b0.ai k=none:=by
 rcases h.ev.pt k with e | ⟨_,r,e1,e2,e3,d | d⟩ | ⟨_,e2,r',e3,_⟩
 ·
  exact e.symm.trans i
 ·
  rw [i] at d;cases d
 ·
  rw [i] at d;cases d
 rw [i] at e3;cases e3
theorem hM.az{val:Key→ByteArray}{N:Key→Prop}{bG:List Key}{b b':cB}(h:hM val N bG b.ad b.ai b'.ai) (hr:b'.ad=b.ad) (hu:Rc.az b k=true):Rc.az b' k=true:=by
 obtain⟨r,h1,d⟩:=aL.1 hu
 rcases h.pt k with e | ⟨_,q,e1,e2,e3,_⟩ | ⟨_,e2,_⟩
 ·
  exact aL.2 ⟨r,e.trans h1,d.trans hr.symm⟩
 ·
  grind
 have:=e2 r h1
 omega
theorem GI{G:List Key}(hu:Rc.az b k=false) (h:Rc.az (eG b G false) k=true):k∈G:=by
 obtain⟨r',h1,d⟩:=aL.1 h;have i:(ay b.ai k).map (aY b.ad G false)=some r':=bE.symm.trans h1;obtain⟨r,hr,rfl⟩:=Option.map_eq_some_iff.1 i;have e:=(aH hr).2;refine Classical.byContradiction fun hk=>?_
 unfold aY at d
 rw [if_neg (by rw [e];exact hk)] at d
 have:=aL.2 ⟨r,hr,d⟩
 rw [hu] at this
 cases this
theorem kQ{G:List Key}:Rc.az (eG b G true) k=Rc.az b k:=by
 have e:ay (eG b G true).ai k=(ay b.ai k).map (aY b.ad G true):=bE
 have hm:∀r:Rec,(aY b.ad G true r).aq=r.aq:=fun r=>by
  unfold aY
  grind
 rw [Bool.eq_iff_iff,aL,aL,e]
 constructor
 ·
  rintro⟨r',h1,d⟩;obtain⟨r,hr,rfl⟩:=Option.map_eq_some_iff.1 h1;rw [hm] at d;exact⟨r,hr,d⟩
 rintro⟨r,h1,d⟩;exact⟨_,by rw [h1];rfl,by rw [hm];exact d⟩
theorem Ca{l:List Key}(h:l.Nodup) (hk:k∉l):(l++[k]).Nodup:=by grind
theorem Wy.step{d:ES}(h:Wy aa b0 s) (h1:d.b.ad=s.b.ad) (m:d.b.ab=s.b.ab) (i:hM (valOf aa b0.ab) (fun _=>True) d.bG b0.ad s.b.ai d.b.ai) (hr:∀y∈s.bG,y∈d.bG)
  (o:∀y r,ay d.b.ai y=some r→r.bV=true→(aF b0.ai y).bV=true∨GH (valOf aa b0.ab) b0 y) (hw:∀y∈d.bG,zu (valOf aa b0.ab) b0 y) (hn:∀y∈d.bG,y∈s.bG∨Rc.az d.b y=true)
  (hm:∀y,Rc.az s.b y=false→Rc.az d.b y=true→y∈d.bG∨¬GH (valOf aa b0.ab) b0 y) (B:d.bG.Nodup):Wy aa b0 d:=by
 have C:hM (valOf aa b0.ab) (fun _=>True) d.bG s.b.ad s.b.ai d.b.ai:=by rw [h.rev];exact i
 refine⟨h1.trans h.rev,m.trans h.aD,(h.ev.mono hr fun _ h=>h).trans i,o,hw,fun y hy=>?_,fun y hu D=>?_,B⟩
 ·
  rcases hn y hy with e | e
  ·
   exact C.az h1 (h.ID y e)
  exact e
 cases j:Rc.az s.b y with
 | true=>exact(h.mrk y hu j).imp (hr y) id
 | false=>exact hm y j D
theorem Wy.Be(h:Wy aa b0 s) (hu:az s.b k=false):az b0 k=false:=by
 cases hb:az b0 k with
 | false=>rfl
 | true=>
  have:=h.ev.az h.rev hb
  rw [hu] at this
  cases this
theorem oc{r:Rec}(h:ay b.ai k=some r) (d:r.aq<b.ad):az b k=false:=by grind [aL]
theorem Bi.answer(d:Bi aa H on b) (hk:dU aa k) (ht:aw k=true∨ax k=true∨az b k=true):cS (valOf aa b.ab) b k=valOf aa b.ab k:=by
 unfold cS
 by_cases hc:ax k=true
 ·
  rw [if_pos hc]
 rw [if_neg hc]
 unfold jw
 by_cases hi:aw k=true
 ·
  rw [if_pos hi]
  unfold valOf cellOf
  rw [if_pos hi]
 rw [if_neg hi]
 have hu:az b k=true:=by grind
 obtain⟨r,e,j,h⟩:=d.c.up hu
 have i:gg b k=true:=by grind [gg,aK]
 rw [if_pos i,aK e,h]
theorem Bi.len(d:Bi aa H on b):b.ai.length≤aa.length:=by
 have h1:(b.ai.map (·.key)).Nodup:=by
  refine List.pairwise_map.2 (d.st.imp fun {x y} h e=>?_);rw [e,fA] at h
  omega
 have j:=eV (S:=(List.range aa.length).map fun i:Nat=>aN aa (i:Int)) h1 fun x m=>by
  obtain⟨r,hr,rfl⟩:=List.mem_map.1 m;obtain⟨i,hi,e⟩:=d.kr r hr
  grind
 simpa using j
/-! ### the order of what is asked -/
theorem od(d:ao aa) {aD:List bW}{i:Nat}(hi:i<aa.length) {a:Key}(e:a∈ca aa aD i):dB aa i a∧∀m:Nat,m<aa.length→a=aN aa (m:Int)→Lw aa m (nt aa i)∧∀b,Lw aa i b→Lw aa m b:=by grind [List.mem_iff_getElem?,jT,dV,Gu,kO,iD]
theorem Cb(d:ao aa) {aD:List bW}{i:Nat}(hi:i<aa.length) (hr:aA aa i=true) {a:Key}(e:a∈ca aa aD i) (hc:ax a=true):∃j:Nat,j<aa.length∧a=aN aa (j:Int)∧ee aa i j:=by grind [List.mem_iff_getElem?,jT,dV,cR,kO,iD,gD,fM]
theorem oZ(o:ao aa) (B:Bi aa H on b) {i:Nat}(hi:i<aa.length) (C:bU b.ai b.ad (aN aa (i:Int))=true) {x:Key}(hl:bK b.ai b.ad (aN aa (i:Int)) x):∃j:Nat,j<aa.length∧x=aN aa (j:Int)∧cm aa i j:=by
 have Q:=o.len
 have step:∀(m:Nat) y,m<aa.length→bU b.ai b.ad (aN aa (m:Int))=true→Ld b.ai b.ad (aN aa (m:Int)) y→∃j:Nat,j<aa.length∧y=aN aa (j:Int)∧ee aa m j:=by
  intro m y hm D hy;obtain⟨r,h1,d,e,h⟩:=bw.1 D;obtain⟨q,g1,g2,_⟩:=bw.1 hy.2;have F:=hy.1;rw [aK h1,(B.c.vr r (aH h1).1).2,(aH h1).2,di o hm] at F
  grind [aW,Cb]
 induction hl with
 | one h1=>
  obtain⟨j,d,e,h⟩:=step i _ hi C h1;exact⟨j,d,e,.step .refl h⟩
 | step h1 d G=>
  obtain⟨j,e,rfl,h⟩:=G;obtain⟨q,I,J,O⟩:=step j _ e h1.kA d;exact⟨q,I,J,.step h O⟩
theorem GJ(d:ao aa) (m:Bi aa H on b) {i j:Nat}(hi:i<aa.length) (h:j<aa.length) (hl:Live b.ai b.ad (aN aa (i:Int))) (hm:aN aa (j:Int)∈aB b.ai b.ad (aN aa (i:Int))):nt aa j=nt aa i∧∀b,Lw aa i b→Lw aa j b:=by
 have G:=d.len
 rcases bD.1 hm with e | ⟨o,m1,m2⟩
 ·
  have:=dt d h hi e
  grind
 obtain⟨q,B,eq,h1⟩:=oZ d m hi o m1
 have:=dt d h B eq
 subst this;obtain⟨p,C,D,F⟩:=oZ d m h m1.kA m2
 have:=dt d hi C D
 subst this;have I:=iy d h1;have J:=iy d F;obtain⟨_,_,c1,_⟩:=bw.1 o;obtain⟨_,_,c2,_⟩:=bw.1 m1.kA;rw [aW hi (by omega)] at c1;rw [aW h (by omega)] at c2
 unfold nt Lw
 grind
end
/-! ### a request -/
section
variable {aa:List aG}{H:Int→List bW}{b0:cB}
theorem xy(rev:Int) (G:List Key) (r:Rec):(aY rev G false r).bV=r.bV:=by
 unfold aY
 grind
end
end Go.Rc

namespace Go.Rc
open Go
def Bh(aa:List aG) (b:cB):Prop:=∃H:Int→List bW,Bi aa H (fun _=>false) b
section
variable {aa:List aG}{H:Int→List bW}{on:Key→Bool}{x y b:cB}{k:Key}
theorem Bh.new(aa:List aG) (rev:Int) (aD:List bW):Bh aa ⟨rev,aD,[]⟩:=
 ⟨fun _=>aD,⟨⟨rfl,fun _ _ _ _ _=>rfl,fun r hr=>(by cases hr),fun r hr=>(by cases hr),fun r hr=>(by cases hr),fun r hr=>(by cases hr)⟩,List.Pairwise.nil,fun r hr=>(by cases hr),fun r hr=>(by cases hr)⟩⟩
theorem Bi.drop(h:Bi aa H on b) {rs:List Rec}(d:rs.Sublist b.ai) (C:∀r∈rs,on r.key=false):Bi aa H (fun _=>false) {b with ai:=rs}:=by
 have o:mR rs:=h.st.sublist d
 have j:∀a ra,ay rs a=some ra→ay b.ai a=some ra:=fun a ra e=>by
  obtain⟨h1,m⟩:=aH e
  grind [eT,st]
 refine⟨⟨h.c.now,h.c.dw,fun r hr=>h.c.B8 r (d.subset hr),fun r hr=>h.c.vr r (d.subset hr),fun r hr a i hi ra e=>?_,fun r hr hc a i hi ra e=>?_⟩,o,fun r hr=>h.kr r (d.subset hr),fun r hr=>h.dv r (d.subset hr)⟩
 ·
  rcases h.c.rr r (d.subset hr) a i hi ra (j a ra e) with⟨_,h1⟩ | h1
  ·
   obtain⟨m,B⟩:=aH e
   grind
  exact .inr h1
 rcases h.c.rs r (d.subset hr) hc a i hi ra (j a ra e) with⟨_,h1⟩ | h1
 ·
  obtain⟨m,B⟩:=aH e
  grind
 exact .inr h1
theorem Bh.apply(h:Bh aa x) (hr:y.ai=x.ai) (B:y.ad=x.ad+1) (hk:∀k,bf y.ab k=bf x.ab k∨(bf y.ab k).changed=y.ad):Bh aa y:=by
 obtain⟨H,h⟩:=h;have hH:∀t,t≤x.ad→(if t≤x.ad then H t else y.ab)=H t:=fun t ht=>if_pos ht;refine⟨fun t=>if t≤x.ad then H t else y.ab,⟨⟨?_,fun k t hi h1 i=>?_,fun r d=>?_,fun r d=>?_,fun r d a m hi ra j=>?_,fun r d hc a m hi ra j=>?_⟩,by rw [hr];exact h.st,by rw [hr];exact h.kr,fun r d o=>?_⟩⟩
 ·
  grind
 ·
  by_cases ht:t≤x.ad
  ·
   show cellOf (if t≤x.ad then H t else y.ab) k=_
   rw [if_pos ht]
   rcases hk k with e | e
   ·
    rw [e] at h1;rw [h.c.dw k t hi h1 ht]
    unfold cellOf
    rw [e]
   omega
  grind
 ·
  rw [hr] at d
  have:=h.c.B8 r d
  omega
 ·
  rw [hr] at d;have h1:=h.c.B8 r d;rw [hH _ h1.1];exact h.c.vr r d
 ·
  rw [hr] at d j;have h1:=h.c.B8 r d;rw [hH _ h1.1]
  rcases h.c.rr r d a m hi ra j with⟨_,i⟩ | i
  ·
   cases i
  exact .inr i
 ·
  rw [hr] at d j
  rcases h.c.rs r d hc a m hi ra j with⟨_,i⟩ | i
  ·
   cases i
  exact .inr i
 rw [hr] at d
 have:=h.dv r d o
 omega
theorem Wy.start(b:cB):Wy aa b ⟨b,[],[],0⟩:=⟨rfl,rfl,.refl _,fun y r e h=>.inl (by rw [aK e];exact h),fun y hy=>(by cases hy),fun y hy=>(by cases hy),fun y h1 d=>(by rw [h1] at d;cases d),List.nodup_nil⟩
end
end Go.Rc

namespace Go.Rc
open Go
def ew(l:List bZ) (b:cB) (a:Key):Prop:=aw a=true∨(fe l a=true∧ax a=true)∨az b a=true
section
variable {x b b':cB}{l l' p q:List bZ}{f g:bZ}{k a:Key}
theorem fO:da x l k=false↔aw k=true∨fe l k=true∨az x k=true:=by
 unfold da az
 grind
theorem fT:bF x l [] k=if (!ax k && fe l k)=true then 3 else if da x l k=true then 1 else 0:=by grind [bF,fe]
theorem mB(h1:bF x l [] k≠1) (e:bF x l [] k≠3):ew l x k:=by
 rw [fT] at h1 e
 by_cases d:(!ax k && fe l k)=true
 ·
  grind
 rw [if_neg d] at h1
 by_cases hn:da x l k=true
 ·
  grind
 rcases fO.1 (by simpa using hn) with h | h | h
 ·
  exact .inl h
 ·
  exact .inr (.inl ⟨h,by rw [h] at d;simpa using d⟩)
 exact .inr (.inr h)
theorem qW(h:bF x l [] k=1):fe l k=false∧aw k=false∧az x k=false:=by
 rw [fT] at h
 by_cases d:(!ax k && fe l k)=true
 ·
  rw [if_pos d] at h;cases h
 rw [if_neg d] at h
 by_cases hn:da x l k=true
 ·
  have e:¬(aw k=true∨fe l k=true∨az x k=true):=fun h=>by grind [fO]
  grind
 rw [if_neg hn] at h;cases h
theorem zv(h:bF x l [] k=3):ax k=false∧fe l k=true:=by
 rw [fT] at h
 grind
theorem dW:fe (p++q) k=(fe p k || fe q k):=by simp [fe]
theorem i1:fe [f] k=decide (f.key=k):=by simp [fe]
theorem zw{z:bZ}{p1:List bZ}(h:p++[z]=p1++g::q):(q=[]∧p1=p∧g=z)∨∃d,q=d++[z]∧p=p1++g::d:=by
 rcases List.eq_nil_or_concat q with rfl | ⟨d,y,rfl⟩
 ·
  simp_all
 rw [List.concat_eq_append,← List.cons_append,← List.append_assoc] at h;obtain⟨h1,e⟩:=List.append_inj' h rfl
 grind
end
inductive FS (aa:List aG) (val:Key→ByteArray) (b:cB) (p:List bZ) (f:bZ):cB→List bZ→List Key→Int→Prop where
 | stay:FS aa val b p f b (p++[f]) [] 0
 | full:f.running=true→(aM aa f.key f.ae).done=true→(!(ay b.ai f.key).isSome && decide (4000≤b.ai.length))=true→FS aa val b p f b (p++[f]) [] 45
 | put:f.running=true→(aM aa f.key f.ae).done=true→FS aa val b p f {b with ai:=eJ b.ai (bY b f.key (aM aa f.key f.ae).value f.reads)} p [f.key] 0
 | push:f.running=true→(aM aa f.key f.ae).done=false→bF b (p++[f]) [] (aM aa f.key f.ae).ask=1→FS aa val b p f b (p++[f]++[⟨(aM aa f.key f.ae).ask,false,0,[],[]⟩]) [] 0
 | Nk:f.running=true→(aM aa f.key f.ae).done=false→bF b (p++[f]) [] (aM aa f.key f.ae).ask=3→FS aa val b p f b (p++[f]) [] 43
 | read:f.running=true→(aM aa f.key f.ae).done=false→bF b (p++[f]) [] (aM aa f.key f.ae).ask≠1→bF b (p++[f]) [] (aM aa f.key f.ae).ask≠3→
   FS aa val b p f b (p++[{f with reads:=f.reads++[(aM aa f.key f.ae).ask],ae:=f.ae++[cS val b (aM aa f.key f.ae).ask]}]) [] 0
 | up:f.running=false→az b f.key=true→FS aa val b p f b p [] 0
 | start:f.running=false→az b f.key=false→(ay b.ai f.key=none∨(aF b.ai f.key).bV=true)→FS aa val b p f b (p++[{f with running:=true,at_:=0}]) [] 0
 | mark:f.running=false→Live b.ai b.ad f.key→(cj b.ai (aB b.ai b.ad f.key)).length≤f.at_.toNat→FS aa val b p f (eG b (aB b.ai b.ad f.key) false) p [] 0
 | o0 (c:oU):f.running=false→Live b.ai b.ad f.key→(cj b.ai (aB b.ai b.ad f.key))[f.at_.toNat]?=some c→bF b (p++[f]) [] c.read=1→FS aa val b p f b (p++[f]++[⟨c.read,false,0,[],[]⟩]) [] 0
 | Kb (c:oU):f.running=false→Live b.ai b.ad f.key→(cj b.ai (aB b.ai b.ad f.key))[f.at_.toNat]?=some c→bF b (p++[f]) [] c.read=3→FS aa val b p f b (p++[f]) [] 43
 | pass (c:oU):f.running=false→Live b.ai b.ad f.key→(cj b.ai (aB b.ai b.ad f.key))[f.at_.toNat]?=some c→bF b (p++[f]) [] c.read≠1→bF b (p++[f]) [] c.read≠3→
   aZ val b c.read≤(aF b.ai c.fm).aq→FS aa val b p f b (p++[{f with at_:=f.at_+1}]) [] 0
 | fail (c:oU):f.running=false→Live b.ai b.ad f.key→(cj b.ai (aB b.ai b.ad f.key))[f.at_.toNat]?=some c→bF b (p++[f]) [] c.read≠1→bF b (p++[f]) [] c.read≠3→
   (aF b.ai c.fm).aq<aZ val b c.read→FS aa val b p f (if ax f.key then eG b (aB b.ai b.ad f.key) true else b) (p++[{f with running:=true,at_:=0}]) [] 0
section
variable {aa:List aG}{H:Int→List bW}{b0 b b':cB}{p q l l':List bZ}{f g:bZ}{bG:List Key}
structure FI (aa:List aG) (H:Int→List bW) (b0 b:cB) (p:List bZ) (f:bZ):Prop where
 key:∃i:Nat,i<aa.length∧f.key=aN aa (i:Int)
 new:fe p f.key=false
 low:∀i j:Nat,i<aa.length→j<aa.length→f.key=aN aa (i:Int)→fe p (aN aa (j:Int))=true→Lw aa i (nt aa j)
 run:f.running=true→bU b.ai b.ad f.key=false∧az b f.key=false∧zu (valOf aa b0.ab) b0 f.key∧(∀i:Nat,i<aa.length→f.key=aN aa (i:Int)→∃n,n≤bQ aa i∧f.reads=(dc (bN aa f.key) (valOf aa b0.ab) n).1∧f.ae=(dc (bN aa f.key) (valOf aa b0.ab) n).2)∧∀a∈f.reads,ew (p++[f]) b a
 BV:f.running=false→f.reads=[]∧f.ae=[]∧0≤f.at_∧(Live b.ai b.ad f.key→∀j c,j<f.at_.toNat→(cj b.ai (aB b.ai b.ad f.key))[j]?=some c→valOf aa (H (aF b.ai c.fm).aq) c.read=valOf aa b0.ab c.read∧ew (p++[f]) b c.read∧aZ (valOf aa b0.ab) b0 c.read≤(aF b.ai c.fm).aq)
structure TI (aa:List aG) (H:Int→List bW) (b0 b:cB) (l:List bZ) (bG:List Key):Prop where
 bi:Bi aa H (fun y=>fe l y && ax y) b
 wy:Wy aa b0 ⟨b,[],bG,0⟩
 fr:∀p f q,l=p++f::q→FI aa H b0 b p f
 nr:∀f∈l,f.key∉bG∧az b0 f.key=false
theorem ew.kK{N:Key→Prop}{a:Key}(h:ew l b a) (d:hM (valOf aa b0.ab) N bG b.ad b.ai b'.ai) (hr:b'.ad=b.ad):ew l b' a:=
 h.imp id (Or.imp id (d.az hr))
theorem ew.mono{a:Key}(h:ew l b a) (d:∀k,fe l k=true→fe l' k=true):ew l' b a:=h.imp id (Or.imp (fun⟨x,y⟩=>⟨d _ x,y⟩) id)
theorem FI.kK{N:Key→Prop}(h:FI aa H b0 b p g) (d:hM (valOf aa b0.ab) N bG b.ad b.ai b'.ai) (hr:b'.ad=b.ad) (C:¬N g.key):FI aa H b0 b' p g:=by
 refine⟨h.key,h.new,h.low,fun i=>?_,fun i=>?_⟩
 ·
  obtain⟨h1,B,m,o,D⟩:=h.run i
  have I:ay b'.ai g.key=ay b.ai g.key:=by
   rcases d.pt g.key with e | ⟨e0,r,e1,e2,e3,_⟩ | ⟨⟨_,e0⟩,_⟩
   ·
    exact e
   ·
    grind [bw]
   exact absurd e0 C
  refine⟨?_,?_,m,o,fun a F=>(D a F).kK d hr⟩
  ·
   grind [bU,aF]
  grind [az,aF]
 obtain⟨h1,B,m,o⟩:=h.BV i;refine⟨h1,B,m,fun hl j c G hc=>?_⟩;rw [hr] at hl hc;rw [d.Ka hl] at hc;obtain⟨p1,p2,p3⟩:=o (d.IC hl) j c G hc;have hm:=(dO.1 (List.mem_of_getElem? hc)).1
 have e:aF b'.ai c.fm=aF b.ai c.fm:=by
  unfold aF
  rw [(d.group hl).2 _ hm]
 rw [e];exact⟨p1,p2.kK d hr,p3⟩
theorem TI.top(h:TI aa H b0 b (p++[f]) bG):FI aa H b0 b p f:=h.fr p f [] rfl
theorem TI.under(h:TI aa H b0 b (p++[f]) bG) {p1:List bZ}(d:p=p1++g::q):FI aa H b0 b p1 g∧g.key≠f.key:=by
 refine⟨h.fr p1 g (q++[f]) (by rw [d];simp),fun e=>?_⟩;have h1:=h.top.new
 grind [fe]
theorem TI.snoc(h:∀p1 g q,p=p1++g::q→FI aa H b0 b p1 g) (d:FI aa H b0 b p f):∀p1 g q,p++[f]=p1++g::q→FI aa H b0 b p1 g:=fun p1 g q e=>by grind [zw]
theorem mC(Q:ao aa) {rk:List Key}{er:Int}(h:TI aa H b0 b (p++[f]) bG) (X:Good aa b0.ab ⟨b,[],[],0⟩) (hs:FS aa (valOf aa b0.ab) b p f b' l' rk er):er=0∧TI aa H b0 b' l' (bG++rk):=by
 have CT:=Q.len;have G:=h.bi;have d:=h.wy;have hrv:b.ad=b0.ad:=d.rev;have dw:b.ab=b0.ab:=d.aD;have hT:=h.top;obtain⟨i,hi,C⟩:=hT.key
 have BQ:aw f.key=false:=by grind [cG]
 have hor:∀j:Nat,j<aa.length→fe (p++[f]) (aN aa (j:Int))=true→j=i∨Lw aa i (nt aa j):=fun j o U=>by
  rw [dW,i1] at U;simp only [Bool.or_eq_true,decide_eq_true_eq] at U
  rcases U with U | U
  ·
   exact .inr (hT.low i j hi o C U)
  grind [dt]
 have Kc:∀{b2:cB}{D:List Key},hM (valOf aa b0.ab) (fun y=>y=f.key) D b.ad b.ai b2.ai→(∀y∈bG,y∈D)→b2.ad=b.ad→b2.ab=b.ab→(∀y r,ay b2.ai y=some r→r.bV=true→(aF b0.ai y).bV=true∨GH (valOf aa b0.ab) b0 y)→(∀y∈D,zu (valOf aa b0.ab) b0 y)→(∀y∈D,y∈bG∨az b2 y=true)→(∀y,az b y=false→az b2 y=true→y∈D∨¬GH (valOf aa b0.ab) b0 y)→D.Nodup→Wy aa b0 ⟨b2,[],D,0⟩:=fun I Bf h1 B V J h5 h6 h7=>
  d.step h1 B (by rw [← hrv];exact I.mono (fun _ h=>h) fun _ _=>trivial) Bf V J h5 h6 h7
 -- a frame is Ua
 have OB:∀a,dU aa a→bF b (p++[f]) [] a=1→(∀m:Nat,m<aa.length→a=aN aa (m:Int)→∀j:Nat,j<aa.length→fe (p++[f]) (aN aa (j:Int))=true→Lw aa m (nt aa j))→TI aa H b0 b (p++[f]++[⟨a,false,0,[],[]⟩]) bG:=fun a CU hl Cc=>by
  obtain⟨h1,B,V⟩:=qW hl;obtain⟨m,hm,ham,_⟩:=CU.fW B;refine⟨G.T7 fun y hy=>?_,d,TI.snoc h.fr ⟨⟨m,hm,ham⟩,h1,fun m' j hm' o e U=>Cc m' hm' e j o U,(fun hc=>by cases hc),fun _=>⟨rfl,rfl,Int.le_refl _,fun _ j c o=>by simp at o⟩⟩,fun g X=>?_⟩
  rotate_left
  ·
   rcases List.mem_append.1 X with X | X
   ·
    exact h.nr g X
   rw [List.mem_singleton] at X;subst X;refine⟨fun hr=>?_,d.Be V⟩
   have:=d.ID a hr
   grind
  rw [Bool.and_eq_true] at hy ⊢;rw [dW,hy.1];exact⟨rfl,hy.2⟩
 -- the last frame is SU one of the same key
 have DR:∀{g:bZ}{b2:cB}{D:List Key},g.key=f.key→Bi aa H (fun y=>fe (p++[f]) y && ax y) b2→Wy aa b0 ⟨b2,[],D,0⟩→hM (valOf aa b0.ab) (fun y=>y=f.key) D b.ad b.ai b2.ai→b2.ad=b.ad→(∀y∈D,y∈bG)→FI aa H b0 b2 p g→TI aa H b0 b2 (p++[g]) D:=fun {g b2 D} hk W OC I hr Bf hF=>by
  refine⟨?_,OC,TI.snoc (fun p1 g q hp=>?_) hF,fun q Y=>?_⟩
  ·
   have e:(fun y=>fe (p++[g]) y && ax y)=fun y=>fe (p++[f]) y && ax y:=by
    funext y
    grind [dW,i1]
   rw [e];exact W
  ·
   obtain⟨h1,B⟩:=h.under hp;exact h1.kK I hr B
  rcases List.mem_append.1 Y with Y | Y
  ·
   have:=h.nr q (List.mem_append_left _ Y)
   grind
  rw [List.mem_singleton] at Y;subst Y
  have:=h.nr f (by simp)
  grind
 have GK:∀{g:bZ},g.key=f.key→∀k,fe (p++[f]) k=true→fe (p++[g]) k=true:=fun hk k CV=>by grind [dW,i1]
 -- the last frame is done
 have Ke:∀{b2:cB}{D:List Key},Bi aa H (fun y=>fe (p++[f]) y && ax y) b2→az b2 f.key=true→Wy aa b0 ⟨b2,[],D,0⟩→hM (valOf aa b0.ab) (fun y=>y=f.key) D b.ad b.ai b2.ai→b2.ad=b.ad→(∀y∈D,y∈bG∨y=f.key)→TI aa H b0 b2 p D:=fun {b2 D} W hu OC I hr Bf=>by
  refine⟨W.off hu fun y hy=>?_,OC,fun p1 g q hp=>?_,fun g X=>?_⟩
  ·
   rw [Bool.and_eq_true,dW,i1] at hy
   grind
  ·
   obtain⟨h1,B⟩:=h.under hp;exact h1.kK I hr B
  have h1:=h.nr g (List.mem_append_left _ X);refine⟨fun V=>?_,h1.2⟩
  rcases Bf _ V with J | J
  ·
   exact h1.1 J
  obtain⟨p1,q1,hp⟩:=List.append_of_mem X;exact(h.under hp).2 J
 have DS:∀n,f.ae=(dc (bN aa f.key) (valOf aa b0.ab) n).2→aM aa f.key f.ae=bN aa (aN aa (i:Int)) (pI aa b0.ab i n):=fun n hn=>by
  rw [hn,C,cY hi (by omega)]
  rfl
 have Ub:∀{y},fe (p++[f]) y=true→∃j:Nat,j<aa.length∧y=aN aa (j:Int):=fun {y} hy=>by
  rw [dW,i1] at hy;simp only [Bool.or_eq_true,decide_eq_true_eq] at hy
  rcases hy with hy | hy
  ·
   unfold fe at hy
   obtain⟨g,Ng,hgy⟩:=List.any_eq_true.1 hy;obtain⟨p1,q1,hp⟩:=List.append_of_mem Ng;obtain⟨j,o,e⟩:=(h.under hp).1.key
   grind
  grind
 have adh:∀a,(∀m:Nat,m<aa.length→a=aN aa (m:Int)→∀j:Nat,j<aa.length→fe (p++[f]) (aN aa (j:Int))=true→Lw aa m (nt aa j))→bF b (p++[f]) [] a≠3:=fun a Cc hl=>by
  obtain⟨h1,B⟩:=zv hl;obtain⟨j,o,rfl⟩:=Ub B;have V:=Cc j o rfl j o B
  grind [aW,Lw,nt]
 have OD:∀n,n<bQ aa i→∀m:Nat,m<aa.length→iD aa b0.ab i n=aN aa (m:Int)→∀j:Nat,j<aa.length→fe (p++[f]) (aN aa (j:Int))=true→Lw aa m (nt aa j):=fun n hn m hm e j o U=>by
  obtain⟨h1,B⟩:=(od Q hi (List.mem_of_getElem? (dV (aD:=b0.ab) hn))).2 m hm e
  grind
 have aaw:Live b.ai b.ad f.key→∀c∈cj b.ai (aB b.ai b.ad f.key),dU aa c.read∧∀m:Nat,m<aa.length→c.read=aN aa (m:Int)→∀j:Nat,j<aa.length→fe (p++[f]) (aN aa (j:Int))=true→Lw aa m (nt aa j):=fun hl c hc=>by
  obtain⟨hm,F,IE⟩:=dO.1 hc;obtain⟨j,o,ej⟩:=G.key (lE hl hm);obtain⟨rm,g1,g2,g3⟩:=lE hl hm;have h1:=(G.c.vr rm (aH g1).1).2;rw [(aH g1).2,ej,di Q o] at h1;rw [aK g1,h1] at F;have Cc:=od Q o F;refine⟨Cc.1.yN Q,fun m ss e q Y U=>?_⟩;obtain⟨J,h5⟩:=Cc.2 m ss e;rw [C] at hl hm;obtain⟨g4,g5⟩:=GJ Q G hi o hl (ej ▸ hm)
  grind
 have adi:∀{a},ew (p++[f]) b a→aw a=true∨((fe (p++[f]) a && ax a)=true∧ax a=true)∨az b a=true:=fun {a} h=>h.imp id (Or.imp (fun⟨x,y⟩=>⟨by rw [x,y];rfl,y⟩) id)
 have zx:∀{b2:cB},f.running=false→Bi aa H (fun y=>fe (p++[f]) y && ax y) b2→Wy aa b0 ⟨b2,[],bG,0⟩→hM (valOf aa b0.ab) (fun y=>y=f.key) bG b.ad b.ai b2.ai→b2.ad=b.ad→bU b2.ai b2.ad f.key=false→az b2 f.key=false→zu (valOf aa b0.ab) b0 f.key→TI aa H b0 b2 (p++[{f with running:=true,at_:=0}]) bG:=fun {b2} hr W OC I Uc U hu hw=>by
  obtain⟨c1,c2,_,_⟩:=hT.BV hr;refine DR (g:={f with running:=true,at_:=0}) rfl W OC I Uc (fun _ h=>h) ⟨⟨i,hi,C⟩,hT.new,hT.low,fun _=>⟨U,hu,hw,fun j o e=>⟨0,Nat.zero_le _,c1,c2⟩,fun a F=>?_⟩,fun hc=>by cases hc⟩
  grind
 have xz:Live b.ai b.ad f.key→az b f.key=false:=fun⟨r,h1,_,B⟩=>oc h1 B
 cases hs with
 | stay=>grind
 | full hr O hn=>
  have:=G.len
  simp at hn
  omega
 | put hr O=>
  obtain⟨h1,B,V,J,h5⟩:=hT.run hr;obtain⟨n,hn,wB,Kf⟩:=J i hi C;have ht:=DS n Kf
  have hnq:n=bQ aa i:=by grind [Bb]
  rw [hnq,Bc Q hi] at ht
  have Kg:f.reads=ca aa b0.ab i:=by
   rw [wB,hnq,C]
   rfl
  have hm:bY b f.key (aM aa f.key f.ae).value f.reads=bY b (aN aa (i:Int)) (valOf aa b0.ab (aN aa (i:Int))) (ca aa b0.ab i):=by rw [ht,Kg,C]
  rw [hm];have W:=G.put Q hi (fun hc=>by grind [dW,i1]) (by grind);rw [dw] at W
  have W:Bi aa H (fun y=>fe (p++[f]) y && ax y) ⟨b.ad,b.ab,eJ b.ai (bY b (aN aa (i:Int)) (valOf aa b0.ab (aN aa (i:Int))) (ca aa b0.ab i))⟩:=by rw [dw];exact W
  have I:hM (valOf aa b0.ab) (fun y=>y=f.key) (bG++[f.key]) b.ad b.ai (eJ b.ai (bY b (aN aa (i:Int)) (valOf aa b0.ab (aN aa (i:Int))) (ca aa b0.ab i))):=by
   rw [C] at h1 B;refine hM.put h1 (fun r hr=>?_) ⟨by simp [bY,C],C.symm⟩ rfl rfl rfl (fun r hr=>?_) fun hn=>?_
   ·
    have h1:=(G.c.B8 r (aH hr).1).1
    have h6:r.aq≠b.ad:=fun e=>by
     have:az b (aN aa (i:Int))=true:=aL.2 ⟨r,hr,e⟩
     grind
    omega
   ·
    have SX:ay b.ai (aN aa (i:Int))=some r:=hr
    unfold bY
    simp only [SX,aK SX]
    grind
   grind [bY]
  have oe:az {b with ai:=eJ b.ai (bY b (aN aa (i:Int)) (valOf aa b0.ab (aN aa (i:Int))) (ca aa b0.ab i))} f.key=true:=by
   rw [C];exact jS (r:=bY b (aN aa (i:Int)) (valOf aa b0.ab (aN aa (i:Int))) (ca aa b0.ab i)) rfl
  refine⟨rfl,Ke W oe (Kc I (fun y hy=>by simp [hy]) rfl rfl (fun y r hf O=>?_) (fun y hy=>?_) (fun y hy=>?_) (fun y hu SY=>?_) (Ca d.jq fun hr=>by have:=d.ID _ hr;rw [B] at this;cases this)) I rfl fun y hy=>by simpa using hy⟩
  ·
   have IF:ay (eJ b.ai (bY b (aN aa (i:Int)) (valOf aa b0.ab (aN aa (i:Int))) (ca aa b0.ab i))) y=some r:=hf;rw [ck] at IF
   split at IF
   ·
    have:=Option.some.inj IF
    subst this
    cases O
   exact d.SS y r IF O
  ·
   rcases List.mem_append.1 hy with hy | hy
   ·
    exact d.bG y hy
   grind
  ·
   grind
  refine .inl ?_
  by_cases e:y=f.key
  ·
   rw [e]
   simp
  obtain⟨r,hr,hv⟩:=aL.1 SY;have SX:ay (eJ b.ai (bY b (aN aa (i:Int)) (valOf aa b0.ab (aN aa (i:Int))) (ca aa b0.ab i))) y=some r:=hr;rw [ck,if_neg (show ¬y=(bY b (aN aa (i:Int)) (valOf aa b0.ab (aN aa (i:Int))) (ca aa b0.ab i)).key from fun h=>e (h.trans C.symm))] at SX
  grind [aL]
 | push hr O hl=>
  obtain⟨h1,B,V,J,h5⟩:=hT.run hr;obtain⟨n,hn,wB,Kf⟩:=J i hi C;have ht:=DS n Kf
  have oQ:n<bQ aa i:=by grind [Bc]
  rw [Bb Q hi oQ] at ht;rw [ht] at hl ⊢;rw [List.append_nil];exact⟨rfl,OB _ (xw Q hi oQ) hl (OD n oQ)⟩
 | Nk hr O hl=>
  obtain⟨h1,B,V,J,h5⟩:=hT.run hr;obtain⟨n,hn,wB,Kf⟩:=J i hi C
  grind [Bc,Bb]
 | read hr O FX Cd=>
  obtain⟨h1,B,V,J,h5⟩:=hT.run hr;obtain⟨n,hn,wB,Kf⟩:=J i hi C;have ht:=DS n Kf
  have oQ:n<bQ aa i:=by grind [Bc]
  rw [Bb Q hi oQ] at ht;rw [ht] at FX Cd ⊢;rw [List.append_nil];have Ud:=mB FX Cd
  have Ue:cS (valOf aa b0.ab) b (iD aa b0.ab i n)=valOf aa b0.ab (iD aa b0.ab i n):=by
   rw [← dw];refine G.answer (by grind [xw]) ?_
   grind
  refine⟨rfl,DR (g:={f with reads:=f.reads++[iD aa b0.ab i n],ae:=f.ae++[cS (valOf aa b0.ab) b (iD aa b0.ab i n)]}) rfl G d (.refl _) rfl (fun _ h=>h) ⟨⟨i,hi,C⟩,hT.new,hT.low,fun _=>⟨h1,B,V,fun j o e=>?_,fun a F=>?_⟩,fun hc=>?_⟩⟩
  ·
   have:=dt Q o hi (e.symm.trans C)
   subst this;refine⟨n+1,oQ,?_,?_⟩
   ·
    show f.reads++[iD aa b0.ab j n]=_
    rw [wB,C]
    rfl
   show f.ae++[cS (valOf aa b0.ab) b (iD aa b0.ab j n)]=_
   rw [Ue,Kf,C]
   rfl
  ·
   rcases List.mem_append.1 F with F | F
   ·
    exact(h5 a F).mono (GK rfl)
   rw [List.mem_singleton] at F;rw [F];exact Ud.mono (GK rfl)
  grind
 | up hr hu=>
  rw [List.append_nil];exact⟨rfl,Ke G hu d (.refl _) rfl fun _ h=>.inl h⟩
 | start hr hu hx=>
  rw [List.append_nil];refine⟨rfl,zx hr G d (.refl _) rfl ?_ hu ⟨BQ,d.Be hu,?_⟩⟩
  ·
   rw [Bool.eq_false_iff]
   grind [bw,aK]
  cases hf:ay b.ai f.key with
  | none=>exact .inl (d.none hf)
  | some r=>
   refine .inr ?_
   rcases hx with hx | hx
   ·
    rw [hf] at hx
    cases hx
   rw [aK hf] at hx;exact d.SS _ r hf hx
 | mark hr hl hn=>
  obtain⟨c1,c2,c3,c4⟩:=hT.BV hr;have c4:=c4 hl;have I:hM (valOf aa b0.ab) (fun y=>y=f.key) bG b.ad b.ai (eG b (aB b.ai b.ad f.key) false).ai:=hM.mark hl false (.inr rfl)
  have W:=G.mark Q hl fun m hm a F IE=>by
   have uT:(⟨m,a⟩:oU)∈cj b.ai (aB b.ai b.ad f.key):=dO.2 ⟨hm,F,IE⟩;obtain⟨j,o⟩:=List.mem_iff_getElem?.1 uT;have h1:=(List.getElem?_eq_some_iff.1 o).1;obtain⟨B,V,_⟩:=c4 j ⟨m,a⟩ (by omega) o
   grind
  have BO:=d.OA hl fun m hm a F IE=>by
   have uT:(⟨m,a⟩:oU)∈cj b.ai (aB b.ai b.ad f.key):=dO.2 ⟨hm,F,IE⟩;obtain⟨j,o⟩:=List.mem_iff_getElem?.1 uT
   grind
  rw [List.append_nil];refine⟨rfl,Ke W ?_ (Kc I (fun _ h=>h) rfl rfl (fun y r' hf O=>?_) d.bG (fun _ h=>.inl h) (fun y hu SY=>.inr (BO y (GI hu SY))) d.jq) I rfl fun _ h=>.inl h⟩
  ·
   obtain⟨r,h1,_⟩:=hl
   grind [gh,fq]
  have IF:(ay b.ai y).map (aY b.ad (aB b.ai b.ad f.key) false)=some r':=bE.symm.trans hf;obtain⟨r,hr,rfl⟩:=Option.map_eq_some_iff.1 IF;rw [xy] at O;exact d.SS y r hr O
 | o0 c hr hl hc hk=>grind
 | Kb c hr hl hc hk=>grind
 | pass c hr hl hc yO CW hle=>
  obtain⟨c1,c2,c3,c4⟩:=hT.BV hr;have Ud:=mB yO CW;rw [List.append_nil];refine⟨rfl,DR (g:={f with at_:=f.at_+1}) rfl G d (.refl _) rfl (fun _ h=>h) ⟨⟨i,hi,C⟩,hT.new,hT.low,fun hc=>?_,fun _=>⟨c1,c2,by show 0≤f.at_+1;omega,fun _ j c' o hcj=>?_⟩⟩⟩
  ·
   grind
  have hj':j<f.at_.toNat+1:=by grind
  rcases Nat.lt_or_ge j f.at_.toNat with oQ | Nn
  ·
   obtain⟨p1,p2,p3⟩:=c4 hl j c' oQ hcj;exact⟨p1,p2.mono (GK rfl),p3⟩
  have e:j=f.at_.toNat:=by omega
  subst e;have OE:(cj b.ai (aB b.ai b.ad f.key))[f.at_.toNat]?=some c':=hcj;rw [hc] at OE
  have:=Option.some.inj OE
  subst this;refine⟨?_,Ud.mono (GK rfl),by rw [← d.changed G c.read];exact hle⟩;obtain⟨hm,F,IE⟩:=dO.1 (List.mem_of_getElem? hc);obtain⟨rm,g1,g2,g3⟩:=lE hl hm;rw [aK g1] at hle F ⊢;have h1:=G.c.changed (aH g1).1 g3 F (by rw [dw];exact hle);rw [dw] at h1;exact h1
 | fail c hr hl hc yO CW oQ=>
  obtain⟨hm,F,IE⟩:=dO.1 (List.mem_of_getElem? hc);have OG:=d.Nl G hl hm F IE oQ;have OH:zu (valOf aa b0.ab) b0 f.key:=⟨BQ,d.Be (xz hl),.inr (.inr (OG _ fq))⟩;rw [List.append_nil]
  cases SZ:ax f.key with
  | false=>
   simp only [Bool.false_eq_true,if_false];refine⟨trivial,zx hr G d (.refl _) rfl ?_ (xz hl) OH⟩;rw [Bool.eq_false_iff]
   grind [bw]
  | true=>
   simp only [if_true];have I:hM (valOf aa b0.ab) (fun y=>y=f.key) bG b.ad b.ai (eG b (aB b.ai b.ad f.key) true).ai:=hM.mark hl true (.inl SZ);obtain⟨r,f1,f2,f3⟩:=id hl
   have hfk:ay (eG b (aB b.ai b.ad f.key) true).ai f.key=some {r with bV:=true}:=by
    refine bE.trans ?_;rw [f1]
    show some (aY _ _ _ r)=_
    unfold aY
    rw [if_pos (by rw [(aH f1).2];exact fq)]
    rfl
   refine⟨trivial,zx hr (G.bV fun m hm=>lE hl hm) (Kc I (fun _ h=>h) rfl rfl (fun y r' hf O=>?_) d.bG (fun _ h=>.inl h) (fun y hu SY=>by grind [kQ]) d.jq) I rfl ?_ (oc hfk f3) OH⟩
   ·
    have IF:(ay b.ai y).map (aY b.ad (aB b.ai b.ad f.key) true)=some r':=bE.symm.trans hf;obtain⟨q,Y,rfl⟩:=Option.map_eq_some_iff.1 IF
    by_cases hy:y∈aB b.ai b.ad f.key
    ·
     exact .inr (OG y hy)
    unfold aY at O
    rw [if_neg (by rw [(aH Y).2];exact hy)] at O;exact d.SS y q Y O
   rw [Bool.eq_false_iff]
   grind [bw]
end
end Go.Rc

