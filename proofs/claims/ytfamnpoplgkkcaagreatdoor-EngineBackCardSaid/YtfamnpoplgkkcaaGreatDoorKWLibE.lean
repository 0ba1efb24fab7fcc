/- Walks over the program, part WLibE. Conditions: as each theorem says. -/
import Derived.Test.YtfamnpoplgkkcaaGreatDoorKFacts
import Derived.Test.YtfamnpoplgkkcaaGreatDoorKWE
import Derived.Test.YtfamnpoplgkkcaaGreatDoorKBd
import Derived.Test.YtfamnpoplgkkcaaGreatDoorKBe
import Derived.Test.YtfamnpoplgkkcaaGreatDoorShelf
import Derived.Test.YtfamnpoplgkkcaaGreatDoorKBc
import Derived.Test.YtfamnpoplgkkcaaGreatDoorKBb
set_option linter.all false
namespace Go.Rc
open Go Go.Proofs Go.Proofs.Tryz
variable {a a1 a2:Option Addr}{n c n1 e1 n2 e2:Nat}{w:World}{Z A:Nat→Prop}{x:bZ}{s f:ByteArray}{k:Key}{t:TypeId}{p:Value}
set_option maxHeartbeats 400000
theorem nc{l:List Rec}(hl:Rd RR.iz 8 Z w a n c l):CR prog 41 #[.slice a n c] w (.bool (lM l)):=
 (om hl).mono fun _ _ ⟨b,h1,d,e⟩=>⟨by rw [h1,xu d],e⟩
theorem nO{M:Nat→Prop}(v:St w M Z w []) (hi:Rd RR.aC 4 Z w a1 n1 e1 x.ab) (hr:Rd RR.iz 8 Z w a2 n2 e2 x.ai) (y:x.ai.length≤1000000) (G:x.ab.length≤1000000):Calls prog 51 #[.agg (x.row a1 n1 e1 a2 n2 e2).toArray] w fun e w'=>∃g h i j l m Z',e=.returned (.agg (x.row g h i j l m).toArray)∧eI w.heap.size Z Z'∧St w M Z' w' [As.os RR.aC 88 4 g h i x.ab,As.os RR.iz 47 8 j l m x.ai]:=by
 have H:=hi.len;have I:=hr.len;refine enter func51 rfl ntmps51 rfl<|?_;have aM:=v;have st1:=aM.fr hi;have st2:=st1.fr hr;have z:=st2.gx RR.aC 88 4;refine(dt) z fun b1 w1 J K B=>?_;refine(fF) B fun b2 w2 L N d=>?_;refine(bF) hV d.b1<|?_;refine WL.ap rfl rfl d.p2 ((As.gr d.g4)) fun a5 O w3 P Q C=>?_;refine nx ?_;refine WL.s1 C.p2 fun w4 _ o=>?_;refine(bF) iH o.b0<|?_;have b:=o;refine(c6) TE (vN b.e0 (As.gr b.g3) y) ?_;rintro _ w5 ⟨f1,f2,f3,R,rfl,q,D⟩;have E:=St.lv b D q;have F:=q.le b.size;refine nx ?_;refine WL.s1 E.p1 fun w6 _ r=>?_;refine(bS) cq r.b0<|(dH) iJ r.p3 fun w7 S T u=>?_;refine(nC) cq u.b0<|?_;exact⟨_,_,_,_,_,_,_,rfl,F,u.p2.p3.k2⟩
theorem vO(hi:Rd RR.aC 4 Z w a1 n1 e1 x.ab) (hr:Rd RR.iz 8 Z w a2 n2 e2 x.ai) {k:Key}:CR prog 55 #[.agg (x.row a1 n1 e1 a2 n2 e2).toArray,k.val] w (.agg (aL x.ab k).cells.toArray):=by
 have hlen:=SR.len hi;have hle:=SR.le hi;refine enter func55 rfl ntmps55 rfl<|?_;have c0:aQ [] w w:=aQ.refl _ _;refine cm ?_;refine WL.go rfl (OX.box rfl rfl rfl fun b2 w1 K e=>?_);have s1:=K.ext;have V:=K.nt c0;have c1:=c0.trans s1;refine WL.go rfl (OX.box rfl rfl rfl fun b3 w2 v b=>?_);have s2:=v.ext;have W:=v.nt c1;have P:b2≠b3:=v.ne e.lt;have X:b3≠b2:=Ne.symm P;have c2:=c1.trans s2;have e:=e.ext s2;refine WL.go rfl (OX.alloc EZ rfl fun b4 w3 m d=>?_);have z:=m.ext;have L:=m.nt c2;have Q:b2≠b4:=m.ne e.lt;have Y:b4≠b2:=Ne.symm Q;have B:b3≠b4:=m.ne b.lt;have Jk:b4≠b3:=Ne.symm B;have c3:=c2.trans z;have e:=e.ext z;have b:=b.ext z;refine dz ?_;refine WP .r (PV.fa pN rfl)<|(bF) hV e.range<|?_;refine WP .r (PV.jv oj rfl)<|cv ?_;refine WC.loop (σ:=Nat) (cX:=fun i=>[(3,.pointer (some ⟨b3,0,none⟩)),(4,.pointer (some ⟨b4,0,none⟩)),(8,.slice a1 n1 e1),(9,.int .i64 (n1:Int)),(10,.int .i64 (i:Int))]) (I:=fun i w'=>aQ [] w w'∧bC w' b3 41 [.int .i64 k.kind,.string k.text]∧bC w' b4 88 [.int .i64 0,.string ⟨#[]⟩,.string ⟨#[]⟩,.int .i64 0]∧i≤n1∧(∀j y,j<i→x.ab[j]?=some y→(y.key == k)=false)) (μ:=fun i=>n1 - i) 0 Sub.t ⟨c3,b,d,by omega,fun j x h=>by omega⟩ ?_;rintro i w4 ⟨c4,b,d,X6,C⟩;refine(bl) (fun g11=>?_) fun g11=>?_
 ·
  simp at g11
  have D:i<x.ab.length:=by omega
  refine dz ?_;obtain⟨X7,X8,X9,R,_,E,F,_⟩:=SR.at hi (ah D);have E:=RR.bp E;subst E;have F:=aS F c4 (by simp);refine nx ?_;refine WP .r (PV.ef oj R rfl rfl (by omega))<|(bS) jk F<|?_;refine WL.go rfl (OX.alloc EZ rfl fun o w5 u g=>?_);have l:=u.ext;have S:=u.nt c4;have M:b3≠o:=u.ne b.lt;have Jl:o≠b3:=Ne.symm M;have N:b4≠o:=u.ne d.lt;have T:o≠b4:=Ne.symm N;have c5:=c4.trans l;have b:=b.ext l;have d:=d.ext l;refine WL.go rfl (OX.xb vF g rfl rfl rfl rfl rfl fun w6 G _ g=>?_);have O:=c5.own G S;have b:=b.cH G (by simp [M]);have d:=d.cH G (by simp [N]);refine cv ?_;refine WP .r (PV.fa mY rfl)<|(lj) aq g.range<|(bS) aq b.range<|?_;refine WP .r (PV.Be fP (p:=x.ab[i].key) (q:=k) rfl rfl)<|(bl) (fun g17=>?_) fun g17=>?_
  ·
   simp at g17
   have H:aL x.ab k=x.ab[i]:=by unfold aL;rw [fV D C (by simpa using g17)];rfl
   refine(bS) jk g.range<|?_;refine WL.go rfl (OX.xb vF d rfl rfl rfl rfl rfl fun w7 J _ d=>?_);have U:=O.own J L;have b:=b.cH J (by simp [B]);have g:=g.cH J (by simp [T]);refine(nC) jk d.range<|?_;exact⟨by rw [H],U⟩
  simp at g17
  refine eE ?_;refine EX.again (i+1) (Sub.k4 rfl rfl rfl rfl<|Sub.kn rfl (by simp)<|Sub.nil) ⟨O,b,d,by omega,cL D C (by simpa using g17)⟩ (by omega)
 simp at g11
 have H:aL x.ab k=⟨k,⟨#[]⟩,0⟩:=by unfold aL;rw [lD (i:=i) (by omega) C];rfl
 refine(bS) aq b.range<|?_;refine WP .r (PV.bA (us:=(bG.mk k ⟨#[]⟩ 0).cells) EV rfl rfl rfl)<|?_;refine WL.go rfl (OX.xb vF d rfl rfl rfl rfl rfl fun w5 l _ d=>?_);have c5:=c4.own l L;have b:=b.cH l (by simp [B]);refine(nC) jk d.range<|?_;exact⟨by rw [H],c5⟩
theorem sk(hi:Rd RR.aC 4 Z w a1 n1 e1 x.ab) (hr:Rd RR.iz 8 Z w a2 n2 e2 x.ai) {k:Key}:CR prog 24 #[.agg (x.row a1 n1 e1 a2 n2 e2).toArray,k.val] w (.string (aL x.ab k).value):=by
 refine enter func24 rfl ntmps24 rfl<|?_;have c0:aQ [] w w:=aQ.refl _ _;refine cm ?_;refine WL.go rfl (OX.box rfl rfl rfl fun b2 w1 h b=>?_);have s1:=h.ext;have j:=h.nt c0;have c1:=c0.trans s1;refine WL.go rfl (OX.box rfl rfl rfl fun b3 w2 d e=>?_);have s2:=d.ext;have l:=d.nt c1;have i:b2≠b3:=d.ne b.lt;have m:b3≠b2:=Ne.symm i;have c2:=c1.trans s2;have b:=b.ext s2;refine(bS) cq b.range<|(bS) aq e.range<|(c6) Tk (vO (k:=k) (hi.ext c2) (hr.ext c2)) ?_;rintro _ w3 ⟨rfl,g⟩;have c3:=c2.trans g;have b:=b.ext g;have e:=e.ext g;refine WP .r (PV.sM (fs:=[_,_,_]) (f:=1) (off:=2) (T:=88) underlying88 rfl rfl (show ∀w,(isAgg 9).run _ w=.ok false w from isAgg9) rfl rfl)<|(bJ) ?_;exact⟨rfl,c3⟩
theorem tz(hi:Rd RR.aC 4 Z w a1 n1 e1 x.ab) (hr:Rd RR.iz 8 Z w a2 n2 e2 x.ai):Calls prog 12 #[.agg (x.row a1 n1 e1 a2 n2 e2).toArray] w fun e w'=>∃b:Bool,e=.returned (.bool b)∧(b=true↔iw x)∧aQ [] w w':=by
 have hlen:=SR.len hi;have hle:=SR.le hi;have CX:=SR.len hr;have Aq:=SR.le hr;refine enter func12 rfl ntmps12 rfl<|?_;have c0:aQ [] w w:=aQ.refl _ _;refine cm ?_;refine WL.go rfl (OX.box rfl rfl rfl fun b1 w1 TQ g=>?_);have s1:=TQ.ext;have TR:=TQ.nt c0;have c1:=c0.trans s1;refine fE ?_;refine WP .r (PV.fa pN rfl)<|(bF) hV g.range<|?_;refine WP .r (PV.jv oj rfl)<|cv ?_;refine WC.loop (σ:=Nat) (cX:=fun i=>[(1,.pointer (some ⟨b1,0,none⟩)),(8,.slice a1 n1 e1),(9,.int .i64 (n1:Int)),(10,.int .i64 (i:Int))]) (I:=fun i w'=>aQ [] w w'∧bC w' b1 31 (x.row a1 n1 e1 a2 n2 e2)∧i≤n1∧∀j y,j<i→x.ab[j]?=some y→eS x.ad x.ab j=false) (μ:=fun i=>n1 - i) 0 Sub.t ⟨c1,g,by omega,fun j y h=>by omega⟩ ?_;rintro i w2 ⟨c2,g,dF,Q⟩;refine(bl) (fun g11=>?_) fun g11=>?_
 ·
  simp at g11
  have K:i<x.ab.length:=by omega
  have o:=getElem!_pos x.ab i K;obtain⟨X7,X8,X9,V,_,W,M,_⟩:=SR.at hi (ah K);have W:=RR.bp W;subst W;refine dz ?_;have M:=aS M c2 (by simp);refine cm ?_;refine WP .r (PV.ef oj V rfl rfl (by omega))<|(bS) jk M<|?_;refine WL.go rfl (OX.alloc EZ rfl fun b4 w3 X z=>?_);have s3:=X.ext;have Jm:=X.nt c2;have pT:b1≠b4:=X.ne g.lt;have Jn:b4≠b1:=Ne.symm pT;have c3:=c2.trans s3;have g:=g.ext s3;refine nx ?_;refine WL.go rfl (OX.xb vF z rfl rfl rfl rfl rfl fun w4 J _ z=>?_);have c4:=c3.own J Jm;have g:=g.cH J (by simp [pT]);refine cM ?_;refine WC.nX (t:=59) (v:=.bool (eS x.ad x.ab i)) (aQ [] w4) ?_<|?_
  ·
   refine WC.drawn (m:=43) (C:=aQ [] w4) (T:=fun _=>aQ []) (E:=cO [(2,fun v _=>v=.bool (dZ x.ab[i].key)),(7,fun v _=>v=.bool (ax x.ab[i].key)),(23,fun v _=>v=.int .i64 (bj x.ab[i - 1].key x.ab[i].key))]) (ca (⟨fun _ _ _ _ _ _ _ h=>h,⟨fun _ _ _ _ _ _ _ h=>h,⟨fun _ _ _ _ _ _ _ h=>h,trivial⟩⟩⟩)) mixed (by kernel_rfl) (aQ.drew _ _)<|?_;refine DP .r (fun _ l=>PV.fa mY rfl)<|DP .r (fun _ l=>PV.uD aq (z.ext l).range rfl rfl)<|?_;refine DW.e rfl rfl rfl rfl rfl (fun wx l hF=>OX.call FE rfl rfl ((gA (k:=x.ab[i].key)).mono ?_))<|?_
   ·
    rintro _ wy ⟨rfl,L⟩;exact⟨_,rfl,l.trans L,L,_,rfl,rfl⟩
   rintro _ wz _ rfl;refine(uv) (fun g19=>?_) (fun g19=>?_)
   ·
    refine ba ?_;refine ba ?_;refine ba ?_;refine(da) ?_;rintro w5 d _;have c5:=c4.trans d;have g:=g.ext d;have z:=z.ext d;exact(cP) (by unfold eS;first | (simp only [o,G,g19];done) | (simp only [o,G,g19];rfl) | (simp only [o,g19];rfl) | (simp only [o,g19];done)) d
   refine DP .r (fun _ l=>PV.fa mY rfl)<|DP .r (fun _ l=>PV.uD aq (z.ext l).range rfl rfl)<|?_;refine DW.e rfl rfl rfl rfl rfl (fun wx l hF=>OX.call I8 rfl rfl ((jR (k:=x.ab[i].key)).mono ?_))<|?_
   ·
    rintro _ wy ⟨rfl,L⟩;exact⟨_,rfl,l.trans L,L,_,rfl,rfl⟩
   rintro _ wz _ rfl;refine(uv) (fun u=>?_) (fun u=>?_)
   ·
    refine ba ?_;refine ba ?_;refine(da) ?_;rintro w5 d _;have c5:=c4.trans d;have g:=g.ext d;have z:=z.ext d;exact(cP) (by unfold eS;first | (simp only [o,G,g19,u];done) | (simp only [o,G,g19,u];rfl) | (simp only [o,g19,u];rfl) | (simp only [o,g19,u];done)) d
   refine(uv) (fun B=>?_) (fun B=>?_)
   ·
    have KL:i - 1<x.ab.length:=by omega
    have G:=getElem!_pos x.ab (i - 1) KL;have TP:=of_decide_eq_true B;obtain⟨bx2,ox2,rx2,KN,_,Y,QP,_⟩:=SR.at hi (ah KL);have Y:=RR.bp Y;subst Y;have QP:=aS QP c4 (by simp);refine DP .r (fun _ l=>PV.fa pN rfl)<|DP .r (fun _ l=>PV.ld1 hV (g.ext l).range rfl rfl)<|cm ?_;refine DP .r (fun _ l=>PV.Bb oj (i - 1) KN rfl rfl (by omega) (by omega))<|DP .r (fun _ l=>PV.fa mY rfl)<|DP .r (fun _ l=>PV.uD aq (aS QP l (by simp)) rfl rfl)<|DP .r (fun _ l=>PV.fa mY rfl)<|DP .r (fun _ l=>PV.uD aq (z.ext l).range rfl rfl)<|?_;refine DW.e rfl rfl rfl rfl rfl (fun wx l hF=>OX.call I9 rfl rfl ((nb (k:=x.ab[i - 1].key) (q:=x.ab[i].key)).mono ?_))<|?_
    ·
     rintro _ wy ⟨rfl,L⟩;exact⟨_,rfl,l.trans L,L,_,rfl,rfl⟩
    rintro _ wz _ rfl;refine(uv) (fun H=>?_) (fun H=>?_)
    ·
     refine ba ?_;refine(da) ?_;rintro w5 d _;have c5:=c4.trans d;have g:=g.ext d;have z:=z.ext d;exact(cP) (by unfold eS;first | (simp only [o,G,g19,u,B,H];done) | (simp only [o,G,g19,u,B,H];rfl) | (simp only [o,g19,u,B,H];rfl) | (simp only [o,g19,u,B,H];done)) d
    refine DP .r (fun _ l=>PV.fa yf rfl)<|DP .r (fun _ l=>PV.ld1 e4 (z.ext l).range rfl rfl)<|DP .r (fun _ l=>PV.sq pM rfl)<|(uv) (fun D=>?_) (fun D=>?_)
    ·
     refine(da) ?_;rintro w5 d _;have c5:=c4.trans d;have g:=g.ext d;have z:=z.ext d;exact(cP) (by unfold eS;first | (simp only [o,G,g19,u,B,H,D];done) | (simp only [o,G,g19,u,B,H,D];rfl) | (simp only [o,g19,u,B,H,D];rfl) | (simp only [o,g19,u,B,H,D];done)) d
    refine DP .r (fun _ l=>PV.fa pO rfl)<|DP .r (fun _ l=>PV.ld1 aT (z.ext l).range rfl rfl)<|(uv) (fun F=>?_) (fun F=>?_)
    ·
     refine(da) ?_;rintro w5 d _;have c5:=c4.trans d;have g:=g.ext d;have z:=z.ext d;exact(cP) (by unfold eS;first | (simp only [o,G,g19,u,B,H,D,F];done) | (simp only [o,G,g19,u,B,H,D,F];rfl) | (simp only [o,g19,u,B,H,D,F];rfl) | (simp only [o,g19,u,B,H,D,F];done)) d
    refine DP .r (fun _ l=>PV.fa pO rfl)<|DP .r (fun _ l=>PV.ld1 aT (z.ext l).range rfl rfl)<|DP .r (fun _ l=>PV.fa mU rfl)<|DP .r (fun _ l=>PV.ld1 aT (g.ext l).range rfl rfl)<|(da)<|?_;rintro w5 d _;have c5:=c4.trans d;have g:=g.ext d;have z:=z.ext d;exact(cP) (by unfold eS;first | (simp only [o,G,g19,u,B,H,D,F];done) | (simp only [o,G,g19,u,B,H,D,F];rfl) | (simp only [o,g19,u,B,H,D,F];rfl) | (simp only [o,g19,u,B,H,D,F];done)) d
   refine ba ?_;refine cm ?_;refine DP .r (fun _ l=>PV.fa yf rfl)<|DP .r (fun _ l=>PV.ld1 e4 (z.ext l).range rfl rfl)<|DP .r (fun _ l=>PV.sq pM rfl)<|(uv) (fun D=>?_) (fun D=>?_)
   ·
    refine(da) ?_;rintro w5 d _;have c5:=c4.trans d;have g:=g.ext d;have z:=z.ext d;exact(cP) (by unfold eS;first | (simp only [o,G,g19,u,B,D];done) | (simp only [o,G,g19,u,B,D];rfl) | (simp only [o,g19,u,B,D];rfl) | (simp only [o,g19,u,B,D];done)) d
   refine DP .r (fun _ l=>PV.fa pO rfl)<|DP .r (fun _ l=>PV.ld1 aT (z.ext l).range rfl rfl)<|(uv) (fun F=>?_) (fun F=>?_)
   ·
    refine(da) ?_;rintro w5 d _;have c5:=c4.trans d;have g:=g.ext d;have z:=z.ext d;exact(cP) (by unfold eS;first | (simp only [o,G,g19,u,B,D,F];done) | (simp only [o,G,g19,u,B,D,F];rfl) | (simp only [o,g19,u,B,D,F];rfl) | (simp only [o,g19,u,B,D,F];done)) d
   refine DP .r (fun _ l=>PV.fa pO rfl)<|DP .r (fun _ l=>PV.ld1 aT (z.ext l).range rfl rfl)<|DP .r (fun _ l=>PV.fa mU rfl)<|DP .r (fun _ l=>PV.ld1 aT (g.ext l).range rfl rfl)<|(da)<|?_;rintro w5 d _;have c5:=c4.trans d;have g:=g.ext d;have z:=z.ext d;exact(cP) (by unfold eS;first | (simp only [o,G,g19,u,B,D,F];done) | (simp only [o,G,g19,u,B,D,F];rfl) | (simp only [o,g19,u,B,D,F];rfl) | (simp only [o,g19,u,B,D,F];done)) d
  intro w5 d;have c5:=c4.trans d;have g:=g.ext d;have z:=z.ext d;refine(bl) (fun TS=>?_) fun TS=>?_
  ·
   skip
   refine(bJ) ?_;exact⟨false,rfl,⟨fun h=>(by cases h),fun h=>absurd (h.1 i _ (ah K)) (by simp [TS])⟩,c5⟩
  refine eE ?_;refine EX.again (i+1) (Sub.k2 rfl rfl<|Sub.cons rfl<|Sub.kn rfl (by simp)<|Sub.nil) ⟨c5,g,by omega,cL (P:=fun j _=>eS x.ad x.ab j=false) K Q TS⟩ (by omega)
 simp at g11
 have Q:sL x.ad x.ab:=fun j y N=>Q j y (by have:=(List.getElem?_eq_some_iff.1 N).1;omega) N;refine ho ?_;refine WP .r (PV.fa x9 rfl)<|(bF) iH g.range<|?_;refine WP .r (PV.jv jQ rfl)<|cv ?_;refine WC.loop (σ:=Nat) (cX:=fun i=>[(1,.pointer (some ⟨b1,0,none⟩)),(62,.slice a2 n2 e2),(63,.int .i64 (n2:Int)),(64,.int .i64 (i:Int))]) (I:=fun i w'=>aQ [] w w'∧bC w' b1 31 (x.row a1 n1 e1 a2 n2 e2)∧i≤n2∧∀(j:Nat) (y:Rec),j<i→x.ai[j]?=some y→y.ak≤x.ad) (μ:=fun i=>n2 - i) 0 Sub.t ⟨c2,g,by omega,fun j y h=>by omega⟩ ?_;rintro i2 w3 ⟨c3,g,abh,R⟩;refine(bl) (fun Jo=>?_) fun Jo=>?_
 ·
  simp at Jo
  have K:i2<x.ai.length:=by omega
  obtain⟨X7,X8,X9,V,_,⟨q1,q2,q3,rfl,QQ,Og⟩,M,_⟩:=SR.at hr (ah K);refine dz ?_;have M:=aS M c3 (by simp);refine nx ?_;refine WP .r (PV.ef jQ V rfl rfl (by omega))<|(bS) dV M<|?_;refine WL.go rfl (OX.alloc CH rfl fun b6 w4 Jp Jq=>?_);have J:=Jp.ext;have Jr:=Jp.nt c3;have pU:b1≠b6:=Jp.ne g.lt;have Js:b6≠b1:=Ne.symm pU;have c4:=c3.trans J;have g:=g.ext J;refine WL.go rfl (OX.xb iK Jq rfl rfl rfl rfl rfl fun w5 d _ Jq=>?_);have c5:=c4.own d Jr;have g:=g.cH d (by simp [pU]);refine cv ?_;refine WP .r (PV.fa ts rfl)<|(bF) aT Jq.range<|?_;refine WP .r (PV.fa mU rfl)<|(bF) aT g.range<|(bl) (fun S=>?_) fun S=>?_
  ·
   simp at S
   refine(bJ) ?_;exact⟨false,rfl,⟨fun h=>(by cases h),fun h=>absurd (h.2.1 i2 _ (ah K)) (by omega)⟩,c5⟩
  simp at S
  refine eE ?_;refine EX.again (i2+1) (Sub.k2 rfl rfl<|Sub.cons rfl<|Sub.kn rfl (by simp)<|Sub.nil) ⟨c5,g,by omega,cL (P:=fun _ (y:Rec)=>y.ak≤x.ad) K R S⟩ (by omega)
 simp at Jo
 have R:∀(j:Nat) (y:Rec),x.ai[j]?=some y→y.ak≤x.ad:=fun j y N=>R j y (by have:=(List.getElem?_eq_some_iff.1 N).1;omega) N;refine fE ?_;refine WC.oI (t:=2) (v:=.bool (iW x)) (aQ [] w3) ?_<|?_
 ·
  refine nx ?_;refine WP .r (PV.fa mU rfl)<|(bF) aT g.range<|(c7) (fun O=>?_) (fun O=>?_)
  ·
   refine WP .r (PV.fa mU rfl)<|(bF) aT g.range<|(c7) (fun U=>?_) (fun U=>?_)
   ·
    refine WP .r (PV.fa pN rfl)<|(bF) hV g.range<|?_;refine WP .r (PV.jv oj rfl)<|(c7) (fun Oh=>?_) (fun Oh=>?_)
    ·
     refine WP .r (PV.fa x9 rfl)<|(bF) iH g.range<|(c6) Tb (nc (hr.ext c3)) ?_;rintro _ w4 ⟨rfl,J⟩;have c4:=c3.trans J;have g:=g.ext J;exact(fB) (by unfold iW;simp only [O,U,Oh,← hlen];first | rfl | simp) J
    exact(fB) (by unfold iW;simp only [O,U,Oh,← hlen];first | rfl | simp) (aQ.refl _ _)
   exact(fB) (by unfold iW;simp only [O,U,← hlen];first | rfl | simp) (aQ.refl _ _)
  refine ba ?_;exact(fB) (by unfold iW;simp only [O,← hlen];first | rfl | simp) (aQ.refl _ _)
 intro w4 J;have c4:=c3.trans J;have g:=g.ext J;refine(bJ) ?_;exact⟨_,rfl,⟨fun h=>by have:=(nD x).1 h;exact⟨Q,R,this⟩,fun h=>(nD x).2 h.2.2⟩,c4⟩
set_option maxHeartbeats 400000
set_option maxHeartbeats 400000
set_option maxHeartbeats 400000
set_option maxHeartbeats 400000
set_option maxHeartbeats 400000
set_option maxHeartbeats 400000
theorem vP(b:s.size≤1000) (w:World):Calls prog 204 #[.string s] w fun e w'=>∃(v:Int) (ok:Bool) (ev:Value),e=.returned (.tuple #[.int .i64 v,ev])∧(-9223372036854775808≤v∧v≤9223372036854775807)∧((ok=true∧ev=.nilIface)∨(ok=false∧∃t y,ev=.iface t y))∧(ok=false→ev=.iface 296 (.int .i64 2)∨ev=.iface 296 (.int .i64 1))∧aQ [] w w':=by
 refine(Any.internal_strconv_Atoi_all {laysC172 with} s (by omega) w).mono fun e w' ⟨he,hw⟩=>?_
 have hc:aQ [] w w':=by
  rcases hw with rfl | ⟨t,rfl⟩
  ·
   exact aQ.refl _ _
  exact sg _ _ _
 cases h:Lib.atoiAll s.data.toList
 ·
  rename_i v
  rw [h] at he;exact⟨v,true,.nilIface,he,Lib.atoiAll_bounds h,.inl ⟨rfl,rfl⟩,(fun e=>by cases e),hc⟩
 ·
  rw [h] at he;exact⟨0,false,_,he,by decide,.inr ⟨rfl,_,_,rfl⟩,fun _=>.inl rfl,hc⟩
 rw [h] at he;exact⟨Lib.atoiSat s.data.toList,false,_,he,Lib.atoiSat_bounds _,.inr ⟨rfl,_,_,rfl⟩,fun _=>.inr rfl,hc⟩
set_option maxHeartbeats 400000
theorem pV{n:Int} :CR prog 150 #[.int .i64 n] w (.bool (decide (30≤n) && decide (n≤32))):=by
 refine enter func150 rfl ntmps150 rfl<|?_;have aM:=St.s0 w;refine fE ?_;refine WC.iT (t:=2) (v:=.bool (decide (30≤n) && decide (n≤32))) aM ?_<|?_
 ·
  refine(c7) (fun g5=>?_) (fun g5=>?_)
  ·
   exact(fB) (by simp only [g5];first | rfl | simp) (aM)
  exact(fB) (by simp only [g5];first | rfl | simp) (aM)
 intro w1 st1;refine(bJ) ?_;exact⟨rfl,(St.cg st1)⟩
theorem vQ{n:Int} :CR prog 151 #[.int .i64 n] w (.bool (decide (1≤n) && decide (n≤22))):=by
 refine enter func151 rfl ntmps151 rfl<|?_;have aM:=St.s0 w;refine fE ?_;refine WC.iT (t:=2) (v:=.bool (decide (1≤n) && decide (n≤22))) aM ?_<|?_
 ·
  refine(c7) (fun g5=>?_) (fun g5=>?_)
  ·
   exact(fB) (by simp only [g5];first | rfl | simp) (aM)
  exact(fB) (by simp only [g5];first | rfl | simp) (aM)
 intro w1 st1;refine(bJ) ?_;exact⟨rfl,(St.cg st1)⟩
theorem bM :CR prog 42 #[k.val] w (.bool (ax k)):=by
 refine enter func42 rfl ntmps42 rfl<|?_;have aM:=St.s0 w;refine(dt) aM fun b1 w1 b d st1=>?_;refine cv ?_;refine WC.iT (t:=2) (v:=.bool (ax k)) st1 ?_<|?_
 ·
  refine(bF) aT st1.b0<|(c7) (fun g6=>?_) (fun g6=>?_)
  ·
   exact(fB) (by unfold ax;simp only [g6];first | rfl | simp) (st1)
  refine(bF) aT st1.b0<|(c7) (fun g11=>?_) (fun g11=>?_)
  ·
   exact(fB) (by unfold ax;simp only [g6,g11];first | rfl | simp) (st1)
  refine(bF) aT st1.b0<|?_;exact(fB) (by unfold ax;simp only [g6,g11];first | rfl | simp) (st1)
 intro w2 st2;refine(bJ) ?_;exact⟨rfl,(St.cg st2)⟩
theorem jV :CR prog 111 #[k.val] w (.bool (decide (k.kind=31) || decide (k.kind=32))):=by
 refine enter func111 rfl ntmps111 rfl<|?_;have aM:=St.s0 w;refine(dt) aM fun b1 w1 b d st1=>?_;refine cv ?_;refine WC.iT (t:=2) (v:=.bool (decide (k.kind=31) || decide (k.kind=32))) st1 ?_<|?_
 ·
  refine(bF) aT st1.b0<|(c7) (fun g6=>?_) (fun g6=>?_)
  ·
   exact(fB) (by simp only [g6];first | rfl | simp) (st1)
  refine(bF) aT st1.b0<|?_;exact(fB) (by simp only [g6];first | rfl | simp) (st1)
 intro w2 st2;refine(bJ) ?_;exact⟨rfl,(St.cg st2)⟩
theorem dq(hk:cn k):CR prog 117 #[k.val] w (.bool (decide (k.kind=32))):=by
 refine enter func117 rfl ntmps117 rfl<|?_;have aM:=St.s0 w;refine(dt) aM fun b1 w1 b d st1=>?_;refine cv ?_;refine WC.iT (t:=2) (v:=.bool (decide (k.kind=32))) st1 ?_<|?_
 ·
  refine(bF) aT st1.b0<|(c7) (fun g6=>?_) (fun g6=>?_)
  ·
   exact(fB) (by simp only [g6];first | done | rfl | simp) (st1)
  refine(bF) aT st1.b0<|(c6) NH (vQ (n:=k.kind)) ?_;rintro _ w2 ⟨rfl,s2⟩;rw [show(decide (1≤k.kind) && decide (k.kind≤22))=false by(rcases hk with h | h <;> simp <;> omega)];have st2:=st1.step s2;exact(fB) (by simp only [g6];first | done | rfl | simp) (st2)
 intro w2 st2;refine(bJ) ?_;exact⟨rfl,(St.cg st2)⟩
theorem ic(hk:30≤k.kind∧k.kind≤32) (ht:k.text=itoa n) (hn:n≤99):CR prog 113 #[k.val] w (.int .i64 (n:Int)):=by
 obtain⟨kd,o⟩:=k;simp only at hk ht;subst ht;refine enter func113 rfl ntmps113 rfl<|?_;have aM:=St.s0 w;refine(dt) aM fun b1 w1 q u st1=>?_;refine(bF) aT st1.b0<|(c6) GM (pV (n:=kd)) ?_;rintro _ w2 ⟨rfl,s2⟩;rw [show(decide (30≤kd) && decide (kd≤32))=true by(simp;omega)];have st2:=st1.step s2;refine cM ?_;refine WC.dw rfl<|(bF) e4 st2.b0<|(eO) (yi hn w2) st2 fun w3 y d=>?_;refine oa ?_;refine WC.eC (t:=31) (v:=.bool false) d ?_<|?_
 ·
  have z:=d.cu;refine WC.dN (m:=15) (E:=cO [(12,fun v _=>v=.string (itoa n))]) d (ca (⟨fun _ _ _ _ _ _ _ h=>h,trivial⟩)) mixed (by kernel_rfl)<|nx ?_;refine DP .r (fun _ j=>PV.HC tq rfl)<|nx ?_;refine DW.bX (t:=17) rfl (fun g17=>?_) (fun g17=>?_)
  ·
   refine(da) ?_;rintro w4 ⟨e,b⟩ _;exact(cP) (tG g17) (b)
  refine cv ?_;refine DW.bX (t:=21) rfl (fun g21=>?_) (fun g21=>?_)
  ·
   refine(da) ?_;rintro w4 ⟨e,b⟩ _;exact(cP) (tG (aj g17 g21)) (b)
  refine cv ?_;refine DW.bX (t:=25) rfl (fun g=>?_) (fun g=>?_)
  ·
   refine(da) ?_;rintro w4 ⟨e,b⟩ _;exact(cP) (tG (aj g17<|aj g21 g)) (b)
  refine nx ?_;refine DW.c0 (fun l j B=>fS (n:=(n:Int)) (by omega) (by omega) l)<|(kf) e4 St.g0<|(da)<|?_;rintro w4 ⟨e,b⟩ ⟨_,_⟩;exact(cP) (tG (aj g17<|aj g21 g)) (b)
 intro w4 b;refine(bl) (fun i=>?_) fun i=>?_
 ·
  exact absurd i (by simp)
 ·
  refine(bJ) ?_;exact⟨rfl,(St.cg b)⟩
 -- C D F.T
theorem eN(hk:30≤k.kind∧k.kind≤32) (ht:k.text=itoa n) (hn:n≤99):CR prog 110 #[k.val] w (.bool true):=by
 refine enter func110 rfl ntmps110 rfl<|?_;have aM:=St.s0 w;refine(dt) aM fun b1 w1 d e st1=>?_;refine(bF) aT st1.b0<|(c6) GM (pV (n:=k.kind)) ?_;rintro _ w2 ⟨rfl,s2⟩;rw [show(decide (30≤k.kind) && decide (k.kind≤32))=true by(simp;omega)];have st2:=st1.step s2;refine cm ?_;refine WC.ki rfl<|(bS) aq st2.b0<|(eO) (ic (k:=k) hk ht hn) st2 fun w3 g b=>?_;refine(bJ) ?_;exact⟨by simp,(St.cg b)⟩
theorem j9{aa:List aF}{r:Nat}{n:Int}(hr:eJ A w a r c aa):CR prog 112 #[.slice a r c,.int .i64 n] w ((aK aa n).val):=by
 have hle:=hr.le;have hlen:=hr.len;refine enter func112 rfl ntmps112 rfl<|?_;have aM:=St.s0 w;refine(fF) aM fun b4 w1 o q st1=>?_;refine cv ?_;refine WC.eC (t:=17) (v:=.bool (decide (n<0) || (decide ((r:Int)≤n) || decide (99<n)))) st1 ?_<|?_
 ·
  refine(c7) (fun g8=>?_) (fun g8=>?_)
  ·
   exact(cP) (by simp only [g8];first | rfl | simp) (st1)
  refine(c7) (fun g14=>?_) (fun g14=>?_)
  ·
   exact(cP) (by simp only [g8,g14];first | rfl | simp) (st1)
  exact(cP) (by simp only [g8,g14];first | rfl | simp) (st1)
 intro w2 st2;refine(bl) (fun g17=>?_) fun g17=>?_
 ·
  have hk:aK aa n=de:=by unfold aK;rw [if_pos (by simp at g17;omega)]
  refine(dH) gz st2 fun w3 u y b=>?_;refine(nC) aq b.b0<|?_;rw [hk];exact⟨rfl,(St.cg b)⟩
 simp at g17
 obtain⟨i,rfl⟩:∃i:Nat,n=i:=⟨n.toNat,by omega⟩
 have hi:i<aa.length:=by omega
 have hk:aK aa i=⟨if az aa i then 32 else 31,itoa i⟩:=by unfold aK;rw [if_neg (by omega)];rfl
 have g:=bm hi;refine oa ?_;obtain⟨z,B,C,h,_,⟨q1,D,E,rfl,_⟩,l,_⟩:=(hr.ext (St.cg st2)).at (ah hi);refine cM ?_;refine WP .r (PV.ef iI h rfl rfl (by omega))<|nx ?_;refine WP .r (PV.ld1 (j:=0) ed l rfl rfl)<|(bl) (fun g23=>?_) fun g23=>?_
 ·
  have e:aK aa i=⟨32,itoa i⟩:=by rw [hk,g,g23];rfl
  refine(eO) (fS (n:=(i:Int)) (by omega) (by omega) w2) st2 fun w3 m b=>?_;refine WP .r (PV.bA (us:=_) vA rfl rfl rfl)<|(dH) gz b fun w4 F G d=>?_;refine(nC) aq d.b0<|?_;rw [e];exact⟨rfl,(St.cg d)⟩
 have e:aK aa i=⟨31,itoa i⟩:=by rw [hk,g,g23];rfl
 refine(eO) (fS (n:=(i:Int)) (by omega) (by omega) w2) st2 fun w3 m b=>?_;refine WP .r (PV.bA (us:=_) vA rfl rfl rfl)<|(dH) gz b fun w4 H I d=>?_;refine(nC) aq d.b0<|?_;rw [e];exact⟨rfl,(St.cg d)⟩
set_option maxHeartbeats 400000
set_option maxRecDepth 1000000 in
theorem hW(d:s.size≤1000):CR prog 360 #[.string s] w (.string s):=by
 refine enter func360 rfl ntmps360 rfl<|?_;have aM:=St.s0 w;refine ba ?_;refine(bl) (fun g6=>?_) fun g6=>?_
 ·
  refine(bJ) ?_;exact⟨by rw [show s=⟨#[]⟩ from ByteArray.ext (Array.eq_empty_of_size_eq_zero (show s.size=0 by have:=of_decide_eq_true g6;omega))],(St.cg aM)⟩
 have h0:s.size≠0:=by have:=of_decide_eq_false g6;omega
 obtain⟨i,hi,b⟩:=Option.map_eq_some_iff.1 (show(prog.info? 5).map (fun i=>(i.zero,i.size,i.bytes))=some (some (.int .u8 0),1,1) by kernel_rfl);simp only [Prod.mk.injEq] at b;obtain⟨e,h1,hb⟩:=b;obtain⟨u1,g,h,k1,k2,k3,hc⟩:=sK (S:=9) (it:=3) (R1:=3) (R2:=9) underlying219 hi e h1 hb underlying564 h0 d w;refine fE ?_;refine WL.go rfl (OX.LM rfl rfl rfl k1 ?_);refine eE ?_;refine WL.go rfl (OX.LN rfl rfl rfl k2 ?_);refine dz ?_;refine WP .r (PV.Bb GD 0 (show some (⟨w.heap.size,0,none⟩:Addr)=some ⟨w.heap.size,0,none⟩ from rfl) rfl rfl rfl (by omega))<|cm ?_;refine WL.go rfl (OX.R0 rfl rfl rfl k3 ?_);refine(bJ) ?_;exact⟨rfl,hc⟩
theorem qM(i:s.size≤1000) (l:w.cell? ⟨2,0,none⟩=some .nilIface):Calls prog 262 #[.string f,.string s] w fun e w'=>∃b,e=.returned (.pointer (some ⟨b,0,none⟩))∧aQ [] w w':=by
 have hr:w.rangeAt 2 0 [.nilIface]:=fun j v d=>by
  cases j with
  | zero=>simp at d;subst d;exact l
  | succ j=>simp at d
 refine enter func262 rfl ntmps262 rfl<|?_;have aM:=St.s0 w;refine fE ?_;have o:=aM.cu;refine WC.dN (m:=4) (E:=cO [(2,fun v _=>v=.string s)]) aM (ca (⟨fun _ _ _ _ _ _ _ h=>h,trivial⟩)) mixed (by kernel_rfl)<|cm ?_;refine DW.c0 (fun q g u=>hW i)<|?_;refine DP .r (fun _ g=>PV.j1 tr (aS hr (St.cg g.2) (by simp)) rfl rfl)<|(da)<|?_;rintro w1 ⟨y,st1⟩ ⟨_,_⟩;refine WP .r (PV.bA (us:=[.string f,.string s,.nilIface]) y2 rfl rfl rfl)<|(dt) st1 fun z w2 B C st2=>?_;refine(bJ) ?_;exact⟨_,rfl,(St.cg st2)⟩
theorem qN(i:s.size≤1000) (l:w.cell? ⟨2,0,none⟩=some (.iface t p)):Calls prog 262 #[.string f,.string s] w fun e w'=>∃b,e=.returned (.pointer (some ⟨b,0,none⟩))∧aQ [] w w':=by
 have hr:w.rangeAt 2 0 [(.iface t p)]:=fun j v d=>by
  cases j with
  | zero=>simp at d;subst d;exact l
  | succ j=>simp at d
 refine enter func262 rfl ntmps262 rfl<|?_;have aM:=St.s0 w;refine fE ?_;have o:=aM.cu;refine WC.dN (m:=4) (E:=cO [(2,fun v _=>v=.string s)]) aM (ca (⟨fun _ _ _ _ _ _ _ h=>h,trivial⟩)) mixed (by kernel_rfl)<|cm ?_;refine DW.c0 (fun q g u=>hW i)<|?_;refine DP .r (fun _ g=>PV.j1 tr (aS hr (St.cg g.2) (by simp)) rfl rfl)<|(da)<|?_;rintro w1 ⟨y,st1⟩ ⟨_,_⟩;refine WP .r (PV.bA (us:=[.string f,.string s,(.iface t p)]) y2 rfl rfl rfl)<|(dt) st1 fun z w2 B C st2=>?_;refine(bJ) ?_;exact⟨_,rfl,(St.cg st2)⟩
theorem TT:prog.globalNamed "strconv.ErrSyntax" = some 2:=by kernel_rfl
theorem tA(ht:kb prog A w) (d:s.size≤1000):Calls prog 262 #[.string f,.string s] w fun e w'=>∃b,e=.returned (.pointer (some ⟨b,0,none⟩))∧aQ [] w w':=by
 obtain⟨ev,g,h⟩:=ht.err (.inl rfl) TT
 rcases h with rfl | ⟨t,p,rfl⟩
 ·
  exact qM d g
 exact qN d g
theorem qO(i:s.size≤1000) (l:w.cell? ⟨3,0,none⟩=some .nilIface):Calls prog 263 #[.string f,.string s] w fun e w'=>∃b,e=.returned (.pointer (some ⟨b,0,none⟩))∧aQ [] w w':=by
 have hr:w.rangeAt 3 0 [.nilIface]:=fun j v d=>by
  cases j with
  | zero=>simp at d;subst d;exact l
  | succ j=>simp at d
 refine enter func263 rfl ntmps263 rfl<|?_;have aM:=St.s0 w;refine fE ?_;have o:=aM.cu;refine WC.dN (m:=4) (E:=cO [(2,fun v _=>v=.string s)]) aM (ca (⟨fun _ _ _ _ _ _ _ h=>h,trivial⟩)) mixed (by kernel_rfl)<|cm ?_;refine DW.c0 (fun q g u=>hW i)<|?_;refine DP .r (fun _ g=>PV.j1 tr (aS hr (St.cg g.2) (by simp)) rfl rfl)<|(da)<|?_;rintro w1 ⟨y,st1⟩ ⟨_,_⟩;refine WP .r (PV.bA (us:=[.string f,.string s,.nilIface]) y2 rfl rfl rfl)<|(dt) st1 fun z w2 B C st2=>?_;refine(bJ) ?_;exact⟨_,rfl,(St.cg st2)⟩
theorem qP(i:s.size≤1000) (l:w.cell? ⟨3,0,none⟩=some (.iface t p)):Calls prog 263 #[.string f,.string s] w fun e w'=>∃b,e=.returned (.pointer (some ⟨b,0,none⟩))∧aQ [] w w':=by
 have hr:w.rangeAt 3 0 [(.iface t p)]:=fun j v d=>by
  cases j with
  | zero=>simp at d;subst d;exact l
  | succ j=>simp at d
 refine enter func263 rfl ntmps263 rfl<|?_;have aM:=St.s0 w;refine fE ?_;have o:=aM.cu;refine WC.dN (m:=4) (E:=cO [(2,fun v _=>v=.string s)]) aM (ca (⟨fun _ _ _ _ _ _ _ h=>h,trivial⟩)) mixed (by kernel_rfl)<|cm ?_;refine DW.c0 (fun q g u=>hW i)<|?_;refine DP .r (fun _ g=>PV.j1 tr (aS hr (St.cg g.2) (by simp)) rfl rfl)<|(da)<|?_;rintro w1 ⟨y,st1⟩ ⟨_,_⟩;refine WP .r (PV.bA (us:=[.string f,.string s,(.iface t p)]) y2 rfl rfl rfl)<|(dt) st1 fun z w2 B C st2=>?_;refine(bJ) ?_;exact⟨_,rfl,(St.cg st2)⟩
theorem TU:prog.globalNamed "strconv.ErrRange" = some 3:=by kernel_rfl
theorem tB(ht:kb prog A w) (d:s.size≤1000):Calls prog 263 #[.string f,.string s] w fun e w'=>∃b,e=.returned (.pointer (some ⟨b,0,none⟩))∧aQ [] w w':=by
 obtain⟨ev,g,h⟩:=ht.err (.inr rfl) TU
 rcases h with rfl | ⟨t,p,rfl⟩
 ·
  exact qO d g
 exact qP d g
theorem vR(ht:kb prog A w) (d:s.size≤1000):Calls prog 205 #[.string f,.string s,.int .i64 0,.int .i64 0,.iface 296 (.int .i64 2)] w fun e w'=>∃b,e=.returned (.iface 299 (.pointer (some ⟨b,0,none⟩)))∧aQ [] w w':=by
 refine enter func205 rfl ntmps205 rfl<|?_;have aM:=St.s0 w;refine ba ?_;refine cm ?_;refine WP .r (PV.Bp underlying296 (by intro ms h;cases h) rfl)<|WP .r (PV.HE underlying189 (by kernel_rfl) underlying296 rfl rfl)<|(bl) (fun g12=>?_) fun g12=>?_
 ·
  refine(c6) Oc (tA (ht.ext (St.cg aM)) d) ?_;rintro _ w1 ⟨b,rfl,s1⟩;have st1:=aM.step s1;refine WP .r (PV.Bp underlying299 (by intro ms h;cases h) rfl)<|(bJ) ?_;exact⟨_,rfl,(St.cg st1)⟩
 ·
  exact cI g12
 -- j l m g.0 g.1 i.2 i.3 o
theorem vS(ht:kb prog A w) (d:s.size≤1000):Calls prog 205 #[.string f,.string s,.int .i64 0,.int .i64 0,.iface 296 (.int .i64 1)] w fun e w'=>∃b,e=.returned (.iface 299 (.pointer (some ⟨b,0,none⟩)))∧aQ [] w w':=by
 refine enter func205 rfl ntmps205 rfl<|?_;have aM:=St.s0 w;refine ba ?_;refine cm ?_;refine WP .r (PV.Bp underlying296 (by intro ms h;cases h) rfl)<|WP .r (PV.HE underlying189 (by kernel_rfl) underlying296 rfl rfl)<|(bl) (fun g12=>?_) fun g12=>?_
 ·
  exact cI g12
 ·
  refine cm ?_;refine WP .r (PV.Bp underlying296 (by intro ms h;cases h) rfl)<|WP .r (PV.HE underlying189 (by kernel_rfl) underlying296 rfl rfl)<|(bl) (fun g19=>?_) fun g19=>?_
  ·
   refine(c6) Od (tB (ht.ext (St.cg aM)) d) ?_;rintro _ w1 ⟨b,rfl,s1⟩;have st1:=aM.step s1;refine WP .r (PV.Bp underlying299 (by intro ms h;cases h) rfl)<|(bJ) ?_;exact⟨_,rfl,(St.cg st1)⟩
  exact cI g19
 -- i j g.2 g.3 l
theorem vT{ev:Value}(ht:kb prog A w) (d:s.size≤1000) (he:ev=.iface 296 (.int .i64 2)∨ev=.iface 296 (.int .i64 1)):Calls prog 205 #[.string f,.string s,.int .i64 0,.int .i64 0,ev] w fun e w'=>∃b,e=.returned (.iface 299 (.pointer (some ⟨b,0,none⟩)))∧aQ [] w w':=by
 rcases he with rfl | rfl
 ·
  exact vR ht d
 exact vS ht d
theorem CY(ht:kb prog A w) (d:s.size≤1000):Calls prog 152 #[.string s] w fun e w'=>∃(v:Int) (ok:Bool) (ev:Value),e=.returned (.tuple #[.int .i64 v,ev])∧(-9223372036854775808≤v∧v≤9223372036854775807)∧((ok=true∧ev=.nilIface)∨(ok=false∧∃t y,ev=.iface t y))∧aQ [] w w':=by
 refine enter func152 rfl ntmps152 rfl<|?_;have aM:=St.s0 w;refine(c6) N1 (vP d w) ?_;rintro _ w1 ⟨v,ok,ev,rfl,g,h,i,s1⟩;have st1:=aM.step s1;refine hY ?_;refine WP .r (PV.LK tq rfl h)<|(bl) (fun g12=>?_) fun g12=>?_
 ·
  refine(c6) N2 (vT (ht.ext (St.cg st1)) d (i (by simpa using g12))) ?_;rintro _ w2 ⟨b,rfl,s2⟩;have st2:=st1.step s2;refine(xt) ?_;exact⟨v,false,_,rfl,g,.inr ⟨rfl,_,_,rfl⟩,(St.cg st2)⟩
 refine(xt) ?_;exact⟨v,true,.nilIface,rfl,g,.inl ⟨rfl,rfl⟩,(St.cg st1)⟩
end Go.Rc

