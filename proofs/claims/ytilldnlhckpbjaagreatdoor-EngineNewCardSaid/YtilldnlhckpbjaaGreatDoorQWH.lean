/- Walks over the program, part WH. Conditions: as each theorem says. -/
import Derived.Test.YtilldnlhckpbjaaGreatDoorQFacts
import Derived.Test.YtilldnlhckpbjaaGreatDoorQWB
import Derived.Test.YtilldnlhckpbjaaGreatDoorQWE
import Derived.Test.YtilldnlhckpbjaaGreatDoorQBd
set_option linter.all false
namespace Go.Rc
open Go Go.Proofs Go.Proofs.Tryz
variable {a a1 a2:Option Addr}{c n1 e1 n2 e2 r:Nat}{w:World}{Z A:Nat→Prop}{x:cB}{k:Key}{aa:List aG}
set_option maxHeartbeats 400000
theorem oz{l:List Rec}{n:Nat}(hl:Rd RR.iV 8 Z w a n c l):CR prog 63 #[.slice a n c] w (.bool (nn l)):=
 (pO hl).mono fun _ _ ⟨b,h1,d,e⟩=>⟨by rw [h1,za d],e⟩
theorem pk{M:Nat→Prop}(q:St w M Z w []) (hi:Rd RR.aD 4 Z w a1 n1 e1 x.ab) (hr:Rd RR.iV 8 Z w a2 n2 e2 x.ai) (s:x.ai.length≤1000000) (C:x.ab.length≤1000000):Calls prog 31 #[.agg (x.row a1 n1 e1 a2 n2 e2).toArray] w fun e w'=>∃f g h i j l Z',e=.returned (.agg (x.row f g h i j l).toArray)∧fE w.heap.size Z Z'∧St w M Z' w' [As.os RR.aD 80 4 f g h x.ab,As.os RR.iV 50 8 i j l x.ai]:=by
 have D:=hi.len;have E:=hr.len;refine enter func31 rfl ntmps31 rfl<|?_;have aO:=q;have st1:=aO.fr hi;have st2:=st1.fr hr;have t:=st2.fV RR.aD 80 4;refine(dx) t fun b1 w1 F G u=>?_;refine(gx) u fun b2 w2 H I d=>?_;refine(bp) i7 d.b1<|?_;refine WL.ap rfl rfl d.p2 ((As.gr d.g4)) fun a5 J w3 K L v=>?_;refine nx ?_;refine WL.s1 v.p2 fun w4 _ m=>?_;refine(bp) kg m.b0<|?_;have b:=m;refine(cJ) Vi (xS b.e0 (As.gr b.g3) s) ?_;rintro _ w5 ⟨f1,f2,f3,N,rfl,n,y⟩;have z:=St.lv b y n;have B:=n.le b.size;refine nx ?_;refine WL.s1 z.p1 fun w6 _ o=>?_;refine(bP) cc o.b0<|(dZ) kW o.p3 fun w7 O P p=>?_;refine(kp) cc p.b0<|?_;exact⟨_,_,_,_,_,_,_,rfl,B,p.p2.p3.k2⟩
theorem xT(hi:Rd RR.aD 4 Z w a1 n1 e1 x.ab) (hr:Rd RR.iV 8 Z w a2 n2 e2 x.ai) {k:Key}:CR prog 65 #[.agg (x.row a1 n1 e1 a2 n2 e2).toArray,k.val] w (.agg (bf x.ab k).cells.toArray):=by
 have hlen:=SR.len hi;have hle:=SR.le hi;refine enter func65 rfl ntmps65 rfl<|?_;have c0:aQ [] w w:=aQ.refl _ _;refine bM ?_;refine WL.go rfl (OX.box rfl rfl rfl fun b2 w1 G e=>?_);have s1:=G.ext;have S:=G.kz c0;have c1:=c0.trans s1;refine WL.go rfl (OX.box rfl rfl rfl fun b3 w2 o b=>?_);have s2:=o.ext;have T:=o.kz c1;have M:b2≠b3:=o.ne e.lt;have U:b3≠b2:=Ne.symm M;have c2:=c1.trans s2;have e:=e.ext s2;refine WL.go rfl (OX.alloc Hf rfl fun b4 w3 l d=>?_);have s:=l.ext;have H:=l.kz c2;have N:b2≠b4:=l.ne e.lt;have V:b4≠b2:=Ne.symm N;have u:b3≠b4:=l.ne b.lt;have W:b4≠b3:=Ne.symm u;have c3:=c2.trans s;have e:=e.ext s;have b:=b.ext s;refine dp ?_;refine WP .r (PV.fa rp rfl)<|(bp) i7 e.range<|?_;refine WP .r (PV.gT pM rfl)<|cw ?_;refine WC.loop (σ:=Nat) (db:=fun i=>[(3,.pointer (some ⟨b3,0,none⟩)),(4,.pointer (some ⟨b4,0,none⟩)),(8,.slice a1 n1 e1),(9,.int .i64 (n1:Int)),(10,.int .i64 (i:Int))]) (I:=fun i w'=>aQ [] w w'∧bJ w' b3 43 [.int .i64 k.kind,.string k.text]∧bJ w' b4 80 [.int .i64 0,.string ⟨#[]⟩,.string ⟨#[]⟩,.int .i64 0]∧i≤n1∧(∀j y,j<i→x.ab[j]?=some y→(y.key == k)=false)) (μ:=fun i=>n1 - i) 0 Sub.t ⟨c3,b,d,by omega,fun j x h=>by omega⟩ ?_;rintro i w4 ⟨c4,b,d,X,v⟩;refine(aX) (fun g11=>?_) fun g11=>?_
 ·
  simp at g11
  have z:i<x.ab.length:=by omega
  refine dp ?_;obtain⟨Y,S2,S3,O,_,B,C,_⟩:=SR.at hi (ah z);have B:=RR.bt B;subst B;have C:=aV C c4 (by simp);refine nx ?_;refine WP .r (PV.dR pM O rfl rfl (by omega))<|(bP) kc C<|?_;refine WL.go rfl (OX.alloc Hf rfl fun m w5 n f=>?_);have g:=n.ext;have P:=n.kz c4;have J:b3≠m:=n.ne b.lt;have LF:m≠b3:=Ne.symm J;have K:b4≠m:=n.ne d.lt;have Q:m≠b4:=Ne.symm K;have c5:=c4.trans g;have b:=b.ext g;have d:=d.ext g;refine WL.go rfl (OX.oH xK f rfl rfl rfl rfl rfl fun w6 D _ f=>?_);have L:=c5.own D P;have b:=b.cq D (by simp [J]);have d:=d.cq D (by simp [K]);refine cw ?_;refine WP .r (PV.fa ox rfl)<|(ko) ak f.range<|(bP) ak b.range<|?_;refine WP .r (PV.Dh fP (p:=x.ab[i].key) (q:=k) rfl rfl)<|(aX) (fun g17=>?_) fun g17=>?_
  ·
   simp at g17
   have E:bf x.ab k=x.ab[i]:=by unfold bf;rw [iT z v (by simpa using g17)];rfl
   refine(bP) kc f.range<|?_;refine WL.go rfl (OX.oH xK d rfl rfl rfl rfl rfl fun w7 F _ d=>?_);have R:=L.own F H;have b:=b.cq F (by simp [u]);have f:=f.cq F (by simp [Q]);refine(kp) kc d.range<|?_;exact⟨by rw [E],R⟩
  simp at g17
  refine fb ?_;refine EX.again (i+1) (Sub.k4 rfl rfl rfl rfl<|Sub.ir rfl (by simp)<|Sub.nil) ⟨L,b,d,by omega,cH z v (by simpa using g17)⟩ (by omega)
 simp at g11
 have E:bf x.ab k=⟨k,⟨#[]⟩,0⟩:=by unfold bf;rw [qp (i:=i) (by omega) v];rfl
 refine(bP) ak b.range<|?_;refine WP .r (PV.br (us:=(bW.mk k ⟨#[]⟩ 0).cells) Hd rfl rfl rfl)<|?_;refine WL.go rfl (OX.oH xK d rfl rfl rfl rfl rfl fun w5 g _ d=>?_);have c5:=c4.own g H;have b:=b.cq g (by simp [u]);refine(kp) kc d.range<|?_;exact⟨by rw [E],c5⟩
theorem ui(hi:Rd RR.aD 4 Z w a1 n1 e1 x.ab) (hr:Rd RR.iV 8 Z w a2 n2 e2 x.ai) {k:Key}:CR prog 34 #[.agg (x.row a1 n1 e1 a2 n2 e2).toArray,k.val] w (.string (bf x.ab k).value):=by
 refine enter func34 rfl ntmps34 rfl<|?_;have c0:aQ [] w w:=aQ.refl _ _;refine bM ?_;refine WL.go rfl (OX.box rfl rfl rfl fun b2 w1 h b=>?_);have s1:=h.ext;have j:=h.kz c0;have c1:=c0.trans s1;refine WL.go rfl (OX.box rfl rfl rfl fun b3 w2 d e=>?_);have s2:=d.ext;have l:=d.kz c1;have i:b2≠b3:=d.ne b.lt;have m:b3≠b2:=Ne.symm i;have c2:=c1.trans s2;have b:=b.ext s2;refine(bP) cc b.range<|(bP) ak e.range<|(cJ) Vk (xT (k:=k) (hi.ext c2) (hr.ext c2)) ?_;rintro _ w3 ⟨rfl,g⟩;have c3:=c2.trans g;have b:=b.ext g;have e:=e.ext g;refine WP .r (PV.uK (fs:=[_,_,_]) (f:=1) (off:=2) (T:=80) underlying80 rfl rfl (show ∀w,(isAgg 9).run _ w=.ok false w from isAgg9) rfl rfl)<|(bB) ?_;exact⟨rfl,c3⟩
theorem nI(hi:Rd RR.aD 4 Z w a1 n1 e1 x.ab) (hr:Rd RR.iV 8 Z w a2 n2 e2 x.ai):Calls prog 32 #[.agg (x.row a1 n1 e1 a2 n2 e2).toArray] w fun e w'=>∃b:Bool,e=.returned (.bool b)∧(b=true↔gz x)∧aQ [] w w':=by
 have hlen:=SR.len hi;have hle:=SR.le hi;have rD:=SR.len hr;have pP:=SR.le hr;refine enter func32 rfl ntmps32 rfl<|?_;have c0:aQ [] w w:=aQ.refl _ _;refine bM ?_;refine WL.go rfl (OX.box rfl rfl rfl fun b1 w1 VQ f=>?_);have s1:=VQ.ext;have VR:=VQ.kz c0;have c1:=c0.trans s1;refine fj ?_;refine WP .r (PV.fa rp rfl)<|(bp) i7 f.range<|?_;refine WP .r (PV.gT pM rfl)<|cw ?_;refine WC.loop (σ:=Nat) (db:=fun i=>[(1,.pointer (some ⟨b1,0,none⟩)),(8,.slice a1 n1 e1),(9,.int .i64 (n1:Int)),(10,.int .i64 (i:Int))]) (I:=fun i w'=>aQ [] w w'∧bJ w' b1 32 (x.row a1 n1 e1 a2 n2 e2)∧i≤n1∧∀j y,j<i→x.ab[j]?=some y→fK x.ad x.ab j=false) (μ:=fun i=>n1 - i) 0 Sub.t ⟨c1,f,by omega,fun j y h=>by omega⟩ ?_;rintro i w2 ⟨c2,f,dw,K⟩;refine(aX) (fun g11=>?_) fun g11=>?_
 ·
  simp at g11
  have F:i<x.ab.length:=by omega
  have l:=getElem!_pos x.ab i F;obtain⟨VK,S2,S3,O,_,Q,G,_⟩:=SR.at hi (ah F);have Q:=RR.bt Q;subst Q;refine dp ?_;have G:=aV G c2 (by simp);refine bM ?_;refine WP .r (PV.dR pM O rfl rfl (by omega))<|(bP) kc G<|?_;refine WL.go rfl (OX.alloc Hf rfl fun b4 w3 R o=>?_);have s3:=R.ext;have vi:=R.kz c2;have rI:b1≠b4:=R.ne f.lt;have LG:b4≠b1:=Ne.symm rI;have c3:=c2.trans s3;have f:=f.ext s3;refine nx ?_;refine WL.go rfl (OX.oH xK o rfl rfl rfl rfl rfl fun w4 D _ o=>?_);have c4:=c3.own D vi;have f:=f.cq D (by simp [rI]);refine cv ?_;refine WC.jF (t:=59) (v:=.bool (fK x.ad x.ab i)) (aQ [] w4) ?_<|?_
  ·
   refine WC.drawn (m:=43) (C:=aQ [] w4) (T:=fun _=>aQ []) (E:=cA [(2,fun v _=>v=.bool (ek x.ab[i].key)),(7,fun v _=>v=.bool (aw x.ab[i].key)),(23,fun v _=>v=.int .i64 (bl x.ab[i - 1].key x.ab[i].key))]) (bz (⟨fun _ _ _ _ _ _ _ h=>h,⟨fun _ _ _ _ _ _ _ h=>h,⟨fun _ _ _ _ _ _ _ h=>h,trivial⟩⟩⟩)) mixed (by kernel_rfl) (aQ.drew _ _)<|?_;refine DP .r (fun _ g=>PV.fa ox rfl)<|DP .r (fun _ g=>PV.wK ak (o.ext g).range rfl rfl)<|?_;refine DW.e rfl rfl rfl rfl rfl (fun wx g hF=>OX.call EL rfl rfl ((gl (k:=x.ab[i].key)).mono ?_))<|?_
   ·
    rintro _ wy ⟨rfl,hy⟩;exact⟨_,rfl,g.trans hy,hy,_,rfl,rfl⟩
   rintro _ wz _ rfl;refine(pF) (fun g19=>?_) (fun g19=>?_)
   ·
    refine aT ?_;refine aT ?_;refine aT ?_;refine(cM) ?_;rintro w5 d _;have c5:=c4.trans d;have f:=f.ext d;have o:=o.ext d;exact(cp) (by unfold fK;first | (simp only [l,z,g19];done) | (simp only [l,z,g19];rfl) | (simp only [l,g19];rfl) | (simp only [l,g19];done)) d
   refine DP .r (fun _ g=>PV.fa ox rfl)<|DP .r (fun _ g=>PV.wK ak (o.ext g).range rfl rfl)<|?_;refine DW.e rfl rfl rfl rfl rfl (fun wx g hF=>OX.call HE rfl rfl ((dP (k:=x.ab[i].key)).mono ?_))<|?_
   ·
    rintro _ wy ⟨rfl,hy⟩;exact⟨_,rfl,g.trans hy,hy,_,rfl,rfl⟩
   rintro _ wz _ rfl;refine(pF) (fun n=>?_) (fun n=>?_)
   ·
    refine aT ?_;refine aT ?_;refine(cM) ?_;rintro w5 d _;have c5:=c4.trans d;have f:=f.ext d;have o:=o.ext d;exact(cp) (by unfold fK;first | (simp only [l,z,g19,n];done) | (simp only [l,z,g19,n];rfl) | (simp only [l,g19,n];rfl) | (simp only [l,g19,n];done)) d
   refine(pF) (fun p=>?_) (fun p=>?_)
   ·
    have Nt:i - 1<x.ab.length:=by omega
    have z:=getElem!_pos x.ab (i - 1) Nt;have VP:=of_decide_eq_true p;obtain⟨VL,VM,VN,yP,_,S,U,_⟩:=SR.at hi (ah Nt);have S:=RR.bt S;subst S;have U:=aV U c4 (by simp);refine DP .r (fun _ g=>PV.fa rp rfl)<|DP .r (fun _ g=>PV.ld1 i7 (f.ext g).range rfl rfl)<|bM ?_;refine DP .r (fun _ g=>PV.BD pM (i - 1) yP rfl rfl (by omega) (by omega))<|DP .r (fun _ g=>PV.fa ox rfl)<|DP .r (fun _ g=>PV.wK ak (aV U g (by simp)) rfl rfl)<|DP .r (fun _ g=>PV.fa ox rfl)<|DP .r (fun _ g=>PV.wK ak (o.ext g).range rfl rfl)<|?_;refine DW.e rfl rfl rfl rfl rfl (fun wx g hF=>OX.call Ll rfl rfl ((lH (k:=x.ab[i - 1].key) (q:=x.ab[i].key)).mono ?_))<|?_
    ·
     rintro _ wy ⟨rfl,hy⟩;exact⟨_,rfl,g.trans hy,hy,_,rfl,rfl⟩
    rintro _ wz _ rfl;refine(pF) (fun B=>?_) (fun B=>?_)
    ·
     refine aT ?_;refine(cM) ?_;rintro w5 d _;have c5:=c4.trans d;have f:=f.ext d;have o:=o.ext d;exact(cp) (by unfold fK;first | (simp only [l,z,g19,n,p,B];done) | (simp only [l,z,g19,n,p,B];rfl) | (simp only [l,g19,n,p,B];rfl) | (simp only [l,g19,n,p,B];done)) d
    refine DP .r (fun _ g=>PV.fa zV rfl)<|DP .r (fun _ g=>PV.ld1 ff (o.ext g).range rfl rfl)<|DP .r (fun _ g=>PV.uu rj rfl)<|(pF) (fun s=>?_) (fun s=>?_)
    ·
     refine(cM) ?_;rintro w5 d _;have c5:=c4.trans d;have f:=f.ext d;have o:=o.ext d;exact(cp) (by unfold fK;first | (simp only [l,z,g19,n,p,B,s];done) | (simp only [l,z,g19,n,p,B,s];rfl) | (simp only [l,g19,n,p,B,s];rfl) | (simp only [l,g19,n,p,B,s];done)) d
    refine DP .r (fun _ g=>PV.fa ry rfl)<|DP .r (fun _ g=>PV.ld1 aP (o.ext g).range rfl rfl)<|(pF) (fun u=>?_) (fun u=>?_)
    ·
     refine(cM) ?_;rintro w5 d _;have c5:=c4.trans d;have f:=f.ext d;have o:=o.ext d;exact(cp) (by unfold fK;first | (simp only [l,z,g19,n,p,B,s,u];done) | (simp only [l,z,g19,n,p,B,s,u];rfl) | (simp only [l,g19,n,p,B,s,u];rfl) | (simp only [l,g19,n,p,B,s,u];done)) d
    refine DP .r (fun _ g=>PV.fa ry rfl)<|DP .r (fun _ g=>PV.ld1 aP (o.ext g).range rfl rfl)<|DP .r (fun _ g=>PV.fa oq rfl)<|DP .r (fun _ g=>PV.ld1 aP (f.ext g).range rfl rfl)<|(cM)<|?_;rintro w5 d _;have c5:=c4.trans d;have f:=f.ext d;have o:=o.ext d;exact(cp) (by unfold fK;first | (simp only [l,z,g19,n,p,B,s,u];done) | (simp only [l,z,g19,n,p,B,s,u];rfl) | (simp only [l,g19,n,p,B,s,u];rfl) | (simp only [l,g19,n,p,B,s,u];done)) d
   refine aT ?_;refine bM ?_;refine DP .r (fun _ g=>PV.fa zV rfl)<|DP .r (fun _ g=>PV.ld1 ff (o.ext g).range rfl rfl)<|DP .r (fun _ g=>PV.uu rj rfl)<|(pF) (fun s=>?_) (fun s=>?_)
   ·
    refine(cM) ?_;rintro w5 d _;have c5:=c4.trans d;have f:=f.ext d;have o:=o.ext d;exact(cp) (by unfold fK;first | (simp only [l,z,g19,n,p,s];done) | (simp only [l,z,g19,n,p,s];rfl) | (simp only [l,g19,n,p,s];rfl) | (simp only [l,g19,n,p,s];done)) d
   refine DP .r (fun _ g=>PV.fa ry rfl)<|DP .r (fun _ g=>PV.ld1 aP (o.ext g).range rfl rfl)<|(pF) (fun u=>?_) (fun u=>?_)
   ·
    refine(cM) ?_;rintro w5 d _;have c5:=c4.trans d;have f:=f.ext d;have o:=o.ext d;exact(cp) (by unfold fK;first | (simp only [l,z,g19,n,p,s,u];done) | (simp only [l,z,g19,n,p,s,u];rfl) | (simp only [l,g19,n,p,s,u];rfl) | (simp only [l,g19,n,p,s,u];done)) d
   refine DP .r (fun _ g=>PV.fa ry rfl)<|DP .r (fun _ g=>PV.ld1 aP (o.ext g).range rfl rfl)<|DP .r (fun _ g=>PV.fa oq rfl)<|DP .r (fun _ g=>PV.ld1 aP (f.ext g).range rfl rfl)<|(cM)<|?_;rintro w5 d _;have c5:=c4.trans d;have f:=f.ext d;have o:=o.ext d;exact(cp) (by unfold fK;first | (simp only [l,z,g19,n,p,s,u];done) | (simp only [l,z,g19,n,p,s,u];rfl) | (simp only [l,g19,n,p,s,u];rfl) | (simp only [l,g19,n,p,s,u];done)) d
  intro w5 d;have c5:=c4.trans d;have f:=f.ext d;have o:=o.ext d;refine(aX) (fun V=>?_) fun V=>?_
  ·
   skip
   refine(bB) ?_;exact⟨false,rfl,⟨fun h=>(by cases h),fun h=>absurd (h.1 i _ (ah F)) (by simp [V])⟩,c5⟩
  refine fb ?_;refine EX.again (i+1) (Sub.k2 rfl rfl<|Sub.cons rfl<|Sub.ir rfl (by simp)<|Sub.nil) ⟨c5,f,by omega,cH (P:=fun j _=>fK x.ad x.ab j=false) F K V⟩ (by omega)
 simp at g11
 have K:uJ x.ad x.ab:=fun j y H=>K j y (by have:=(List.getElem?_eq_some_iff.1 H).1;omega) H;refine gW ?_;refine WP .r (PV.fa zQ rfl)<|(bp) kg f.range<|?_;refine WP .r (PV.gT lM rfl)<|cw ?_;refine WC.loop (σ:=Nat) (db:=fun i=>[(1,.pointer (some ⟨b1,0,none⟩)),(62,.slice a2 n2 e2),(63,.int .i64 (n2:Int)),(64,.int .i64 (i:Int))]) (I:=fun i w'=>aQ [] w w'∧bJ w' b1 32 (x.row a1 n1 e1 a2 n2 e2)∧i≤n2∧∀(j:Nat) (y:Rec),j<i→x.ai[j]?=some y→y.aq≤x.ad) (μ:=fun i=>n2 - i) 0 Sub.t ⟨c2,f,by omega,fun j y h=>by omega⟩ ?_;rintro i2 w3 ⟨c3,f,adO,L⟩;refine(aX) (fun W=>?_) fun W=>?_
 ·
  simp at W
  have F:i2<x.ai.length:=by omega
  obtain⟨VK,S2,S3,O,_,⟨q1,q2,q3,rfl,S5,QH⟩,G,_⟩:=SR.at hr (ah F);refine dp ?_;have G:=aV G c3 (by simp);refine nx ?_;refine WP .r (PV.dR lM O rfl rfl (by omega))<|(bP) fI G<|?_;refine WL.go rfl (OX.alloc EE rfl fun b6 w4 X Y=>?_);have D:=X.ext;have Ab:=X.kz c3;have rJ:b1≠b6:=X.ne f.lt;have LH:b6≠b1:=Ne.symm rJ;have c4:=c3.trans D;have f:=f.ext D;refine WL.go rfl (OX.oH mF Y rfl rfl rfl rfl rfl fun w5 d _ Y=>?_);have c5:=c4.own d Ab;have f:=f.cq d (by simp [rJ]);refine cw ?_;refine WP .r (PV.fa vd rfl)<|(bp) aP Y.range<|?_;refine WP .r (PV.fa oq rfl)<|(bp) aP f.range<|(aX) (fun M=>?_) fun M=>?_
  ·
   simp at M
   refine(bB) ?_;exact⟨false,rfl,⟨fun h=>(by cases h),fun h=>absurd (h.2.1 i2 _ (ah F)) (by omega)⟩,c5⟩
  simp at M
  refine fb ?_;refine EX.again (i2+1) (Sub.k2 rfl rfl<|Sub.cons rfl<|Sub.ir rfl (by simp)<|Sub.nil) ⟨c5,f,by omega,cH (P:=fun _ (y:Rec)=>y.aq≤x.ad) F L M⟩ (by omega)
 simp at W
 have L:∀(j:Nat) (y:Rec),x.ai[j]?=some y→y.aq≤x.ad:=fun j y H=>L j y (by have:=(List.getElem?_eq_some_iff.1 H).1;omega) H;refine fj ?_;refine WC.kC (t:=2) (v:=.bool (jM x)) (aQ [] w3) ?_<|?_
 ·
  refine nx ?_;refine WP .r (PV.fa oq rfl)<|(bp) aP f.range<|(cO) (fun J=>?_) (fun J=>?_)
  ·
   refine WP .r (PV.fa oq rfl)<|(bp) aP f.range<|(cO) (fun N=>?_) (fun N=>?_)
   ·
    refine WP .r (PV.fa rp rfl)<|(bp) i7 f.range<|?_;refine WP .r (PV.gT pM rfl)<|(cO) (fun QI=>?_) (fun QI=>?_)
    ·
     refine WP .r (PV.fa zQ rfl)<|(bp) kg f.range<|(cJ) Vj (oz (hr.ext c3)) ?_;rintro _ w4 ⟨rfl,D⟩;have c4:=c3.trans D;have f:=f.ext D;exact(fF) (by unfold jM;simp only [J,N,QI,← hlen];first | rfl | simp) D
    exact(fF) (by unfold jM;simp only [J,N,QI,← hlen];first | rfl | simp) (aQ.refl _ _)
   exact(fF) (by unfold jM;simp only [J,N,← hlen];first | rfl | simp) (aQ.refl _ _)
  refine aT ?_;exact(fF) (by unfold jM;simp only [J,← hlen];first | rfl | simp) (aQ.refl _ _)
 intro w4 D;have c4:=c3.trans D;have f:=f.ext D;refine(bB) ?_;exact⟨_,rfl,⟨fun h=>by have:=(oT x).1 h;exact⟨K,L,this⟩,fun h=>(oT x).2 h.2.2⟩,c4⟩
set_option maxHeartbeats 400000
theorem sL{n:Int} :CR prog 181 #[.int .i64 n] w (.string (pZ n)):=by
 refine enter func181 rfl ntmps181 rfl<|?_;have c0:aQ [] w w:=aQ.refl _ _;refine(aX) (fun g4=>?_) fun g4=>?_
 ·
  simp at g4
  refine(bB) ?_;exact⟨by unfold pZ;rw [if_pos g4],c0⟩
 simp at g4
 refine(bB) ?_;exact⟨by unfold pZ;rw [if_neg g4],c0⟩
theorem nJ :CR prog 132 #[k.val] w (.string (mw k)):=by
 refine enter func132 rfl ntmps132 rfl<|?_;have c0:aQ [] w w:=aQ.refl _ _;refine bM ?_;refine WL.go rfl (OX.box rfl rfl rfl fun b1 w1 d b=>?_);have s1:=d.ext;have f:=d.kz c0;have c1:=c0.trans s1;refine fb ?_;refine WP .r (PV.fa cT rfl)<|(bp) aP b.range<|(aX) (fun g3=>?_) fun g3=>?_
 ·
  simp at g3
  refine(bB) ?_;exact⟨by unfold mw;rw [if_pos g3],c1⟩
 simp at g3
 refine(bP) ak b.range<|(cJ) Lq (ib (k:=k)) ?_;rintro _ w2 ⟨rfl,s2⟩;have c2:=c1.trans s2;have b:=b.ext s2;refine(aX) (fun g7=>?_) fun g7=>?_
 ·
  refine bM ?_;refine WP .r (PV.fa cT rfl)<|(bp) aP b.range<|(cJ) Ql (sL (n:=k.kind)) ?_;rintro _ w3 ⟨rfl,e⟩;have c3:=c2.trans e;have b:=b.ext e;refine(bB) ?_;exact⟨by unfold mw;rw [if_neg g3,if_pos g7],c3⟩
 refine(bB) ?_;exact⟨by unfold mw;rw [if_neg g3,if_neg (by simp [g7])],c2⟩
theorem xU(hr:ei A w a r c aa):CR prog 87 #[.slice a r c,k.val] w (.bool (fL aa k)):=by
 refine enter func87 rfl ntmps87 rfl<|?_;have c0:aQ [] w w:=aQ.refl _ _;refine bM ?_;refine WL.go rfl (OX.box rfl rfl rfl fun b3 w1 j d=>?_);have s1:=j.ext;have l:=j.kz c0;have c1:=c0.trans s1;refine cw ?_;refine WC.kC (t:=4) (v:=.bool (fL aa k)) (aQ [] w1) ?_<|?_
 ·
  refine WC.drawn (m:=17) (C:=aQ [] w1) (T:=fun _=>aQ []) (E:=cA [(1,fun v _=>v=.bool (ek k)),(14,fun v _=>v=.int .i64 (number k)),(15,fun v _=>v=(aN aa (number k)).val)]) (bz (⟨fun _ _ _ _ _ _ _ h=>h,⟨fun _ _ _ _ _ _ _ h=>h,⟨fun _ _ _ _ _ _ _ h=>h,trivial⟩⟩⟩)) mixed (by kernel_rfl) (aQ.drew _ _)<|?_;refine DP .r (fun _ b=>PV.Bx ak (d.ext b).range rfl rfl)<|?_;refine DW.e rfl rfl rfl rfl rfl (fun f b g=>OX.call EL rfl rfl ((gl (k:=k)).mono ?_))<|?_
  ·
   rintro _ wy ⟨rfl,hy⟩;exact⟨_,rfl,b.trans hy,hy,_,rfl,rfl⟩
  rintro _ i _ rfl;refine(pF) (fun g7=>?_) (fun g7=>?_)
  ·
   refine DP .r (fun _ b=>PV.fa cT rfl)<|DP .r (fun _ b=>PV.ld1 aP (d.ext b).range rfl rfl)<|(pF) (fun g11=>?_) (fun g11=>?_)
   ·
    refine DP .r (fun _ b=>PV.fa cT rfl)<|DP .r (fun _ b=>PV.ld1 aP (d.ext b).range rfl rfl)<|(pF) (fun g16=>?_) (fun g16=>?_)
    ·
     refine(cM) ?_;rintro w2 s2 _;have c2:=c1.trans s2;have d:=d.ext s2;exact(fF) (by unfold fL;simp only [g7,g11,g16];first | rfl | simp) s2
    refine nx ?_;refine DP .r (fun _ b=>PV.Bx ak (d.ext b).range rfl rfl)<|?_;refine DW.e rfl rfl rfl rfl rfl (fun f b g=>OX.call HI rfl rfl ((ia (k:=k)).mono ?_))<|?_
    ·
     rintro _ wy ⟨rfl,hy⟩;exact⟨_,rfl,b.trans hy,hy,_,rfl,rfl⟩
    rintro _ i _ rfl;refine DW.e rfl rfl rfl rfl rfl (fun f b g=>OX.call vg rfl rfl ((fu (n:=number k) (hr.ext (c1.trans b))).mono ?_))<|?_
    ·
     rintro _ wy ⟨rfl,hy⟩;exact⟨_,rfl,b.trans hy,hy,_,rfl,rfl⟩
    rintro _ i _ rfl;refine DP .r (fun _ b=>PV.Bx ak (d.ext b).range rfl rfl)<|(cM)<|?_;rintro w2 s2 _;have c2:=c1.trans s2;have d:=d.ext s2;refine WP .r (PV.Dh fP (p:=aN aa (number k)) (q:=k) rfl rfl)<|?_;exact(fF) (by unfold fL;simp only [g7,g11,g16];first | rfl | simp) s2
   refine fj ?_;refine DP .r (fun _ b=>PV.Bx ak (d.ext b).range rfl rfl)<|?_;refine DW.e rfl rfl rfl rfl rfl (fun f b g=>OX.call HI rfl rfl ((ia (k:=k)).mono ?_))<|?_
   ·
    rintro _ wy ⟨rfl,hy⟩;exact⟨_,rfl,b.trans hy,hy,_,rfl,rfl⟩
   rintro _ i _ rfl;refine DW.e rfl rfl rfl rfl rfl (fun f b g=>OX.call vg rfl rfl ((fu (n:=number k) (hr.ext (c1.trans b))).mono ?_))<|?_
   ·
    rintro _ wy ⟨rfl,hy⟩;exact⟨_,rfl,b.trans hy,hy,_,rfl,rfl⟩
   rintro _ i _ rfl;refine DP .r (fun _ b=>PV.Bx ak (d.ext b).range rfl rfl)<|(cM)<|?_;rintro w2 s2 _;have c2:=c1.trans s2;have d:=d.ext s2;refine WP .r (PV.Dh fP (p:=aN aa (number k)) (q:=k) rfl rfl)<|?_;exact(fF) (by unfold fL;simp only [g7,g11];first | rfl | simp) s2
  refine aT ?_;refine(cM) ?_;rintro w2 s2 _;have c2:=c1.trans s2;have d:=d.ext s2;exact(fF) (by unfold fL;simp only [g7];first | rfl | simp) s2
 intro w2 s2;have c2:=c1.trans s2;have d:=d.ext s2;refine(bB) ?_;exact⟨rfl,c2⟩
theorem eP{ae:List ByteArray}{B C:Nat→Prop}{r2:Nat}(ht:j5 prog A w) (hr:ei B w a r c aa) (hl:Strs C w a2 r2 e2 ae) (hb:∀x∈aa,0≤x.c∧x.c≤65535∧x.asks.length≤1000) (hk:cx k):CR prog 88 #[.slice a r c,k.val,.slice a2 r2 e2] w ((aM aa k ae).val):=by
 refine enter func88 rfl ntmps88 rfl<|?_;have c0:aQ [] w w:=aQ.refl _ _;refine bM ?_;refine WL.go rfl (OX.box rfl rfl rfl fun b4 w1 m b=>?_);have s1:=m.ext;have q:=m.kz c0;have c1:=c0.trans s1;refine WL.go rfl (OX.alloc nH rfl fun n w2 g e=>?_);have s2:=g.ext;have o:=g.kz c1;have i:b4≠n:=g.ne b.lt;have s:n≠b4:=Ne.symm i;have c2:=c1.trans s2;have b:=b.ext s2;refine dp ?_;refine WC.jF (t:=7) (v:=.bool (decide (k.kind=31) || decide (k.kind=32))) (fun p=>w2=p) ?_ ?_
 ·
  refine nx ?_;refine WP .r (PV.fa cT rfl)<|(bp) aP b.range<|(cO) (fun g11=>?_) (fun g11=>?_)
  ·
   exact(cp) (by simp only [g11];first | rfl | simp) rfl
  refine WP .r (PV.fa cT rfl)<|(bp) aP b.range<|?_;exact(cp) (by simp only [g11];first | rfl | simp) rfl
 rintro _ rfl;refine(aX) (fun g7=>?_) fun g7=>?_
 ·
  simp at g7
  have j:aM aa k ae=bN aa k ae:=by unfold aM;rw [if_pos g7]
  refine(bP) ak b.range<|(cJ) P0 (zZ (k:=k) (ht.ext c2) (hr.ext c2) (hl.ext c2) hb) ?_;rintro _ w3 ⟨rfl,d⟩;have c3:=c2.trans d;have b:=b.ext d;have e:=e.ext d;refine WL.go rfl (OX.oH fc e rfl rfl rfl rfl rfl fun w4 f _ e=>?_);have c4:=c3.own f o;have b:=b.cq f (by simp [i]);refine(kp) gj e.range<|?_;rw [j];exact⟨rfl,c4⟩
 simp at g7
 have j:aM aa k ae=⟨true,⟨#[]⟩,dA⟩:=by unfold aM;rw [if_neg (by omega)]
 refine nx ?_;refine WC.jF (t:=20) (v:=.bool (aw k || (decide (k.kind<1) || decide (22<k.kind)))) (aQ [] w2) ?_<|?_
 ·
  refine(bP) ak b.range<|(cJ) HE (dP (k:=k)) ?_;rintro _ w3 ⟨rfl,d⟩;have c3:=c2.trans d;have b:=b.ext d;have e:=e.ext d;refine(cO) (fun g23=>?_) (fun g23=>?_)
  ·
   exact(cp) (by simp only [g23];first | rfl | simp) d
  refine WP .r (PV.fa cT rfl)<|(bp) aP b.range<|(cO) (fun l=>?_) (fun l=>?_)
  ·
   exact(cp) (by simp only [g23,l];first | rfl | simp) d
  refine WP .r (PV.fa cT rfl)<|(bp) aP b.range<|?_;exact(cp) (by simp only [g23,l];first | rfl | simp) d
 intro w3 d;have c3:=c2.trans d;have b:=b.ext d;have e:=e.ext d;refine(aX) (fun g20=>?_) fun g20=>?_
 ·
  skip
  refine bM ?_;refine WP .r (PV.br (us:=[.bool true,.string ⟨#[]⟩,.int .i64 0,.string ⟨#[]⟩]) ke rfl rfl rfl)<|?_;refine WL.go rfl (OX.oH fc e rfl rfl rfl rfl rfl fun w4 f _ e=>?_);have c4:=c3.own f o;have b:=b.cq f (by simp [i]);refine(kp) gj e.range<|?_;rw [j];exact⟨rfl,c4⟩
 exfalso;simp at g20;rcases hk with h | h <;> omega
set_option maxHeartbeats 400000
end Go.Rc

