/- Walks over the program, part WH. Conditions: as each theorem says. -/
import Derived.Test.YtjpagoacbadijaaGreatDoorJFacts
import Derived.Test.YtjpagoacbadijaaGreatDoorJWB
import Derived.Test.YtjpagoacbadijaaGreatDoorJWD
import Derived.Test.YtjpagoacbadijaaGreatDoorJWF
import Derived.Test.YtjpagoacbadijaaGreatDoorJBe
set_option linter.all false
namespace Go.Rc
open Go Go.Proofs Go.Proofs.Tryz
variable {n r c e2 n1 e1 n2 g eg:Nat}{w:World}{k:Key}{aa:List az}{A B Z:Nat→Prop}{a a2 a1 ag:Option Addr}{l:List Rec}{x:cI}
set_option maxHeartbeats 400000
theorem sz{n:Int} :CR prog 140 #[.int .i64 n] w (.string (pT n)):=by
 refine enter func140 rfl ntmps140 rfl<|?_;have c0:aJ [] w w:=aJ.refl _ _;refine(aP) (fun g4=>?_) fun g4=>?_
 ·
  simp at g4
  refine(bF) ?_;exact⟨by unfold pT;rw [if_pos g4],c0⟩
 simp at g4
 refine(bF) ?_;exact⟨by unfold pT;rw [if_neg g4],c0⟩
theorem nE :CR prog 107 #[k.val] w (.string (mq k)):=by
 refine enter func107 rfl ntmps107 rfl<|?_;have c0:aJ [] w w:=aJ.refl _ _;refine bP ?_;refine WL.go rfl (OX.box rfl rfl rfl fun b1 w1 d b=>?_);have s1:=d.ext;have f:=d.gW c0;have c1:=c0.trans s1;refine eL ?_;refine WP .r (PV.fa cL rfl)<|(bp) aK b.range<|(aP) (fun g3=>?_) fun g3=>?_
 ·
  simp at g3
  refine(bF) ?_;exact⟨by unfold mq;rw [if_pos g3],c1⟩
 simp at g3
 refine(bj) ak b.range<|(cA) HG (dz (k:=k)) ?_;rintro _ w2 ⟨rfl,s2⟩;have c2:=c1.trans s2;have b:=b.ext s2;refine(aP) (fun g7=>?_) fun g7=>?_
 ·
  refine bP ?_;refine WP .r (PV.fa cL rfl)<|(bp) aK b.range<|(cA) P8 (sz (n:=k.kind)) ?_;rintro _ w3 ⟨rfl,e⟩;have c3:=c2.trans e;have b:=b.ext e;refine(bF) ?_;exact⟨by unfold mq;rw [if_neg g3,if_pos g7],c3⟩
 refine(bF) ?_;exact⟨by unfold mq;rw [if_neg g3,if_neg (by simp [g7])],c2⟩
theorem pa(hr:ee A w a r c aa):CR prog 63 #[.slice a r c,k.val] w (.bool (eh aa k)):=by
 refine enter func63 rfl ntmps63 rfl<|?_;have c0:aJ [] w w:=aJ.refl _ _;refine bP ?_;refine WL.go rfl (OX.box rfl rfl rfl fun b3 w1 o d=>?_);have s1:=o.ext;have s:=o.gW c0;have c1:=c0.trans s1;refine cB ?_;refine WC.ke (t:=4) (v:=.bool (eh aa k)) (aJ [] w1) ?_<|?_
 ·
  refine WC.drawn (m:=17) (C:=aJ [] w1) (T:=fun _=>aJ []) (E:=bS [(1,fun v _=>v=.bool (dW k)),(14,fun v _=>v=.int .i64 (number k)),(15,fun v _=>v=(aH aa (number k)).val)]) (aU (⟨fun _ _ _ _ _ _ _ h=>h,⟨fun _ _ _ _ _ _ _ h=>h,⟨fun _ _ _ _ _ _ _ h=>h,trivial⟩⟩⟩)) mixed (by kernel_rfl) (aJ.drew _ _)<|?_;refine DP .r (fun _ b=>PV.BI ak (d.ext b).range rfl rfl)<|?_;refine DW.e rfl rfl rfl rfl rfl (fun f b i=>OX.call EL rfl rfl ((gj (k:=k)).mono ?_))<|?_
  ·
   rintro _ wy ⟨rfl,hy⟩;exact⟨_,rfl,b.trans hy,hy,_,rfl,rfl⟩
  rintro _ j _ rfl;refine(lP) (fun g7=>?_) (fun g7=>?_)
  ·
   refine DP .r (fun _ b=>PV.fa cL rfl)<|DP .r (fun _ b=>PV.ld1 aK (d.ext b).range rfl rfl)<|(lP) (fun g11=>?_) (fun g11=>?_)
   ·
    refine DP .r (fun _ b=>PV.fa cL rfl)<|DP .r (fun _ b=>PV.ld1 aK (d.ext b).range rfl rfl)<|(lP) (fun g16=>?_) (fun g16=>?_)
    ·
     refine(cy) ?_;rintro w2 s2 _;have c2:=c1.trans s2;have d:=d.ext s2;exact(eT) (by unfold eh;simp only [g7,g11,g16];first | rfl | simp) s2
    refine nx ?_;refine DP .r (fun _ b=>PV.BI ak (d.ext b).range rfl rfl)<|?_;refine DW.e rfl rfl rfl rfl rfl (fun f b i=>OX.call HH rfl rfl ((ib (k:=k)).mono ?_))<|?_
    ·
     rintro _ wy ⟨rfl,hy⟩;exact⟨_,rfl,b.trans hy,hy,_,rfl,rfl⟩
    rintro _ j _ rfl;refine DW.e rfl rfl rfl rfl rfl (fun f b i=>OX.call sw rfl rfl ((ff (n:=number k) (hr.ext (c1.trans b))).mono ?_))<|?_
    ·
     rintro _ wy ⟨rfl,hy⟩;exact⟨_,rfl,b.trans hy,hy,_,rfl,rfl⟩
    rintro _ j _ rfl;refine DP .r (fun _ b=>PV.BI ak (d.ext b).range rfl rfl)<|(cy)<|?_;rintro w2 s2 _;have c2:=c1.trans s2;have d:=d.ext s2;refine WP .r (PV.yR ek (p:=aH aa (number k)) (q:=k) rfl rfl)<|?_;exact(eT) (by unfold eh;simp only [g7,g11,g16];first | rfl | simp) s2
   refine fZ ?_;refine DP .r (fun _ b=>PV.BI ak (d.ext b).range rfl rfl)<|?_;refine DW.e rfl rfl rfl rfl rfl (fun f b i=>OX.call HH rfl rfl ((ib (k:=k)).mono ?_))<|?_
   ·
    rintro _ wy ⟨rfl,hy⟩;exact⟨_,rfl,b.trans hy,hy,_,rfl,rfl⟩
   rintro _ j _ rfl;refine DW.e rfl rfl rfl rfl rfl (fun f b i=>OX.call sw rfl rfl ((ff (n:=number k) (hr.ext (c1.trans b))).mono ?_))<|?_
   ·
    rintro _ wy ⟨rfl,hy⟩;exact⟨_,rfl,b.trans hy,hy,_,rfl,rfl⟩
   rintro _ j _ rfl;refine DP .r (fun _ b=>PV.BI ak (d.ext b).range rfl rfl)<|(cy)<|?_;rintro w2 s2 _;have c2:=c1.trans s2;have d:=d.ext s2;refine WP .r (PV.yR ek (p:=aH aa (number k)) (q:=k) rfl rfl)<|?_;exact(eT) (by unfold eh;simp only [g7,g11];first | rfl | simp) s2
  refine aN ?_;refine(cy) ?_;rintro w2 s2 _;have c2:=c1.trans s2;have d:=d.ext s2;exact(eT) (by unfold eh;simp only [g7];first | rfl | simp) s2
 intro w2 s2;have c2:=c1.trans s2;have d:=d.ext s2;refine(bF) ?_;exact⟨rfl,c2⟩
theorem eH{ai:List ByteArray}{C:Nat→Prop}{r2:Nat}(ht:jM prog A w) (hr:ee B w a r c aa) (hl:Strs C w a2 r2 e2 ai) (hb:∀x∈aa,0≤x.c∧x.c≤65535∧x.asks.length≤1000) (hk:eC k):CR prog 75 #[.slice a r c,k.val,.slice a2 r2 e2] w ((bC aa k ai).val):=by
 refine enter func75 rfl ntmps75 rfl<|?_;have c0:aJ [] w w:=aJ.refl _ _;refine bP ?_;refine WL.go rfl (OX.box rfl rfl rfl fun b4 w1 p b=>?_);have s1:=p.ext;have y:=p.gW c0;have c1:=c0.trans s1;refine WL.go rfl (OX.alloc o0 rfl fun q w2 i e=>?_);have s2:=i.ext;have s:=i.gW c1;have j:b4≠q:=i.ne b.lt;have z:q≠b4:=Ne.symm j;have c2:=c1.trans s2;have b:=b.ext s2;refine cW ?_;refine WC.i7 (t:=7) (v:=.bool (decide (k.kind=31) || decide (k.kind=32))) (fun u=>w2=u) ?_ ?_
 ·
  refine nx ?_;refine WP .r (PV.fa cL rfl)<|(bp) aK b.range<|(cz) (fun g11=>?_) (fun g11=>?_)
  ·
   exact(bW) (by simp only [g11];first | rfl | simp) rfl
  refine WP .r (PV.fa cL rfl)<|(bp) aK b.range<|?_;exact(bW) (by simp only [g11];first | rfl | simp) rfl
 rintro _ rfl;refine(aP) (fun g7=>?_) fun g7=>?_
 ·
  simp at g7
  have m:bC aa k ai=cm aa k ai:=by unfold bC;rw [if_pos g7]
  refine(bj) ak b.range<|(cA) PN (zT (k:=k) (ht.ext c2) (hr.ext c2) (hl.ext c2) hb) ?_;rintro _ w3 ⟨rfl,d⟩;have c3:=c2.trans d;have b:=b.ext d;have e:=e.ext d;refine WL.go rfl (OX.kB fe e rfl rfl rfl rfl rfl fun w4 f _ e=>?_);have c4:=c3.own f s;have b:=b.bR f (by simp [j]);refine(jm) gh e.range<|?_;rw [m];exact⟨rfl,c4⟩
 simp at g7
 have m:bC aa k ai=⟨true,⟨#[]⟩,aW⟩:=by unfold bC;rw [if_neg (by omega)]
 refine nx ?_;refine WC.i7 (t:=20) (v:=.bool (aw k || (decide (k.kind<1) || decide (22<k.kind)))) (aJ [] w2) ?_<|?_
 ·
  refine(bj) ak b.range<|(cA) EM (dd (k:=k)) ?_;rintro _ w3 ⟨rfl,d⟩;have c3:=c2.trans d;have b:=b.ext d;have e:=e.ext d;refine(cz) (fun g23=>?_) (fun g23=>?_)
  ·
   exact(bW) (by simp only [g23];first | rfl | simp) d
  refine WP .r (PV.fa cL rfl)<|(bp) aK b.range<|(cz) (fun o=>?_) (fun o=>?_)
  ·
   exact(bW) (by simp only [g23,o];first | rfl | simp) d
  refine WP .r (PV.fa cL rfl)<|(bp) aK b.range<|?_;exact(bW) (by simp only [g23,o];first | rfl | simp) d
 intro w3 d;have c3:=c2.trans d;have b:=b.ext d;have e:=e.ext d;refine(aP) (fun g20=>?_) fun g20=>?_
 ·
  skip
  refine bP ?_;refine WP .r (PV.aY (us:=[.bool true,.string ⟨#[]⟩,.int .i64 0,.string ⟨#[]⟩]) kj rfl rfl rfl)<|?_;refine WL.go rfl (OX.kB fe e rfl rfl rfl rfl rfl fun w4 f _ e=>?_);have c4:=c3.own f s;have b:=b.bR f (by simp [j]);refine(jm) gh e.range<|?_;rw [m];exact⟨rfl,c4⟩
 exfalso;simp at g20;rcases hk with h | h <;> omega
theorem rG{rev:Int}(hl:Rd RR.e8 8 Z w a n c l):CR prog 36 #[.slice a n c,.int .i64 rev,k.val] w (.bool (bD l rev k)):=by
 refine enter func36 rfl ntmps36 rfl<|?_;have c0:aJ [] w w:=aJ.refl _ _;refine bP ?_;refine WL.go rfl (OX.box rfl rfl rfl fun b5 w1 i b=>?_);have s1:=i.ext;have s:=i.gW c0;have c1:=c0.trans s1;refine(bj) ak b.range<|(cA) ov (cX (k:=k) (hl.ext c1)) ?_;rintro _ w2 ⟨f1,f2,f3,rfl,s2⟩;have c2:=c1.trans s2;have b:=b.ext s2;refine ct ?_;refine WL.go rfl (OX.alloc nC rfl fun j w3 f e=>?_);have m:=f.ext;have q:=f.gW c2;have o:b5≠j:=f.ne b.lt;have u:j≠b5:=Ne.symm o;have c3:=c2.trans m;have b:=b.ext m;refine WL.go rfl (OX.kB fA e rfl rfl rfl rfl rfl fun w4 p _ e=>?_);have c4:=c3.own p q;have b:=b.bR p (by simp [o]);refine cB ?_;refine WC.ke (t:=6) (v:=.bool (bD l rev k)) (aJ [] w4) ?_<|?_
 ·
  refine(cz) (fun g16=>?_) (fun g16=>?_)
  ·
   refine(bj) ak b.range<|(cA) HG (dz (k:=k)) ?_;rintro _ w5 ⟨rfl,d⟩;have c5:=c4.trans d;have b:=b.ext d;have e:=e.ext d;refine(cz) (fun g20=>?_) (fun g20=>?_)
   ·
    refine WP .r (PV.fa ot rfl)<|(bp) aK e.range<|(cz) (fun h=>?_) (fun h=>?_)
    ·
     refine WP .r (PV.fa zO rfl)<|(bp) di e.range<|?_;exact(eT) (by unfold bD;simp only [g16,g20,h];first | rfl | simp) d
    exact(eT) (by unfold bD;simp only [g16,g20,h];first | rfl | simp) d
   exact(eT) (by unfold bD;simp only [g16,g20];first | rfl | simp) d
  refine aN ?_;exact(eT) (by unfold bD;simp only [g16];first | rfl | simp) (aJ.refl _ _)
 intro w5 d;have c5:=c4.trans d;have b:=b.ext d;have e:=e.ext d;refine(bF) ?_;exact⟨rfl,c5⟩
theorem Ab(hi:Rd RR.aC 4 Z w a1 n1 e1 x.ab) (hr:Rd RR.e8 8 Z w a2 n2 e2 x.ah) {k:Key}:CR prog 23 #[.agg (x.row a1 n1 e1 a2 n2 e2).toArray,k.val] w (.tuple #[.string (dO x k),.bool (eO x k)]):=by
 refine enter func23 rfl ntmps23 rfl<|?_;have c0:aJ [] w w:=aJ.refl _ _;refine bP ?_;refine WL.go rfl (OX.box rfl rfl rfl fun b2 w1 s b=>?_);have s1:=s.ext;have F:=s.gW c0;have c1:=c0.trans s1;refine WL.go rfl (OX.box rfl rfl rfl fun b3 w2 m d=>?_);have s2:=m.ext;have G:=m.gW c1;have C:b2≠b3:=m.ne b.lt;have H:b3≠b2:=Ne.symm C;have c2:=c1.trans s2;have b:=b.ext s2;refine(bj) ak d.range<|(cA) EM (dd (k:=k)) ?_;rintro _ w3 ⟨rfl,o⟩;have c3:=c2.trans o;have b:=b.ext o;have d:=d.ext o;refine(aP) (fun g9=>?_) fun g9=>?_
 ·
  refine(bj) bz b.range<|(bj) ak d.range<|(cA) Px (lC (k:=k) (hi.ext c3) (hr.ext c3)) ?_;rintro _ w4 ⟨rfl,e⟩;have c4:=c3.trans e;have b:=b.ext e;have d:=d.ext e;refine(sf) ?_;exact⟨by unfold dO eO;rw [if_pos g9,g9];rfl,c4⟩
 refine cW ?_;refine WP .r (PV.fa rh rfl)<|(bp) el b.range<|(bj) ak d.range<|(cA) ov (cX (k:=k) (hr.ext c3)) ?_;rintro _ w4 ⟨f1,f2,f3,rfl,e⟩;have c4:=c3.trans e;have b:=b.ext e;have d:=d.ext e;refine ct ?_;refine WL.go rfl (OX.alloc nC rfl fun h w5 i j=>?_);have p:=i.ext;have D:=i.gW c4;have u:b2≠h:=i.ne b.lt;have I:h≠b2:=Ne.symm u;have y:b3≠h:=i.ne d.lt;have J:h≠b3:=Ne.symm y;have c5:=c4.trans p;have b:=b.ext p;have d:=d.ext p;refine WL.go rfl (OX.kB fA j rfl rfl rfl rfl rfl fun w6 q _ j=>?_);have z:=c5.own q D;have b:=b.bR q (by simp [u]);have d:=d.bR q (by simp [y]);refine cB ?_;refine WC.i7 (t:=27) (v:=.bool (eO x k)) (fun E=>w6=E) ?_ ?_
 ·
  refine(cz) (fun g21=>?_) (fun g21=>?_)
  ·
   refine WP .r (PV.fa ot rfl)<|(bp) aK j.range<|?_;refine WP .r (PV.fa j6 rfl)<|(bp) aK b.range<|?_;exact(bW) (by unfold eO;simp only [g9,g21];first | rfl | simp) rfl
  exact(bW) (by unfold eO;simp only [g9,g21];first | rfl | simp) rfl
 rintro _ rfl;refine(aP) (fun f=>?_) fun f=>?_
 ·
  refine bP ?_;refine WP .r (PV.fa vc rfl)<|(bp) eV j.range<|(sf) ?_;exact⟨by unfold dO;rw [if_neg (by simp [g9]),if_pos f,f],z⟩
 refine(sf) ?_;exact⟨by unfold dO;rw [if_neg (by simp [g9]),if_neg (by simp [f]),f],z⟩
theorem Ac(hi:Rd RR.aC 4 Z w a1 n1 e1 x.ab) (hr:Rd RR.e8 8 Z w a2 n2 e2 x.ah) {k:Key}{v:ByteArray}{reads:List Key}{a:Option Addr}{n e:Nat}(hk:Rd RR.key 2 Z w a n e reads):Calls prog 102 #[.agg (x.row a1 n1 e1 a2 n2 e2).toArray,k.val,.string v,.slice a n e] w fun en w'=>en=.returned (.agg ((cZ x k v reads).row a n e).toArray)∧aJ [] w w':=by
 have hlen:=SR.len hk;have hle:=SR.le hk;refine enter func102 rfl ntmps102 rfl<|?_;have c0:aJ [] w w:=aJ.refl _ _;refine bP ?_;refine WL.go rfl (OX.box rfl rfl rfl fun b4 w1 P b=>?_);have s1:=P.ext;have rB:=P.gW c0;have c1:=c0.trans s1;refine WL.go rfl (OX.box rfl rfl rfl fun b5 w2 G d=>?_);have s2:=G.ext;have Wb:=G.gW c1;have Ad:b4≠b5:=G.ne b.lt;have Lq:b5≠b4:=Ne.symm Ad;have c2:=c1.trans s2;have b:=b.ext s2;refine WL.go rfl (OX.alloc nC rfl fun m w3 D f=>?_);have H:=D.ext;have Q:=D.gW c2;have I:b4≠m:=D.ne b.lt;have zW:m≠b4:=Ne.symm I;have J:b5≠m:=D.ne d.lt;have Lr:m≠b5:=Ne.symm J;have c3:=c2.trans H;have b:=b.ext H;have d:=d.ext H;refine(bj) ak d.range<|bP ?_;refine WP .r (PV.fa j6 rfl)<|(bp) aK b.range<|?_;refine WP .r (PV.fa j6 rfl)<|(bp) aK b.range<|nx ?_;refine WP .r (PV.fV dL rfl)<|nx ?_;refine WP .r (PV.aY (us:=(Rec.mk k v reads x.ad x.ad (1+(n:Int)) false).row a n e) O6 rfl rfl rfl)<|?_;refine WL.go rfl (OX.alloc nC rfl fun o w4 s h=>?_);have E:=s.ext;have R:=s.gW c3;have K:b4≠o:=s.ne b.lt;have Ls:o≠b4:=Ne.symm K;have L:b5≠o:=s.ne d.lt;have Lt:o≠b5:=Ne.symm L;have M:m≠o:=s.ne f.lt;have S:o≠m:=Ne.symm M;have c4:=c3.trans E;have b:=b.ext E;have d:=d.ext E;have f:=f.ext E;refine WL.go rfl (OX.kB fA h rfl rfl rfl rfl rfl fun w5 F _ h=>?_);have c5:=c4.own F R;have b:=b.bR F (by simp [K]);have d:=d.bR F (by simp [L]);have f:=f.bR F (by simp [M]);refine cW ?_;refine WP .r (PV.fa rh rfl)<|(bp) el b.range<|(bj) ak d.range<|(cA) ov (cX (k:=k) (hr.ext c5)) ?_;rintro _ w6 ⟨f1,f2,f3,rfl,u⟩;have T:=c5.trans u;have b:=b.ext u;have d:=d.ext u;have f:=f.ext u;have h:=h.ext u;refine ct ?_;refine WL.go rfl (OX.alloc nC rfl fun p w7 q j=>?_);have y:=q.ext;have vj:=q.gW T;have U:b4≠p:=q.ne b.lt;have xI:p≠b4:=Ne.symm U;have V:b5≠p:=q.ne d.lt;have IM:p≠b5:=Ne.symm V;have W:m≠p:=q.ne f.lt;have X:p≠m:=Ne.symm W;have Y:o≠p:=q.ne h.lt;have xM:p≠o:=Ne.symm Y;have c7:=T.trans y;have b:=b.ext y;have d:=d.ext y;have f:=f.ext y;have h:=h.ext y;refine WL.go rfl (OX.kB fA j rfl rfl rfl rfl rfl fun w8 z _ j=>?_);have c8:=c7.own z vj;have b:=b.bR z (by simp [U]);have d:=d.bR z (by simp [V]);have f:=f.bR z (by simp [W]);have h:=h.bR z (by simp [Y]);refine cB ?_;refine WC.i7 (t:=36) (v:=.bool ((ay x.ah k).isSome && decide ((aD x.ah k).value=v))) (fun wx=>w8=wx) ?_ ?_
 ·
  refine(cz) (fun N=>?_) (fun N=>?_)
  ·
   refine WP .r (PV.fa vc rfl)<|(bp) eV j.range<|?_;exact(bW) (by simp only [N];first | rfl | simp) rfl
  exact(bW) (by simp only [N];first | rfl | simp) rfl
 rintro _ rfl;refine(aP) (fun O=>?_) fun O=>?_
 ·
  have hm:cZ x k v reads=⟨k,v,reads,(aD x.ah k).changed,x.ad,1+(reads.length:Int),false⟩:=by unfold cZ;rw [if_pos O]
  refine nx ?_;refine WP .r (PV.fa rj rfl)<|(bp) aK j.range<|?_;refine WP .r (PV.fa rj rfl)<|?_;refine WL.go rfl (OX.st Ni h rfl rfl (by first | (simp [nth];done) | exact NW rfl) rfl rfl fun w9 i _ h=>?_);have c9:=c8.own i R;have b:=b.bR i (by simp [K]);have d:=d.bR i (by simp [L]);have f:=f.bR i (by simp [M]);have j:=j.bR i (by simp [xM]);refine(bj) dC h.range<|?_;refine WL.go rfl (OX.kB fA f rfl rfl rfl rfl rfl fun kl C _ f=>?_);have c10:=c9.own C Q;have b:=b.bR C (by simp [I]);have d:=d.bR C (by simp [J]);have h:=h.bR C (by simp [S]);have j:=j.bR C (by simp [X]);refine(jm) dC f.range<|?_;exact⟨by rw [hm,← hlen] <;> rfl,c10⟩
 have hm:cZ x k v reads=⟨k,v,reads,x.ad,x.ad,1+(reads.length:Int),false⟩:=by unfold cZ;rw [if_neg (by simp [O])]
 refine(bj) dC h.range<|?_;refine WL.go rfl (OX.kB fA f rfl rfl rfl rfl rfl fun w9 i _ f=>?_);have c9:=c8.own i Q;have b:=b.bR i (by simp [I]);have d:=d.bR i (by simp [J]);have h:=h.bR i (by simp [S]);have j:=j.bR i (by simp [X]);refine(jm) dC f.range<|?_;exact⟨by rw [hm,← hlen] <;> rfl,c9⟩
theorem sA{goals:List Key}{ar:Option Addr}(hu:ee A w ar r c aa) (hi:Rd RR.aC 4 Z w a1 n1 e1 x.ab) (hr:Rd RR.e8 8 Z w a2 n2 e2 x.ah) (m:uF B w ag g eg goals):CR prog 31 #[.slice ar r c,.agg (x.row a1 n1 e1 a2 n2 e2).toArray,.slice ag g eg] w (.int .i64 (e7 aa x goals)):=by
 have hlen:=SR.len m;have hle:=SR.le m;refine enter func31 rfl ntmps31 rfl<|?_;have c0:aJ [] w w:=aJ.refl _ _;refine bP ?_;refine WL.go rfl (OX.box rfl rfl rfl fun b4 w1 s d=>?_);have s1:=s.ext;have Q:=s.gW c0;have c1:=c0.trans s1;refine(cA) Py (o8 (hu.ext c1)) ?_;rintro _ w2 ⟨bv,rfl,u,s2⟩;have c2:=c1.trans s2;have d:=d.ext s2;refine(aP) (fun g9=>?_) fun g9=>?_
 ·
  simp at g9
  have b:e7 aa x goals=41:=by unfold e7;rw [if_pos (by rw [← u];simp [g9])]
  refine(bF) ?_;exact⟨by rw [b],c2⟩
 simp at g9
 have o:=u.1 g9;refine(bj) bz d.range<|(cA) Lc (j8 (hi.ext c2) (hr.ext c2)) ?_;rintro _ w3 ⟨R,rfl,v,z⟩;have c3:=c2.trans z;have d:=d.ext z;refine(aP) (fun g13=>?_) fun g13=>?_
 ·
  simp at g13
  have b:e7 aa x goals=42:=by unfold e7;rw [if_neg (by simpa using o),if_pos (by rw [← v];simp [g13])]
  refine(bF) ?_;exact⟨by rw [b],c3⟩
 simp at g13
 have C:=v.1 g13;refine ct ?_;refine WP .r (PV.fV dL rfl)<|(aP) (fun g17=>?_) fun g17=>?_
 ·
  simp at g17
  have b:e7 aa x goals=3:=by unfold e7;rw [if_neg (by simpa using o),if_neg (by simpa using C),if_pos (by omega)]
  refine(bF) ?_;exact⟨by rw [b],c3⟩
 simp at g17
 have b:e7 aa x goals=if goals.all (eh aa) then 0 else 40:=by unfold e7;rw [if_neg (by simpa using o),if_neg (by simpa using C),if_neg (by omega)]
 refine eL ?_;refine WP .r (PV.fV dL rfl)<|cB ?_;refine WC.loop (σ:=Nat) (cT:=fun i=>[(0,.slice ar r c),(21,.slice ag g eg),(22,.int .i64 (g:Int)),(23,.int .i64 (i:Int))]) (I:=fun i w'=>aJ [] w w'∧i≤g∧∀j y,j<i→goals[j]?=some y→eh aa y=true) (μ:=fun i=>g - i) 0 Sub.t ⟨c3,by omega,fun j y h=>by omega⟩ ?_;rintro i w4 ⟨c4,eS,D⟩;refine(aP) (fun g24=>?_) fun g24=>?_
 ·
  simp at g24
  have p:i<goals.length:=by omega
  obtain⟨S,T,U,J,_,K,q,_⟩:=SR.at m (ae p);subst K;refine cW ?_;have q:=aR q c4 (by simp);refine nx ?_;refine WP .r (PV.dM dL J rfl rfl (by omega))<|(bj) ak q<|?_;refine WL.go rfl (OX.alloc zL rfl fun V w5 E e=>?_);have L:=E.ext;have M:=E.gW c4;have c5:=c4.trans L;refine WL.go rfl (OX.kB gi e rfl rfl rfl rfl rfl fun w6 N _ e=>?_);have F:=c5.own N M;refine(bj) ak e.range<|(cA) Pz (pa (k:=goals[i]) (hu.ext F)) ?_;rintro _ w7 ⟨rfl,G⟩;have H:=F.trans G;have e:=e.ext G;refine(aP) (fun f=>?_) fun f=>?_
  ·
   simp at f
   have b:e7 aa x goals=40:=by rw [b,if_neg];rw [List.all_eq_true];intro h;have:=h _ (List.getElem_mem p);rw [f] at this;cases this
   refine(bF) ?_;exact⟨by rw [b],H⟩
  simp at f
  refine eL ?_;refine EX.again (i+1) (Sub.k2 rfl rfl<|Sub.cons rfl<|Sub.gM rfl (by simp)<|Sub.nil) ⟨H,by omega,cn (P:=fun _ y=>eh aa y=true) p D f⟩ (by omega)
 simp at g24
 have b:e7 aa x goals=0:=by rw [b,if_pos];rw [List.all_eq_true];intro y hy;obtain⟨j,O,rfl⟩:=List.mem_iff_getElem.1 hy;exact D j _ (by omega) (ae O)
 refine(bF) ?_;exact⟨by rw [b],c4⟩
theorem vn{group:List Key}{M:Nat→Prop}(gq:St w M Z w []) (hl:Rd RR.e8 8 Z w a n c l) (D:Rd RR.key 2 Z w ag g eg group) (hb:∀i,(((group.take i).flatMap fun m=>cp group m (aD l m).reads)).length≤100000000):Calls prog 97 #[.slice a n c,.slice ag g eg] w fun e w'=>∃O P Q Z',e=.returned (.slice O P Q)∧dV w.heap.size Z Z'∧St w M Z' w' [As.os RR.Ik 126 4 O P Q (bU l group)]:=by
 have hlen:=D.len;have hle:=D.le;refine enter func97 rfl ntmps97 rfl<|?_;have aO:=gq;have st1:=aO.fr hl;have st2:=st1.fr D;have jg:=st2.fY RR.Ik 126 4;refine aN ?_;refine eL ?_;refine WC.jv (σ:=Nat × (Nat→Prop) × (List nf) × (Option Addr) × Nat × Nat) (cT:=fun(i,o,acc,d,b,f)=>[(0,.slice a n c),(1,.slice ag g eg),(5,.slice d b f),(12,.slice ag g eg),(13,.int .i64 (g:Int)),(14,.int .i64 (i:Int))]) (F:=fun(i,o,acc,d,b,f)=>[As.os RR.Ik 126 4 d b f (acc)]) (I:=fun(i,o,acc,d,b,f)=>(i≤g)∧(dV w.heap.size Z o)∧(acc=(group.take i).flatMap fun m=>cp group m (aD l m).reads)∧True) (μ:=fun(i,o,acc,d,b,f)=>g - i) (Zf:=fun(i,o,acc,d,b,f)=>o) (0,Z,[],none,0,0) (jg) Sub.t (⟨by omega,dV.refl _ _,by simp,trivial⟩)<|?_;rintro⟨i,o,acc,d,b,f⟩ w1 y ⟨hi,E,p,_⟩;simp only [CA,NA] at y hi E p ⊢;refine(aP) (fun g15=>?_) fun g15=>?_
 ·
  simp at g15
  have R:i<group.length:=by omega
  refine cW ?_;obtain⟨jf,pG,mF,cx,iB,G,eK,fB⟩:=Rd.at (As.gr y.g1) R;have G:=RR.bX G;subst G;have S:=y.fg fB eK;refine nx ?_;refine WP .r (PV.dM dL cx rfl rfl (by omega))<|(bj) ak (As.ll S.g0)<|(ft) S fun b7 w2 QJ QK ks=>?_;refine(dh) gi ks fun w3 l4 mK T=>?_;refine(bj) ak T.b0<|?_;have z:=T;refine(cA) ov (iV (k:=group[i]) z.e0 (As.gr z.g4)) ?_;rintro _ w4 ⟨f1,f2,f3,rfl,Tj,U⟩;have kz:=St.lr z U;have J2:=St.dw U;have hsz:=z.size;have V:=kz.dZ (by omega);have uh:=E.trans (dV.nR (F:=fun x=>x∈bl f1) J2) hsz;have Wc:=((As.gr V.g0)).len;refine(ft) V fun b8 w5 Lk hb8 eu=>?_;refine(dh) fA eu fun w6 v7 nZ W=>?_;refine(bp) gw W.b0<|cW ?_;refine WC.br (σ:=Nat × (List nf) × (Option Addr) × Nat × Nat) (cT:=fun(j,h,d,b,f)=>[(0,.slice a n c),(1,.slice ag g eg),(5,.slice d b f),(7,.pointer (some ⟨b7,0,none⟩)),(12,.slice ag g eg),(13,.int .i64 (g:Int)),(14,.int .i64 (i:Int)),(25,.slice f1 f2 f3),(26,.int .i64 (f2:Int)),(27,.int .i64 (j:Int))]) (F:=fun(j,h,d,b,f)=>[As.os RR.Ik 126 4 d b f (h)]) (I:=fun(j,h,d,b,f)=>(j≤f2)∧(h=acc++cp group group[i] ((aD l group[i]).reads.take j))∧True) (μ:=fun(j,h,d,b,f)=>f2 - j) (0,acc,d,b,f) (W.p4) Sub.t (⟨by omega,by simp [cp],trivial⟩)<|?_;rintro⟨j,h,d,b,f⟩ w7 q ⟨hj,s,_⟩;simp only [CA,NA] at q hj s ⊢;have sj:=((As.gs q.g0)).len;have Wd:=hb i;rw [← p] at Wd;have Tg:=hW group group[i] ((aD l group[i]).reads.take j)
  have htl:h.length≤100100000:=by rw [s,List.length_append];rw [List.length_take] at Tg;omega
  refine(aP) (fun H=>?_) fun H=>?_
  ·
   simp at H
   have J:j<(aD l group[i]).reads.length:=by omega
   refine cW ?_;obtain⟨oz,Ae,xN,hU,pc,K,iX,jG⟩:=Rd.at (As.gr q.g2) J;have K:=RR.bX K;subst K;have X:=q.fg jG iX;refine nx ?_;refine WP .r (PV.dM dL hU rfl rfl (by omega))<|(bj) ak (As.ll X.g0)<|(ft) X fun b11 w8 We Wf gp=>?_;refine(dh) gi gp fun w9 CC yG L=>?_;refine(bj) ak L.b0<|(eZ) (uf (k:=(aD l group[i]).reads[j]) (As.gr L.g7)) L fun kl QQ C=>?_;refine(aP) (fun u=>?_) fun u=>?_
   ·
    simp at u
    have v:=gK (group:=group) (m:=group[i]) J;rw [if_neg u] at v;refine(bj) ak C.b5<|(bj) ak C.b0<|?_;refine WP .r (PV.aY (us:=(nf.mk group[i] (aD l group[i]).reads[j]).cells) Iu rfl rfl rfl)<|?_;refine WL.go rfl (OX.aL (us:=(nf.mk group[i] (aD l group[i]).reads[j]).cells) Bu rfl rfl rfl rfl fun b39 lB Wg Wh=>?_);have Y:=C.dD Wg Wh;refine WL.ap rfl rfl Y.p3 (SR.cV (A:=fun _=>True) (x:=nf.mk group[i] (aD l group[i]).reads[j]) (As.gb Y.g0) trivial rfl (by simp [nf.cells,Value.oneCell']) rfl) fun a40 Wi pJ ad1 ad2 dU=>?_;refine jx ?_;refine dX (j+1,_,a40,(b+1),Wi) ⟨dU.p1.drop.p1.drop.p1.drop,⟨by omega,by rw [v,s,List.append_assoc],trivial⟩⟩
   simp at u
   have v:=gK (group:=group) (m:=group[i]) J;rw [if_pos u] at v;refine eL ?_;refine dX (j+1,_,d,b,f) ⟨C.drop.drop,⟨by omega,by rw [v,s],trivial⟩⟩
  simp at H
  have N:(aD l group[i]).reads.take j=(aD l group[i]).reads:=List.take_of_length_le (by omega);refine mo ?_;refine dX (i+1,_,h,d,b,f) ⟨q.p6.p6.p2.k3,⟨by omega,uh,by rw [s,N,p,List.take_succ_eq_append_getElem R];simp only [List.flatMap_append,List.flatMap_cons,List.flatMap_nil,List.append_nil],trivial⟩⟩
 simp at g15
 have N:group.take i=group:=List.take_of_length_le (by omega);rw [N] at p;subst p;refine(bF) ?_;exact⟨_,_,_,_,rfl,E,y.p1.drop.p1.drop⟩
set_option maxHeartbeats 400000
end Go.Rc

