/- Walks over the program, part WH. Conditions: as each theorem says. -/
import Derived.Test.YtfamnpoplgkkcaaGreatDoorSFacts
import Derived.Test.YtfamnpoplgkkcaaGreatDoorSWB
import Derived.Test.YtfamnpoplgkkcaaGreatDoorSWD
import Derived.Test.YtfamnpoplgkkcaaGreatDoorSWF
import Derived.Test.YtfamnpoplgkkcaaGreatDoorSBe
set_option linter.all false
namespace Go.Rc
open Go Go.Proofs Go.Proofs.Tryz
variable {n r c e2 n1 e1 n2 g eg:Nat}{w:World}{k:Key}{aa:List aG}{A B Z M:Nat→Prop}{a a2 a1 ag:Option Addr}{l:List Rec}{x:cz}
set_option maxHeartbeats 400000
theorem wP{n:Int} :CR prog 183 #[.int .i64 n] w (.string (tS n)):=by
 refine enter func183 rfl ntmps183 rfl<|?_;have c0:aU [] w w:=aU.refl _ _;refine(aS) (fun g4=>?_) fun g4=>?_
 ·
  simp at g4
  refine(bA) ?_;exact⟨by unfold tS;rw [if_pos g4],c0⟩
 simp at g4
 refine(bA) ?_;exact⟨by unfold tS;rw [if_neg g4],c0⟩
theorem qH :CR prog 135 #[k.val] w (.string (pc k)):=by
 refine enter func135 rfl ntmps135 rfl<|?_;have c0:aU [] w w:=aU.refl _ _;refine bO ?_;refine WL.go rfl (OX.box rfl rfl rfl fun b1 w1 d b=>?_);have s1:=d.ext;have f:=d.iG c0;have c1:=c0.trans s1;refine eD ?_;refine WP .r (PV.fa dG rfl)<|(aZ) aO b.range<|(aS) (fun g3=>?_) fun g3=>?_
 ·
  simp at g3
  refine(bA) ?_;exact⟨by unfold pc;rw [if_pos g3],c1⟩
 simp at g3
 refine(aX) ao b.range<|(bY) H0 (df (k:=k)) ?_;rintro _ w2 ⟨rfl,s2⟩;have c2:=c1.trans s2;have b:=b.ext s2;refine(aS) (fun g7=>?_) fun g7=>?_
 ·
  refine bO ?_;refine WP .r (PV.fa dG rfl)<|(aZ) aO b.range<|(bY) X2 (wP (n:=k.kind)) ?_;rintro _ w3 ⟨rfl,e⟩;have c3:=c2.trans e;have b:=b.ext e;refine(bA) ?_;exact⟨by unfold pc;rw [if_neg g3,if_pos g7],c3⟩
 refine(bA) ?_;exact⟨by unfold pc;rw [if_neg g3,if_neg (by simp [g7])],c2⟩
theorem te(hr:fG A w a r c aa):CR prog 88 #[.slice a r c,k.val] w (.bool (gD aa k)):=by
 refine enter func88 rfl ntmps88 rfl<|?_;have c0:aU [] w w:=aU.refl _ _;refine bO ?_;refine WL.go rfl (OX.box rfl rfl rfl fun b3 w1 s d=>?_);have s1:=s.ext;have u:=s.iG c0;have c1:=c0.trans s1;refine ck ?_;refine WC.lE (t:=4) (v:=.bool (gD aa k)) (aU [] w1) ?_<|?_
 ·
  refine WC.drawn (m:=17) (C:=aU [] w1) (T:=fun _=>aU []) (E:=cF [(1,fun v _=>v=.bool (fN k)),(14,fun v _=>v=.int .i64 (number k)),(15,fun v _=>v=(aI aa (number k)).val)]) (bj (⟨fun _ _ _ _ _ _ _ h=>h,⟨fun _ _ _ _ _ _ _ h=>h,⟨fun _ _ _ _ _ _ _ h=>h,trivial⟩⟩⟩)) mixed (by kernel_rfl) (aU.drew _ _)<|?_;refine DP .r (fun _ b=>PV.Hb ao (d.ext b).range rfl rfl)<|?_;refine DW.e rfl rfl rfl rfl rfl (fun i b j=>OX.call KC rfl rfl ((iO (k:=k)).mono ?_))<|?_
  ·
   rintro _ wy ⟨rfl,f⟩;exact⟨_,rfl,b.trans f,f,_,rfl,rfl⟩
  rintro _ o _ rfl;refine(om) (fun g7=>?_) (fun g7=>?_)
  ·
   refine DP .r (fun _ b=>PV.fa dG rfl)<|DP .r (fun _ b=>PV.ld1 aO (d.ext b).range rfl rfl)<|(om) (fun g11=>?_) (fun g11=>?_)
   ·
    refine DP .r (fun _ b=>PV.fa dG rfl)<|DP .r (fun _ b=>PV.ld1 aO (d.ext b).range rfl rfl)<|(om) (fun g16=>?_) (fun g16=>?_)
    ·
     refine(cS) ?_;rintro w2 s2 _;have c2:=c1.trans s2;have d:=d.ext s2;exact(gu) (by unfold gD;simp only [g7,g11,g16];first | rfl | simp) s2
    refine nx ?_;refine DP .r (fun _ b=>PV.Hb ao (d.ext b).range rfl rfl)<|?_;refine DW.e rfl rfl rfl rfl rfl (fun i b j=>OX.call N8 rfl rfl ((jU (k:=k)).mono ?_))<|?_
    ·
     rintro _ wy ⟨rfl,f⟩;exact⟨_,rfl,b.trans f,f,_,rfl,rfl⟩
    rintro _ o _ rfl;refine DW.e rfl rfl rfl rfl rfl (fun i b j=>OX.call zC rfl rfl ((fV (n:=number k) (hr.ext (c1.trans b))).mono ?_))<|?_
    ·
     rintro _ wy ⟨rfl,f⟩;exact⟨_,rfl,b.trans f,f,_,rfl,rfl⟩
    rintro _ o _ rfl;refine DP .r (fun _ b=>PV.Hb ao (d.ext b).range rfl rfl)<|(cS)<|?_;rintro w2 s2 _;have c2:=c1.trans s2;have d:=d.ext s2;refine WP .r (PV.Gl fS (p:=aI aa (number k)) (q:=k) rfl rfl)<|?_;exact(gu) (by unfold gD;simp only [g7,g11,g16];first | rfl | simp) s2
   refine fH ?_;refine DP .r (fun _ b=>PV.Hb ao (d.ext b).range rfl rfl)<|?_;refine DW.e rfl rfl rfl rfl rfl (fun i b j=>OX.call N8 rfl rfl ((jU (k:=k)).mono ?_))<|?_
   ·
    rintro _ wy ⟨rfl,f⟩;exact⟨_,rfl,b.trans f,f,_,rfl,rfl⟩
   rintro _ o _ rfl;refine DW.e rfl rfl rfl rfl rfl (fun i b j=>OX.call zC rfl rfl ((fV (n:=number k) (hr.ext (c1.trans b))).mono ?_))<|?_
   ·
    rintro _ wy ⟨rfl,f⟩;exact⟨_,rfl,b.trans f,f,_,rfl,rfl⟩
   rintro _ o _ rfl;refine DP .r (fun _ b=>PV.Hb ao (d.ext b).range rfl rfl)<|(cS)<|?_;rintro w2 s2 _;have c2:=c1.trans s2;have d:=d.ext s2;refine WP .r (PV.Gl fS (p:=aI aa (number k)) (q:=k) rfl rfl)<|?_;exact(gu) (by unfold gD;simp only [g7,g11];first | rfl | simp) s2
  refine aW ?_;refine(cS) ?_;rintro w2 s2 _;have c2:=c1.trans s2;have d:=d.ext s2;exact(gu) (by unfold gD;simp only [g7];first | rfl | simp) s2
 intro w2 s2;have c2:=c1.trans s2;have d:=d.ext s2;refine(bA) ?_;exact⟨rfl,c2⟩
theorem fy{ae:List ByteArray}{C:Nat→Prop}{r2:Nat}(ht:lA prog A w) (hr:fG B w a r c aa) (hl:Strs C w a2 r2 e2 ae) (hb:∀x∈aa,0≤x.c∧x.c≤65535∧x.asks.length≤1000) (hk:cY k):CR prog 90 #[.slice a r c,k.val,.slice a2 r2 e2] w ((aH aa k ae).val):=by
 refine enter func90 rfl ntmps90 rfl<|?_;have c0:aU [] w w:=aU.refl _ _;refine bO ?_;refine WL.go rfl (OX.box rfl rfl rfl fun b4 w1 p b=>?_);have s1:=p.ext;have y:=p.iG c0;have c1:=c0.trans s1;refine WL.go rfl (OX.alloc oM rfl fun q w2 i e=>?_);have s2:=i.ext;have s:=i.iG c1;have j:b4≠q:=i.ne b.lt;have z:q≠b4:=Ne.symm j;have c2:=c1.trans s2;have b:=b.ext s2;refine dd ?_;refine WC.ke (t:=7) (v:=.bool (decide (k.kind=31) || decide (k.kind=32))) (fun u=>w2=u) ?_ ?_
 ·
  refine nx ?_;refine WP .r (PV.fa dG rfl)<|(aZ) aO b.range<|(de) (fun g11=>?_) (fun g11=>?_)
  ·
   exact(bZ) (by simp only [g11];first | rfl | simp) rfl
  refine WP .r (PV.fa dG rfl)<|(aZ) aO b.range<|?_;exact(bZ) (by simp only [g11];first | rfl | simp) rfl
 rintro _ rfl;refine(aS) (fun g7=>?_) fun g7=>?_
 ·
  simp at g7
  have m:aH aa k ae=cy aa k ae:=by unfold aH;rw [if_pos g7]
  refine(aX) ao b.range<|(bY) XH (Fg (k:=k) (ht.ext c2) (hr.ext c2) (hl.ext c2) hb) ?_;rintro _ w3 ⟨rfl,d⟩;have c3:=c2.trans d;have b:=b.ext d;have e:=e.ext d;refine WL.go rfl (OX.mq gB e rfl rfl rfl rfl rfl fun w4 f _ e=>?_);have c4:=c3.own f s;have b:=b.bW f (by simp [j]);refine(kV) iN e.range<|?_;rw [m];exact⟨rfl,c4⟩
 simp at g7
 have m:aH aa k ae=⟨true,⟨#[]⟩,dW⟩:=by unfold aH;rw [if_neg (by omega)]
 refine nx ?_;refine WC.ke (t:=20) (v:=.bool (ay k || (decide (k.kind<1) || decide (22<k.kind)))) (aU [] w2) ?_<|?_
 ·
  refine(aX) ao b.range<|(bY) H3 (ei (k:=k)) ?_;rintro _ w3 ⟨rfl,d⟩;have c3:=c2.trans d;have b:=b.ext d;have e:=e.ext d;refine(de) (fun g23=>?_) (fun g23=>?_)
  ·
   exact(bZ) (by simp only [g23];first | rfl | simp) d
  refine WP .r (PV.fa dG rfl)<|(aZ) aO b.range<|(de) (fun o=>?_) (fun o=>?_)
  ·
   exact(bZ) (by simp only [g23,o];first | rfl | simp) d
  refine WP .r (PV.fa dG rfl)<|(aZ) aO b.range<|?_;exact(bZ) (by simp only [g23,o];first | rfl | simp) d
 intro w3 d;have c3:=c2.trans d;have b:=b.ext d;have e:=e.ext d;refine(aS) (fun g20=>?_) fun g20=>?_
 ·
  skip
  refine bO ?_;refine WP .r (PV.bC (us:=[.bool true,.string ⟨#[]⟩,.int .i64 0,.string ⟨#[]⟩]) mB rfl rfl rfl)<|?_;refine WL.go rfl (OX.mq gB e rfl rfl rfl rfl rfl fun w4 f _ e=>?_);have c4:=c3.own f s;have b:=b.bW f (by simp [j]);refine(kV) iN e.range<|?_;rw [m];exact⟨rfl,c4⟩
 exfalso;simp at g20;rcases hk with h | h <;> omega
theorem vA{rev:Int}(hl:Rd RR.ew 8 Z w a n c l):CR prog 257 #[.slice a n c,.int .i64 rev,k.val] w (.bool (bV l rev k)):=by
 refine enter func257 rfl ntmps257 rfl<|?_;have c0:aU [] w w:=aU.refl _ _;refine bO ?_;refine WL.go rfl (OX.box rfl rfl rfl fun b5 w1 i b=>?_);have s1:=i.ext;have s:=i.iG c0;have c1:=c0.trans s1;refine(aX) ao b.range<|(bY) ou (dZ (k:=k) (hl.ext c1)) ?_;rintro _ w2 ⟨f1,f2,f3,rfl,s2⟩;have c2:=c1.trans s2;have b:=b.ext s2;refine cm ?_;refine WL.go rfl (OX.alloc nJ rfl fun j w3 f e=>?_);have m:=f.ext;have q:=f.iG c2;have o:b5≠j:=f.ne b.lt;have u:j≠b5:=Ne.symm o;have c3:=c2.trans m;have b:=b.ext m;refine WL.go rfl (OX.mq fI e rfl rfl rfl rfl rfl fun w4 p _ e=>?_);have c4:=c3.own p q;have b:=b.bW p (by simp [o]);refine ck ?_;refine WC.lE (t:=6) (v:=.bool (bV l rev k)) (aU [] w4) ?_<|?_
 ·
  refine(de) (fun g16=>?_) (fun g16=>?_)
  ·
   refine(aX) ao b.range<|(bY) H0 (df (k:=k)) ?_;rintro _ w5 ⟨rfl,d⟩;have c5:=c4.trans d;have b:=b.ext d;have e:=e.ext d;refine(de) (fun g20=>?_) (fun g20=>?_)
   ·
    refine WP .r (PV.fa pE rfl)<|(aZ) aO e.range<|(de) (fun h=>?_) (fun h=>?_)
    ·
     refine WP .r (PV.fa Fa rfl)<|(aZ) dA e.range<|?_;exact(gu) (by unfold bV;simp only [g16,g20,h];first | rfl | simp) d
    exact(gu) (by unfold bV;simp only [g16,g20,h];first | rfl | simp) d
   exact(gu) (by unfold bV;simp only [g16,g20];first | rfl | simp) d
  refine aW ?_;exact(gu) (by unfold bV;simp only [g16];first | rfl | simp) (aU.refl _ _)
 intro w5 d;have c5:=c4.trans d;have b:=b.ext d;have e:=e.ext d;refine(bA) ?_;exact⟨rfl,c5⟩
theorem Fs(hi:Rd RR.aD 4 Z w a1 n1 e1 x.ab) (hr:Rd RR.ew 8 Z w a2 n2 e2 x.ah) {k:Key}:CR prog 259 #[.agg (x.row a1 n1 e1 a2 n2 e2).toArray,k.val] w (.tuple #[.string (fY x k),.bool (fB x k)]):=by
 refine enter func259 rfl ntmps259 rfl<|?_;have c0:aU [] w w:=aU.refl _ _;refine bO ?_;refine WL.go rfl (OX.box rfl rfl rfl fun b2 w1 s b=>?_);have s1:=s.ext;have F:=s.iG c0;have c1:=c0.trans s1;refine WL.go rfl (OX.box rfl rfl rfl fun b3 w2 m d=>?_);have s2:=m.ext;have G:=m.iG c1;have C:b2≠b3:=m.ne b.lt;have H:b3≠b2:=Ne.symm C;have c2:=c1.trans s2;have b:=b.ext s2;refine(aX) ao d.range<|(bY) H3 (ei (k:=k)) ?_;rintro _ w3 ⟨rfl,o⟩;have c3:=c2.trans o;have b:=b.ext o;have d:=d.ext o;refine(aS) (fun g9=>?_) fun g9=>?_
 ·
  refine(aX) aN b.range<|(aX) ao d.range<|(bY) W1 (se (k:=k) (hi.ext c3) (hr.ext c3)) ?_;rintro _ w4 ⟨rfl,e⟩;have c4:=c3.trans e;have b:=b.ext e;have d:=d.ext e;refine(yP) ?_;exact⟨by unfold fY fB;rw [if_pos g9,g9];rfl,c4⟩
 refine dd ?_;refine WP .r (PV.fa r7 rfl)<|(aZ) dF b.range<|(aX) ao d.range<|(bY) ou (dZ (k:=k) (hr.ext c3)) ?_;rintro _ w4 ⟨f1,f2,f3,rfl,e⟩;have c4:=c3.trans e;have b:=b.ext e;have d:=d.ext e;refine cm ?_;refine WL.go rfl (OX.alloc nJ rfl fun h w5 i j=>?_);have p:=i.ext;have D:=i.iG c4;have u:b2≠h:=i.ne b.lt;have I:h≠b2:=Ne.symm u;have y:b3≠h:=i.ne d.lt;have J:h≠b3:=Ne.symm y;have c5:=c4.trans p;have b:=b.ext p;have d:=d.ext p;refine WL.go rfl (OX.mq fI j rfl rfl rfl rfl rfl fun w6 q _ j=>?_);have z:=c5.own q D;have b:=b.bW q (by simp [u]);have d:=d.bW q (by simp [y]);refine ck ?_;refine WC.ke (t:=27) (v:=.bool (fB x k)) (fun E=>w6=E) ?_ ?_
 ·
  refine(de) (fun g21=>?_) (fun g21=>?_)
  ·
   refine WP .r (PV.fa pE rfl)<|(aZ) aO j.range<|?_;refine WP .r (PV.fa lh rfl)<|(aZ) aO b.range<|?_;exact(bZ) (by unfold fB;simp only [g9,g21];first | rfl | simp) rfl
  exact(bZ) (by unfold fB;simp only [g9,g21];first | rfl | simp) rfl
 rintro _ rfl;refine(aS) (fun f=>?_) fun f=>?_
 ·
  refine bO ?_;refine WP .r (PV.fa vg rfl)<|(aZ) e7 j.range<|(yP) ?_;exact⟨by unfold fY;rw [if_neg (by simp [g9]),if_pos f,f],z⟩
 refine(yP) ?_;exact⟨by unfold fY;rw [if_neg (by simp [g9]),if_neg (by simp [f]),f],z⟩
theorem vB(hi:Rd RR.aD 4 Z w a1 n1 e1 x.ab) (hr:Rd RR.ew 8 Z w a2 n2 e2 x.ah) {k:Key}{v:ByteArray}{reads:List Key}{a:Option Addr}{n e:Nat}(hk:Rd RR.key 2 Z w a n e reads):Calls prog 195 #[.agg (x.row a1 n1 e1 a2 n2 e2).toArray,k.val,.string v,.slice a n e] w fun en w'=>en=.returned (.agg ((bL x k v reads).row a n e).toArray)∧aU [] w w':=by
 have hlen:=SR.len hk;have hle:=SR.le hk;refine enter func195 rfl ntmps195 rfl<|?_;have c0:aU [] w w:=aU.refl _ _;refine bO ?_;refine WL.go rfl (OX.box rfl rfl rfl fun b4 w1 Q b=>?_);have s1:=Q.ext;have vq:=Q.iG c0;have c1:=c0.trans s1;refine WL.go rfl (OX.box rfl rfl rfl fun b5 w2 G d=>?_);have s2:=G.ext;have aex:=G.iG c1;have Ft:b4≠b5:=G.ne b.lt;have SM:b5≠b4:=Ne.symm Ft;have c2:=c1.trans s2;have b:=b.ext s2;refine WL.go rfl (OX.alloc nJ rfl fun m w3 D f=>?_);have H:=D.ext;have R:=D.iG c2;have I:b4≠m:=D.ne b.lt;have Fm:m≠b4:=Ne.symm I;have J:b5≠m:=D.ne d.lt;have SN:m≠b5:=Ne.symm J;have c3:=c2.trans H;have b:=b.ext H;have d:=d.ext H;refine(aX) ao d.range<|bO ?_;refine WP .r (PV.fa lh rfl)<|(aZ) aO b.range<|?_;refine WP .r (PV.fa lh rfl)<|(aZ) aO b.range<|nx ?_;refine WP .r (PV.ic ey rfl)<|nx ?_;refine WP .r (PV.bC (us:=(Rec.mk k v reads x.ad x.ad (1+(n:Int)) false).row a n e) Nt rfl rfl rfl)<|?_;refine WL.go rfl (OX.alloc nJ rfl fun o w4 s h=>?_);have E:=s.ext;have S:=s.iG c3;have K:b4≠o:=s.ne b.lt;have SO:o≠b4:=Ne.symm K;have L:b5≠o:=s.ne d.lt;have SP:o≠b5:=Ne.symm L;have N:m≠o:=s.ne f.lt;have T:o≠m:=Ne.symm N;have c4:=c3.trans E;have b:=b.ext E;have d:=d.ext E;have f:=f.ext E;refine WL.go rfl (OX.mq fI h rfl rfl rfl rfl rfl fun w5 F _ h=>?_);have c5:=c4.own F S;have b:=b.bW F (by simp [K]);have d:=d.bW F (by simp [L]);have f:=f.bW F (by simp [N]);refine dd ?_;refine WP .r (PV.fa r7 rfl)<|(aZ) dF b.range<|(aX) ao d.range<|(bY) ou (dZ (k:=k) (hr.ext c5)) ?_;rintro _ w6 ⟨f1,f2,f3,rfl,u⟩;have U:=c5.trans u;have b:=b.ext u;have d:=d.ext u;have f:=f.ext u;have h:=h.ext u;refine cm ?_;refine WL.go rfl (OX.alloc nJ rfl fun p w7 q j=>?_);have y:=q.ext;have zG:=q.iG U;have V:b4≠p:=q.ne b.lt;have Cs:p≠b4:=Ne.symm V;have W:b5≠p:=q.ne d.lt;have PU:p≠b5:=Ne.symm W;have X:m≠p:=q.ne f.lt;have Y:p≠m:=Ne.symm X;have tf:o≠p:=q.ne h.lt;have Cx:p≠o:=Ne.symm tf;have c7:=U.trans y;have b:=b.ext y;have d:=d.ext y;have f:=f.ext y;have h:=h.ext y;refine WL.go rfl (OX.mq fI j rfl rfl rfl rfl rfl fun w8 z _ j=>?_);have c8:=c7.own z zG;have b:=b.bW z (by simp [V]);have d:=d.bW z (by simp [W]);have f:=f.bW z (by simp [X]);have h:=h.bW z (by simp [tf]);refine ck ?_;refine WC.ke (t:=36) (v:=.bool ((aB x.ah k).isSome && decide ((aC x.ah k).value=v))) (fun wx=>w8=wx) ?_ ?_
 ·
  refine(de) (fun O=>?_) (fun O=>?_)
  ·
   refine WP .r (PV.fa vg rfl)<|(aZ) e7 j.range<|?_;exact(bZ) (by simp only [O];first | rfl | simp) rfl
  exact(bZ) (by simp only [O];first | rfl | simp) rfl
 rintro _ rfl;refine(aS) (fun P=>?_) fun P=>?_
 ·
  have hm:bL x k v reads=⟨k,v,reads,(aC x.ah k).changed,x.ad,1+(reads.length:Int),false⟩:=by unfold bL;rw [if_pos P]
  refine nx ?_;refine WP .r (PV.fa vh rfl)<|(aZ) aO j.range<|?_;refine WP .r (PV.fa vh rfl)<|?_;refine WL.go rfl (OX.st G1 h rfl rfl (by first | (simp [nth];done) | exact Vz rfl) rfl rfl fun w9 i _ h=>?_);have c9:=c8.own i S;have b:=b.bW i (by simp [K]);have d:=d.bW i (by simp [L]);have f:=f.bW i (by simp [N]);have j:=j.bW i (by simp [Cx]);refine(aX) dh h.range<|?_;refine WL.go rfl (OX.mq fI f rfl rfl rfl rfl rfl fun iP C _ f=>?_);have c10:=c9.own C R;have b:=b.bW C (by simp [I]);have d:=d.bW C (by simp [J]);have h:=h.bW C (by simp [T]);have j:=j.bW C (by simp [Y]);refine(kV) dh f.range<|?_;exact⟨by rw [hm,← hlen] <;> rfl,c10⟩
 have hm:bL x k v reads=⟨k,v,reads,x.ad,x.ad,1+(reads.length:Int),false⟩:=by unfold bL;rw [if_neg (by simp [P])]
 refine(aX) dh h.range<|?_;refine WL.go rfl (OX.mq fI f rfl rfl rfl rfl rfl fun w9 i _ f=>?_);have c9:=c8.own i R;have b:=b.bW i (by simp [I]);have d:=d.bW i (by simp [J]);have h:=h.bW i (by simp [T]);have j:=j.bW i (by simp [Y]);refine(kV) dh f.range<|?_;exact⟨by rw [hm,← hlen] <;> rfl,c9⟩
theorem ll{goals:List Key}{ar:Option Addr}(hu:fG A w ar r c aa) (hi:Rd RR.aD 4 Z w a1 n1 e1 x.ab) (hr:Rd RR.ew 8 Z w a2 n2 e2 x.ah) (m:yE B w ag g eg goals):CR prog 95 #[.slice ar r c,.agg (x.row a1 n1 e1 a2 n2 e2).toArray,.slice ag g eg] w (.int .i64 (gE aa x goals)):=by
 have hlen:=SR.len m;have hle:=SR.le m;refine enter func95 rfl ntmps95 rfl<|?_;have c0:aU [] w w:=aU.refl _ _;refine bO ?_;refine WL.go rfl (OX.box rfl rfl rfl fun b4 w1 s d=>?_);have s1:=s.ext;have S:=s.iG c0;have c1:=c0.trans s1;refine(bY) Xa (tb (hu.ext c1)) ?_;rintro _ w2 ⟨bv,rfl,u,s2⟩;have c2:=c1.trans s2;have d:=d.ext s2;refine(aS) (fun g9=>?_) fun g9=>?_
 ·
  simp at g9
  have b:gE aa x goals=41:=by unfold gE;rw [if_pos (by rw [← u];simp [g9])]
  refine(bA) ?_;exact⟨by rw [b],c2⟩
 simp at g9
 have o:=u.1 g9;refine(aX) aN d.range<|(bY) N4 (jX (hi.ext c2) (hr.ext c2)) ?_;rintro _ w3 ⟨T,rfl,v,z⟩;have c3:=c2.trans z;have d:=d.ext z;refine(aS) (fun g13=>?_) fun g13=>?_
 ·
  simp at g13
  have b:gE aa x goals=42:=by unfold gE;rw [if_neg (by simpa using o),if_pos (by rw [← v];simp [g13])]
  refine(bA) ?_;exact⟨by rw [b],c3⟩
 simp at g13
 have C:=v.1 g13;refine cm ?_;refine WP .r (PV.ic ey rfl)<|(aS) (fun g17=>?_) fun g17=>?_
 ·
  simp at g17
  have b:gE aa x goals=3:=by unfold gE;rw [if_neg (by simpa using o),if_neg (by simpa using C),if_pos (by omega)]
  refine(bA) ?_;exact⟨by rw [b],c3⟩
 simp at g17
 have b:gE aa x goals=if goals.all (gD aa) then 0 else 40:=by unfold gE;rw [if_neg (by simpa using o),if_neg (by simpa using C),if_neg (by omega)]
 refine eD ?_;refine WP .r (PV.ic ey rfl)<|ck ?_;refine WC.loop (σ:=Nat) (dn:=fun i=>[(0,.slice ar r c),(21,.slice ag g eg),(22,.int .i64 (g:Int)),(23,.int .i64 (i:Int))]) (I:=fun i w'=>aU [] w w'∧i≤g∧∀j y,j<i→goals[j]?=some y→gD aa y=true) (μ:=fun i=>g - i) 0 Sub.t ⟨c3,by omega,fun j y h=>by omega⟩ ?_;rintro i w4 ⟨c4,eS,D⟩;refine(aS) (fun g24=>?_) fun g24=>?_
 ·
  simp at g24
  have p:i<goals.length:=by omega
  obtain⟨U,V,W,J,_,K,q,_⟩:=SR.at m (ak p);subst K;refine dd ?_;have q:=a7 q c4 (by simp);refine nx ?_;refine WP .r (PV.dV ey J rfl rfl (by omega))<|(aX) ao q<|?_;refine WL.go rfl (OX.alloc E8 rfl fun X w5 E e=>?_);have L:=E.ext;have N:=E.iG c4;have c5:=c4.trans L;refine WL.go rfl (OX.mq gR e rfl rfl rfl rfl rfl fun w6 O _ e=>?_);have F:=c5.own O N;refine(aX) ao e.range<|(bY) Xb (te (k:=goals[i]) (hu.ext F)) ?_;rintro _ w7 ⟨rfl,G⟩;have H:=F.trans G;have e:=e.ext G;refine(aS) (fun f=>?_) fun f=>?_
  ·
   simp at f
   have b:gE aa x goals=40:=by rw [b,if_neg];rw [List.all_eq_true];intro h;have:=h _ (List.getElem_mem p);rw [f] at this;cases this
   refine(bA) ?_;exact⟨by rw [b],H⟩
  simp at f
  refine eD ?_;refine EX.again (i+1) (Sub.k2 rfl rfl<|Sub.cons rfl<|Sub.iX rfl (by simp)<|Sub.nil) ⟨H,by omega,cJ (P:=fun _ y=>gD aa y=true) p D f⟩ (by omega)
 simp at g24
 have b:gE aa x goals=0:=by rw [b,if_pos];rw [List.all_eq_true];intro y Q;obtain⟨j,R,rfl⟩:=List.mem_iff_getElem.1 Q;exact D j _ (by omega) (ak R)
 refine(bA) ?_;exact⟨by rw [b],c4⟩
theorem qI{group:List Key}(gp:St w M Z w []) (hl:Rd RR.ew 8 Z w a n c l) (D:Rd RR.key 2 Z w ag g eg group) (hb:∀i,(((group.take i).flatMap fun m=>da group m (aC l m).reads)).length≤100000000):Calls prog 191 #[.slice a n c,.slice ag g eg] w fun e w'=>∃O P Q Z',e=.returned (.slice O P Q)∧bJ w.heap.size Z Z'∧St w M Z' w' [As.os RR.DK 167 4 O P Q (bB l group)]:=by
 have hlen:=D.len;have hle:=D.le;refine enter func191 rfl ntmps191 rfl<|?_;have aQ:=gp;have st1:=aQ.fr hl;have st2:=st1.fr D;have ir:=st2.dp RR.DK 167 4;refine aW ?_;refine eD ?_;refine WC.gY (σ:=Nat × (Nat→Prop) × (List oq) × (Option Addr) × Nat × Nat) (dn:=fun(i,o,acc,d,b,f)=>[(0,.slice a n c),(1,.slice ag g eg),(5,.slice d b f),(12,.slice ag g eg),(13,.int .i64 (g:Int)),(14,.int .i64 (i:Int))]) (F:=fun(i,o,acc,d,b,f)=>[As.os RR.DK 167 4 d b f (acc)]) (I:=fun(i,o,acc,d,b,f)=>(i≤g)∧(bJ w.heap.size Z o)∧(acc=(group.take i).flatMap fun m=>da group m (aC l m).reads)∧True) (μ:=fun(i,o,acc,d,b,f)=>g - i) (Zf:=fun(i,o,acc,d,b,f)=>o) (0,Z,[],none,0,0) (ir) Sub.t (⟨by omega,bJ.refl _ _,by simp,trivial⟩)<|?_;rintro⟨i,o,acc,d,b,f⟩ w1 y ⟨hi,E,p,_⟩;simp only [CA,NA] at y hi E p ⊢;refine(aS) (fun g15=>?_) fun g15=>?_
 ·
  simp at g15
  have R:i<group.length:=by omega
  refine dd ?_;obtain⟨gJ,kF,jV,cR,gI,G,ek,eJ⟩:=Rd.at (As.gr y.g1) R;have G:=RR.ba G;subst G;have S:=y.fg eJ ek;refine nx ?_;refine WP .r (PV.dV ey cR rfl rfl (by omega))<|(aX) ao (As.kT S.g0)<|(eT) S fun b7 w2 SF SG hM=>?_;refine(cI) gR hM fun w3 jW ka T=>?_;refine(aX) ao T.b0<|?_;have z:=T;refine(bY) ou (gS (k:=group[i]) z.e0 (As.gr z.g4)) ?_;rintro _ w4 ⟨f1,f2,f3,rfl,IU,U⟩;have iF:=St.lr z U;have IL:=St.bN U;have hsz:=z.size;have V:=iF.a8 (by omega);have mC:=E.trans (bJ.dC (F:=fun x=>x∈aJ f1) IL) hsz;have Yx:=((As.gr V.g0)).len;refine(eT) V fun b8 w5 LZ Yq di=>?_;refine(cI) fI di fun w6 ry mu W=>?_;refine(aZ) dK W.b0<|dd ?_;refine WC.bm (σ:=Nat × (List oq) × (Option Addr) × Nat × Nat) (dn:=fun(j,h,d,b,f)=>[(0,.slice a n c),(1,.slice ag g eg),(5,.slice d b f),(7,.pointer (some ⟨b7,0,none⟩)),(12,.slice ag g eg),(13,.int .i64 (g:Int)),(14,.int .i64 (i:Int)),(25,.slice f1 f2 f3),(26,.int .i64 (f2:Int)),(27,.int .i64 (j:Int))]) (F:=fun(j,h,d,b,f)=>[As.os RR.DK 167 4 d b f (h)]) (I:=fun(j,h,d,b,f)=>(j≤f2)∧(h=acc++da group group[i] ((aC l group[i]).reads.take j))∧True) (μ:=fun(j,h,d,b,f)=>f2 - j) (0,acc,d,b,f) (W.p4) Sub.t (⟨by omega,by simp [da],trivial⟩)<|?_;rintro⟨j,h,d,b,f⟩ w7 q ⟨hj,s,_⟩;simp only [CA,NA] at q hj s ⊢;have ru:=((As.gs q.g0)).len;have IV:=hb i;rw [← p] at IV;have KT:=jR group group[i] ((aC l group[i]).reads.take j)
  have htl:h.length≤100100000:=by rw [s,List.length_append];rw [List.length_take] at KT;omega
  refine(aS) (fun H=>?_) fun H=>?_
  ·
   simp at H
   have J:j<(aC l group[i]).reads.length:=by omega
   refine dd ?_;obtain⟨tH,Ic,Fu,kQ,vC,K,mD,nK⟩:=Rd.at (As.gr q.g2) J;have K:=RR.ba K;subst K;have X:=q.fg nK mD;refine nx ?_;refine WP .r (PV.dV ey kQ rfl rfl (by omega))<|(aX) ao (As.kT X.g0)<|(eT) X fun b11 w8 aey aez ed=>?_;refine(cI) gR ed fun w9 zH tR L=>?_;refine(aX) ao L.b0<|(eV) (og (k:=(aC l group[i]).reads[j]) (As.gr L.g7)) L fun iP s10 C=>?_;refine(aS) (fun u=>?_) fun u=>?_
   ·
    simp at u
    have v:=jn (group:=group) (m:=group[i]) J;rw [if_neg u] at v;refine(aX) ao C.b5<|(aX) ao C.b0<|?_;refine WP .r (PV.bC (us:=(oq.mk group[i] (aC l group[i]).reads[j]).cells) Pj rfl rfl rfl)<|?_;refine WL.go rfl (OX.aP (us:=(oq.mk group[i] (aC l group[i]).reads[j]).cells) GX rfl rfl rfl rfl fun b39 iW aeA aeB=>?_);have Y:=C.cZ aeA aeB;refine WL.ap rfl rfl Y.p3 (SR.dc (A:=fun _=>True) (x:=oq.mk group[i] (aC l group[i]).reads[j]) (As.gb Y.g0) trivial rfl (by simp [oq.cells,Value.oneCell']) rfl) fun a40 aeC lB anw anx dH=>?_;refine gK ?_;refine ez (j+1,_,a40,(b+1),aeC) ⟨dH.p1.drop.p1.drop.p1.drop,⟨by omega,by rw [v,s,List.append_assoc],trivial⟩⟩
   simp at u
   have v:=jn (group:=group) (m:=group[i]) J;rw [if_pos u] at v;refine eD ?_;refine ez (j+1,_,d,b,f) ⟨C.drop.drop,⟨by omega,by rw [v,s],trivial⟩⟩
  simp at H
  have N:(aC l group[i]).reads.take j=(aC l group[i]).reads:=List.take_of_length_le (by omega);refine i7 ?_;refine ez (i+1,_,h,d,b,f) ⟨q.p6.p6.p2.k3,⟨by omega,mC,by rw [s,N,p,List.take_succ_eq_append_getElem R];simp only [List.flatMap_append,List.flatMap_cons,List.flatMap_nil,List.append_nil],trivial⟩⟩
 simp at g15
 have N:group.take i=group:=List.take_of_length_le (by omega);rw [N] at p;subst p;refine(bA) ?_;exact⟨_,_,_,_,rfl,E,y.p1.drop.p1.drop⟩
set_option maxHeartbeats 400000
theorem vD{l:List bq}(hl:Rd RR.mJ 6 Z w a r c l):CR prog 193 #[.slice a r c,k.val] w (.bool (fZ l k)):=by
 have hle:=SR.le hl;have hlen:=SR.len hl;refine enter func193 rfl ntmps193 rfl<|?_;have c0:aU [] w w:=aU.refl _ _;refine bO ?_;refine WL.go rfl (OX.box rfl rfl rfl fun b3 w1 s b=>?_);have s1:=s.ext;have J:=s.iG c0;have c1:=c0.trans s1;refine eD ?_;refine WP .r (PV.ic mM rfl)<|ck ?_;refine WC.loop (σ:=Nat) (dn:=fun i=>[(3,.pointer (some ⟨b3,0,none⟩)),(7,.slice a r c),(8,.int .i64 (r:Int)),(9,.int .i64 (i:Int))]) (I:=fun i w'=>aU [] w w'∧bR w' b3 41 [.int .i64 k.kind,.string k.text]∧i≤r∧∀j y,j<i→l[j]?=some y→decide (bq.key y=k)=false) (μ:=fun i=>r - i) 0 Sub.t ⟨c1,b,by omega,fun j y h=>by omega⟩ ?_;rintro i w2 ⟨c2,b,hi,u⟩;refine(aS) (fun g10=>?_) fun g10=>?_
 ·
  simp at g10
  have d:i<l.length:=by omega
  refine dd ?_;obtain⟨K,L,N,E,_,⟨q1,O,Q,R,S,T,rfl,_⟩,e,_⟩:=SR.at hl (ak d);have e:=a7 e c2 (by simp);refine nx ?_;refine WP .r (PV.dV mM E rfl rfl (by omega))<|(aX) nG e<|?_;refine WL.go rfl (OX.alloc Pu rfl fun v w3 f m=>?_);have z:=f.ext;have F:=f.iG c2;have C:b3≠v:=f.ne b.lt;have U:v≠b3:=Ne.symm C;have c3:=c2.trans z;have b:=b.ext z;refine WL.go rfl (OX.mq G2 m rfl rfl rfl rfl rfl fun w4 D _ m=>?_);have c4:=c3.own D F;have b:=b.bW D (by simp [C]);refine ck ?_;refine WP .r (PV.fa G3 rfl)<|(ia) ao m.range<|(aX) ao b.range<|?_;refine WP .r (PV.Gl fS (p:=l[i].key) (q:=k) rfl rfl)<|(aS) (fun g16=>?_) fun g16=>?_
  ·
   have o:fZ l k=true:=List.any_eq_true.2 ⟨_,List.getElem_mem d,g16⟩;refine(bA) ?_;exact⟨by rw [o],c4⟩
  skip
  refine eD ?_;refine EX.again (i+1) (Sub.k2 rfl rfl<|Sub.cons rfl<|Sub.iX rfl (by simp)<|Sub.nil) ⟨c4,b,by omega,cJ (P:=fun _ (y:bq)=>decide (y.key=k)=false) d u g16⟩ (by omega)
 simp at g10
 have o:fZ l k=false:=List.any_eq_false.2 fun y G=>by obtain⟨j,H,rfl⟩:=List.mem_iff_getElem.1 G;simpa using u j _ (by omega) (ak H)
 refine(bA) ?_;exact⟨by rw [o],c2⟩
theorem qJ(hi:Rd RR.aD 4 Z w a1 n1 e1 x.ab) (hr:Rd RR.ew 8 Z w a2 n2 e2 x.ah) {l:List bq}{k:Key}{a:Option Addr}{n c:Nat}(hl:Rd RR.mJ 6 Z w a n c l):CR prog 142 #[.agg (x.row a1 n1 e1 a2 n2 e2).toArray,.slice a n c,k.val] w (.bool (cH x l k)):=by
 refine enter func142 rfl ntmps142 rfl<|?_;have c0:aU [] w w:=aU.refl _ _;refine bO ?_;refine WL.go rfl (OX.box rfl rfl rfl fun b3 w1 u b=>?_);have s1:=u.ext;have G:=u.iG c0;have c1:=c0.trans s1;refine WL.go rfl (OX.box rfl rfl rfl fun b5 w2 m d=>?_);have s2:=m.ext;have H:=m.iG c1;have C:b3≠b5:=m.ne b.lt;have I:b5≠b3:=Ne.symm C;have c2:=c1.trans s2;have b:=b.ext s2;refine dd ?_;refine WC.ke (t:=15) (v:=.bool (ay k || fZ l k)) (aU [] w2) ?_<|?_
 ·
  refine(aX) ao d.range<|(bY) H3 (ei (k:=k)) ?_;rintro _ w3 ⟨rfl,e⟩;have c3:=c2.trans e;have b:=b.ext e;have d:=d.ext e;refine(de) (fun g11=>?_) (fun g11=>?_)
  ·
   exact(bZ) (by simp only [g11];first | rfl | simp) e
  refine(aX) ao d.range<|(bY) KI (vD (k:=k) (hl.ext c3)) ?_;rintro _ w4 ⟨rfl,f⟩;have c4:=c3.trans f;have b:=b.ext f;have d:=d.ext f;exact(bZ) (by simp only [g11];first | rfl | simp) (e.trans f)
 intro w3 e;have c3:=c2.trans e;have b:=b.ext e;have d:=d.ext e;refine(aS) (fun g15=>?_) fun g15=>?_
 ·
  have h:cH x l k=false:=by unfold cH;rw [g15];rfl
  refine(bA) ?_;exact⟨by rw [h],c3⟩
 have h:cH x l k=(!(aB x.ah k).isSome || decide ((aC x.ah k).av≠x.ad)):=by unfold cH;rw [g15];rfl
 refine ck ?_;refine WP .r (PV.fa r7 rfl)<|(aZ) dF b.range<|(aX) ao d.range<|(bY) ou (dZ (k:=k) (hr.ext c3)) ?_;rintro _ w4 ⟨f1,f2,f3,rfl,f⟩;have c4:=c3.trans f;have b:=b.ext f;have d:=d.ext f;refine cm ?_;refine WL.go rfl (OX.alloc nJ rfl fun i w5 j o=>?_);have p:=j.ext;have D:=j.iG c4;have y:b3≠i:=j.ne b.lt;have J:i≠b3:=Ne.symm y;have z:b5≠i:=j.ne d.lt;have K:i≠b5:=Ne.symm z;have c5:=c4.trans p;have b:=b.ext p;have d:=d.ext p;refine WL.go rfl (OX.mq fI o rfl rfl rfl rfl rfl fun w6 q _ o=>?_);have E:=c5.own q D;have b:=b.bW q (by simp [y]);have d:=d.bW q (by simp [z]);refine ck ?_;refine WC.lE (t:=6) (v:=.bool (cH x l k)) (fun F=>w6=F) ?_ ?_
 ·
  refine(de) (fun s=>?_) (fun s=>?_)
  ·
   exact(gu) (by rw [h];simp only [s];first | rfl | simp) rfl
  refine WP .r (PV.fa pE rfl)<|(aZ) aO o.range<|?_;refine WP .r (PV.fa lh rfl)<|(aZ) aO b.range<|?_;exact(gu) (by rw [h];simp only [s];first | rfl | simp) rfl
 rintro _ rfl;refine(bA) ?_;exact⟨rfl,E⟩
theorem vE(hi:Rd RR.aD 4 Z w a1 n1 e1 x.ab) (hr:Rd RR.ew 8 Z w a2 n2 e2 x.ah) {l others:List bq}{k:Key}{a a3:Option Addr}{n c n3 e3:Nat}(hl:Rd RR.mJ 6 Z w a n c l) (s:Rd RR.mJ 6 Z w a3 n3 e3 others):CR prog 196 #[.agg (x.row a1 n1 e1 a2 n2 e2).toArray,.slice a n c,.slice a3 n3 e3,k.val] w (.int .i64 (bH x l others k)):=by
 refine enter func196 rfl ntmps196 rfl<|?_;have c0:aU [] w w:=aU.refl _ _;refine bO ?_;refine WL.go rfl (OX.box rfl rfl rfl fun b4 w1 o d=>?_);have s1:=o.ext;have y:=o.iG c0;have c1:=c0.trans s1;refine WL.go rfl (OX.box rfl rfl rfl fun p w2 h b=>?_);have s2:=h.ext;have z:=h.iG c1;have u:b4≠p:=h.ne d.lt;have C:p≠b4:=Ne.symm u;have c2:=c1.trans s2;have d:=d.ext s2;refine fH ?_;refine WC.ke (t:=9) (v:=.bool (!ax k && fZ l k)) (aU [] w2) ?_<|?_
 ·
  refine(aX) ao b.range<|(bY) H0 (df (k:=k)) ?_;rintro _ w3 ⟨rfl,e⟩;have c3:=c2.trans e;have d:=d.ext e;have b:=b.ext e;refine(de) (fun g13=>?_) (fun g13=>?_)
  ·
   refine(aX) ao b.range<|(bY) KI (vD (k:=k) (hl.ext c3)) ?_;rintro _ w4 ⟨rfl,f⟩;have c4:=c3.trans f;have d:=d.ext f;have b:=b.ext f;exact(bZ) (by simp only [g13];first | rfl | simp) (e.trans f)
  exact(bZ) (by simp only [g13];first | rfl | simp) e
 intro w3 e;have c3:=c2.trans e;have d:=d.ext e;have b:=b.ext e;refine(aS) (fun g9=>?_) fun g9=>?_
 ·
  skip
  refine(bA) ?_;exact⟨by unfold bH;rw [if_pos g9],c3⟩
 have g9:¬((!ax k && fZ l k)=true):=by simp [g9]
 refine(aX) aN d.range<|(aX) ao b.range<|(bY) PC (qJ (k:=k) (hi.ext c3) (hr.ext c3) (hl.ext c3)) ?_;rintro _ w4 ⟨rfl,f⟩;have c4:=c3.trans f;have d:=d.ext f;have b:=b.ext f;refine(aS) (fun g18=>?_) fun g18=>?_
 ·
  skip
  refine(bA) ?_;exact⟨by unfold bH;rw [if_neg g9,if_pos g18],c4⟩
 have g18:¬((!cH x l k)=true):=by simp [g18]
 refine(aX) ao b.range<|(bY) KI (vD (k:=k) (s.ext c4)) ?_;rintro _ w5 ⟨rfl,i⟩;have c5:=c4.trans i;have d:=d.ext i;have b:=b.ext i;refine(aS) (fun g24=>?_) fun g24=>?_
 ·
  skip
  refine(bA) ?_;exact⟨by unfold bH;rw [if_neg g9,if_neg g18,if_pos g24],c5⟩
 have g24:¬((!fZ others k)=true):=by simp [g24]
 refine(aX) ao b.range<|(bY) H0 (df (k:=k)) ?_;rintro _ w6 ⟨rfl,j⟩;have q:=c5.trans j;have d:=d.ext j;have b:=b.ext j;refine(aS) (fun m=>?_) fun m=>?_
 ·
  skip
  refine(bA) ?_;exact⟨by unfold bH;rw [if_neg g9,if_neg g18,if_neg g24,if_pos m],q⟩
 refine(bA) ?_;exact⟨by unfold bH;rw [if_neg g9,if_neg g18,if_neg g24,if_neg (by simp [m])],q⟩
theorem tI{l:List aG}(H:St w M Z w []) (hl:Rd RR.eG 4 Z w a n c l) (h6:l.length≤1000000) (J:∀x∈l,x.asks.length≤1000):Calls prog 139 #[.slice a n c] w fun e w'=>∃v y z Z',e=.returned (.slice v y z)∧bJ w.heap.size Z Z'∧St w M Z' w' [As.os RR.eG 58 4 v y z l]:=by
 have hlen:=hl.len;have hle:=hl.le;refine enter func139 rfl ntmps139 rfl<|?_;have aQ:=H;have st1:=aQ.fr hl;have st2:=st1.dp RR.eG 58 4;refine aW ?_;refine eD ?_;refine WC.gY (σ:=Nat × (Nat→Prop) × (List aG) × (Option Addr) × Nat × Nat) (dn:=fun(i,d,acc,f,b,j)=>[(3,.slice f b j),(6,.slice a n c),(7,.int .i64 (n:Int)),(8,.int .i64 (i:Int))]) (F:=fun(i,d,acc,f,b,j)=>[As.os RR.eG 58 4 f b j (acc)]) (I:=fun(i,d,acc,f,b,j)=>(i≤n)∧(bJ w.heap.size Z d)∧(acc=l.take i)∧True) (μ:=fun(i,d,acc,f,b,j)=>n - i) (Zf:=fun(i,d,acc,f,b,j)=>d) (0,Z,[],none,0,0) (st2) Sub.t (⟨by omega,bJ.refl _ _,by simp,trivial⟩)<|?_;rintro⟨i,d,acc,f,b,j⟩ w1 m ⟨hi,q,o,_⟩;simp only [CA,NA] at m hi q o ⊢;have ru:=((As.gs m.g0)).len
 have KT:acc.length≤1000000:=by rw [o,List.length_take];omega
 refine(aS) (fun g9=>?_) fun g9=>?_
 ·
  simp at g9
  have s:i<l.length:=by omega
  refine dd ?_;obtain⟨gJ,kF,jV,K,gI,L,N,O⟩:=Rd.at (As.gr m.g1) s;obtain⟨q1,P,Q,rfl,R⟩:=L;have S:=m.fg O N;have C:Rd RR.ask 4 _ _ q1 P Q l[i].asks:=R;have T:=S.fr (C);have DT:=J _ (List.getElem_mem s);have Yx:=SR.len C;have D:=T.dp RR.ask 102 4;refine nx ?_;refine WP .r (PV.dV iU K rfl rfl (by omega))<|(aX) qD (As.kT D.g2)<|(eT) D fun b5 w2 H9 Ia U=>?_;refine(cI) Cj U fun w3 jW ka p=>?_;refine(aZ) ku p.b0<|?_;have hsz:=p.size;refine WL.ap rfl rfl p.p1 ((As.gr p.g2)) fun E aeD w4 V Yy W=>?_;refine nx ?_;refine WL.s1 W.p1 fun w5 _ X=>?_;refine bO ?_;have G:=X.p1.a8 (by simp;omega)
  have Y:∀x∈aJ E,w.heap.size≤x:=fun x hx=>by rcases V x hx with h | h;simp [aJ] at h;omega
  have mC:=q.trans (bJ.dC (F:=fun x=>x∈aJ E) Y) (Nat.le_refl _);refine(aX) qD G.b1<|?_;refine WL.go rfl (OX.aP (us:=l[i].row _ _ _) Kq rfl rfl rfl rfl fun b18 w6 Yz YA=>?_);have u:=G.cZ Yz YA;refine WL.ap rfl rfl u.p5 (SR.dc (A:=fun _=>True) (x:=l[i]) (As.gb u.g0) trivial rfl (aG.one _ _ _ _) ⟨_,_,_,rfl,(As.gr u.g1)⟩) fun a19 aeE w7 anA anB dm=>?_;refine gK ?_;refine ez (i+1,_,acc++[l[i]],a19,(b+1),aeE) ⟨dm.p6.p1.k2,⟨by omega,mC,by rw [o,List.take_succ_eq_append_getElem s],trivial⟩⟩
 simp at g9
 have ig:acc=l:=by rw [o];exact List.take_of_length_le (by omega)
 subst ig;refine(bA) ?_;exact⟨_,_,_,_,rfl,q,m.p1.drop⟩
end Go.Rc

