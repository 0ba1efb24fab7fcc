/- Walks over the program, part WH. Conditions: as each theorem says. -/
import Derived.Test.YtmpkegmkoclbhaaGreatDoorDFacts
import Derived.Test.YtmpkegmkoclbhaaGreatDoorDWB
import Derived.Test.YtmpkegmkoclbhaaGreatDoorDWD
import Derived.Test.YtmpkegmkoclbhaaGreatDoorDWF
import Derived.Test.YtmpkegmkoclbhaaGreatDoorDBe
set_option linter.all false
namespace Go.Rc
open Go Go.Proofs Go.Proofs.Tryz
variable {n r c e2 n1 e1 n2 g eg:Nat}{w:World}{k:Key}{aa:List aH}{A B Z M:Nat→Prop}{a a2 a1 ag:Option Addr}{l:List Rec}{x:bZ}
set_option maxHeartbeats 400000
theorem wL{n:Int} :CR prog 560 #[.int .i64 n] w (.string (tL n)):=by
 refine enter func560 rfl ntmps560 rfl<|?_;have c0:aT [] w w:=aT.refl _ _;refine(aS) (fun g4=>?_) fun g4=>?_
 ·
  simp at g4
  refine(bz) ?_;exact⟨by unfold tL;rw [if_pos g4],c0⟩
 simp at g4
 refine(bz) ?_;exact⟨by unfold tL;rw [if_neg g4],c0⟩
theorem qx :CR prog 358 #[k.val] w (.string (o8 k)):=by
 refine enter func358 rfl ntmps358 rfl<|?_;have c0:aT [] w w:=aT.refl _ _;refine bO ?_;refine WL.go rfl (OX.box rfl rfl rfl fun b1 w1 d b=>?_);have s1:=d.ext;have f:=d.iI c0;have c1:=c0.trans s1;refine ez ?_;refine WP .r (PV.fa dF rfl)<|(a7) aP b.range<|(aS) (fun g3=>?_) fun g3=>?_
 ·
  simp at g3
  refine(bz) ?_;exact⟨by unfold o8;rw [if_pos g3],c1⟩
 simp at g3
 refine(aZ) ao b.range<|(bY) HW (de (k:=k)) ?_;rintro _ w2 ⟨rfl,s2⟩;have c2:=c1.trans s2;have b:=b.ext s2;refine(aS) (fun g7=>?_) fun g7=>?_
 ·
  refine bO ?_;refine WP .r (PV.fa dF rfl)<|(a7) aP b.range<|(bY) X5 (wL (n:=k.kind)) ?_;rintro _ w3 ⟨rfl,e⟩;have c3:=c2.trans e;have b:=b.ext e;refine(bz) ?_;exact⟨by unfold o8;rw [if_neg g3,if_pos g7],c3⟩
 refine(bz) ?_;exact⟨by unfold o8;rw [if_neg g3,if_neg (by simp [g7])],c2⟩
theorem Cs(hr:fP A w a r c aa):CR prog 126 #[.slice a r c,k.val] w (.bool (iN aa k)):=by
 refine enter func126 rfl ntmps126 rfl<|?_;have c0:aT [] w w:=aT.refl _ _;refine bO ?_;refine WL.go rfl (OX.box rfl rfl rfl fun b3 w1 o d=>?_);have s1:=o.ext;have s:=o.iI c0;have c1:=c0.trans s1;refine cy ?_;refine WC.lA (t:=4) (v:=.bool (iN aa k)) (aT [] w1) ?_<|?_
 ·
  refine WC.drawn (m:=17) (C:=aT [] w1) (T:=fun _=>aT []) (E:=cB [(1,fun v _=>v=.bool (fQ k)),(14,fun v _=>v=.int .i64 (number k)),(15,fun v _=>v=(aM aa (number k)).val)]) (bm (⟨fun _ _ _ _ _ _ _ h=>h,⟨fun _ _ _ _ _ _ _ h=>h,⟨fun _ _ _ _ _ _ _ h=>h,trivial⟩⟩⟩)) mixed (by kernel_rfl) (aT.drew _ _)<|?_;refine DP .r (fun _ b=>PV.G7 ao (d.ext b).range rfl rfl)<|?_;refine DW.e rfl rfl rfl rfl rfl (fun f b i=>OX.call Kw rfl rfl ((iS (k:=k)).mono ?_))<|?_
  ·
   rintro _ wy ⟨rfl,hy⟩;exact⟨_,rfl,b.trans hy,hy,_,rfl,rfl⟩
  rintro _ j _ rfl;refine(oo) (fun g7=>?_) (fun g7=>?_)
  ·
   refine DP .r (fun _ b=>PV.fa dF rfl)<|DP .r (fun _ b=>PV.ld1 aP (d.ext b).range rfl rfl)<|(oo) (fun g11=>?_) (fun g11=>?_)
   ·
    refine DP .r (fun _ b=>PV.fa dF rfl)<|DP .r (fun _ b=>PV.ld1 aP (d.ext b).range rfl rfl)<|(oo) (fun g16=>?_) (fun g16=>?_)
    ·
     refine(cQ) ?_;rintro w2 s2 _;have c2:=c1.trans s2;have d:=d.ext s2;exact(gH) (by unfold iN;simp only [g7,g11,g16];first | rfl | simp) s2
    refine nx ?_;refine DP .r (fun _ b=>PV.G7 ao (d.ext b).range rfl rfl)<|?_;refine DW.e rfl rfl rfl rfl rfl (fun f b i=>OX.call NS rfl rfl ((j0 (k:=k)).mono ?_))<|?_
    ·
     rintro _ wy ⟨rfl,hy⟩;exact⟨_,rfl,b.trans hy,hy,_,rfl,rfl⟩
    rintro _ j _ rfl;refine DW.e rfl rfl rfl rfl rfl (fun f b i=>OX.call zt rfl rfl ((gS (n:=number k) (hr.ext (c1.trans b))).mono ?_))<|?_
    ·
     rintro _ wy ⟨rfl,hy⟩;exact⟨_,rfl,b.trans hy,hy,_,rfl,rfl⟩
    rintro _ j _ rfl;refine DP .r (fun _ b=>PV.G7 ao (d.ext b).range rfl rfl)<|(cQ)<|?_;rintro w2 s2 _;have c2:=c1.trans s2;have d:=d.ext s2;refine WP .r (PV.DX fI (p:=aM aa (number k)) (q:=k) rfl rfl)<|?_;exact(gH) (by unfold iN;simp only [g7,g11,g16];first | rfl | simp) s2
   refine fL ?_;refine DP .r (fun _ b=>PV.G7 ao (d.ext b).range rfl rfl)<|?_;refine DW.e rfl rfl rfl rfl rfl (fun f b i=>OX.call NS rfl rfl ((j0 (k:=k)).mono ?_))<|?_
   ·
    rintro _ wy ⟨rfl,hy⟩;exact⟨_,rfl,b.trans hy,hy,_,rfl,rfl⟩
   rintro _ j _ rfl;refine DW.e rfl rfl rfl rfl rfl (fun f b i=>OX.call zt rfl rfl ((gS (n:=number k) (hr.ext (c1.trans b))).mono ?_))<|?_
   ·
    rintro _ wy ⟨rfl,hy⟩;exact⟨_,rfl,b.trans hy,hy,_,rfl,rfl⟩
   rintro _ j _ rfl;refine DP .r (fun _ b=>PV.G7 ao (d.ext b).range rfl rfl)<|(cQ)<|?_;rintro w2 s2 _;have c2:=c1.trans s2;have d:=d.ext s2;refine WP .r (PV.DX fI (p:=aM aa (number k)) (q:=k) rfl rfl)<|?_;exact(gH) (by unfold iN;simp only [g7,g11];first | rfl | simp) s2
  refine aY ?_;refine(cQ) ?_;rintro w2 s2 _;have c2:=c1.trans s2;have d:=d.ext s2;exact(gH) (by unfold iN;simp only [g7];first | rfl | simp) s2
 intro w2 s2;have c2:=c1.trans s2;have d:=d.ext s2;refine(bz) ?_;exact⟨rfl,c2⟩
theorem fB{ae:List ByteArray}{C:Nat→Prop}{r2:Nat}(ht:lD prog A w) (hr:fP B w a r c aa) (hl:Strs C w a2 r2 e2 ae) (hb:∀x∈aa,0≤x.c∧x.c≤65535∧x.asks.length≤1000) (hk:cY k):CR prog 181 #[.slice a r c,k.val,.slice a2 r2 e2] w ((aG aa k ae).val):=by
 refine enter func181 rfl ntmps181 rfl<|?_;have c0:aT [] w w:=aT.refl _ _;refine bO ?_;refine WL.go rfl (OX.box rfl rfl rfl fun b4 w1 p b=>?_);have s1:=p.ext;have y:=p.iI c0;have c1:=c0.trans s1;refine WL.go rfl (OX.alloc oL rfl fun q w2 i e=>?_);have s2:=i.ext;have s:=i.iI c1;have j:b4≠q:=i.ne b.lt;have z:q≠b4:=Ne.symm j;have c2:=c1.trans s2;have b:=b.ext s2;refine dd ?_;refine WC.ke (t:=7) (v:=.bool (decide (k.kind=31) || decide (k.kind=32))) (fun u=>w2=u) ?_ ?_
 ·
  refine nx ?_;refine WP .r (PV.fa dF rfl)<|(a7) aP b.range<|(db) (fun g11=>?_) (fun g11=>?_)
  ·
   exact(cA) (by simp only [g11];first | rfl | simp) rfl
  refine WP .r (PV.fa dF rfl)<|(a7) aP b.range<|?_;exact(cA) (by simp only [g11];first | rfl | simp) rfl
 rintro _ rfl;refine(aS) (fun g7=>?_) fun g7=>?_
 ·
  simp at g7
  have m:aG aa k ae=cx aa k ae:=by unfold aG;rw [if_pos g7]
  refine(aZ) ao b.range<|(bY) XV (Fg (k:=k) (ht.ext c2) (hr.ext c2) (hl.ext c2) hb) ?_;rintro _ w3 ⟨rfl,d⟩;have c3:=c2.trans d;have b:=b.ext d;have e:=e.ext d;refine WL.go rfl (OX.mr gE e rfl rfl rfl rfl rfl fun w4 f _ e=>?_);have c4:=c3.own f s;have b:=b.bX f (by simp [j]);refine(kT) iR e.range<|?_;rw [m];exact⟨rfl,c4⟩
 simp at g7
 have m:aG aa k ae=⟨true,⟨#[]⟩,eS⟩:=by unfold aG;rw [if_neg (by omega)]
 refine nx ?_;refine WC.ke (t:=20) (v:=.bool (aw k || (decide (k.kind<1) || decide (22<k.kind)))) (aT [] w2) ?_<|?_
 ·
  refine(aZ) ao b.range<|(bY) HV (ew (k:=k)) ?_;rintro _ w3 ⟨rfl,d⟩;have c3:=c2.trans d;have b:=b.ext d;have e:=e.ext d;refine(db) (fun g23=>?_) (fun g23=>?_)
  ·
   exact(cA) (by simp only [g23];first | rfl | simp) d
  refine WP .r (PV.fa dF rfl)<|(a7) aP b.range<|(db) (fun o=>?_) (fun o=>?_)
  ·
   exact(cA) (by simp only [g23,o];first | rfl | simp) d
  refine WP .r (PV.fa dF rfl)<|(a7) aP b.range<|?_;exact(cA) (by simp only [g23,o];first | rfl | simp) d
 intro w3 d;have c3:=c2.trans d;have b:=b.ext d;have e:=e.ext d;refine(aS) (fun g20=>?_) fun g20=>?_
 ·
  skip
  refine bO ?_;refine WP .r (PV.bB (us:=[.bool true,.string ⟨#[]⟩,.int .i64 0,.string ⟨#[]⟩]) mB rfl rfl rfl)<|?_;refine WL.go rfl (OX.mr gE e rfl rfl rfl rfl rfl fun w4 f _ e=>?_);have c4:=c3.own f s;have b:=b.bX f (by simp [j]);refine(kT) iR e.range<|?_;rw [m];exact⟨rfl,c4⟩
 exfalso;simp at g20;rcases hk with h | h <;> omega
theorem vo{rev:Int}(hl:Rd RR.ei 8 Z w a n c l):CR prog 216 #[.slice a n c,.int .i64 rev,k.val] w (.bool (bT l rev k)):=by
 refine enter func216 rfl ntmps216 rfl<|?_;have c0:aT [] w w:=aT.refl _ _;refine bO ?_;refine WL.go rfl (OX.box rfl rfl rfl fun b5 w1 i b=>?_);have s1:=i.ext;have s:=i.iI c0;have c1:=c0.trans s1;refine(aZ) ao b.range<|(bY) kN (ee (k:=k) (hl.ext c1)) ?_;rintro _ w2 ⟨f1,f2,f3,rfl,s2⟩;have c2:=c1.trans s2;have b:=b.ext s2;refine cq ?_;refine WL.go rfl (OX.alloc nL rfl fun j w3 f e=>?_);have m:=f.ext;have q:=f.iI c2;have o:b5≠j:=f.ne b.lt;have u:j≠b5:=Ne.symm o;have c3:=c2.trans m;have b:=b.ext m;refine WL.go rfl (OX.mr fY e rfl rfl rfl rfl rfl fun w4 p _ e=>?_);have c4:=c3.own p q;have b:=b.bX p (by simp [o]);refine cy ?_;refine WC.lA (t:=6) (v:=.bool (bT l rev k)) (aT [] w4) ?_<|?_
 ·
  refine(db) (fun g16=>?_) (fun g16=>?_)
  ·
   refine(aZ) ao b.range<|(bY) HW (de (k:=k)) ?_;rintro _ w5 ⟨rfl,d⟩;have c5:=c4.trans d;have b:=b.ext d;have e:=e.ext d;refine(db) (fun g20=>?_) (fun g20=>?_)
   ·
    refine WP .r (PV.fa pB rfl)<|(a7) aP e.range<|(db) (fun h=>?_) (fun h=>?_)
    ·
     refine WP .r (PV.fa Fb rfl)<|(a7) dH e.range<|?_;exact(gH) (by unfold bT;simp only [g16,g20,h];first | rfl | simp) d
    exact(gH) (by unfold bT;simp only [g16,g20,h];first | rfl | simp) d
   exact(gH) (by unfold bT;simp only [g16,g20];first | rfl | simp) d
  refine aY ?_;exact(gH) (by unfold bT;simp only [g16];first | rfl | simp) (aT.refl _ _)
 intro w5 d;have c5:=c4.trans d;have b:=b.ext d;have e:=e.ext d;refine(bz) ?_;exact⟨rfl,c5⟩
theorem Fq(hi:Rd RR.aD 4 Z w a1 n1 e1 x.ab) (hr:Rd RR.ei 8 Z w a2 n2 e2 x.ah) {k:Key}:CR prog 221 #[.agg (x.row a1 n1 e1 a2 n2 e2).toArray,k.val] w (.tuple #[.string (i6 x k),.bool (gu x k)]):=by
 refine enter func221 rfl ntmps221 rfl<|?_;have c0:aT [] w w:=aT.refl _ _;refine bO ?_;refine WL.go rfl (OX.box rfl rfl rfl fun b2 w1 s b=>?_);have s1:=s.ext;have F:=s.iI c0;have c1:=c0.trans s1;refine WL.go rfl (OX.box rfl rfl rfl fun b3 w2 m d=>?_);have s2:=m.ext;have G:=m.iI c1;have C:b2≠b3:=m.ne b.lt;have H:b3≠b2:=Ne.symm C;have c2:=c1.trans s2;have b:=b.ext s2;refine(aZ) ao d.range<|(bY) HV (ew (k:=k)) ?_;rintro _ w3 ⟨rfl,o⟩;have c3:=c2.trans o;have b:=b.ext o;have d:=d.ext o;refine(aS) (fun g9=>?_) fun g9=>?_
 ·
  refine(aZ) aO b.range<|(aZ) ao d.range<|(bY) WN (rW (k:=k) (hi.ext c3) (hr.ext c3)) ?_;rintro _ w4 ⟨rfl,e⟩;have c4:=c3.trans e;have b:=b.ext e;have d:=d.ext e;refine(AF) ?_;exact⟨by unfold i6 gu;rw [if_pos g9,g9];rfl,c4⟩
 refine dd ?_;refine WP .r (PV.fa rQ rfl)<|(a7) dD b.range<|(aZ) ao d.range<|(bY) kN (ee (k:=k) (hr.ext c3)) ?_;rintro _ w4 ⟨f1,f2,f3,rfl,e⟩;have c4:=c3.trans e;have b:=b.ext e;have d:=d.ext e;refine cq ?_;refine WL.go rfl (OX.alloc nL rfl fun h w5 i j=>?_);have p:=i.ext;have D:=i.iI c4;have u:b2≠h:=i.ne b.lt;have I:h≠b2:=Ne.symm u;have y:b3≠h:=i.ne d.lt;have J:h≠b3:=Ne.symm y;have c5:=c4.trans p;have b:=b.ext p;have d:=d.ext p;refine WL.go rfl (OX.mr fY j rfl rfl rfl rfl rfl fun w6 q _ j=>?_);have z:=c5.own q D;have b:=b.bX q (by simp [u]);have d:=d.bX q (by simp [y]);refine cy ?_;refine WC.ke (t:=27) (v:=.bool (gu x k)) (fun E=>w6=E) ?_ ?_
 ·
  refine(db) (fun g21=>?_) (fun g21=>?_)
  ·
   refine WP .r (PV.fa pB rfl)<|(a7) aP j.range<|?_;refine WP .r (PV.fa kY rfl)<|(a7) aP b.range<|?_;exact(cA) (by unfold gu;simp only [g9,g21];first | rfl | simp) rfl
  exact(cA) (by unfold gu;simp only [g9,g21];first | rfl | simp) rfl
 rintro _ rfl;refine(aS) (fun f=>?_) fun f=>?_
 ·
  refine bO ?_;refine WP .r (PV.fa u5 rfl)<|(a7) fy j.range<|(AF) ?_;exact⟨by unfold i6;rw [if_neg (by simp [g9]),if_pos f,f],z⟩
 refine(AF) ?_;exact⟨by unfold i6;rw [if_neg (by simp [g9]),if_neg (by simp [f]),f],z⟩
theorem vq(hi:Rd RR.aD 4 Z w a1 n1 e1 x.ab) (hr:Rd RR.ei 8 Z w a2 n2 e2 x.ah) {k:Key}{v:ByteArray}{reads:List Key}{a:Option Addr}{n e:Nat}(hk:Rd RR.key 2 Z w a n e reads):Calls prog 183 #[.agg (x.row a1 n1 e1 a2 n2 e2).toArray,k.val,.string v,.slice a n e] w fun en w'=>en=.returned (.agg ((bs x k v reads).row a n e).toArray)∧aT [] w w':=by
 have hlen:=SR.len hk;have hle:=SR.le hk;refine enter func183 rfl ntmps183 rfl<|?_;have c0:aT [] w w:=aT.refl _ _;refine bO ?_;refine WL.go rfl (OX.box rfl rfl rfl fun b4 w1 Q b=>?_);have s1:=Q.ext;have vg:=Q.iI c0;have c1:=c0.trans s1;refine WL.go rfl (OX.box rfl rfl rfl fun b5 w2 G d=>?_);have s2:=G.ext;have aek:=G.iI c1;have Fs:b4≠b5:=G.ne b.lt;have SB:b5≠b4:=Ne.symm Fs;have c2:=c1.trans s2;have b:=b.ext s2;refine WL.go rfl (OX.alloc nL rfl fun m w3 D f=>?_);have H:=D.ext;have R:=D.iI c2;have I:b4≠m:=D.ne b.lt;have Fl:m≠b4:=Ne.symm I;have J:b5≠m:=D.ne d.lt;have SC:m≠b5:=Ne.symm J;have c3:=c2.trans H;have b:=b.ext H;have d:=d.ext H;refine(aZ) ao d.range<|bO ?_;refine WP .r (PV.fa kY rfl)<|(a7) aP b.range<|?_;refine WP .r (PV.fa kY rfl)<|(a7) aP b.range<|nx ?_;refine WP .r (PV.ie eA rfl)<|nx ?_;refine WP .r (PV.bB (us:=(Rec.mk k v reads x.ad x.ad (1+(n:Int)) false).row a n e) Nj rfl rfl rfl)<|?_;refine WL.go rfl (OX.alloc nL rfl fun o w4 s h=>?_);have E:=s.ext;have S:=s.iI c3;have K:b4≠o:=s.ne b.lt;have SE:o≠b4:=Ne.symm K;have L:b5≠o:=s.ne d.lt;have SF:o≠b5:=Ne.symm L;have N:m≠o:=s.ne f.lt;have T:o≠m:=Ne.symm N;have c4:=c3.trans E;have b:=b.ext E;have d:=d.ext E;have f:=f.ext E;refine WL.go rfl (OX.mr fY h rfl rfl rfl rfl rfl fun w5 F _ h=>?_);have c5:=c4.own F S;have b:=b.bX F (by simp [K]);have d:=d.bX F (by simp [L]);have f:=f.bX F (by simp [N]);refine dd ?_;refine WP .r (PV.fa rQ rfl)<|(a7) dD b.range<|(aZ) ao d.range<|(bY) kN (ee (k:=k) (hr.ext c5)) ?_;rintro _ w6 ⟨f1,f2,f3,rfl,u⟩;have U:=c5.trans u;have b:=b.ext u;have d:=d.ext u;have f:=f.ext u;have h:=h.ext u;refine cq ?_;refine WL.go rfl (OX.alloc nL rfl fun p w7 q j=>?_);have y:=q.ext;have zx:=q.iI U;have V:b4≠p:=q.ne b.lt;have Cm:p≠b4:=Ne.symm V;have W:b5≠p:=q.ne d.lt;have Pz:p≠b5:=Ne.symm W;have X:m≠p:=q.ne f.lt;have Y:p≠m:=Ne.symm X;have sU:o≠p:=q.ne h.lt;have Ct:p≠o:=Ne.symm sU;have c7:=U.trans y;have b:=b.ext y;have d:=d.ext y;have f:=f.ext y;have h:=h.ext y;refine WL.go rfl (OX.mr fY j rfl rfl rfl rfl rfl fun w8 z _ j=>?_);have c8:=c7.own z zx;have b:=b.bX z (by simp [V]);have d:=d.bX z (by simp [W]);have f:=f.bX z (by simp [X]);have h:=h.bX z (by simp [sU]);refine cy ?_;refine WC.ke (t:=36) (v:=.bool ((aA x.ah k).isSome && decide ((aC x.ah k).value=v))) (fun wx=>w8=wx) ?_ ?_
 ·
  refine(db) (fun O=>?_) (fun O=>?_)
  ·
   refine WP .r (PV.fa u5 rfl)<|(a7) fy j.range<|?_;exact(cA) (by simp only [O];first | rfl | simp) rfl
  exact(cA) (by simp only [O];first | rfl | simp) rfl
 rintro _ rfl;refine(aS) (fun P=>?_) fun P=>?_
 ·
  have hm:bs x k v reads=⟨k,v,reads,(aC x.ah k).changed,x.ad,1+(reads.length:Int),false⟩:=by unfold bs;rw [if_pos P]
  refine nx ?_;refine WP .r (PV.fa u6 rfl)<|(a7) aP j.range<|?_;refine WP .r (PV.fa u6 rfl)<|?_;refine WL.go rfl (OX.st GS h rfl rfl (by first | (simp [nth];done) | exact Vr rfl) rfl rfl fun w9 i _ h=>?_);have c9:=c8.own i S;have b:=b.bX i (by simp [K]);have d:=d.bX i (by simp [L]);have f:=f.bX i (by simp [N]);have j:=j.bX i (by simp [Ct]);refine(aZ) cV h.range<|?_;refine WL.go rfl (OX.mr fY f rfl rfl rfl rfl rfl fun iT C _ f=>?_);have c10:=c9.own C R;have b:=b.bX C (by simp [I]);have d:=d.bX C (by simp [J]);have h:=h.bX C (by simp [T]);have j:=j.bX C (by simp [Y]);refine(kT) cV f.range<|?_;exact⟨by rw [hm,← hlen] <;> rfl,c10⟩
 have hm:bs x k v reads=⟨k,v,reads,x.ad,x.ad,1+(reads.length:Int),false⟩:=by unfold bs;rw [if_neg (by simp [P])]
 refine(aZ) cV h.range<|?_;refine WL.go rfl (OX.mr fY f rfl rfl rfl rfl rfl fun w9 i _ f=>?_);have c9:=c8.own i R;have b:=b.bX i (by simp [I]);have d:=d.bX i (by simp [J]);have h:=h.bX i (by simp [T]);have j:=j.bX i (by simp [Y]);refine(kT) cV f.range<|?_;exact⟨by rw [hm,← hlen] <;> rfl,c9⟩
theorem lh{goals:List Key}{ar:Option Addr}(hu:fP A w ar r c aa) (hi:Rd RR.aD 4 Z w a1 n1 e1 x.ab) (hr:Rd RR.ei 8 Z w a2 n2 e2 x.ah) (m:yv B w ag g eg goals):CR prog 81 #[.slice ar r c,.agg (x.row a1 n1 e1 a2 n2 e2).toArray,.slice ag g eg] w (.int .i64 (gJ aa x goals)):=by
 have hlen:=SR.len m;have hle:=SR.le m;refine enter func81 rfl ntmps81 rfl<|?_;have c0:aT [] w w:=aT.refl _ _;refine bO ?_;refine WL.go rfl (OX.box rfl rfl rfl fun b4 w1 s d=>?_);have s1:=s.ext;have R:=s.iI c0;have c1:=c0.trans s1;refine(bY) Xk (Cn (hu.ext c1)) ?_;rintro _ w2 ⟨bv,rfl,u,s2⟩;have c2:=c1.trans s2;have d:=d.ext s2;refine(aS) (fun g9=>?_) fun g9=>?_
 ·
  simp at g9
  have b:gJ aa x goals=41:=by unfold gJ;rw [if_pos (by rw [← u];simp [g9])]
  refine(bz) ?_;exact⟨by rw [b],c2⟩
 simp at g9
 have o:=u.1 g9;refine(aZ) aO d.range<|(bY) Se (mb (hi.ext c2) (hr.ext c2)) ?_;rintro _ w3 ⟨S,rfl,v,z⟩;have c3:=c2.trans z;have d:=d.ext z;refine(aS) (fun g13=>?_) fun g13=>?_
 ·
  simp at g13
  have b:gJ aa x goals=42:=by unfold gJ;rw [if_neg (by simpa using o),if_pos (by rw [← v];simp [g13])]
  refine(bz) ?_;exact⟨by rw [b],c3⟩
 simp at g13
 have C:=v.1 g13;refine cq ?_;refine WP .r (PV.ie eA rfl)<|(aS) (fun g17=>?_) fun g17=>?_
 ·
  simp at g17
  have b:gJ aa x goals=3:=by unfold gJ;rw [if_neg (by simpa using o),if_neg (by simpa using C),if_pos (by omega)]
  refine(bz) ?_;exact⟨by rw [b],c3⟩
 simp at g17
 have b:gJ aa x goals=if goals.all (iN aa) then 0 else 40:=by unfold gJ;rw [if_neg (by simpa using o),if_neg (by simpa using C),if_neg (by omega)]
 refine ez ?_;refine WP .r (PV.ie eA rfl)<|cy ?_;refine WC.loop (σ:=Nat) (dn:=fun i=>[(0,.slice ar r c),(21,.slice ag g eg),(22,.int .i64 (g:Int)),(23,.int .i64 (i:Int))]) (I:=fun i w'=>aT [] w w'∧i≤g∧∀j y,j<i→goals[j]?=some y→iN aa y=true) (μ:=fun i=>g - i) 0 Sub.t ⟨c3,by omega,fun j y h=>by omega⟩ ?_;rintro i w4 ⟨c4,eK,D⟩;refine(aS) (fun g24=>?_) fun g24=>?_
 ·
  simp at g24
  have p:i<goals.length:=by omega
  obtain⟨T,U,V,J,_,K,q,_⟩:=SR.at m (ak p);subst K;refine dd ?_;have q:=aW q c4 (by simp);refine nx ?_;refine WP .r (PV.dU eA J rfl rfl (by omega))<|(aZ) ao q<|?_;refine WL.go rfl (OX.alloc E7 rfl fun W w5 E e=>?_);have L:=E.ext;have N:=E.iI c4;have c5:=c4.trans L;refine WL.go rfl (OX.mr hP e rfl rfl rfl rfl rfl fun w6 O _ e=>?_);have F:=c5.own O N;refine(aZ) ao e.range<|(bY) Xl (Cs (k:=goals[i]) (hu.ext F)) ?_;rintro _ w7 ⟨rfl,G⟩;have H:=F.trans G;have e:=e.ext G;refine(aS) (fun f=>?_) fun f=>?_
  ·
   simp at f
   have b:gJ aa x goals=40:=by rw [b,if_neg];rw [List.all_eq_true];intro h;have:=h _ (List.getElem_mem p);rw [f] at this;cases this
   refine(bz) ?_;exact⟨by rw [b],H⟩
  simp at f
  refine ez ?_;refine EX.again (i+1) (Sub.k2 rfl rfl<|Sub.cons rfl<|Sub.i1 rfl (by simp)<|Sub.nil) ⟨H,by omega,cG (P:=fun _ y=>iN aa y=true) p D f⟩ (by omega)
 simp at g24
 have b:gJ aa x goals=0:=by rw [b,if_pos];rw [List.all_eq_true];intro y hy;obtain⟨j,Q,rfl⟩:=List.mem_iff_getElem.1 hy;exact D j _ (by omega) (ak Q)
 refine(bz) ?_;exact⟨by rw [b],c4⟩
theorem qy{group:List Key}(gF:St w M Z w []) (hl:Rd RR.ei 8 Z w a n c l) (D:Rd RR.key 2 Z w ag g eg group) (hb:∀i,(((group.take i).flatMap fun m=>cT group m (aC l m).reads)).length≤100000000):Calls prog 178 #[.slice a n c,.slice ag g eg] w fun e w'=>∃O P Q Z',e=.returned (.slice O P Q)∧bK w.heap.size Z Z'∧St w M Z' w' [As.os RR.Bu 160 4 O P Q (bR l group)]:=by
 have hlen:=D.len;have hle:=D.le;refine enter func178 rfl ntmps178 rfl<|?_;have aQ:=gF;have st1:=aQ.fr hl;have st2:=st1.fr D;have iW:=st2.dp RR.Bu 160 4;refine aY ?_;refine ez ?_;refine WC.gY (σ:=Nat × (Nat→Prop) × (List oa) × (Option Addr) × Nat × Nat) (dn:=fun(i,o,acc,d,b,f)=>[(0,.slice a n c),(1,.slice ag g eg),(5,.slice d b f),(12,.slice ag g eg),(13,.int .i64 (g:Int)),(14,.int .i64 (i:Int))]) (F:=fun(i,o,acc,d,b,f)=>[As.os RR.Bu 160 4 d b f (acc)]) (I:=fun(i,o,acc,d,b,f)=>(i≤g)∧(bK w.heap.size Z o)∧(acc=(group.take i).flatMap fun m=>cT group m (aC l m).reads)∧True) (μ:=fun(i,o,acc,d,b,f)=>g - i) (Zf:=fun(i,o,acc,d,b,f)=>o) (0,Z,[],none,0,0) (iW) Sub.t (⟨by omega,bK.refl _ _,by simp,trivial⟩)<|?_;rintro⟨i,o,acc,d,b,f⟩ w1 y ⟨hi,E,p,_⟩;simp only [CA,NA] at y hi E p ⊢;refine(aS) (fun g15=>?_) fun g15=>?_
 ·
  simp at g15
  have R:i<group.length:=by omega
  refine dd ?_;obtain⟨gT,k8,kz,cW,gU,G,eH,eV⟩:=Rd.at (As.gr y.g1) R;have G:=RR.bd G;subst G;have S:=y.fg eV eH;refine nx ?_;refine WP .r (PV.dU eA cW rfl rfl (by omega))<|(aZ) ao (As.lF S.g0)<|(eZ) S fun b7 w2 Px Py hY=>?_;refine(cJ) hP hY fun w3 jU j3 T=>?_;refine(aZ) ao T.b0<|?_;have z:=T;refine(bY) kN (jF (k:=group[i]) z.e0 (As.gr z.g4)) ?_;rintro _ w4 ⟨f1,f2,f3,rfl,IL,U⟩;have iH:=St.lr z U;have ID:=St.bP U;have hsz:=z.size;have V:=iH.ba (by omega);have mC:=E.trans (bK.dA (F:=fun x=>x∈aJ f1) ID) hsz;have Yg:=((As.gr V.g0)).len;refine(eZ) V fun b8 w5 LK X9 dh=>?_;refine(cJ) fY dh fun w6 qU mu W=>?_;refine(a7) dE W.b0<|dd ?_;refine WC.br (σ:=Nat × (List oa) × (Option Addr) × Nat × Nat) (dn:=fun(j,h,d,b,f)=>[(0,.slice a n c),(1,.slice ag g eg),(5,.slice d b f),(7,.pointer (some ⟨b7,0,none⟩)),(12,.slice ag g eg),(13,.int .i64 (g:Int)),(14,.int .i64 (i:Int)),(25,.slice f1 f2 f3),(26,.int .i64 (f2:Int)),(27,.int .i64 (j:Int))]) (F:=fun(j,h,d,b,f)=>[As.os RR.Bu 160 4 d b f (h)]) (I:=fun(j,h,d,b,f)=>(j≤f2)∧(h=acc++cT group group[i] ((aC l group[i]).reads.take j))∧True) (μ:=fun(j,h,d,b,f)=>f2 - j) (0,acc,d,b,f) (W.p4) Sub.t (⟨by omega,by simp [cT],trivial⟩)<|?_;rintro⟨j,h,d,b,f⟩ w7 q ⟨hj,s,_⟩;simp only [CA,NA] at q hj s ⊢;have qT:=((As.gs q.g0)).len;have IM:=hb i;rw [← p] at IM;have KH:=jX group group[i] ((aC l group[i]).reads.take j)
  have htl:h.length≤100100000:=by rw [s,List.length_append];rw [List.length_take] at KH;omega
  refine(aS) (fun H=>?_) fun H=>?_
  ·
   simp at H
   have J:j<(aC l group[i]).reads.length:=by omega
   refine dd ?_;obtain⟨tw,H7,Ft,kP,vt,K,mD,nM⟩:=Rd.at (As.gr q.g2) J;have K:=RR.bd K;subst K;have X:=q.fg nM mD;refine nx ?_;refine WP .r (PV.dU eA kP rfl rfl (by omega))<|(aZ) ao (As.lF X.g0)<|(eZ) X fun b11 w8 ael aem dI=>?_;refine(cJ) hP dI fun w9 zy tK L=>?_;refine(aZ) ao L.b0<|(eP) (rU (k:=(aC l group[i]).reads[j]) (As.gr L.g7)) L fun iT s10 C=>?_;refine(aS) (fun u=>?_) fun u=>?_
   ·
    simp at u
    have v:=jq (group:=group) (m:=group[i]) J;rw [if_neg u] at v;refine(aZ) ao C.b5<|(aZ) ao C.b0<|?_;refine WP .r (PV.bB (us:=(oa.mk group[i] (aC l group[i]).reads[j]).cells) O1 rfl rfl rfl)<|?_;refine WL.go rfl (OX.aR (us:=(oa.mk group[i] (aC l group[i]).reads[j]).cells) GO rfl rfl rfl rfl fun b39 iY aen aeo=>?_);have Y:=C.da aen aeo;refine WL.ap rfl rfl Y.p3 (SR.dc (A:=fun _=>True) (x:=oa.mk group[i] (aC l group[i]).reads[j]) (As.gb Y.g0) trivial rfl (by simp [oa.cells,Value.oneCell']) rfl) fun a40 aep lx anv anw dR=>?_;refine gV ?_;refine eB (j+1,_,a40,(b+1),aep) ⟨dR.p1.drop.p1.drop.p1.drop,⟨by omega,by rw [v,s,List.append_assoc],trivial⟩⟩
   simp at u
   have v:=jq (group:=group) (m:=group[i]) J;rw [if_pos u] at v;refine ez ?_;refine eB (j+1,_,d,b,f) ⟨C.drop.drop,⟨by omega,by rw [v,s],trivial⟩⟩
  simp at H
  have N:(aC l group[i]).reads.take j=(aC l group[i]).reads:=List.take_of_length_le (by omega);refine jM ?_;refine eB (i+1,_,h,d,b,f) ⟨q.p6.p6.p2.k3,⟨by omega,mC,by rw [s,N,p,List.take_succ_eq_append_getElem R];simp only [List.flatMap_append,List.flatMap_cons,List.flatMap_nil,List.append_nil],trivial⟩⟩
 simp at g15
 have N:group.take i=group:=List.take_of_length_le (by omega);rw [N] at p;subst p;refine(bz) ?_;exact⟨_,_,_,_,rfl,E,y.p1.drop.p1.drop⟩
set_option maxHeartbeats 400000
theorem vu{l:List bp}(hl:Rd RR.mJ 6 Z w a r c l):CR prog 180 #[.slice a r c,k.val] w (.bool (gj l k)):=by
 have hle:=SR.le hl;have hlen:=SR.len hl;refine enter func180 rfl ntmps180 rfl<|?_;have c0:aT [] w w:=aT.refl _ _;refine bO ?_;refine WL.go rfl (OX.box rfl rfl rfl fun b3 w1 s b=>?_);have s1:=s.ext;have H:=s.iI c0;have c1:=c0.trans s1;refine ez ?_;refine WP .r (PV.ie mN rfl)<|cy ?_;refine WC.loop (σ:=Nat) (dn:=fun i=>[(3,.pointer (some ⟨b3,0,none⟩)),(7,.slice a r c),(8,.int .i64 (r:Int)),(9,.int .i64 (i:Int))]) (I:=fun i w'=>aT [] w w'∧bU w' b3 40 [.int .i64 k.kind,.string k.text]∧i≤r∧∀j y,j<i→l[j]?=some y→decide (bp.key y=k)=false) (μ:=fun i=>r - i) 0 Sub.t ⟨c1,b,by omega,fun j y h=>by omega⟩ ?_;rintro i w2 ⟨c2,b,hi,u⟩;refine(aS) (fun g10=>?_) fun g10=>?_
 ·
  simp at g10
  have d:i<l.length:=by omega
  refine dd ?_;obtain⟨J,K,L,E,_,⟨q1,N,O,Q,R,S,rfl,_⟩,e,_⟩:=SR.at hl (ak d);have e:=aW e c2 (by simp);refine nx ?_;refine WP .r (PV.dU mN E rfl rfl (by omega))<|(aZ) nH e<|?_;refine WL.go rfl (OX.alloc O8 rfl fun v w3 f m=>?_);have z:=f.ext;have F:=f.iI c2;have C:b3≠v:=f.ne b.lt;have T:v≠b3:=Ne.symm C;have c3:=c2.trans z;have b:=b.ext z;refine WL.go rfl (OX.mr GU m rfl rfl rfl rfl rfl fun w4 D _ m=>?_);have c4:=c3.own D F;have b:=b.bX D (by simp [C]);refine cy ?_;refine WP .r (PV.fa GV rfl)<|(hW) ao m.range<|(aZ) ao b.range<|?_;refine WP .r (PV.DX fI (p:=l[i].key) (q:=k) rfl rfl)<|(aS) (fun g16=>?_) fun g16=>?_
  ·
   have o:gj l k=true:=List.any_eq_true.2 ⟨_,List.getElem_mem d,g16⟩;refine(bz) ?_;exact⟨by rw [o],c4⟩
  skip
  refine ez ?_;refine EX.again (i+1) (Sub.k2 rfl rfl<|Sub.cons rfl<|Sub.i1 rfl (by simp)<|Sub.nil) ⟨c4,b,by omega,cG (P:=fun _ (y:bp)=>decide (y.key=k)=false) d u g16⟩ (by omega)
 simp at g10
 have o:gj l k=false:=List.any_eq_false.2 fun y hy=>by obtain⟨j,G,rfl⟩:=List.mem_iff_getElem.1 hy;simpa using u j _ (by omega) (ak G)
 refine(bz) ?_;exact⟨by rw [o],c2⟩
theorem qz(hi:Rd RR.aD 4 Z w a1 n1 e1 x.ab) (hr:Rd RR.ei 8 Z w a2 n2 e2 x.ah) {l:List bp}{k:Key}{a:Option Addr}{n c:Nat}(hl:Rd RR.mJ 6 Z w a n c l):CR prog 130 #[.agg (x.row a1 n1 e1 a2 n2 e2).toArray,.slice a n c,k.val] w (.bool (cN x l k)):=by
 refine enter func130 rfl ntmps130 rfl<|?_;have c0:aT [] w w:=aT.refl _ _;refine bO ?_;refine WL.go rfl (OX.box rfl rfl rfl fun b3 w1 u b=>?_);have s1:=u.ext;have G:=u.iI c0;have c1:=c0.trans s1;refine WL.go rfl (OX.box rfl rfl rfl fun b5 w2 m d=>?_);have s2:=m.ext;have H:=m.iI c1;have C:b3≠b5:=m.ne b.lt;have I:b5≠b3:=Ne.symm C;have c2:=c1.trans s2;have b:=b.ext s2;refine dd ?_;refine WC.ke (t:=15) (v:=.bool (aw k || gj l k)) (aT [] w2) ?_<|?_
 ·
  refine(aZ) ao d.range<|(bY) HV (ew (k:=k)) ?_;rintro _ w3 ⟨rfl,e⟩;have c3:=c2.trans e;have b:=b.ext e;have d:=d.ext e;refine(db) (fun g11=>?_) (fun g11=>?_)
  ·
   exact(cA) (by simp only [g11];first | rfl | simp) e
  refine(aZ) ao d.range<|(bY) Ky (vu (k:=k) (hl.ext c3)) ?_;rintro _ w4 ⟨rfl,f⟩;have c4:=c3.trans f;have b:=b.ext f;have d:=d.ext f;exact(cA) (by simp only [g11];first | rfl | simp) (e.trans f)
 intro w3 e;have c3:=c2.trans e;have b:=b.ext e;have d:=d.ext e;refine(aS) (fun g15=>?_) fun g15=>?_
 ·
  have h:cN x l k=false:=by unfold cN;rw [g15];rfl
  refine(bz) ?_;exact⟨by rw [h],c3⟩
 have h:cN x l k=(!(aA x.ah k).isSome || decide ((aC x.ah k).av≠x.ad)):=by unfold cN;rw [g15];rfl
 refine cy ?_;refine WP .r (PV.fa rQ rfl)<|(a7) dD b.range<|(aZ) ao d.range<|(bY) kN (ee (k:=k) (hr.ext c3)) ?_;rintro _ w4 ⟨f1,f2,f3,rfl,f⟩;have c4:=c3.trans f;have b:=b.ext f;have d:=d.ext f;refine cq ?_;refine WL.go rfl (OX.alloc nL rfl fun i w5 j o=>?_);have p:=j.ext;have D:=j.iI c4;have y:b3≠i:=j.ne b.lt;have J:i≠b3:=Ne.symm y;have z:b5≠i:=j.ne d.lt;have K:i≠b5:=Ne.symm z;have c5:=c4.trans p;have b:=b.ext p;have d:=d.ext p;refine WL.go rfl (OX.mr fY o rfl rfl rfl rfl rfl fun w6 q _ o=>?_);have E:=c5.own q D;have b:=b.bX q (by simp [y]);have d:=d.bX q (by simp [z]);refine cy ?_;refine WC.lA (t:=6) (v:=.bool (cN x l k)) (fun F=>w6=F) ?_ ?_
 ·
  refine(db) (fun s=>?_) (fun s=>?_)
  ·
   exact(gH) (by rw [h];simp only [s];first | rfl | simp) rfl
  refine WP .r (PV.fa pB rfl)<|(a7) aP o.range<|?_;refine WP .r (PV.fa kY rfl)<|(a7) aP b.range<|?_;exact(gH) (by rw [h];simp only [s];first | rfl | simp) rfl
 rintro _ rfl;refine(bz) ?_;exact⟨rfl,E⟩
theorem vw(hi:Rd RR.aD 4 Z w a1 n1 e1 x.ab) (hr:Rd RR.ei 8 Z w a2 n2 e2 x.ah) {l others:List bp}{k:Key}{a a3:Option Addr}{n c n3 e3:Nat}(hl:Rd RR.mJ 6 Z w a n c l) (s:Rd RR.mJ 6 Z w a3 n3 e3 others):CR prog 184 #[.agg (x.row a1 n1 e1 a2 n2 e2).toArray,.slice a n c,.slice a3 n3 e3,k.val] w (.int .i64 (bJ x l others k)):=by
 refine enter func184 rfl ntmps184 rfl<|?_;have c0:aT [] w w:=aT.refl _ _;refine bO ?_;refine WL.go rfl (OX.box rfl rfl rfl fun b4 w1 o d=>?_);have s1:=o.ext;have y:=o.iI c0;have c1:=c0.trans s1;refine WL.go rfl (OX.box rfl rfl rfl fun p w2 h b=>?_);have s2:=h.ext;have z:=h.iI c1;have u:b4≠p:=h.ne d.lt;have C:p≠b4:=Ne.symm u;have c2:=c1.trans s2;have d:=d.ext s2;refine fL ?_;refine WC.ke (t:=9) (v:=.bool (!az k && gj l k)) (aT [] w2) ?_<|?_
 ·
  refine(aZ) ao b.range<|(bY) HW (de (k:=k)) ?_;rintro _ w3 ⟨rfl,e⟩;have c3:=c2.trans e;have d:=d.ext e;have b:=b.ext e;refine(db) (fun g13=>?_) (fun g13=>?_)
  ·
   refine(aZ) ao b.range<|(bY) Ky (vu (k:=k) (hl.ext c3)) ?_;rintro _ w4 ⟨rfl,f⟩;have c4:=c3.trans f;have d:=d.ext f;have b:=b.ext f;exact(cA) (by simp only [g13];first | rfl | simp) (e.trans f)
  exact(cA) (by simp only [g13];first | rfl | simp) e
 intro w3 e;have c3:=c2.trans e;have d:=d.ext e;have b:=b.ext e;refine(aS) (fun g9=>?_) fun g9=>?_
 ·
  skip
  refine(bz) ?_;exact⟨by unfold bJ;rw [if_pos g9],c3⟩
 have g9:¬((!az k && gj l k)=true):=by simp [g9]
 refine(aZ) aO d.range<|(aZ) ao b.range<|(bY) Pd (qz (k:=k) (hi.ext c3) (hr.ext c3) (hl.ext c3)) ?_;rintro _ w4 ⟨rfl,f⟩;have c4:=c3.trans f;have d:=d.ext f;have b:=b.ext f;refine(aS) (fun g18=>?_) fun g18=>?_
 ·
  skip
  refine(bz) ?_;exact⟨by unfold bJ;rw [if_neg g9,if_pos g18],c4⟩
 have g18:¬((!cN x l k)=true):=by simp [g18]
 refine(aZ) ao b.range<|(bY) Ky (vu (k:=k) (s.ext c4)) ?_;rintro _ w5 ⟨rfl,i⟩;have c5:=c4.trans i;have d:=d.ext i;have b:=b.ext i;refine(aS) (fun g24=>?_) fun g24=>?_
 ·
  skip
  refine(bz) ?_;exact⟨by unfold bJ;rw [if_neg g9,if_neg g18,if_pos g24],c5⟩
 have g24:¬((!gj others k)=true):=by simp [g24]
 refine(aZ) ao b.range<|(bY) HW (de (k:=k)) ?_;rintro _ w6 ⟨rfl,j⟩;have q:=c5.trans j;have d:=d.ext j;have b:=b.ext j;refine(aS) (fun m=>?_) fun m=>?_
 ·
  skip
  refine(bz) ?_;exact⟨by unfold bJ;rw [if_neg g9,if_neg g18,if_neg g24,if_pos m],q⟩
 refine(bz) ?_;exact⟨by unfold bJ;rw [if_neg g9,if_neg g18,if_neg g24,if_neg (by simp [m])],q⟩
theorem tx{l:List aH}(H:St w M Z w []) (hl:Rd RR.fb 4 Z w a n c l) (h6:l.length≤1000000) (J:∀x∈l,x.asks.length≤1000):Calls prog 127 #[.slice a n c] w fun e w'=>∃v y z Z',e=.returned (.slice v y z)∧bK w.heap.size Z Z'∧St w M Z' w' [As.os RR.fb 84 4 v y z l]:=by
 have hlen:=hl.len;have hle:=hl.le;refine enter func127 rfl ntmps127 rfl<|?_;have aQ:=H;have st1:=aQ.fr hl;have st2:=st1.dp RR.fb 84 4;refine aY ?_;refine ez ?_;refine WC.gY (σ:=Nat × (Nat→Prop) × (List aH) × (Option Addr) × Nat × Nat) (dn:=fun(i,d,acc,f,b,j)=>[(3,.slice f b j),(6,.slice a n c),(7,.int .i64 (n:Int)),(8,.int .i64 (i:Int))]) (F:=fun(i,d,acc,f,b,j)=>[As.os RR.fb 84 4 f b j (acc)]) (I:=fun(i,d,acc,f,b,j)=>(i≤n)∧(bK w.heap.size Z d)∧(acc=l.take i)∧True) (μ:=fun(i,d,acc,f,b,j)=>n - i) (Zf:=fun(i,d,acc,f,b,j)=>d) (0,Z,[],none,0,0) (st2) Sub.t (⟨by omega,bK.refl _ _,by simp,trivial⟩)<|?_;rintro⟨i,d,acc,f,b,j⟩ w1 m ⟨hi,q,o,_⟩;simp only [CA,NA] at m hi q o ⊢;have qT:=((As.gs m.g0)).len
 have KH:acc.length≤1000000:=by rw [o,List.length_take];omega
 refine(aS) (fun g9=>?_) fun g9=>?_
 ·
  simp at g9
  have s:i<l.length:=by omega
  refine dd ?_;obtain⟨gT,k8,kz,K,gU,L,N,O⟩:=Rd.at (As.gr m.g1) s;obtain⟨q1,P,Q,rfl,R⟩:=L;have S:=m.fg O N;have C:Rd RR.ask 4 _ _ q1 P Q l[i].asks:=R;have T:=S.fr (C);have DJ:=J _ (List.getElem_mem s);have Yg:=SR.len C;have D:=T.dp RR.ask 81 4;refine nx ?_;refine WP .r (PV.dU jk K rfl rfl (by omega))<|(aZ) sM (As.lF D.g2)<|(eZ) D fun b5 w2 H4 H5 U=>?_;refine(cJ) E4 U fun w3 jU j3 p=>?_;refine(a7) kx p.b0<|?_;have hsz:=p.size;refine WL.ap rfl rfl p.p1 ((As.gr p.g2)) fun E aeq w4 V Yh W=>?_;refine nx ?_;refine WL.s1 W.p1 fun w5 _ X=>?_;refine bO ?_;have G:=X.p1.ba (by simp;omega)
  have Y:∀x∈aJ E,w.heap.size≤x:=fun x hx=>by rcases V x hx with h | h;simp [aJ] at h;omega
  have mC:=q.trans (bK.dA (F:=fun x=>x∈aJ E) Y) (Nat.le_refl _);refine(aZ) sM G.b1<|?_;refine WL.go rfl (OX.aR (us:=l[i].row _ _ _) Km rfl rfl rfl rfl fun b18 w6 aer aes=>?_);have u:=G.da aer aes;refine WL.ap rfl rfl u.p5 (SR.dc (A:=fun _=>True) (x:=l[i]) (As.gb u.g0) trivial rfl (aH.one _ _ _ _) ⟨_,_,_,rfl,(As.gr u.g1)⟩) fun a19 aet w7 anz anA dj=>?_;refine gV ?_;refine eB (i+1,_,acc++[l[i]],a19,(b+1),aet) ⟨dj.p6.p1.k2,⟨by omega,mC,by rw [o,List.take_succ_eq_append_getElem s],trivial⟩⟩
 simp at g9
 have hK:acc=l:=by rw [o];exact List.take_of_length_le (by omega)
 subst hK;refine(bz) ?_;exact⟨_,_,_,_,rfl,q,m.p1.drop⟩
end Go.Rc

