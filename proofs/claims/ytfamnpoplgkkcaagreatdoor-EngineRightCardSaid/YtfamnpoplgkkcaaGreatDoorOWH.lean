/- Walks over the program, part WH. Conditions: as each theorem says. -/
import Derived.Test.YtfamnpoplgkkcaaGreatDoorOFacts
import Derived.Test.YtfamnpoplgkkcaaGreatDoorOWB
import Derived.Test.YtfamnpoplgkkcaaGreatDoorOWD
import Derived.Test.YtfamnpoplgkkcaaGreatDoorOWF
import Derived.Test.YtfamnpoplgkkcaaGreatDoorOBe
set_option linter.all false
namespace Go.Rc
open Go Go.Proofs Go.Proofs.Tryz
variable {n r c e2 n1 e1 n2 g eg:Nat}{w:World}{k:Key}{aa:List aG}{A B Z M:Nat→Prop}{a a2 a1 ag:Option Addr}{l:List Rec}{x:cy}
set_option maxHeartbeats 400000
theorem wF{n:Int} :CR prog 183 #[.int .i64 n] w (.string (tL n)):=by
 refine enter func183 rfl ntmps183 rfl<|?_;have c0:aS [] w w:=aS.refl _ _;refine(aR) (fun g4=>?_) fun g4=>?_
 ·
  simp at g4
  refine(bs) ?_;exact⟨by unfold tL;rw [if_pos g4],c0⟩
 simp at g4
 refine(bs) ?_;exact⟨by unfold tL;rw [if_neg g4],c0⟩
theorem qy :CR prog 135 #[k.val] w (.string (oW k)):=by
 refine enter func135 rfl ntmps135 rfl<|?_;have c0:aS [] w w:=aS.refl _ _;refine bK ?_;refine WL.go rfl (OX.box rfl rfl rfl fun b1 w1 d b=>?_);have s1:=d.ext;have f:=d.iF c0;have c1:=c0.trans s1;refine ed ?_;refine WP .r (PV.fa dD rfl)<|(aZ) aN b.range<|(aR) (fun g3=>?_) fun g3=>?_
 ·
  simp at g3
  refine(bs) ?_;exact⟨by unfold oW;rw [if_pos g3],c1⟩
 simp at g3
 refine(aY) ao b.range<|(bX) HF (df (k:=k)) ?_;rintro _ w2 ⟨rfl,s2⟩;have c2:=c1.trans s2;have b:=b.ext s2;refine(aR) (fun g7=>?_) fun g7=>?_
 ·
  refine bK ?_;refine WP .r (PV.fa dD rfl)<|(aZ) aN b.range<|(bX) XB (wF (n:=k.kind)) ?_;rintro _ w3 ⟨rfl,e⟩;have c3:=c2.trans e;have b:=b.ext e;refine(bs) ?_;exact⟨by unfold oW;rw [if_neg g3,if_pos g7],c3⟩
 refine(bs) ?_;exact⟨by unfold oW;rw [if_neg g3,if_neg (by simp [g7])],c2⟩
theorem sV(hr:fK A w a r c aa):CR prog 88 #[.slice a r c,k.val] w (.bool (gM aa k)):=by
 refine enter func88 rfl ntmps88 rfl<|?_;have c0:aS [] w w:=aS.refl _ _;refine bK ?_;refine WL.go rfl (OX.box rfl rfl rfl fun b3 w1 s d=>?_);have s1:=s.ext;have u:=s.iF c0;have c1:=c0.trans s1;refine cj ?_;refine WC.lA (t:=4) (v:=.bool (gM aa k)) (aS [] w1) ?_<|?_
 ·
  refine WC.drawn (m:=17) (C:=aS [] w1) (T:=fun _=>aS []) (E:=cA [(1,fun v _=>v=.bool (fN k)),(14,fun v _=>v=.int .i64 (number k)),(15,fun v _=>v=(aM aa (number k)).val)]) (bj (⟨fun _ _ _ _ _ _ _ h=>h,⟨fun _ _ _ _ _ _ _ h=>h,⟨fun _ _ _ _ _ _ _ h=>h,trivial⟩⟩⟩)) mixed (by kernel_rfl) (aS.drew _ _)<|?_;refine DP .r (fun _ b=>PV.GR ao (d.ext b).range rfl rfl)<|?_;refine DW.e rfl rfl rfl rfl rfl (fun i b j=>OX.call Kg rfl rfl ((iM (k:=k)).mono ?_))<|?_
  ·
   rintro _ wy ⟨rfl,f⟩;exact⟨_,rfl,b.trans f,f,_,rfl,rfl⟩
  rintro _ o _ rfl;refine(ob) (fun g7=>?_) (fun g7=>?_)
  ·
   refine DP .r (fun _ b=>PV.fa dD rfl)<|DP .r (fun _ b=>PV.ld1 aN (d.ext b).range rfl rfl)<|(ob) (fun g11=>?_) (fun g11=>?_)
   ·
    refine DP .r (fun _ b=>PV.fa dD rfl)<|DP .r (fun _ b=>PV.ld1 aN (d.ext b).range rfl rfl)<|(ob) (fun g16=>?_) (fun g16=>?_)
    ·
     refine(cP) ?_;rintro w2 s2 _;have c2:=c1.trans s2;have d:=d.ext s2;exact(gz) (by unfold gM;simp only [g7,g11,g16];first | rfl | simp) s2
    refine nx ?_;refine DP .r (fun _ b=>PV.GR ao (d.ext b).range rfl rfl)<|?_;refine DW.e rfl rfl rfl rfl rfl (fun i b j=>OX.call ND rfl rfl ((jX (k:=k)).mono ?_))<|?_
    ·
     rintro _ wy ⟨rfl,f⟩;exact⟨_,rfl,b.trans f,f,_,rfl,rfl⟩
    rintro _ o _ rfl;refine DW.e rfl rfl rfl rfl rfl (fun i b j=>OX.call zt rfl rfl ((gR (n:=number k) (hr.ext (c1.trans b))).mono ?_))<|?_
    ·
     rintro _ wy ⟨rfl,f⟩;exact⟨_,rfl,b.trans f,f,_,rfl,rfl⟩
    rintro _ o _ rfl;refine DP .r (fun _ b=>PV.GR ao (d.ext b).range rfl rfl)<|(cP)<|?_;rintro w2 s2 _;have c2:=c1.trans s2;have d:=d.ext s2;refine WP .r (PV.DL fH (p:=aM aa (number k)) (q:=k) rfl rfl)<|?_;exact(gz) (by unfold gM;simp only [g7,g11,g16];first | rfl | simp) s2
   refine fO ?_;refine DP .r (fun _ b=>PV.GR ao (d.ext b).range rfl rfl)<|?_;refine DW.e rfl rfl rfl rfl rfl (fun i b j=>OX.call ND rfl rfl ((jX (k:=k)).mono ?_))<|?_
   ·
    rintro _ wy ⟨rfl,f⟩;exact⟨_,rfl,b.trans f,f,_,rfl,rfl⟩
   rintro _ o _ rfl;refine DW.e rfl rfl rfl rfl rfl (fun i b j=>OX.call zt rfl rfl ((gR (n:=number k) (hr.ext (c1.trans b))).mono ?_))<|?_
   ·
    rintro _ wy ⟨rfl,f⟩;exact⟨_,rfl,b.trans f,f,_,rfl,rfl⟩
   rintro _ o _ rfl;refine DP .r (fun _ b=>PV.GR ao (d.ext b).range rfl rfl)<|(cP)<|?_;rintro w2 s2 _;have c2:=c1.trans s2;have d:=d.ext s2;refine WP .r (PV.DL fH (p:=aM aa (number k)) (q:=k) rfl rfl)<|?_;exact(gz) (by unfold gM;simp only [g7,g11];first | rfl | simp) s2
  refine aX ?_;refine(cP) ?_;rintro w2 s2 _;have c2:=c1.trans s2;have d:=d.ext s2;exact(gz) (by unfold gM;simp only [g7];first | rfl | simp) s2
 intro w2 s2;have c2:=c1.trans s2;have d:=d.ext s2;refine(bs) ?_;exact⟨rfl,c2⟩
theorem fB{ae:List ByteArray}{C:Nat→Prop}{r2:Nat}(ht:lq prog A w) (hr:fK B w a r c aa) (hl:Strs C w a2 r2 e2 ae) (hb:∀x∈aa,0≤x.c∧x.c≤65535∧x.asks.length≤1000) (hk:cX k):CR prog 90 #[.slice a r c,k.val,.slice a2 r2 e2] w ((aH aa k ae).val):=by
 refine enter func90 rfl ntmps90 rfl<|?_;have c0:aS [] w w:=aS.refl _ _;refine bK ?_;refine WL.go rfl (OX.box rfl rfl rfl fun b4 w1 p b=>?_);have s1:=p.ext;have y:=p.iF c0;have c1:=c0.trans s1;refine WL.go rfl (OX.alloc oD rfl fun q w2 i e=>?_);have s2:=i.ext;have s:=i.iF c1;have j:b4≠q:=i.ne b.lt;have z:q≠b4:=Ne.symm j;have c2:=c1.trans s2;have b:=b.ext s2;refine db ?_;refine WC.ka (t:=7) (v:=.bool (decide (k.kind=31) || decide (k.kind=32))) (fun u=>w2=u) ?_ ?_
 ·
  refine nx ?_;refine WP .r (PV.fa dD rfl)<|(aZ) aN b.range<|(dc) (fun g11=>?_) (fun g11=>?_)
  ·
   exact(cw) (by simp only [g11];first | rfl | simp) rfl
  refine WP .r (PV.fa dD rfl)<|(aZ) aN b.range<|?_;exact(cw) (by simp only [g11];first | rfl | simp) rfl
 rintro _ rfl;refine(aR) (fun g7=>?_) fun g7=>?_
 ·
  simp at g7
  have m:aH aa k ae=cq aa k ae:=by unfold aH;rw [if_pos g7]
  refine(aY) ao b.range<|(bX) Xg (EW (k:=k) (ht.ext c2) (hr.ext c2) (hl.ext c2) hb) ?_;rintro _ w3 ⟨rfl,d⟩;have c3:=c2.trans d;have b:=b.ext d;have e:=e.ext d;refine WL.go rfl (OX.mg gy e rfl rfl rfl rfl rfl fun w4 f _ e=>?_);have c4:=c3.own f s;have b:=b.bV f (by simp [j]);refine(kR) iL e.range<|?_;rw [m];exact⟨rfl,c4⟩
 simp at g7
 have m:aH aa k ae=⟨true,⟨#[]⟩,eU⟩:=by unfold aH;rw [if_neg (by omega)]
 refine nx ?_;refine WC.ka (t:=20) (v:=.bool (ay k || (decide (k.kind<1) || decide (22<k.kind)))) (aS [] w2) ?_<|?_
 ·
  refine(aY) ao b.range<|(bX) HG (ep (k:=k)) ?_;rintro _ w3 ⟨rfl,d⟩;have c3:=c2.trans d;have b:=b.ext d;have e:=e.ext d;refine(dc) (fun g23=>?_) (fun g23=>?_)
  ·
   exact(cw) (by simp only [g23];first | rfl | simp) d
  refine WP .r (PV.fa dD rfl)<|(aZ) aN b.range<|(dc) (fun o=>?_) (fun o=>?_)
  ·
   exact(cw) (by simp only [g23,o];first | rfl | simp) d
  refine WP .r (PV.fa dD rfl)<|(aZ) aN b.range<|?_;exact(cw) (by simp only [g23,o];first | rfl | simp) d
 intro w3 d;have c3:=c2.trans d;have b:=b.ext d;have e:=e.ext d;refine(aR) (fun g20=>?_) fun g20=>?_
 ·
  skip
  refine bK ?_;refine WP .r (PV.bz (us:=[.bool true,.string ⟨#[]⟩,.int .i64 0,.string ⟨#[]⟩]) mw rfl rfl rfl)<|?_;refine WL.go rfl (OX.mg gy e rfl rfl rfl rfl rfl fun w4 f _ e=>?_);have c4:=c3.own f s;have b:=b.bV f (by simp [j]);refine(kR) iL e.range<|?_;rw [m];exact⟨rfl,c4⟩
 exfalso;simp at g20;rcases hk with h | h <;> omega
theorem vq{rev:Int}(hl:Rd RR.dV 8 Z w a n c l):CR prog 257 #[.slice a n c,.int .i64 rev,k.val] w (.bool (bU l rev k)):=by
 refine enter func257 rfl ntmps257 rfl<|?_;have c0:aS [] w w:=aS.refl _ _;refine bK ?_;refine WL.go rfl (OX.box rfl rfl rfl fun b5 w1 i b=>?_);have s1:=i.ext;have s:=i.iF c0;have c1:=c0.trans s1;refine(aY) ao b.range<|(bX) pr (dY (k:=k) (hl.ext c1)) ?_;rintro _ w2 ⟨f1,f2,f3,rfl,s2⟩;have c2:=c1.trans s2;have b:=b.ext s2;refine bY ?_;refine WL.go rfl (OX.alloc nF rfl fun j w3 f e=>?_);have m:=f.ext;have q:=f.iF c2;have o:b5≠j:=f.ne b.lt;have u:j≠b5:=Ne.symm o;have c3:=c2.trans m;have b:=b.ext m;refine WL.go rfl (OX.mg fI e rfl rfl rfl rfl rfl fun w4 p _ e=>?_);have c4:=c3.own p q;have b:=b.bV p (by simp [o]);refine cj ?_;refine WC.lA (t:=6) (v:=.bool (bU l rev k)) (aS [] w4) ?_<|?_
 ·
  refine(dc) (fun g16=>?_) (fun g16=>?_)
  ·
   refine(aY) ao b.range<|(bX) HF (df (k:=k)) ?_;rintro _ w5 ⟨rfl,d⟩;have c5:=c4.trans d;have b:=b.ext d;have e:=e.ext d;refine(dc) (fun g20=>?_) (fun g20=>?_)
   ·
    refine WP .r (PV.fa po rfl)<|(aZ) aN e.range<|(dc) (fun h=>?_) (fun h=>?_)
    ·
     refine WP .r (PV.fa EO rfl)<|(aZ) dG e.range<|?_;exact(gz) (by unfold bU;simp only [g16,g20,h];first | rfl | simp) d
    exact(gz) (by unfold bU;simp only [g16,g20,h];first | rfl | simp) d
   exact(gz) (by unfold bU;simp only [g16,g20];first | rfl | simp) d
  refine aX ?_;exact(gz) (by unfold bU;simp only [g16];first | rfl | simp) (aS.refl _ _)
 intro w5 d;have c5:=c4.trans d;have b:=b.ext d;have e:=e.ext d;refine(bs) ?_;exact⟨rfl,c5⟩
theorem Fa(hi:Rd RR.aD 4 Z w a1 n1 e1 x.ab) (hr:Rd RR.dV 8 Z w a2 n2 e2 x.ah) {k:Key}:CR prog 259 #[.agg (x.row a1 n1 e1 a2 n2 e2).toArray,k.val] w (.tuple #[.string (im x k),.bool (eL x k)]):=by
 refine enter func259 rfl ntmps259 rfl<|?_;have c0:aS [] w w:=aS.refl _ _;refine bK ?_;refine WL.go rfl (OX.box rfl rfl rfl fun b2 w1 s b=>?_);have s1:=s.ext;have F:=s.iF c0;have c1:=c0.trans s1;refine WL.go rfl (OX.box rfl rfl rfl fun b3 w2 m d=>?_);have s2:=m.ext;have G:=m.iF c1;have C:b2≠b3:=m.ne b.lt;have H:b3≠b2:=Ne.symm C;have c2:=c1.trans s2;have b:=b.ext s2;refine(aY) ao d.range<|(bX) HG (ep (k:=k)) ?_;rintro _ w3 ⟨rfl,o⟩;have c3:=c2.trans o;have b:=b.ext o;have d:=d.ext o;refine(aR) (fun g9=>?_) fun g9=>?_
 ·
  refine(aY) aL b.range<|(aY) ao d.range<|(bX) Wo (rV (k:=k) (hi.ext c3) (hr.ext c3)) ?_;rintro _ w4 ⟨rfl,e⟩;have c4:=c3.trans e;have b:=b.ext e;have d:=d.ext e;refine(yE) ?_;exact⟨by unfold im eL;rw [if_pos g9,g9];rfl,c4⟩
 refine db ?_;refine WP .r (PV.fa rP rfl)<|(aZ) dt b.range<|(aY) ao d.range<|(bX) pr (dY (k:=k) (hr.ext c3)) ?_;rintro _ w4 ⟨f1,f2,f3,rfl,e⟩;have c4:=c3.trans e;have b:=b.ext e;have d:=d.ext e;refine bY ?_;refine WL.go rfl (OX.alloc nF rfl fun h w5 i j=>?_);have p:=i.ext;have D:=i.iF c4;have u:b2≠h:=i.ne b.lt;have I:h≠b2:=Ne.symm u;have y:b3≠h:=i.ne d.lt;have J:h≠b3:=Ne.symm y;have c5:=c4.trans p;have b:=b.ext p;have d:=d.ext p;refine WL.go rfl (OX.mg fI j rfl rfl rfl rfl rfl fun w6 q _ j=>?_);have z:=c5.own q D;have b:=b.bV q (by simp [u]);have d:=d.bV q (by simp [y]);refine cj ?_;refine WC.ka (t:=27) (v:=.bool (eL x k)) (fun E=>w6=E) ?_ ?_
 ·
  refine(dc) (fun g21=>?_) (fun g21=>?_)
  ·
   refine WP .r (PV.fa po rfl)<|(aZ) aN j.range<|?_;refine WP .r (PV.fa kX rfl)<|(aZ) aN b.range<|?_;exact(cw) (by unfold eL;simp only [g9,g21];first | rfl | simp) rfl
  exact(cw) (by unfold eL;simp only [g9,g21];first | rfl | simp) rfl
 rintro _ rfl;refine(aR) (fun f=>?_) fun f=>?_
 ·
  refine bK ?_;refine WP .r (PV.fa u5 rfl)<|(aZ) fh j.range<|(yE) ?_;exact⟨by unfold im;rw [if_neg (by simp [g9]),if_pos f,f],z⟩
 refine(yE) ?_;exact⟨by unfold im;rw [if_neg (by simp [g9]),if_neg (by simp [f]),f],z⟩
theorem vt(hi:Rd RR.aD 4 Z w a1 n1 e1 x.ab) (hr:Rd RR.dV 8 Z w a2 n2 e2 x.ah) {k:Key}{v:ByteArray}{reads:List Key}{a:Option Addr}{n e:Nat}(hk:Rd RR.key 2 Z w a n e reads):Calls prog 195 #[.agg (x.row a1 n1 e1 a2 n2 e2).toArray,k.val,.string v,.slice a n e] w fun en w'=>en=.returned (.agg ((bJ x k v reads).row a n e).toArray)∧aS [] w w':=by
 have hlen:=SR.len hk;have hle:=SR.le hk;refine enter func195 rfl ntmps195 rfl<|?_;have c0:aS [] w w:=aS.refl _ _;refine bK ?_;refine WL.go rfl (OX.box rfl rfl rfl fun b4 w1 Q b=>?_);have s1:=Q.ext;have vh:=Q.iF c0;have c1:=c0.trans s1;refine WL.go rfl (OX.box rfl rfl rfl fun b5 w2 G d=>?_);have s2:=G.ext;have ad9:=G.iF c1;have Fb:b4≠b5:=G.ne b.lt;have Sk:b5≠b4:=Ne.symm Fb;have c2:=c1.trans s2;have b:=b.ext s2;refine WL.go rfl (OX.alloc nF rfl fun m w3 D f=>?_);have H:=D.ext;have R:=D.iF c2;have I:b4≠m:=D.ne b.lt;have E4:m≠b4:=Ne.symm I;have J:b5≠m:=D.ne d.lt;have Sl:m≠b5:=Ne.symm J;have c3:=c2.trans H;have b:=b.ext H;have d:=d.ext H;refine(aY) ao d.range<|bK ?_;refine WP .r (PV.fa kX rfl)<|(aZ) aN b.range<|?_;refine WP .r (PV.fa kX rfl)<|(aZ) aN b.range<|nx ?_;refine WP .r (PV.hV ek rfl)<|nx ?_;refine WP .r (PV.bz (us:=(Rec.mk k v reads x.ad x.ad (1+(n:Int)) false).row a n e) MP rfl rfl rfl)<|?_;refine WL.go rfl (OX.alloc nF rfl fun o w4 s h=>?_);have E:=s.ext;have S:=s.iF c3;have K:b4≠o:=s.ne b.lt;have Sm:o≠b4:=Ne.symm K;have L:b5≠o:=s.ne d.lt;have Sn:o≠b5:=Ne.symm L;have N:m≠o:=s.ne f.lt;have T:o≠m:=Ne.symm N;have c4:=c3.trans E;have b:=b.ext E;have d:=d.ext E;have f:=f.ext E;refine WL.go rfl (OX.mg fI h rfl rfl rfl rfl rfl fun w5 F _ h=>?_);have c5:=c4.own F S;have b:=b.bV F (by simp [K]);have d:=d.bV F (by simp [L]);have f:=f.bV F (by simp [N]);refine db ?_;refine WP .r (PV.fa rP rfl)<|(aZ) dt b.range<|(aY) ao d.range<|(bX) pr (dY (k:=k) (hr.ext c5)) ?_;rintro _ w6 ⟨f1,f2,f3,rfl,u⟩;have U:=c5.trans u;have b:=b.ext u;have d:=d.ext u;have f:=f.ext u;have h:=h.ext u;refine bY ?_;refine WL.go rfl (OX.alloc nF rfl fun p w7 q j=>?_);have y:=q.ext;have zx:=q.iF U;have V:b4≠p:=q.ne b.lt;have Ce:p≠b4:=Ne.symm V;have W:b5≠p:=q.ne d.lt;have Pq:p≠b5:=Ne.symm W;have X:m≠p:=q.ne f.lt;have Y:p≠m:=Ne.symm X;have sX:o≠p:=q.ne h.lt;have Ck:p≠o:=Ne.symm sX;have c7:=U.trans y;have b:=b.ext y;have d:=d.ext y;have f:=f.ext y;have h:=h.ext y;refine WL.go rfl (OX.mg fI j rfl rfl rfl rfl rfl fun w8 z _ j=>?_);have c8:=c7.own z zx;have b:=b.bV z (by simp [V]);have d:=d.bV z (by simp [W]);have f:=f.bV z (by simp [X]);have h:=h.bV z (by simp [sX]);refine cj ?_;refine WC.ka (t:=36) (v:=.bool ((az x.ah k).isSome && decide ((aC x.ah k).value=v))) (fun wx=>w8=wx) ?_ ?_
 ·
  refine(dc) (fun O=>?_) (fun O=>?_)
  ·
   refine WP .r (PV.fa u5 rfl)<|(aZ) fh j.range<|?_;exact(cw) (by simp only [O];first | rfl | simp) rfl
  exact(cw) (by simp only [O];first | rfl | simp) rfl
 rintro _ rfl;refine(aR) (fun P=>?_) fun P=>?_
 ·
  have hm:bJ x k v reads=⟨k,v,reads,(aC x.ah k).changed,x.ad,1+(reads.length:Int),false⟩:=by unfold bJ;rw [if_pos P]
  refine nx ?_;refine WP .r (PV.fa u6 rfl)<|(aZ) aN j.range<|?_;refine WP .r (PV.fa u6 rfl)<|?_;refine WL.go rfl (OX.st GB h rfl rfl (by first | (simp [nth];done) | exact U9 rfl) rfl rfl fun w9 i _ h=>?_);have c9:=c8.own i S;have b:=b.bV i (by simp [K]);have d:=d.bV i (by simp [L]);have f:=f.bV i (by simp [N]);have j:=j.bV i (by simp [Ck]);refine(aY) cU h.range<|?_;refine WL.go rfl (OX.mg fI f rfl rfl rfl rfl rfl fun iN C _ f=>?_);have c10:=c9.own C R;have b:=b.bV C (by simp [I]);have d:=d.bV C (by simp [J]);have h:=h.bV C (by simp [T]);have j:=j.bV C (by simp [Y]);refine(kR) cU f.range<|?_;exact⟨by rw [hm,← hlen] <;> rfl,c10⟩
 have hm:bJ x k v reads=⟨k,v,reads,x.ad,x.ad,1+(reads.length:Int),false⟩:=by unfold bJ;rw [if_neg (by simp [P])]
 refine(aY) cU h.range<|?_;refine WL.go rfl (OX.mg fI f rfl rfl rfl rfl rfl fun w9 i _ f=>?_);have c9:=c8.own i R;have b:=b.bV i (by simp [I]);have d:=d.bV i (by simp [J]);have h:=h.bV i (by simp [T]);have j:=j.bV i (by simp [Y]);refine(kR) cU f.range<|?_;exact⟨by rw [hm,← hlen] <;> rfl,c9⟩
theorem k8{goals:List Key}{ar:Option Addr}(hu:fK A w ar r c aa) (hi:Rd RR.aD 4 Z w a1 n1 e1 x.ab) (hr:Rd RR.dV 8 Z w a2 n2 e2 x.ah) (m:yt B w ag g eg goals):CR prog 95 #[.slice ar r c,.agg (x.row a1 n1 e1 a2 n2 e2).toArray,.slice ag g eg] w (.int .i64 (gB aa x goals)):=by
 have hlen:=SR.len m;have hle:=SR.le m;refine enter func95 rfl ntmps95 rfl<|?_;have c0:aS [] w w:=aS.refl _ _;refine bK ?_;refine WL.go rfl (OX.box rfl rfl rfl fun b4 w1 s d=>?_);have s1:=s.ext;have S:=s.iF c0;have c1:=c0.trans s1;refine(bX) Wx (sS (hu.ext c1)) ?_;rintro _ w2 ⟨bv,rfl,u,s2⟩;have c2:=c1.trans s2;have d:=d.ext s2;refine(aR) (fun g9=>?_) fun g9=>?_
 ·
  simp at g9
  have b:gB aa x goals=41:=by unfold gB;rw [if_pos (by rw [← u];simp [g9])]
  refine(bs) ?_;exact⟨by rw [b],c2⟩
 simp at g9
 have o:=u.1 g9;refine(aY) aL d.range<|(bX) Kf (iO (hi.ext c2) (hr.ext c2)) ?_;rintro _ w3 ⟨T,rfl,v,z⟩;have c3:=c2.trans z;have d:=d.ext z;refine(aR) (fun g13=>?_) fun g13=>?_
 ·
  simp at g13
  have b:gB aa x goals=42:=by unfold gB;rw [if_neg (by simpa using o),if_pos (by rw [← v];simp [g13])]
  refine(bs) ?_;exact⟨by rw [b],c3⟩
 simp at g13
 have C:=v.1 g13;refine bY ?_;refine WP .r (PV.hV ek rfl)<|(aR) (fun g17=>?_) fun g17=>?_
 ·
  simp at g17
  have b:gB aa x goals=3:=by unfold gB;rw [if_neg (by simpa using o),if_neg (by simpa using C),if_pos (by omega)]
  refine(bs) ?_;exact⟨by rw [b],c3⟩
 simp at g17
 have b:gB aa x goals=if goals.all (gM aa) then 0 else 40:=by unfold gB;rw [if_neg (by simpa using o),if_neg (by simpa using C),if_neg (by omega)]
 refine ed ?_;refine WP .r (PV.hV ek rfl)<|cj ?_;refine WC.loop (σ:=Nat) (dj:=fun i=>[(0,.slice ar r c),(21,.slice ag g eg),(22,.int .i64 (g:Int)),(23,.int .i64 (i:Int))]) (I:=fun i w'=>aS [] w w'∧i≤g∧∀j y,j<i→goals[j]?=some y→gM aa y=true) (μ:=fun i=>g - i) 0 Sub.t ⟨c3,by omega,fun j y h=>by omega⟩ ?_;rintro i w4 ⟨c4,eJ,D⟩;refine(aR) (fun g24=>?_) fun g24=>?_
 ·
  simp at g24
  have p:i<goals.length:=by omega
  obtain⟨U,V,W,J,_,K,q,_⟩:=SR.at m (ak p);subst K;refine db ?_;have q:=aW q c4 (by simp);refine nx ?_;refine WP .r (PV.dI ek J rfl rfl (by omega))<|(aY) ao q<|?_;refine WL.go rfl (OX.alloc EM rfl fun X w5 E e=>?_);have L:=E.ext;have N:=E.iF c4;have c5:=c4.trans L;refine WL.go rfl (OX.mg gQ e rfl rfl rfl rfl rfl fun w6 O _ e=>?_);have F:=c5.own O N;refine(aY) ao e.range<|(bX) Wz (sV (k:=goals[i]) (hu.ext F)) ?_;rintro _ w7 ⟨rfl,G⟩;have H:=F.trans G;have e:=e.ext G;refine(aR) (fun f=>?_) fun f=>?_
  ·
   simp at f
   have b:gB aa x goals=40:=by rw [b,if_neg];rw [List.all_eq_true];intro h;have:=h _ (List.getElem_mem p);rw [f] at this;cases this
   refine(bs) ?_;exact⟨by rw [b],H⟩
  simp at f
  refine ed ?_;refine EX.again (i+1) (Sub.k2 rfl rfl<|Sub.cons rfl<|Sub.iW rfl (by simp)<|Sub.nil) ⟨H,by omega,cG (P:=fun _ y=>gM aa y=true) p D f⟩ (by omega)
 simp at g24
 have b:gB aa x goals=0:=by rw [b,if_pos];rw [List.all_eq_true];intro y Q;obtain⟨j,R,rfl⟩:=List.mem_iff_getElem.1 Q;exact D j _ (by omega) (ak R)
 refine(bs) ?_;exact⟨by rw [b],c4⟩
theorem qz{group:List Key}(gk:St w M Z w []) (hl:Rd RR.dV 8 Z w a n c l) (D:Rd RR.key 2 Z w ag g eg group) (hb:∀i,(((group.take i).flatMap fun m=>cY group m (aC l m).reads)).length≤100000000):Calls prog 191 #[.slice a n c,.slice ag g eg] w fun e w'=>∃O P Q Z',e=.returned (.slice O P Q)∧bH w.heap.size Z Z'∧St w M Z' w' [As.os RR.Ds 167 4 O P Q (bT l group)]:=by
 have hlen:=D.len;have hle:=D.le;refine enter func191 rfl ntmps191 rfl<|?_;have aO:=gk;have st1:=aO.fr hl;have st2:=st1.fr D;have iT:=st2.dp RR.Ds 167 4;refine aX ?_;refine ed ?_;refine WC.hh (σ:=Nat × (Nat→Prop) × (List od) × (Option Addr) × Nat × Nat) (dj:=fun(i,o,acc,d,b,f)=>[(0,.slice a n c),(1,.slice ag g eg),(5,.slice d b f),(12,.slice ag g eg),(13,.int .i64 (g:Int)),(14,.int .i64 (i:Int))]) (F:=fun(i,o,acc,d,b,f)=>[As.os RR.Ds 167 4 d b f (acc)]) (I:=fun(i,o,acc,d,b,f)=>(i≤g)∧(bH w.heap.size Z o)∧(acc=(group.take i).flatMap fun m=>cY group m (aC l m).reads)∧True) (μ:=fun(i,o,acc,d,b,f)=>g - i) (Zf:=fun(i,o,acc,d,b,f)=>o) (0,Z,[],none,0,0) (iT) Sub.t (⟨by omega,bH.refl _ _,by simp,trivial⟩)<|?_;rintro⟨i,o,acc,d,b,f⟩ w1 y ⟨hi,E,p,_⟩;simp only [CA,NA] at y hi E p ⊢;refine(aR) (fun g15=>?_) fun g15=>?_
 ·
  simp at g15
  have R:i<group.length:=by omega
  refine db ?_;obtain⟨gH,kz,jY,cR,gG,G,et,eI⟩:=Rd.at (As.gr y.g1) R;have G:=RR.a8 G;subst G;have S:=y.fg eI et;refine nx ?_;refine WP .r (PV.dI ek cR rfl rfl (by omega))<|(aY) ao (As.kH S.g0)<|(eN) S fun b7 w2 Pn Po iC=>?_;refine(cF) gQ iC fun w3 jO jZ T=>?_;refine(aY) ao T.b0<|?_;have z:=T;refine(bX) pr (iz (k:=group[i]) z.e0 (As.gr z.g4)) ?_;rintro _ w4 ⟨f1,f2,f3,rfl,It,U⟩;have iE:=St.lr z U;have Io:=St.bM U;have hsz:=z.size;have V:=iE.ba (by omega);have mx:=E.trans (bH.dA (F:=fun x=>x∈aI f1) Io) hsz;have X5:=((As.gr V.g0)).len;refine(eN) V fun b8 w5 Lq XZ dh=>?_;refine(cF) fI dh fun w6 qV mi W=>?_;refine(aZ) dC W.b0<|db ?_;refine WC.bd (σ:=Nat × (List od) × (Option Addr) × Nat × Nat) (dj:=fun(j,h,d,b,f)=>[(0,.slice a n c),(1,.slice ag g eg),(5,.slice d b f),(7,.pointer (some ⟨b7,0,none⟩)),(12,.slice ag g eg),(13,.int .i64 (g:Int)),(14,.int .i64 (i:Int)),(25,.slice f1 f2 f3),(26,.int .i64 (f2:Int)),(27,.int .i64 (j:Int))]) (F:=fun(j,h,d,b,f)=>[As.os RR.Ds 167 4 d b f (h)]) (I:=fun(j,h,d,b,f)=>(j≤f2)∧(h=acc++cY group group[i] ((aC l group[i]).reads.take j))∧True) (μ:=fun(j,h,d,b,f)=>f2 - j) (0,acc,d,b,f) (W.p4) Sub.t (⟨by omega,by simp [cY],trivial⟩)<|?_;rintro⟨j,h,d,b,f⟩ w7 q ⟨hj,s,_⟩;simp only [CA,NA] at q hj s ⊢;have qU:=((As.gs q.g0)).len;have Iu:=hb i;rw [← p] at Iu;have Kt:=jU group group[i] ((aC l group[i]).reads.take j)
  have htl:h.length≤100100000:=by rw [s,List.length_append];rw [List.length_take] at Kt;omega
  refine(aR) (fun H=>?_) fun H=>?_
  ·
   simp at H
   have J:j<(aC l group[i]).reads.length:=by omega
   refine db ?_;obtain⟨rW,Fc,Cl,jP,sY,K,kN,lK⟩:=Rd.at (As.gr q.g2) J;have K:=RR.a8 K;subst K;have X:=q.fg lK kN;refine nx ?_;refine WP .r (PV.dI ek jP rfl rfl (by omega))<|(aY) ao (As.kH X.g0)<|(eN) X fun b11 w8 X6 X7 eb=>?_;refine(cF) gQ eb fun w9 zy tK L=>?_;refine(aY) ao L.b0<|(eS) (rT (k:=(aC l group[i]).reads[j]) (As.gr L.g7)) L fun iN s10 C=>?_;refine(aR) (fun u=>?_) fun u=>?_
   ·
    simp at u
    have v:=jk (group:=group) (m:=group[i]) J;rw [if_neg u] at v;refine(aY) ao C.b5<|(aY) ao C.b0<|?_;refine WP .r (PV.bz (us:=(od.mk group[i] (aC l group[i]).reads[j]).cells) OQ rfl rfl rfl)<|?_;refine WL.go rfl (OX.aP (us:=(od.mk group[i] (aC l group[i]).reads[j]).cells) Gx rfl rfl rfl rfl fun b39 iV aec aed=>?_);have Y:=C.de aec aed;refine WL.ap rfl rfl Y.p3 (SR.dd (A:=fun _=>True) (x:=od.mk group[i] (aC l group[i]).reads[j]) (As.gb Y.g0) trivial rfl (by simp [od.cells,Value.oneCell']) rfl) fun a40 aee k9 amI amJ dE=>?_;refine gL ?_;refine ef (j+1,_,a40,(b+1),aee) ⟨dE.p1.drop.p1.drop.p1.drop,⟨by omega,by rw [v,s,List.append_assoc],trivial⟩⟩
   simp at u
   have v:=jk (group:=group) (m:=group[i]) J;rw [if_pos u] at v;refine ed ?_;refine ef (j+1,_,d,b,f) ⟨C.drop.drop,⟨by omega,by rw [v,s],trivial⟩⟩
  simp at H
  have N:(aC l group[i]).reads.take j=(aC l group[i]).reads:=List.take_of_length_le (by omega);refine ju ?_;refine ef (i+1,_,h,d,b,f) ⟨q.p6.p6.p2.k3,⟨by omega,mx,by rw [s,N,p,List.take_succ_eq_append_getElem R];simp only [List.flatMap_append,List.flatMap_cons,List.flatMap_nil,List.append_nil],trivial⟩⟩
 simp at g15
 have N:group.take i=group:=List.take_of_length_le (by omega);rw [N] at p;subst p;refine(bs) ?_;exact⟨_,_,_,_,rfl,E,y.p1.drop.p1.drop⟩
set_option maxHeartbeats 400000
theorem vu{l:List bm}(hl:Rd RR.mB 6 Z w a r c l):CR prog 193 #[.slice a r c,k.val] w (.bool (fY l k)):=by
 have hle:=SR.le hl;have hlen:=SR.len hl;refine enter func193 rfl ntmps193 rfl<|?_;have c0:aS [] w w:=aS.refl _ _;refine bK ?_;refine WL.go rfl (OX.box rfl rfl rfl fun b3 w1 s b=>?_);have s1:=s.ext;have J:=s.iF c0;have c1:=c0.trans s1;refine ed ?_;refine WP .r (PV.hV mE rfl)<|cj ?_;refine WC.loop (σ:=Nat) (dj:=fun i=>[(3,.pointer (some ⟨b3,0,none⟩)),(7,.slice a r c),(8,.int .i64 (r:Int)),(9,.int .i64 (i:Int))]) (I:=fun i w'=>aS [] w w'∧bQ w' b3 41 [.int .i64 k.kind,.string k.text]∧i≤r∧∀j y,j<i→l[j]?=some y→decide (bm.key y=k)=false) (μ:=fun i=>r - i) 0 Sub.t ⟨c1,b,by omega,fun j y h=>by omega⟩ ?_;rintro i w2 ⟨c2,b,hi,u⟩;refine(aR) (fun g10=>?_) fun g10=>?_
 ·
  simp at g10
  have d:i<l.length:=by omega
  refine db ?_;obtain⟨K,L,N,E,_,⟨q1,O,Q,R,S,T,rfl,_⟩,e,_⟩:=SR.at hl (ak d);have e:=aW e c2 (by simp);refine nx ?_;refine WP .r (PV.dI mE E rfl rfl (by omega))<|(aY) nC e<|?_;refine WL.go rfl (OX.alloc O0 rfl fun v w3 f m=>?_);have z:=f.ext;have F:=f.iF c2;have C:b3≠v:=f.ne b.lt;have U:v≠b3:=Ne.symm C;have c3:=c2.trans z;have b:=b.ext z;refine WL.go rfl (OX.mg GC m rfl rfl rfl rfl rfl fun w4 D _ m=>?_);have c4:=c3.own D F;have b:=b.bV D (by simp [C]);refine cj ?_;refine WP .r (PV.fa GD rfl)<|(gX) ao m.range<|(aY) ao b.range<|?_;refine WP .r (PV.DL fH (p:=l[i].key) (q:=k) rfl rfl)<|(aR) (fun g16=>?_) fun g16=>?_
  ·
   have o:fY l k=true:=List.any_eq_true.2 ⟨_,List.getElem_mem d,g16⟩;refine(bs) ?_;exact⟨by rw [o],c4⟩
  skip
  refine ed ?_;refine EX.again (i+1) (Sub.k2 rfl rfl<|Sub.cons rfl<|Sub.iW rfl (by simp)<|Sub.nil) ⟨c4,b,by omega,cG (P:=fun _ (y:bm)=>decide (y.key=k)=false) d u g16⟩ (by omega)
 simp at g10
 have o:fY l k=false:=List.any_eq_false.2 fun y G=>by obtain⟨j,H,rfl⟩:=List.mem_iff_getElem.1 G;simpa using u j _ (by omega) (ak H)
 refine(bs) ?_;exact⟨by rw [o],c2⟩
theorem qA(hi:Rd RR.aD 4 Z w a1 n1 e1 x.ab) (hr:Rd RR.dV 8 Z w a2 n2 e2 x.ah) {l:List bm}{k:Key}{a:Option Addr}{n c:Nat}(hl:Rd RR.mB 6 Z w a n c l):CR prog 142 #[.agg (x.row a1 n1 e1 a2 n2 e2).toArray,.slice a n c,k.val] w (.bool (cE x l k)):=by
 refine enter func142 rfl ntmps142 rfl<|?_;have c0:aS [] w w:=aS.refl _ _;refine bK ?_;refine WL.go rfl (OX.box rfl rfl rfl fun b3 w1 u b=>?_);have s1:=u.ext;have G:=u.iF c0;have c1:=c0.trans s1;refine WL.go rfl (OX.box rfl rfl rfl fun b5 w2 m d=>?_);have s2:=m.ext;have H:=m.iF c1;have C:b3≠b5:=m.ne b.lt;have I:b5≠b3:=Ne.symm C;have c2:=c1.trans s2;have b:=b.ext s2;refine db ?_;refine WC.ka (t:=15) (v:=.bool (ay k || fY l k)) (aS [] w2) ?_<|?_
 ·
  refine(aY) ao d.range<|(bX) HG (ep (k:=k)) ?_;rintro _ w3 ⟨rfl,e⟩;have c3:=c2.trans e;have b:=b.ext e;have d:=d.ext e;refine(dc) (fun g11=>?_) (fun g11=>?_)
  ·
   exact(cw) (by simp only [g11];first | rfl | simp) e
  refine(aY) ao d.range<|(bX) Kl (vu (k:=k) (hl.ext c3)) ?_;rintro _ w4 ⟨rfl,f⟩;have c4:=c3.trans f;have b:=b.ext f;have d:=d.ext f;exact(cw) (by simp only [g11];first | rfl | simp) (e.trans f)
 intro w3 e;have c3:=c2.trans e;have b:=b.ext e;have d:=d.ext e;refine(aR) (fun g15=>?_) fun g15=>?_
 ·
  have h:cE x l k=false:=by unfold cE;rw [g15];rfl
  refine(bs) ?_;exact⟨by rw [h],c3⟩
 have h:cE x l k=(!(az x.ah k).isSome || decide ((aC x.ah k).av≠x.ad)):=by unfold cE;rw [g15];rfl
 refine cj ?_;refine WP .r (PV.fa rP rfl)<|(aZ) dt b.range<|(aY) ao d.range<|(bX) pr (dY (k:=k) (hr.ext c3)) ?_;rintro _ w4 ⟨f1,f2,f3,rfl,f⟩;have c4:=c3.trans f;have b:=b.ext f;have d:=d.ext f;refine bY ?_;refine WL.go rfl (OX.alloc nF rfl fun i w5 j o=>?_);have p:=j.ext;have D:=j.iF c4;have y:b3≠i:=j.ne b.lt;have J:i≠b3:=Ne.symm y;have z:b5≠i:=j.ne d.lt;have K:i≠b5:=Ne.symm z;have c5:=c4.trans p;have b:=b.ext p;have d:=d.ext p;refine WL.go rfl (OX.mg fI o rfl rfl rfl rfl rfl fun w6 q _ o=>?_);have E:=c5.own q D;have b:=b.bV q (by simp [y]);have d:=d.bV q (by simp [z]);refine cj ?_;refine WC.lA (t:=6) (v:=.bool (cE x l k)) (fun F=>w6=F) ?_ ?_
 ·
  refine(dc) (fun s=>?_) (fun s=>?_)
  ·
   exact(gz) (by rw [h];simp only [s];first | rfl | simp) rfl
  refine WP .r (PV.fa po rfl)<|(aZ) aN o.range<|?_;refine WP .r (PV.fa kX rfl)<|(aZ) aN b.range<|?_;exact(gz) (by rw [h];simp only [s];first | rfl | simp) rfl
 rintro _ rfl;refine(bs) ?_;exact⟨rfl,E⟩
theorem vw(hi:Rd RR.aD 4 Z w a1 n1 e1 x.ab) (hr:Rd RR.dV 8 Z w a2 n2 e2 x.ah) {l others:List bm}{k:Key}{a a3:Option Addr}{n c n3 e3:Nat}(hl:Rd RR.mB 6 Z w a n c l) (s:Rd RR.mB 6 Z w a3 n3 e3 others):CR prog 196 #[.agg (x.row a1 n1 e1 a2 n2 e2).toArray,.slice a n c,.slice a3 n3 e3,k.val] w (.int .i64 (bG x l others k)):=by
 refine enter func196 rfl ntmps196 rfl<|?_;have c0:aS [] w w:=aS.refl _ _;refine bK ?_;refine WL.go rfl (OX.box rfl rfl rfl fun b4 w1 o d=>?_);have s1:=o.ext;have y:=o.iF c0;have c1:=c0.trans s1;refine WL.go rfl (OX.box rfl rfl rfl fun p w2 h b=>?_);have s2:=h.ext;have z:=h.iF c1;have u:b4≠p:=h.ne d.lt;have C:p≠b4:=Ne.symm u;have c2:=c1.trans s2;have d:=d.ext s2;refine fO ?_;refine WC.ka (t:=9) (v:=.bool (!ax k && fY l k)) (aS [] w2) ?_<|?_
 ·
  refine(aY) ao b.range<|(bX) HF (df (k:=k)) ?_;rintro _ w3 ⟨rfl,e⟩;have c3:=c2.trans e;have d:=d.ext e;have b:=b.ext e;refine(dc) (fun g13=>?_) (fun g13=>?_)
  ·
   refine(aY) ao b.range<|(bX) Kl (vu (k:=k) (hl.ext c3)) ?_;rintro _ w4 ⟨rfl,f⟩;have c4:=c3.trans f;have d:=d.ext f;have b:=b.ext f;exact(cw) (by simp only [g13];first | rfl | simp) (e.trans f)
  exact(cw) (by simp only [g13];first | rfl | simp) e
 intro w3 e;have c3:=c2.trans e;have d:=d.ext e;have b:=b.ext e;refine(aR) (fun g9=>?_) fun g9=>?_
 ·
  skip
  refine(bs) ?_;exact⟨by unfold bG;rw [if_pos g9],c3⟩
 have g9:¬((!ax k && fY l k)=true):=by simp [g9]
 refine(aY) aL d.range<|(aY) ao b.range<|(bX) O7 (qA (k:=k) (hi.ext c3) (hr.ext c3) (hl.ext c3)) ?_;rintro _ w4 ⟨rfl,f⟩;have c4:=c3.trans f;have d:=d.ext f;have b:=b.ext f;refine(aR) (fun g18=>?_) fun g18=>?_
 ·
  skip
  refine(bs) ?_;exact⟨by unfold bG;rw [if_neg g9,if_pos g18],c4⟩
 have g18:¬((!cE x l k)=true):=by simp [g18]
 refine(aY) ao b.range<|(bX) Kl (vu (k:=k) (s.ext c4)) ?_;rintro _ w5 ⟨rfl,i⟩;have c5:=c4.trans i;have d:=d.ext i;have b:=b.ext i;refine(aR) (fun g24=>?_) fun g24=>?_
 ·
  skip
  refine(bs) ?_;exact⟨by unfold bG;rw [if_neg g9,if_neg g18,if_pos g24],c5⟩
 have g24:¬((!fY others k)=true):=by simp [g24]
 refine(aY) ao b.range<|(bX) HF (df (k:=k)) ?_;rintro _ w6 ⟨rfl,j⟩;have q:=c5.trans j;have d:=d.ext j;have b:=b.ext j;refine(aR) (fun m=>?_) fun m=>?_
 ·
  skip
  refine(bs) ?_;exact⟨by unfold bG;rw [if_neg g9,if_neg g18,if_neg g24,if_pos m],q⟩
 refine(bs) ?_;exact⟨by unfold bG;rw [if_neg g9,if_neg g18,if_neg g24,if_neg (by simp [m])],q⟩
theorem tz{l:List aG}(H:St w M Z w []) (hl:Rd RR.eT 4 Z w a n c l) (h6:l.length≤1000000) (J:∀x∈l,x.asks.length≤1000):Calls prog 139 #[.slice a n c] w fun e w'=>∃v y z Z',e=.returned (.slice v y z)∧bH w.heap.size Z Z'∧St w M Z' w' [As.os RR.eT 58 4 v y z l]:=by
 have hlen:=hl.len;have hle:=hl.le;refine enter func139 rfl ntmps139 rfl<|?_;have aO:=H;have st1:=aO.fr hl;have st2:=st1.dp RR.eT 58 4;refine aX ?_;refine ed ?_;refine WC.hh (σ:=Nat × (Nat→Prop) × (List aG) × (Option Addr) × Nat × Nat) (dj:=fun(i,d,acc,f,b,j)=>[(3,.slice f b j),(6,.slice a n c),(7,.int .i64 (n:Int)),(8,.int .i64 (i:Int))]) (F:=fun(i,d,acc,f,b,j)=>[As.os RR.eT 58 4 f b j (acc)]) (I:=fun(i,d,acc,f,b,j)=>(i≤n)∧(bH w.heap.size Z d)∧(acc=l.take i)∧True) (μ:=fun(i,d,acc,f,b,j)=>n - i) (Zf:=fun(i,d,acc,f,b,j)=>d) (0,Z,[],none,0,0) (st2) Sub.t (⟨by omega,bH.refl _ _,by simp,trivial⟩)<|?_;rintro⟨i,d,acc,f,b,j⟩ w1 m ⟨hi,q,o,_⟩;simp only [CA,NA] at m hi q o ⊢;have qU:=((As.gs m.g0)).len
 have Kt:acc.length≤1000000:=by rw [o,List.length_take];omega
 refine(aR) (fun g9=>?_) fun g9=>?_
 ·
  simp at g9
  have s:i<l.length:=by omega
  refine db ?_;obtain⟨gH,kz,jY,K,gG,L,N,O⟩:=Rd.at (As.gr m.g1) s;obtain⟨q1,P,Q,rfl,R⟩:=L;have S:=m.fg O N;have C:Rd RR.ask 4 _ _ q1 P Q l[i].asks:=R;have T:=S.fr (C);have Ci:=J _ (List.getElem_mem s);have X5:=SR.len C;have D:=T.dp RR.ask 102 4;refine nx ?_;refine WP .r (PV.dI jh K rfl rfl (by omega))<|(aY) sM (As.kH D.g2)<|(eN) D fun b5 w2 HM HN U=>?_;refine(cF) EL U fun w3 jO jZ p=>?_;refine(aZ) kn p.b0<|?_;have hsz:=p.size;refine WL.ap rfl rfl p.p1 ((As.gr p.g2)) fun E aef w4 V X8 W=>?_;refine nx ?_;refine WL.s1 W.p1 fun w5 _ X=>?_;refine bK ?_;have G:=X.p1.ba (by simp;omega)
  have Y:∀x∈aI E,w.heap.size≤x:=fun x hx=>by rcases V x hx with h | h;simp [aI] at h;omega
  have mx:=q.trans (bH.dA (F:=fun x=>x∈aI E) Y) (Nat.le_refl _);refine(aY) sM G.b1<|?_;refine WL.go rfl (OX.aP (us:=l[i].row _ _ _) J3 rfl rfl rfl rfl fun b18 w6 aeg aeh=>?_);have u:=G.de aeg aeh;refine WL.ap rfl rfl u.p5 (SR.dd (A:=fun _=>True) (x:=l[i]) (As.gb u.g0) trivial rfl (aG.one _ _ _ _) ⟨_,_,_,rfl,(As.gr u.g1)⟩) fun a19 aei w7 amL amM di=>?_;refine gL ?_;refine ef (i+1,_,acc++[l[i]],a19,(b+1),aei) ⟨di.p6.p1.k2,⟨by omega,mx,by rw [o,List.take_succ_eq_append_getElem s],trivial⟩⟩
 simp at g9
 have hY:acc=l:=by rw [o];exact List.take_of_length_le (by omega)
 subst hY;refine(bs) ?_;exact⟨_,_,_,_,rfl,q,m.p1.drop⟩
end Go.Rc

