/- Walks over the program, part WH. Conditions: as each theorem says. -/
import Derived.Test.YtcongbofepbmeaaGreatDoorFFacts
import Derived.Test.YtcongbofepbmeaaGreatDoorFWB
import Derived.Test.YtcongbofepbmeaaGreatDoorFWD
import Derived.Test.YtcongbofepbmeaaGreatDoorFWF
import Derived.Test.YtcongbofepbmeaaGreatDoorFBe
set_option linter.all false
namespace Go.Rc
open Go Go.Proofs Go.Proofs.Tryz
variable {n r c e2 n1 e1 n2 g eg:Nat}{w:World}{k:Key}{aa:List aA}{A B Z M:Nat→Prop}{a a2 a1 ag:Option Addr}{l:List Rec}{x:cA}
set_option maxHeartbeats 400000
theorem vO{n:Int} :CR prog 43 #[.int .i64 n] w (.string (sy n)):=by
 refine enter func43 rfl ntmps43 rfl<|?_;have c0:aQ [] w w:=aQ.refl _ _;refine(aN) (fun g4=>?_) fun g4=>?_
 ·
  simp at g4
  refine(bm) ?_;exact⟨by unfold sy;rw [if_pos g4],c0⟩
 simp at g4
 refine(bm) ?_;exact⟨by unfold sy;rw [if_neg g4],c0⟩
theorem lR :CR prog 20 #[k.val] w (.string (jJ k)):=by
 refine enter func20 rfl ntmps20 rfl<|?_;have c0:aQ [] w w:=aQ.refl _ _;refine bz ?_;refine WL.go rfl (OX.box rfl rfl rfl fun b1 w1 d b=>?_);have s1:=d.ext;have e:=d.gS c0;have c1:=c0.trans s1;refine eP ?_;refine WP .r (PV.fa du rfl)<|(aU) aK b.range<|(aN) (fun g3=>?_) fun g3=>?_
 ·
  simp at g3
  refine(bm) ?_;exact⟨by unfold jJ;rw [if_pos g3],c1⟩
 simp at g3
 refine(aT) ak b.range<|(bL) Gd (cQ (k:=k)) ?_;rintro _ w2 ⟨rfl,s2⟩;have c2:=c1.trans s2;have b:=b.ext s2;refine(aN) (fun g7=>?_) fun g7=>?_
 ·
  refine bz ?_;refine WP .r (PV.fa du rfl)<|(aU) aK b.range<|(bL) YZ (vO (n:=k.kind)) ?_;rintro _ w3 ⟨rfl,s3⟩;have c3:=c2.trans s3;have b:=b.ext s3;refine(bm) ?_;exact⟨by unfold jJ;rw [if_neg g3,if_pos g7],c3⟩
 refine(bm) ?_;exact⟨by unfold jJ;rw [if_neg g3,if_neg (by simp [g7])],c2⟩
theorem rH(hr:dX A w a r c aa):CR prog 73 #[.slice a r c,k.val] w (.bool (dh aa k)):=by
 refine enter func73 rfl ntmps73 rfl<|?_;have c0:aQ [] w w:=aQ.refl _ _;refine bz ?_;refine WL.go rfl (OX.box rfl rfl rfl fun b3 w1 o d=>?_);have s1:=o.ext;have s:=o.gS c0;have c1:=c0.trans s1;refine cX ?_;refine WC.kV (t:=4) (v:=.bool (dh aa k)) (aQ [] w1) ?_<|?_
 ·
  refine WC.drawn (m:=17) (C:=aQ [] w1) (T:=fun _=>aQ []) (E:=bK [(1,fun v _=>v=.bool (cH k)),(14,fun v _=>v=.int .i64 (number k)),(15,fun v _=>v=(aD aa (number k)).val)]) (aS (⟨fun _ _ _ _ _ _ _ h=>h,⟨fun _ _ _ _ _ _ _ h=>h,⟨fun _ _ _ _ _ _ _ h=>h,trivial⟩⟩⟩)) mixed (by kernel_rfl) (aQ.drew _ _)<|?_;refine DP .r (fun _ b=>PV.Fa ak (d.ext b).range rfl rfl)<|?_;refine DW.e rfl rfl rfl rfl rfl (fun f b i=>OX.call Ie rfl rfl ((hh (k:=k)).mono ?_))<|?_
  ·
   rintro _ wy ⟨rfl,hy⟩;exact⟨_,rfl,b.trans hy,hy,_,rfl,rfl⟩
  rintro _ j _ rfl;refine(jf) (fun g7=>?_) (fun g7=>?_)
  ·
   refine DP .r (fun _ b=>PV.fa du rfl)<|DP .r (fun _ b=>PV.ld1 aK (d.ext b).range rfl rfl)<|(jf) (fun g11=>?_) (fun g11=>?_)
   ·
    refine DP .r (fun _ b=>PV.fa du rfl)<|DP .r (fun _ b=>PV.ld1 aK (d.ext b).range rfl rfl)<|(jf) (fun g16=>?_) (fun g16=>?_)
    ·
     refine(cG) ?_;rintro w2 s2 _;have c2:=c1.trans s2;have d:=d.ext s2;exact(eN) (by unfold dh;simp only [g7,g11,g16];first | rfl | simp) s2
    refine nx ?_;refine DP .r (fun _ b=>PV.Fa ak (d.ext b).range rfl rfl)<|?_;refine DW.e rfl rfl rfl rfl rfl (fun f b i=>OX.call K9 rfl rfl ((js (k:=k)).mono ?_))<|?_
    ·
     rintro _ wy ⟨rfl,hy⟩;exact⟨_,rfl,b.trans hy,hy,_,rfl,rfl⟩
    rintro _ j _ rfl;refine DW.e rfl rfl rfl rfl rfl (fun f b i=>OX.call O3 rfl rfl ((fS (n:=number k) (hr.ext (c1.trans b))).mono ?_))<|?_
    ·
     rintro _ wy ⟨rfl,hy⟩;exact⟨_,rfl,b.trans hy,hy,_,rfl,rfl⟩
    rintro _ j _ rfl;refine DP .r (fun _ b=>PV.Fa ak (d.ext b).range rfl rfl)<|(cG)<|?_;rintro w2 s2 _;have c2:=c1.trans s2;have d:=d.ext s2;refine WP .r (PV.Fg ft (p:=aD aa (number k)) (q:=k) rfl rfl)<|?_;exact(eN) (by unfold dh;simp only [g7,g11,g16];first | rfl | simp) s2
   refine gw ?_;refine DP .r (fun _ b=>PV.Fa ak (d.ext b).range rfl rfl)<|?_;refine DW.e rfl rfl rfl rfl rfl (fun f b i=>OX.call K9 rfl rfl ((js (k:=k)).mono ?_))<|?_
   ·
    rintro _ wy ⟨rfl,hy⟩;exact⟨_,rfl,b.trans hy,hy,_,rfl,rfl⟩
   rintro _ j _ rfl;refine DW.e rfl rfl rfl rfl rfl (fun f b i=>OX.call O3 rfl rfl ((fS (n:=number k) (hr.ext (c1.trans b))).mono ?_))<|?_
   ·
    rintro _ wy ⟨rfl,hy⟩;exact⟨_,rfl,b.trans hy,hy,_,rfl,rfl⟩
   rintro _ j _ rfl;refine DP .r (fun _ b=>PV.Fa ak (d.ext b).range rfl rfl)<|(cG)<|?_;rintro w2 s2 _;have c2:=c1.trans s2;have d:=d.ext s2;refine WP .r (PV.Fg ft (p:=aD aa (number k)) (q:=k) rfl rfl)<|?_;exact(eN) (by unfold dh;simp only [g7,g11];first | rfl | simp) s2
  refine aO ?_;refine(cG) ?_;rintro w2 s2 _;have c2:=c1.trans s2;have d:=d.ext s2;exact(eN) (by unfold dh;simp only [g7];first | rfl | simp) s2
 intro w2 s2;have c2:=c1.trans s2;have d:=d.ext s2;refine(bm) ?_;exact⟨rfl,c2⟩
theorem dO{ae:List ByteArray}{C:Nat→Prop}{r2:Nat}(ht:gV prog A w) (hr:dX B w a r c aa) (hl:Strs C w a2 r2 e2 ae) (hb:∀x∈aa,0≤x.c∧x.c≤65535∧x.asks.length≤1000) (hk:cZ k):CR prog 23 #[.slice a r c,k.val,.slice a2 r2 e2] w ((aL aa k ae).val):=by
 refine enter func23 rfl ntmps23 rfl<|?_;have c0:aQ [] w w:=aQ.refl _ _;refine bz ?_;refine WL.go rfl (OX.box rfl rfl rfl fun b4 w1 o b=>?_);have s1:=o.ext;have u:=o.gS c0;have c1:=c0.trans s1;refine WL.go rfl (OX.alloc vM rfl fun p w2 f d=>?_);have s2:=f.ext;have q:=f.gS c1;have i:b4≠p:=f.ne b.lt;have y:p≠b4:=Ne.symm i;have c2:=c1.trans s2;have b:=b.ext s2;refine cS ?_;refine WC.jH (t:=7) (v:=.bool (decide (k.kind=31) || decide (k.kind=32))) (fun s=>w2=s) ?_ ?_
 ·
  refine nx ?_;refine WP .r (PV.fa du rfl)<|(aU) aK b.range<|(bW) (fun g11=>?_) (fun g11=>?_)
  ·
   exact(br) (by simp only [g11];first | rfl | simp) rfl
  refine WP .r (PV.fa du rfl)<|(aU) aK b.range<|?_;exact(br) (by simp only [g11];first | rfl | simp) rfl
 rintro _ rfl;refine(aN) (fun g7=>?_) fun g7=>?_
 ·
  simp at g7
  have j:aL aa k ae=bQ aa k ae:=by unfold aL;rw [if_pos g7]
  refine(aT) ak b.range<|(bL) Y3 (Dq (k:=k) (ht.ext c2) (hr.ext c2) (hl.ext c2) hb) ?_;rintro _ w3 ⟨rfl,s3⟩;have c3:=c2.trans s3;have b:=b.ext s3;have d:=d.ext s3;refine WL.go rfl (OX.lW hY d rfl rfl rfl rfl rfl fun w4 e _ d=>?_);have c4:=c3.own e q;have b:=b.bT e (by simp [i]);refine(ky) iT d.range<|?_;rw [j];exact⟨rfl,c4⟩
 simp at g7
 have j:aL aa k ae=⟨true,⟨#[]⟩,eS⟩:=by unfold aL;rw [if_neg (by omega)]
 refine nx ?_;refine WC.jH (t:=20) (v:=.bool (aB k || (decide (k.kind<1) || decide (22<k.kind)))) (aQ [] w2) ?_<|?_
 ·
  refine(aT) ak b.range<|(bL) Ge (de (k:=k)) ?_;rintro _ w3 ⟨rfl,s3⟩;have c3:=c2.trans s3;have b:=b.ext s3;have d:=d.ext s3;refine(bW) (fun g23=>?_) (fun g23=>?_)
  ·
   exact(br) (by simp only [g23];first | rfl | simp) s3
  refine WP .r (PV.fa du rfl)<|(aU) aK b.range<|(bW) (fun m=>?_) (fun m=>?_)
  ·
   exact(br) (by simp only [g23,m];first | rfl | simp) s3
  refine WP .r (PV.fa du rfl)<|(aU) aK b.range<|?_;exact(br) (by simp only [g23,m];first | rfl | simp) s3
 intro w3 s3;have c3:=c2.trans s3;have b:=b.ext s3;have d:=d.ext s3;refine(aN) (fun g20=>?_) fun g20=>?_
 ·
  skip
  refine bz ?_;refine WP .r (PV.bs (us:=[.bool true,.string ⟨#[]⟩,.int .i64 0,.string ⟨#[]⟩]) pq rfl rfl rfl)<|?_;refine WL.go rfl (OX.lW hY d rfl rfl rfl rfl rfl fun w4 e _ d=>?_);have c4:=c3.own e q;have b:=b.bT e (by simp [i]);refine(ky) iT d.range<|?_;rw [j];exact⟨rfl,c4⟩
 exfalso;simp at g20;rcases hk with h | h <;> omega
theorem uD{rev:Int}(hl:Rd RR.ed 8 Z w a n c l):CR prog 575 #[.slice a n c,.int .i64 rev,k.val] w (.bool (cW l rev k)):=by
 refine enter func575 rfl ntmps575 rfl<|?_;have c0:aQ [] w w:=aQ.refl _ _;refine bz ?_;refine WL.go rfl (OX.box rfl rfl rfl fun b5 w1 i b=>?_);have s1:=i.ext;have q:=i.gS c0;have c1:=c0.trans s1;refine(aT) ak b.range<|(bL) kl (dN (k:=k) (hl.ext c1)) ?_;rintro _ w2 ⟨f1,f2,f3,rfl,s2⟩;have c2:=c1.trans s2;have b:=b.ext s2;refine cL ?_;refine WL.go rfl (OX.alloc oG rfl fun j w3 f e=>?_);have s3:=f.ext;have p:=f.gS c2;have m:b5≠j:=f.ne b.lt;have s:j≠b5:=Ne.symm m;have c3:=c2.trans s3;have b:=b.ext s3;refine WL.go rfl (OX.lW gp e rfl rfl rfl rfl rfl fun w4 o _ e=>?_);have c4:=c3.own o p;have b:=b.bT o (by simp [m]);refine cX ?_;refine WC.kV (t:=6) (v:=.bool (cW l rev k)) (aQ [] w4) ?_<|?_
 ·
  refine(bW) (fun g16=>?_) (fun g16=>?_)
  ·
   refine(aT) ak b.range<|(bL) Gd (cQ (k:=k)) ?_;rintro _ w5 ⟨rfl,d⟩;have c5:=c4.trans d;have b:=b.ext d;have e:=e.ext d;refine(bW) (fun g20=>?_) (fun g20=>?_)
   ·
    refine WP .r (PV.fa oJ rfl)<|(aU) aK e.range<|(bW) (fun h=>?_) (fun h=>?_)
    ·
     refine WP .r (PV.fa Dj rfl)<|(aU) dM e.range<|?_;exact(eN) (by unfold cW;simp only [g16,g20,h];first | rfl | simp) d
    exact(eN) (by unfold cW;simp only [g16,g20,h];first | rfl | simp) d
   exact(eN) (by unfold cW;simp only [g16,g20];first | rfl | simp) d
  refine aO ?_;exact(eN) (by unfold cW;simp only [g16];first | rfl | simp) (aQ.refl _ _)
 intro w5 d;have c5:=c4.trans d;have b:=b.ext d;have e:=e.ext d;refine(bm) ?_;exact⟨rfl,c5⟩
theorem Dz(hi:Rd RR.az 4 Z w a1 n1 e1 x.ad) (hr:Rd RR.ed 8 Z w a2 n2 e2 x.ah) {k:Key}:CR prog 577 #[.agg (x.row a1 n1 e1 a2 n2 e2).toArray,k.val] w (.tuple #[.string (te x k),.bool (mB x k)]):=by
 refine enter func577 rfl ntmps577 rfl<|?_;have c0:aQ [] w w:=aQ.refl _ _;refine bz ?_;refine WL.go rfl (OX.box rfl rfl rfl fun b2 w1 q b=>?_);have s1:=q.ext;have E:=q.gS c0;have c1:=c0.trans s1;refine WL.go rfl (OX.box rfl rfl rfl fun b3 w2 m d=>?_);have s2:=m.ext;have F:=m.gS c1;have z:b2≠b3:=m.ne b.lt;have G:b3≠b2:=Ne.symm z;have c2:=c1.trans s2;have b:=b.ext s2;refine(aT) ak d.range<|(bL) Ge (de (k:=k)) ?_;rintro _ w3 ⟨rfl,s3⟩;have c3:=c2.trans s3;have b:=b.ext s3;have d:=d.ext s3;refine(aN) (fun g9=>?_) fun g9=>?_
 ·
  refine(aT) aJ b.range<|(aT) ak d.range<|(bL) Tn (qx (k:=k) (hi.ext c3) (hr.ext c3)) ?_;rintro _ w4 ⟨rfl,e⟩;have c4:=c3.trans e;have b:=b.ext e;have d:=d.ext e;refine(qX) ?_;exact⟨by unfold te mB;rw [if_pos g9,g9];rfl,c4⟩
 refine cS ?_;refine WP .r (PV.fa qo rfl)<|(aU) dL b.range<|(aT) ak d.range<|(bL) kl (dN (k:=k) (hr.ext c3)) ?_;rintro _ w4 ⟨f1,f2,f3,rfl,e⟩;have c4:=c3.trans e;have b:=b.ext e;have d:=d.ext e;refine cL ?_;refine WL.go rfl (OX.alloc oG rfl fun h w5 i j=>?_);have o:=i.ext;have C:=i.gS c4;have s:b2≠h:=i.ne b.lt;have H:h≠b2:=Ne.symm s;have u:b3≠h:=i.ne d.lt;have I:h≠b3:=Ne.symm u;have c5:=c4.trans o;have b:=b.ext o;have d:=d.ext o;refine WL.go rfl (OX.lW gp j rfl rfl rfl rfl rfl fun w6 p _ j=>?_);have y:=c5.own p C;have b:=b.bT p (by simp [s]);have d:=d.bT p (by simp [u]);refine cX ?_;refine WC.jH (t:=27) (v:=.bool (mB x k)) (fun D=>w6=D) ?_ ?_
 ·
  refine(bW) (fun g21=>?_) (fun g21=>?_)
  ·
   refine WP .r (PV.fa oJ rfl)<|(aU) aK j.range<|?_;refine WP .r (PV.fa kI rfl)<|(aU) aK b.range<|?_;exact(br) (by unfold mB;simp only [g9,g21];first | rfl | simp) rfl
  exact(br) (by unfold mB;simp only [g9,g21];first | rfl | simp) rfl
 rintro _ rfl;refine(aN) (fun f=>?_) fun f=>?_
 ·
  refine bz ?_;refine WP .r (PV.fa uh rfl)<|(aU) eY j.range<|(qX) ?_;exact⟨by unfold te;rw [if_neg (by simp [g9]),if_pos f,f],y⟩
 refine(qX) ?_;exact⟨by unfold te;rw [if_neg (by simp [g9]),if_neg (by simp [f]),f],y⟩
theorem uE(hi:Rd RR.az 4 Z w a1 n1 e1 x.ad) (hr:Rd RR.ed 8 Z w a2 n2 e2 x.ah) {k:Key}{v:ByteArray}{reads:List Key}{a:Option Addr}{n e:Nat}(hk:Rd RR.key 2 Z w a n e reads):Calls prog 356 #[.agg (x.row a1 n1 e1 a2 n2 e2).toArray,k.val,.string v,.slice a n e] w fun en w'=>en=.returned (.agg ((cP x k v reads).row a n e).toArray)∧aQ [] w w':=by
 have hlen:=SR.len hk;have hle:=SR.le hk;refine enter func356 rfl ntmps356 rfl<|?_;have c0:aQ [] w w:=aQ.refl _ _;refine bz ?_;refine WL.go rfl (OX.box rfl rfl rfl fun b4 w1 P b=>?_);have s1:=P.ext;have uw:=P.gS c0;have c1:=c0.trans s1;refine WL.go rfl (OX.box rfl rfl rfl fun b5 w2 G d=>?_);have s2:=G.ext;have ZJ:=G.gS c1;have DA:b4≠b5:=G.ne b.lt;have Pm:b5≠b4:=Ne.symm DA;have c2:=c1.trans s2;have b:=b.ext s2;refine WL.go rfl (OX.alloc oG rfl fun m w3 D f=>?_);have s3:=D.ext;have Q:=D.gS c2;have H:b4≠m:=D.ne b.lt;have Dt:m≠b4:=Ne.symm H;have I:b5≠m:=D.ne d.lt;have Pn:m≠b5:=Ne.symm I;have c3:=c2.trans s3;have b:=b.ext s3;have d:=d.ext s3;refine(aT) ak d.range<|bz ?_;refine WP .r (PV.fa kI rfl)<|(aU) aK b.range<|?_;refine WP .r (PV.fa kI rfl)<|(aU) aK b.range<|nx ?_;refine WP .r (PV.gE eI rfl)<|nx ?_;refine WP .r (PV.bs (us:=(Rec.mk k v reads x.ab x.ab (1+(n:Int)) false).row a n e) S2 rfl rfl rfl)<|?_;refine WL.go rfl (OX.alloc oG rfl fun o w4 s h=>?_);have E:=s.ext;have R:=s.gS c3;have J:b4≠o:=s.ne b.lt;have Po:o≠b4:=Ne.symm J;have K:b5≠o:=s.ne d.lt;have Pp:o≠b5:=Ne.symm K;have L:m≠o:=s.ne f.lt;have S:o≠m:=Ne.symm L;have c4:=c3.trans E;have b:=b.ext E;have d:=d.ext E;have f:=f.ext E;refine WL.go rfl (OX.lW gp h rfl rfl rfl rfl rfl fun w5 F _ h=>?_);have c5:=c4.own F R;have b:=b.bT F (by simp [J]);have d:=d.bT F (by simp [K]);have f:=f.bT F (by simp [L]);refine cS ?_;refine WP .r (PV.fa qo rfl)<|(aU) dL b.range<|(aT) ak d.range<|(bL) kl (dN (k:=k) (hr.ext c5)) ?_;rintro _ w6 ⟨f1,f2,f3,rfl,u⟩;have T:=c5.trans u;have b:=b.ext u;have d:=d.ext u;have f:=f.ext u;have h:=h.ext u;refine cL ?_;refine WL.go rfl (OX.alloc oG rfl fun p w7 q j=>?_);have y:=q.ext;have yv:=q.gS T;have U:b4≠p:=q.ne b.lt;have AZ:p≠b4:=Ne.symm U;have V:b5≠p:=q.ne d.lt;have MH:p≠b5:=Ne.symm V;have W:m≠p:=q.ne f.lt;have X:p≠m:=Ne.symm W;have Y:o≠p:=q.ne h.lt;have Bf:p≠o:=Ne.symm Y;have c7:=T.trans y;have b:=b.ext y;have d:=d.ext y;have f:=f.ext y;have h:=h.ext y;refine WL.go rfl (OX.lW gp j rfl rfl rfl rfl rfl fun w8 z _ j=>?_);have c8:=c7.own z yv;have b:=b.bT z (by simp [U]);have d:=d.bT z (by simp [V]);have f:=f.bT z (by simp [W]);have h:=h.bT z (by simp [Y]);refine cX ?_;refine WC.jH (t:=36) (v:=.bool ((aH x.ah k).isSome && decide ((aF x.ah k).value=v))) (fun wx=>w8=wx) ?_ ?_
 ·
  refine(bW) (fun N=>?_) (fun N=>?_)
  ·
   refine WP .r (PV.fa uh rfl)<|(aU) eY j.range<|?_;exact(br) (by simp only [N];first | rfl | simp) rfl
  exact(br) (by simp only [N];first | rfl | simp) rfl
 rintro _ rfl;refine(aN) (fun O=>?_) fun O=>?_
 ·
  have hm:cP x k v reads=⟨k,v,reads,(aF x.ah k).changed,x.ab,1+(reads.length:Int),false⟩:=by unfold cP;rw [if_pos O]
  refine nx ?_;refine WP .r (PV.fa ui rfl)<|(aU) aK j.range<|?_;refine WP .r (PV.fa ui rfl)<|?_;refine WL.go rfl (OX.st Jr h rfl rfl (by first | (simp [nth];done) | exact R1 rfl) rfl rfl fun w9 i _ h=>?_);have c9:=c8.own i R;have b:=b.bT i (by simp [J]);have d:=d.bT i (by simp [K]);have f:=f.bT i (by simp [L]);have j:=j.bT i (by simp [Bf]);refine(aT) dA h.range<|?_;refine WL.go rfl (OX.lW gp f rfl rfl rfl rfl rfl fun jB C _ f=>?_);have c10:=c9.own C Q;have b:=b.bT C (by simp [H]);have d:=d.bT C (by simp [I]);have h:=h.bT C (by simp [S]);have j:=j.bT C (by simp [X]);refine(ky) dA f.range<|?_;exact⟨by rw [hm,← hlen] <;> rfl,c10⟩
 have hm:cP x k v reads=⟨k,v,reads,x.ab,x.ab,1+(reads.length:Int),false⟩:=by unfold cP;rw [if_neg (by simp [O])]
 refine(aT) dA h.range<|?_;refine WL.go rfl (OX.lW gp f rfl rfl rfl rfl rfl fun w9 i _ f=>?_);have c9:=c8.own i Q;have b:=b.bT i (by simp [H]);have d:=d.bT i (by simp [I]);have h:=h.bT i (by simp [S]);have j:=j.bT i (by simp [X]);refine(ky) dA f.range<|?_;exact⟨by rw [hm,← hlen] <;> rfl,c9⟩
theorem kL{goals:List Key}{ar:Option Addr}(hu:dX A w ar r c aa) (hi:Rd RR.az 4 Z w a1 n1 e1 x.ad) (hr:Rd RR.ed 8 Z w a2 n2 e2 x.ah) (m:xK B w ag g eg goals):CR prog 99 #[.slice ar r c,.agg (x.row a1 n1 e1 a2 n2 e2).toArray,.slice ag g eg] w (.int .i64 (fF aa x goals)):=by
 have hlen:=SR.len m;have hle:=SR.le m;refine enter func99 rfl ntmps99 rfl<|?_;have c0:aQ [] w w:=aQ.refl _ _;refine bz ?_;refine WL.go rfl (OX.box rfl rfl rfl fun b4 w1 s d=>?_);have s1:=s.ext;have Q:=s.gS c0;have c1:=c0.trans s1;refine(bL) O6 (mR (hu.ext c1)) ?_;rintro _ w2 ⟨bv,rfl,u,s2⟩;have c2:=c1.trans s2;have d:=d.ext s2;refine(aN) (fun g9=>?_) fun g9=>?_
 ·
  simp at g9
  have b:fF aa x goals=41:=by unfold fF;rw [if_pos (by rw [← u];simp [g9])]
  refine(bm) ?_;exact⟨by rw [b],c2⟩
 simp at g9
 have o:=u.1 g9;refine(aT) aJ d.range<|(bL) K7 (jt (hi.ext c2) (hr.ext c2)) ?_;rintro _ w3 ⟨R,rfl,v,s3⟩;have c3:=c2.trans s3;have d:=d.ext s3;refine(aN) (fun g13=>?_) fun g13=>?_
 ·
  simp at g13
  have b:fF aa x goals=42:=by unfold fF;rw [if_neg (by simpa using o),if_pos (by rw [← v];simp [g13])]
  refine(bm) ?_;exact⟨by rw [b],c3⟩
 simp at g13
 have z:=v.1 g13;refine cL ?_;refine WP .r (PV.gE eI rfl)<|(aN) (fun g17=>?_) fun g17=>?_
 ·
  simp at g17
  have b:fF aa x goals=3:=by unfold fF;rw [if_neg (by simpa using o),if_neg (by simpa using z),if_pos (by omega)]
  refine(bm) ?_;exact⟨by rw [b],c3⟩
 simp at g17
 have b:fF aa x goals=if goals.all (dh aa) then 0 else 40:=by unfold fF;rw [if_neg (by simpa using o),if_neg (by simpa using z),if_neg (by omega)]
 refine eP ?_;refine WP .r (PV.gE eI rfl)<|cX ?_;refine WC.loop (σ:=Nat) (dm:=fun i=>[(0,.slice ar r c),(21,.slice ag g eg),(22,.int .i64 (g:Int)),(23,.int .i64 (i:Int))]) (I:=fun i w'=>aQ [] w w'∧i≤g∧∀j y,j<i→goals[j]?=some y→dh aa y=true) (μ:=fun i=>g - i) 0 Sub.t ⟨c3,by omega,fun j y h=>by omega⟩ ?_;rintro i w4 ⟨c4,hP,C⟩;refine(aN) (fun g24=>?_) fun g24=>?_
 ·
  simp at g24
  have p:i<goals.length:=by omega
  obtain⟨S,T,U,H,_,J,q,_⟩:=SR.at m (ai p);subst J;refine cS ?_;have q:=aV q c4 (by simp);refine nx ?_;refine WP .r (PV.ei eI H rfl rfl (by omega))<|(aT) ak q<|?_;refine WL.go rfl (OX.alloc Dh rfl fun V w5 D e=>?_);have K:=D.ext;have L:=D.gS c4;have c5:=c4.trans K;refine WL.go rfl (OX.lW gR e rfl rfl rfl rfl rfl fun w6 N _ e=>?_);have E:=c5.own N L;refine(aT) ak e.range<|(bL) Tr (rH (k:=goals[i]) (hu.ext E)) ?_;rintro _ w7 ⟨rfl,F⟩;have G:=E.trans F;have e:=e.ext F;refine(aN) (fun f=>?_) fun f=>?_
  ·
   simp at f
   have b:fF aa x goals=40:=by rw [b,if_neg];rw [List.all_eq_true];intro h;have:=h _ (List.getElem_mem p);rw [f] at this;cases this
   refine(bm) ?_;exact⟨by rw [b],G⟩
  simp at f
  refine eP ?_;refine EX.again (i+1) (Sub.k2 rfl rfl<|Sub.cons rfl<|Sub.ib rfl (by simp)<|Sub.nil) ⟨G,by omega,bO (P:=fun _ y=>dh aa y=true) p C f⟩ (by omega)
 simp at g24
 have b:fF aa x goals=0:=by rw [b,if_pos];rw [List.all_eq_true];intro y hy;obtain⟨j,O,rfl⟩:=List.mem_iff_getElem.1 hy;exact C j _ (by omega) (ai O)
 refine(bm) ?_;exact⟨by rw [b],c4⟩
theorem px{group:List Key}(gg:St w M Z w []) (hl:Rd RR.ed 8 Z w a n c l) (D:Rd RR.key 2 Z w ag g eg group) (hb:∀i,(((group.take i).flatMap fun m=>dZ group m (aF l m).reads)).length≤100000000):Calls prog 352 #[.slice a n c,.slice ag g eg] w fun e w'=>∃O P Q Z',e=.returned (.slice O P Q)∧bA w.heap.size Z Z'∧St w M Z' w' [As.os RR.JY 403 4 O P Q (ct l group)]:=by
 have hlen:=D.len;have hle:=D.le;refine enter func352 rfl ntmps352 rfl<|?_;have aR:=gg;have st1:=aR.fr hl;have st2:=st1.fr D;have j5:=st2.df RR.JY 403 4;refine aO ?_;refine eP ?_;refine WC.ie (σ:=Nat × (Nat→Prop) × (List vx) × (Option Addr) × Nat × Nat) (dm:=fun(i,o,acc,d,b,f)=>[(0,.slice a n c),(1,.slice ag g eg),(5,.slice d b f),(12,.slice ag g eg),(13,.int .i64 (g:Int)),(14,.int .i64 (i:Int))]) (F:=fun(i,o,acc,d,b,f)=>[As.os RR.JY 403 4 d b f (acc)]) (I:=fun(i,o,acc,d,b,f)=>(i≤g)∧(bA w.heap.size Z o)∧(acc=(group.take i).flatMap fun m=>dZ group m (aF l m).reads)∧True) (μ:=fun(i,o,acc,d,b,f)=>g - i) (Zf:=fun(i,o,acc,d,b,f)=>o) (0,Z,[],none,0,0) (j5) Sub.t (⟨by omega,bA.refl _ _,by simp,trivial⟩)<|?_;rintro⟨i,o,acc,d,b,f⟩ w1 y ⟨hi,E,p,_⟩;simp only [CA,NA] at y hi E p ⊢;refine(aN) (fun g15=>?_) fun g15=>?_
 ·
  simp at g15
  have R:i<group.length:=by omega
  refine cS ?_;obtain⟨ia,lP,lk,ck,gP,G,e5,e6⟩:=Rd.at (As.gr y.g1) R;have G:=RR.bN G;subst G;have S:=y.fg e6 e5;refine nx ?_;refine WP .r (PV.ei eI ck rfl rfl (by omega))<|(aT) ak (As.ma S.g0)<|(ff) S fun b7 w2 Um Un jC=>?_;refine(cD) gR jC fun w3 ko ly T=>?_;refine(aT) ak T.b0<|?_;have z:=T;refine(bL) kl (iW (k:=group[i]) z.e0 (As.gr z.g4)) ?_;rintro _ w4 ⟨f1,f2,f3,rfl,hq4,U⟩;have jc:=St.lr z U;have Me:=St.bB U;have hsz:=z.size;have V:=jc.a8 (by omega);have nK:=E.trans (bA.dx (F:=fun x=>x∈aG f1) Me) hsz;have Uw:=((As.gr V.g0)).len;refine(ff) V fun b8 w5 Js Uo dw=>?_;refine(cD) gp dw fun w6 r8 mr W=>?_;refine(aU) eZ W.b0<|cS ?_;refine WC.bd (σ:=Nat × (List vx) × (Option Addr) × Nat × Nat) (dm:=fun(j,h,d,b,f)=>[(0,.slice a n c),(1,.slice ag g eg),(5,.slice d b f),(7,.pointer (some ⟨b7,0,none⟩)),(12,.slice ag g eg),(13,.int .i64 (g:Int)),(14,.int .i64 (i:Int)),(25,.slice f1 f2 f3),(26,.int .i64 (f2:Int)),(27,.int .i64 (j:Int))]) (F:=fun(j,h,d,b,f)=>[As.os RR.JY 403 4 d b f (h)]) (I:=fun(j,h,d,b,f)=>(j≤f2)∧(h=acc++dZ group group[i] ((aF l group[i]).reads.take j))∧True) (μ:=fun(j,h,d,b,f)=>f2 - j) (0,acc,d,b,f) (W.p4) Sub.t (⟨by omega,by simp [dZ],trivial⟩)<|?_;rintro⟨j,h,d,b,f⟩ w7 q ⟨hj,s,_⟩;simp only [CA,NA] at q hj s ⊢;have r7:=((As.gs q.g0)).len;have GU:=hb i;rw [← p] at GU;have Lc:=o7 group group[i] ((aF l group[i]).reads.take j)
  have htl:h.length≤100100000:=by rw [s,List.length_append];rw [List.length_take] at Lc;omega
  refine(aN) (fun H=>?_) fun H=>?_
  ·
   simp at H
   have J:j<(aF l group[i]).reads.length:=by omega
   refine cS ?_;obtain⟨nL,DB,Bg,fU,rI,K,py,mT⟩:=Rd.at (As.gr q.g2) J;have K:=RR.bN K;subst K;have X:=q.fg mT py;refine nx ?_;refine WP .r (PV.ei eI fU rfl rfl (by omega))<|(aT) ak (As.ma X.g0)<|(ff) X fun b11 w8 ZK ZL fV=>?_;refine(cD) gR fV fun w9 Bc wQ L=>?_;refine(aT) ak L.b0<|(dH) (qv (k:=(aF l group[i]).reads[j]) (As.gr L.g7)) L fun jB s10 C=>?_;refine(aN) (fun u=>?_) fun u=>?_
   ·
    simp at u
    have v:=nT (group:=group) (m:=group[i]) J;rw [if_neg u] at v;refine(aT) ak C.b5<|(aT) ak C.b0<|?_;refine WP .r (PV.bs (us:=(vx.mk group[i] (aF l group[i]).reads[j]).cells) S7 rfl rfl rfl)<|?_;refine WL.go rfl (OX.aP (us:=(vx.mk group[i] (aF l group[i]).reads[j]).cells) Kx rfl rfl rfl rfl fun b39 iV ZM ZN=>?_);have Y:=C.dy ZM ZN;refine WL.ap rfl rfl Y.p3 (SR.dn (A:=fun _=>True) (x:=vx.mk group[i] (aF l group[i]).reads[j]) (As.gb Y.g0) trivial rfl (by simp [vx.cells,Value.oneCell']) rfl) fun a40 ZO mu ahv Ux dV=>?_;refine iC ?_;refine dY (j+1,_,a40,(b+1),ZO) ⟨dV.p1.drop.p1.drop.p1.drop,⟨by omega,by rw [v,s,List.append_assoc],trivial⟩⟩
   simp at u
   have v:=nT (group:=group) (m:=group[i]) J;rw [if_pos u] at v;refine eP ?_;refine dY (j+1,_,d,b,f) ⟨C.drop.drop,⟨by omega,by rw [v,s],trivial⟩⟩
  simp at H
  have N:(aF l group[i]).reads.take j=(aF l group[i]).reads:=List.take_of_length_le (by omega);refine j8 ?_;refine dY (i+1,_,h,d,b,f) ⟨q.p6.p6.p2.k3,⟨by omega,nK,by rw [s,N,p,List.take_succ_eq_append_getElem R];simp only [List.flatMap_append,List.flatMap_cons,List.flatMap_nil,List.append_nil],trivial⟩⟩
 simp at g15
 have N:group.take i=group:=List.take_of_length_le (by omega);rw [N] at p;subst p;refine(bm) ?_;exact⟨_,_,_,_,rfl,E,y.p1.drop.p1.drop⟩
set_option maxHeartbeats 400000
theorem uF{l:List cY}(hl:Rd RR.me 6 Z w a r c l):CR prog 354 #[.slice a r c,k.val] w (.bool (hK l k)):=by
 have hle:=SR.le hl;have hlen:=SR.len hl;refine enter func354 rfl ntmps354 rfl<|?_;have c0:aQ [] w w:=aQ.refl _ _;refine bz ?_;refine WL.go rfl (OX.box rfl rfl rfl fun b3 w1 s b=>?_);have s1:=s.ext;have G:=s.gS c0;have c1:=c0.trans s1;refine eP ?_;refine WP .r (PV.gE AL rfl)<|cX ?_;refine WC.loop (σ:=Nat) (dm:=fun i=>[(3,.pointer (some ⟨b3,0,none⟩)),(7,.slice a r c),(8,.int .i64 (r:Int)),(9,.int .i64 (i:Int))]) (I:=fun i w'=>aQ [] w w'∧cC w' b3 29 [.int .i64 k.kind,.string k.text]∧i≤r∧∀j y,j<i→l[j]?=some y→decide (cY.key y=k)=false) (μ:=fun i=>r - i) 0 Sub.t ⟨c1,b,by omega,fun j y h=>by omega⟩ ?_;rintro i w2 ⟨c2,b,hi,u⟩;refine(aN) (fun g10=>?_) fun g10=>?_
 ·
  simp at g10
  have d:i<l.length:=by omega
  refine cS ?_;obtain⟨H,J,K,D,_,⟨q1,L,N,O,Q,R,rfl,_⟩,e,_⟩:=SR.at hl (ai d);have e:=aV e c2 (by simp);refine nx ?_;refine WP .r (PV.ei AL D rfl rfl (by omega))<|(aT) qm e<|?_;refine WL.go rfl (OX.alloc Mn rfl fun v w3 f m=>?_);have s3:=f.ext;have E:=f.gS c2;have z:b3≠v:=f.ne b.lt;have S:v≠b3:=Ne.symm z;have c3:=c2.trans s3;have b:=b.ext s3;refine WL.go rfl (OX.lW EN m rfl rfl rfl rfl rfl fun w4 C _ m=>?_);have c4:=c3.own C E;have b:=b.bT C (by simp [z]);refine cX ?_;refine WP .r (PV.fa EO rfl)<|(il) ak m.range<|(aT) ak b.range<|?_;refine WP .r (PV.Fg ft (p:=l[i].key) (q:=k) rfl rfl)<|(aN) (fun g16=>?_) fun g16=>?_
  ·
   have o:hK l k=true:=List.any_eq_true.2 ⟨_,List.getElem_mem d,g16⟩;refine(bm) ?_;exact⟨by rw [o],c4⟩
  skip
  refine eP ?_;refine EX.again (i+1) (Sub.k2 rfl rfl<|Sub.cons rfl<|Sub.ib rfl (by simp)<|Sub.nil) ⟨c4,b,by omega,bO (P:=fun _ (y:cY)=>decide (y.key=k)=false) d u g16⟩ (by omega)
 simp at g10
 have o:hK l k=false:=List.any_eq_false.2 fun y hy=>by obtain⟨j,F,rfl⟩:=List.mem_iff_getElem.1 hy;simpa using u j _ (by omega) (ai F)
 refine(bm) ?_;exact⟨by rw [o],c2⟩
theorem pz(hi:Rd RR.az 4 Z w a1 n1 e1 x.ad) (hr:Rd RR.ed 8 Z w a2 n2 e2 x.ah) {l:List cY}{k:Key}{a:Option Addr}{n c:Nat}(hl:Rd RR.me 6 Z w a n c l):CR prog 178 #[.agg (x.row a1 n1 e1 a2 n2 e2).toArray,.slice a n c,k.val] w (.bool (eF x l k)):=by
 refine enter func178 rfl ntmps178 rfl<|?_;have c0:aQ [] w w:=aQ.refl _ _;refine bz ?_;refine WL.go rfl (OX.box rfl rfl rfl fun b3 w1 s b=>?_);have s1:=s.ext;have F:=s.gS c0;have c1:=c0.trans s1;refine WL.go rfl (OX.box rfl rfl rfl fun b5 w2 j d=>?_);have s2:=j.ext;have G:=j.gS c1;have z:b3≠b5:=j.ne b.lt;have H:b5≠b3:=Ne.symm z;have c2:=c1.trans s2;have b:=b.ext s2;refine cS ?_;refine WC.jH (t:=15) (v:=.bool (aB k || hK l k)) (aQ [] w2) ?_<|?_
 ·
  refine(aT) ak d.range<|(bL) Ge (de (k:=k)) ?_;rintro _ w3 ⟨rfl,s3⟩;have c3:=c2.trans s3;have b:=b.ext s3;have d:=d.ext s3;refine(bW) (fun g11=>?_) (fun g11=>?_)
  ·
   exact(br) (by simp only [g11];first | rfl | simp) s3
  refine(aT) ak d.range<|(bL) Ik (uF (k:=k) (hl.ext c3)) ?_;rintro _ w4 ⟨rfl,e⟩;have c4:=c3.trans e;have b:=b.ext e;have d:=d.ext e;exact(br) (by simp only [g11];first | rfl | simp) (s3.trans e)
 intro w3 s3;have c3:=c2.trans s3;have b:=b.ext s3;have d:=d.ext s3;refine(aN) (fun g15=>?_) fun g15=>?_
 ·
  have f:eF x l k=false:=by unfold eF;rw [g15];rfl
  refine(bm) ?_;exact⟨by rw [f],c3⟩
 have f:eF x l k=(!(aH x.ah k).isSome || decide ((aF x.ah k).av≠x.ab)):=by unfold eF;rw [g15];rfl
 refine cX ?_;refine WP .r (PV.fa qo rfl)<|(aU) dL b.range<|(aT) ak d.range<|(bL) kl (dN (k:=k) (hr.ext c3)) ?_;rintro _ w4 ⟨f1,f2,f3,rfl,e⟩;have c4:=c3.trans e;have b:=b.ext e;have d:=d.ext e;refine cL ?_;refine WL.go rfl (OX.alloc oG rfl fun h w5 i m=>?_);have o:=i.ext;have C:=i.gS c4;have u:b3≠h:=i.ne b.lt;have I:h≠b3:=Ne.symm u;have y:b5≠h:=i.ne d.lt;have J:h≠b5:=Ne.symm y;have c5:=c4.trans o;have b:=b.ext o;have d:=d.ext o;refine WL.go rfl (OX.lW gp m rfl rfl rfl rfl rfl fun w6 p _ m=>?_);have D:=c5.own p C;have b:=b.bT p (by simp [u]);have d:=d.bT p (by simp [y]);refine cX ?_;refine WC.kV (t:=6) (v:=.bool (eF x l k)) (fun E=>w6=E) ?_ ?_
 ·
  refine(bW) (fun q=>?_) (fun q=>?_)
  ·
   exact(eN) (by rw [f];simp only [q];first | rfl | simp) rfl
  refine WP .r (PV.fa oJ rfl)<|(aU) aK m.range<|?_;refine WP .r (PV.fa kI rfl)<|(aU) aK b.range<|?_;exact(eN) (by rw [f];simp only [q];first | rfl | simp) rfl
 rintro _ rfl;refine(bm) ?_;exact⟨rfl,D⟩
theorem uG(hi:Rd RR.az 4 Z w a1 n1 e1 x.ad) (hr:Rd RR.ed 8 Z w a2 n2 e2 x.ah) {l others:List cY}{k:Key}{a a3:Option Addr}{n c n3 e3:Nat}(hl:Rd RR.me 6 Z w a n c l) (q:Rd RR.me 6 Z w a3 n3 e3 others):CR prog 357 #[.agg (x.row a1 n1 e1 a2 n2 e2).toArray,.slice a n c,.slice a3 n3 e3,k.val] w (.int .i64 (cV x l others k)):=by
 refine enter func357 rfl ntmps357 rfl<|?_;have c0:aQ [] w w:=aQ.refl _ _;refine bz ?_;refine WL.go rfl (OX.box rfl rfl rfl fun b4 w1 m d=>?_);have s1:=m.ext;have u:=m.gS c0;have c1:=c0.trans s1;refine WL.go rfl (OX.box rfl rfl rfl fun o w2 f b=>?_);have s2:=f.ext;have y:=f.gS c1;have s:b4≠o:=f.ne d.lt;have z:o≠b4:=Ne.symm s;have c2:=c1.trans s2;have d:=d.ext s2;refine gw ?_;refine WC.jH (t:=9) (v:=.bool (!ax k && hK l k)) (aQ [] w2) ?_<|?_
 ·
  refine(aT) ak b.range<|(bL) Gd (cQ (k:=k)) ?_;rintro _ w3 ⟨rfl,s3⟩;have c3:=c2.trans s3;have d:=d.ext s3;have b:=b.ext s3;refine(bW) (fun g13=>?_) (fun g13=>?_)
  ·
   refine(aT) ak b.range<|(bL) Ik (uF (k:=k) (hl.ext c3)) ?_;rintro _ w4 ⟨rfl,e⟩;have c4:=c3.trans e;have d:=d.ext e;have b:=b.ext e;exact(br) (by simp only [g13];first | rfl | simp) (s3.trans e)
  exact(br) (by simp only [g13];first | rfl | simp) s3
 intro w3 s3;have c3:=c2.trans s3;have d:=d.ext s3;have b:=b.ext s3;refine(aN) (fun g9=>?_) fun g9=>?_
 ·
  skip
  refine(bm) ?_;exact⟨by unfold cV;rw [if_pos g9],c3⟩
 have g9:¬((!ax k && hK l k)=true):=by simp [g9]
 refine(aT) aJ d.range<|(aT) ak b.range<|(bL) Mt (pz (k:=k) (hi.ext c3) (hr.ext c3) (hl.ext c3)) ?_;rintro _ w4 ⟨rfl,e⟩;have c4:=c3.trans e;have d:=d.ext e;have b:=b.ext e;refine(aN) (fun g18=>?_) fun g18=>?_
 ·
  skip
  refine(bm) ?_;exact⟨by unfold cV;rw [if_neg g9,if_pos g18],c4⟩
 have g18:¬((!eF x l k)=true):=by simp [g18]
 refine(aT) ak b.range<|(bL) Ik (uF (k:=k) (q.ext c4)) ?_;rintro _ w5 ⟨rfl,h⟩;have c5:=c4.trans h;have d:=d.ext h;have b:=b.ext h;refine(aN) (fun g24=>?_) fun g24=>?_
 ·
  skip
  refine(bm) ?_;exact⟨by unfold cV;rw [if_neg g9,if_neg g18,if_pos g24],c5⟩
 have g24:¬((!hK others k)=true):=by simp [g24]
 refine(aT) ak b.range<|(bL) Gd (cQ (k:=k)) ?_;rintro _ w6 ⟨rfl,i⟩;have p:=c5.trans i;have d:=d.ext i;have b:=b.ext i;refine(aN) (fun j=>?_) fun j=>?_
 ·
  skip
  refine(bm) ?_;exact⟨by unfold cV;rw [if_neg g9,if_neg g18,if_neg g24,if_pos j],p⟩
 refine(bm) ?_;exact⟨by unfold cV;rw [if_neg g9,if_neg g18,if_neg g24,if_neg (by simp [j])],p⟩
theorem se{l:List aA}(H:St w M Z w []) (hl:Rd RR.dp 4 Z w a n c l) (h6:l.length≤1000000) (J:∀x∈l,x.asks.length≤1000):Calls prog 175 #[.slice a n c] w fun e w'=>∃v y z Z',e=.returned (.slice v y z)∧bA w.heap.size Z Z'∧St w M Z' w' [As.os RR.dp 37 4 v y z l]:=by
 have hlen:=hl.len;have hle:=hl.le;refine enter func175 rfl ntmps175 rfl<|?_;have aR:=H;have st1:=aR.fr hl;have st2:=st1.df RR.dp 37 4;refine aO ?_;refine eP ?_;refine WC.ie (σ:=Nat × (Nat→Prop) × (List aA) × (Option Addr) × Nat × Nat) (dm:=fun(i,d,acc,f,b,j)=>[(3,.slice f b j),(6,.slice a n c),(7,.int .i64 (n:Int)),(8,.int .i64 (i:Int))]) (F:=fun(i,d,acc,f,b,j)=>[As.os RR.dp 37 4 f b j (acc)]) (I:=fun(i,d,acc,f,b,j)=>(i≤n)∧(bA w.heap.size Z d)∧(acc=l.take i)∧True) (μ:=fun(i,d,acc,f,b,j)=>n - i) (Zf:=fun(i,d,acc,f,b,j)=>d) (0,Z,[],none,0,0) (st2) Sub.t (⟨by omega,bA.refl _ _,by simp,trivial⟩)<|?_;rintro⟨i,d,acc,f,b,j⟩ w1 m ⟨hi,q,o,_⟩;simp only [CA,NA] at m hi q o ⊢;have r7:=((As.gs m.g0)).len
 have Lc:acc.length≤1000000:=by rw [o,List.length_take];omega
 refine(aN) (fun g9=>?_) fun g9=>?_
 ·
  simp at g9
  have s:i<l.length:=by omega
  refine cS ?_;obtain⟨ia,lP,lk,K,gP,L,N,O⟩:=Rd.at (As.gr m.g1) s;obtain⟨q1,P,Q,rfl,R⟩:=L;have S:=m.fg O N;have C:Rd RR.ask 4 _ _ q1 P Q l[i].asks:=R;have T:=S.fr (C);have Dx:=J _ (List.getElem_mem s);have Uw:=SR.len C;have D:=T.df RR.ask 77 4;refine nx ?_;refine WP .r (PV.ei gZ K rfl rfl (by omega))<|(aT) nY (As.ma D.g2)<|(ff) D fun b5 w2 EV EW U=>?_;refine(cD) ym U fun w3 ko ly p=>?_;refine(aU) ig p.b0<|?_;have hsz:=p.size;refine WL.ap rfl rfl p.p1 ((As.gr p.g2)) fun E ZP w4 V Uy W=>?_;refine nx ?_;refine WL.s1 W.p1 fun w5 _ X=>?_;refine bz ?_;have G:=X.p1.a8 (by simp;omega)
  have Y:∀x∈aG E,w.heap.size≤x:=fun x hx=>by rcases V x hx with h | h;simp [aG] at h;omega
  have nK:=q.trans (bA.dx (F:=fun x=>x∈aG E) Y) (Nat.le_refl _);refine(aT) nY G.b1<|?_;refine WL.go rfl (OX.aP (us:=l[i].row _ _ _) H3 rfl rfl rfl rfl fun b18 w6 ZQ ZR=>?_);have u:=G.dy ZQ ZR;refine WL.ap rfl rfl u.p5 (SR.dn (A:=fun _=>True) (x:=l[i]) (As.gb u.g0) trivial rfl (aA.one _ _ _ _) ⟨_,_,_,rfl,(As.gr u.g1)⟩) fun a19 ZS w7 ahx ahy db=>?_;refine iC ?_;refine dY (i+1,_,acc++[l[i]],a19,(b+1),ZS) ⟨db.p6.p1.k2,⟨by omega,nK,by rw [o,List.take_succ_eq_append_getElem s],trivial⟩⟩
 simp at g9
 have hV:acc=l:=by rw [o];exact List.take_of_length_le (by omega)
 subst hV;refine(bm) ?_;exact⟨_,_,_,_,rfl,q,m.p1.drop⟩
end Go.Rc

