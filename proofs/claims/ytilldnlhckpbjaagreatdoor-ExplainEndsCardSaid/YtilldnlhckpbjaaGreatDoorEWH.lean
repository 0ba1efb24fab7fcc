/- Walks over the program, part WH. Conditions: as each theorem says. -/
import Derived.Test.YtilldnlhckpbjaaGreatDoorEFacts
import Derived.Test.YtilldnlhckpbjaaGreatDoorEWB
import Derived.Test.YtilldnlhckpbjaaGreatDoorEWD
import Derived.Test.YtilldnlhckpbjaaGreatDoorEWF
import Derived.Test.YtilldnlhckpbjaaGreatDoorEBe
set_option linter.all false
namespace Go.Rc
open Go Go.Proofs Go.Proofs.Tryz
variable {n r c e2 n1 e1 n2 g eg:Nat}{w:World}{k:Key}{aa:List aD}{A B Z:Nat→Prop}{a a2 a1 ag:Option Addr}{l:List Rec}{x:cW}
set_option maxHeartbeats 400000
theorem te{n:Int} :CR prog 181 #[.int .i64 n] w (.string (qv n)):=by
 refine enter func181 rfl ntmps181 rfl<|?_;have c0:aK [] w w:=aK.refl _ _;refine(aT) (fun g4=>?_) fun g4=>?_
 ·
  simp at g4
  refine(bF) ?_;exact⟨by unfold qv;rw [if_pos g4],c0⟩
 simp at g4
 refine(bF) ?_;exact⟨by unfold qv;rw [if_neg g4],c0⟩
theorem nY :CR prog 132 #[k.val] w (.string (mK k)):=by
 refine enter func132 rfl ntmps132 rfl<|?_;have c0:aK [] w w:=aK.refl _ _;refine bJ ?_;refine WL.go rfl (OX.box rfl rfl rfl fun b1 w1 d b=>?_);have s1:=d.ext;have f:=d.gY c0;have c1:=c0.trans s1;refine eX ?_;refine WP .r (PV.fa cQ rfl)<|(bq) aL b.range<|(aT) (fun g3=>?_) fun g3=>?_
 ·
  simp at g3
  refine(bF) ?_;exact⟨by unfold mK;rw [if_pos g3],c1⟩
 simp at g3
 refine(bf) ak b.range<|(cE) Ic (dD (k:=k)) ?_;rintro _ w2 ⟨rfl,s2⟩;have c2:=c1.trans s2;have b:=b.ext s2;refine(aT) (fun g7=>?_) fun g7=>?_
 ·
  refine bJ ?_;refine WP .r (PV.fa cQ rfl)<|(bq) aL b.range<|(cE) Rb (te (n:=k.kind)) ?_;rintro _ w3 ⟨rfl,e⟩;have c3:=c2.trans e;have b:=b.ext e;refine(bF) ?_;exact⟨by unfold mK;rw [if_neg g3,if_pos g7],c3⟩
 refine(bF) ?_;exact⟨by unfold mK;rw [if_neg g3,if_neg (by simp [g7])],c2⟩
theorem pG(hr:eE A w a r c aa):CR prog 87 #[.slice a r c,k.val] w (.bool (eu aa k)):=by
 refine enter func87 rfl ntmps87 rfl<|?_;have c0:aK [] w w:=aK.refl _ _;refine bJ ?_;refine WL.go rfl (OX.box rfl rfl rfl fun b3 w1 o d=>?_);have s1:=o.ext;have s:=o.gY c0;have c1:=c0.trans s1;refine cD ?_;refine WC.kj (t:=4) (v:=.bool (eu aa k)) (aK [] w1) ?_<|?_
 ·
  refine WC.drawn (m:=17) (C:=aK [] w1) (T:=fun _=>aK []) (E:=bN [(1,fun v _=>v=.bool (el k)),(14,fun v _=>v=.int .i64 (number k)),(15,fun v _=>v=(aH aa (number k)).val)]) (aU (⟨fun _ _ _ _ _ _ _ h=>h,⟨fun _ _ _ _ _ _ _ h=>h,⟨fun _ _ _ _ _ _ _ h=>h,trivial⟩⟩⟩)) mixed (by kernel_rfl) (aK.drew _ _)<|?_;refine DP .r (fun _ b=>PV.B9 ak (d.ext b).range rfl rfl)<|?_;refine DW.e rfl rfl rfl rfl rfl (fun f b i=>OX.call Fo rfl rfl ((gl (k:=k)).mono ?_))<|?_
  ·
   rintro _ wy ⟨rfl,hy⟩;exact⟨_,rfl,b.trans hy,hy,_,rfl,rfl⟩
  rintro _ j _ rfl;refine(l9) (fun g7=>?_) (fun g7=>?_)
  ·
   refine DP .r (fun _ b=>PV.fa cQ rfl)<|DP .r (fun _ b=>PV.ld1 aL (d.ext b).range rfl rfl)<|(l9) (fun g11=>?_) (fun g11=>?_)
   ·
    refine DP .r (fun _ b=>PV.fa cQ rfl)<|DP .r (fun _ b=>PV.ld1 aL (d.ext b).range rfl rfl)<|(l9) (fun g16=>?_) (fun g16=>?_)
    ·
     refine(cx) ?_;rintro w2 s2 _;have c2:=c1.trans s2;have d:=d.ext s2;exact(e8) (by unfold eu;simp only [g7,g11,g16];first | rfl | simp) s2
    refine nx ?_;refine DP .r (fun _ b=>PV.B9 ak (d.ext b).range rfl rfl)<|?_;refine DW.e rfl rfl rfl rfl rfl (fun f b i=>OX.call Ib rfl rfl ((il (k:=k)).mono ?_))<|?_
    ·
     rintro _ wy ⟨rfl,hy⟩;exact⟨_,rfl,b.trans hy,hy,_,rfl,rfl⟩
    rintro _ j _ rfl;refine DW.e rfl rfl rfl rfl rfl (fun f b i=>OX.call qd rfl rfl ((ef (n:=number k) (hr.ext (c1.trans b))).mono ?_))<|?_
    ·
     rintro _ wy ⟨rfl,hy⟩;exact⟨_,rfl,b.trans hy,hy,_,rfl,rfl⟩
    rintro _ j _ rfl;refine DP .r (fun _ b=>PV.B9 ak (d.ext b).range rfl rfl)<|(cx)<|?_;rintro w2 s2 _;have c2:=c1.trans s2;have d:=d.ext s2;refine WP .r (PV.Ce eI (p:=aH aa (number k)) (q:=k) rfl rfl)<|?_;exact(e8) (by unfold eu;simp only [g7,g11,g16];first | rfl | simp) s2
   refine fY ?_;refine DP .r (fun _ b=>PV.B9 ak (d.ext b).range rfl rfl)<|?_;refine DW.e rfl rfl rfl rfl rfl (fun f b i=>OX.call Ib rfl rfl ((il (k:=k)).mono ?_))<|?_
   ·
    rintro _ wy ⟨rfl,hy⟩;exact⟨_,rfl,b.trans hy,hy,_,rfl,rfl⟩
   rintro _ j _ rfl;refine DW.e rfl rfl rfl rfl rfl (fun f b i=>OX.call qd rfl rfl ((ef (n:=number k) (hr.ext (c1.trans b))).mono ?_))<|?_
   ·
    rintro _ wy ⟨rfl,hy⟩;exact⟨_,rfl,b.trans hy,hy,_,rfl,rfl⟩
   rintro _ j _ rfl;refine DP .r (fun _ b=>PV.B9 ak (d.ext b).range rfl rfl)<|(cx)<|?_;rintro w2 s2 _;have c2:=c1.trans s2;have d:=d.ext s2;refine WP .r (PV.Ce eI (p:=aH aa (number k)) (q:=k) rfl rfl)<|?_;exact(e8) (by unfold eu;simp only [g7,g11];first | rfl | simp) s2
  refine aQ ?_;refine(cx) ?_;rintro w2 s2 _;have c2:=c1.trans s2;have d:=d.ext s2;exact(e8) (by unfold eu;simp only [g7];first | rfl | simp) s2
 intro w2 s2;have c2:=c1.trans s2;have d:=d.ext s2;refine(bF) ?_;exact⟨rfl,c2⟩
theorem eh{ai:List ByteArray}{C:Nat→Prop}{r2:Nat}(ht:jM prog A w) (hr:eE B w a r c aa) (hl:Strs C w a2 r2 e2 ai) (hb:∀x∈aa,0≤x.c∧x.c≤65535∧x.asks.length≤1000) (hk:eP k):CR prog 88 #[.slice a r c,k.val,.slice a2 r2 e2] w ((bB aa k ai).val):=by
 refine enter func88 rfl ntmps88 rfl<|?_;have c0:aK [] w w:=aK.refl _ _;refine bJ ?_;refine WL.go rfl (OX.box rfl rfl rfl fun b4 w1 p b=>?_);have s1:=p.ext;have y:=p.gY c0;have c1:=c0.trans s1;refine WL.go rfl (OX.alloc nV rfl fun q w2 i e=>?_);have s2:=i.ext;have s:=i.gY c1;have j:b4≠q:=i.ne b.lt;have z:q≠b4:=Ne.symm j;have c2:=c1.trans s2;have b:=b.ext s2;refine df ?_;refine WC.je (t:=7) (v:=.bool (decide (k.kind=31) || decide (k.kind=32))) (fun u=>w2=u) ?_ ?_
 ·
  refine nx ?_;refine WP .r (PV.fa cQ rfl)<|(bq) aL b.range<|(cG) (fun g11=>?_) (fun g11=>?_)
  ·
   exact(bY) (by simp only [g11];first | rfl | simp) rfl
  refine WP .r (PV.fa cQ rfl)<|(bq) aL b.range<|?_;exact(bY) (by simp only [g11];first | rfl | simp) rfl
 rintro _ rfl;refine(aT) (fun g7=>?_) fun g7=>?_
 ·
  simp at g7
  have m:bB aa k ai=ca aa k ai:=by unfold bB;rw [if_pos g7]
  refine(bf) ak b.range<|(cE) QL (Ao (k:=k) (ht.ext c2) (hr.ext c2) (hl.ext c2) hb) ?_;rintro _ w3 ⟨rfl,d⟩;have c3:=c2.trans d;have b:=b.ext d;have e:=e.ext d;refine WL.go rfl (OX.kL fc e rfl rfl rfl rfl rfl fun w4 f _ e=>?_);have c4:=c3.own f s;have b:=b.bS f (by simp [j]);refine(jt) gj e.range<|?_;rw [m];exact⟨rfl,c4⟩
 simp at g7
 have m:bB aa k ai=⟨true,⟨#[]⟩,bO⟩:=by unfold bB;rw [if_neg (by omega)]
 refine nx ?_;refine WC.je (t:=20) (v:=.bool (aw k || (decide (k.kind<1) || decide (22<k.kind)))) (aK [] w2) ?_<|?_
 ·
  refine(bf) ak b.range<|(cE) Fl (cJ (k:=k)) ?_;rintro _ w3 ⟨rfl,d⟩;have c3:=c2.trans d;have b:=b.ext d;have e:=e.ext d;refine(cG) (fun g23=>?_) (fun g23=>?_)
  ·
   exact(bY) (by simp only [g23];first | rfl | simp) d
  refine WP .r (PV.fa cQ rfl)<|(bq) aL b.range<|(cG) (fun o=>?_) (fun o=>?_)
  ·
   exact(bY) (by simp only [g23,o];first | rfl | simp) d
  refine WP .r (PV.fa cQ rfl)<|(bq) aL b.range<|?_;exact(bY) (by simp only [g23,o];first | rfl | simp) d
 intro w3 d;have c3:=c2.trans d;have b:=b.ext d;have e:=e.ext d;refine(aT) (fun g20=>?_) fun g20=>?_
 ·
  skip
  refine bJ ?_;refine WP .r (PV.br (us:=[.bool true,.string ⟨#[]⟩,.int .i64 0,.string ⟨#[]⟩]) kx rfl rfl rfl)<|?_;refine WL.go rfl (OX.kL fc e rfl rfl rfl rfl rfl fun w4 f _ e=>?_);have c4:=c3.own f s;have b:=b.bS f (by simp [j]);refine(jt) gj e.range<|?_;rw [m];exact⟨rfl,c4⟩
 exfalso;simp at g20;rcases hk with h | h <;> omega
theorem sc{rev:Int}(hl:Rd RR.fl 8 Z w a n c l):CR prog 186 #[.slice a n c,.int .i64 rev,k.val] w (.bool (bD l rev k)):=by
 refine enter func186 rfl ntmps186 rfl<|?_;have c0:aK [] w w:=aK.refl _ _;refine bJ ?_;refine WL.go rfl (OX.box rfl rfl rfl fun b5 w1 i b=>?_);have s1:=i.ext;have s:=i.gY c0;have c1:=c0.trans s1;refine(bf) ak b.range<|(cE) rV (dE (k:=k) (hl.ext c1)) ?_;rintro _ w2 ⟨f1,f2,f3,rfl,s2⟩;have c2:=c1.trans s2;have b:=b.ext s2;refine cq ?_;refine WL.go rfl (OX.alloc oL rfl fun j w3 f e=>?_);have m:=f.ext;have q:=f.gY c2;have o:b5≠j:=f.ne b.lt;have u:j≠b5:=Ne.symm o;have c3:=c2.trans m;have b:=b.ext m;refine WL.go rfl (OX.kL gk e rfl rfl rfl rfl rfl fun w4 p _ e=>?_);have c4:=c3.own p q;have b:=b.bS p (by simp [o]);refine cD ?_;refine WC.kj (t:=6) (v:=.bool (bD l rev k)) (aK [] w4) ?_<|?_
 ·
  refine(cG) (fun g16=>?_) (fun g16=>?_)
  ·
   refine(bf) ak b.range<|(cE) Ic (dD (k:=k)) ?_;rintro _ w5 ⟨rfl,d⟩;have c5:=c4.trans d;have b:=b.ext d;have e:=e.ext d;refine(cG) (fun g20=>?_) (fun g20=>?_)
   ·
    refine WP .r (PV.fa oO rfl)<|(bq) aL e.range<|(cG) (fun h=>?_) (fun h=>?_)
    ·
     refine WP .r (PV.fa Ai rfl)<|(bq) dm e.range<|?_;exact(e8) (by unfold bD;simp only [g16,g20,h];first | rfl | simp) d
    exact(e8) (by unfold bD;simp only [g16,g20,h];first | rfl | simp) d
   exact(e8) (by unfold bD;simp only [g16,g20];first | rfl | simp) d
  refine aQ ?_;exact(e8) (by unfold bD;simp only [g16];first | rfl | simp) (aK.refl _ _)
 intro w5 d;have c5:=c4.trans d;have b:=b.ext d;have e:=e.ext d;refine(bF) ?_;exact⟨rfl,c5⟩
theorem Ax(hi:Rd RR.aA 4 Z w a1 n1 e1 x.ab) (hr:Rd RR.fl 8 Z w a2 n2 e2 x.ah) {k:Key}:CR prog 189 #[.agg (x.row a1 n1 e1 a2 n2 e2).toArray,k.val] w (.tuple #[.string (nG x k),.bool (jh x k)]):=by
 refine enter func189 rfl ntmps189 rfl<|?_;have c0:aK [] w w:=aK.refl _ _;refine bJ ?_;refine WL.go rfl (OX.box rfl rfl rfl fun b2 w1 s b=>?_);have s1:=s.ext;have F:=s.gY c0;have c1:=c0.trans s1;refine WL.go rfl (OX.box rfl rfl rfl fun b3 w2 m d=>?_);have s2:=m.ext;have G:=m.gY c1;have C:b2≠b3:=m.ne b.lt;have H:b3≠b2:=Ne.symm C;have c2:=c1.trans s2;have b:=b.ext s2;refine(bf) ak d.range<|(cE) Fl (cJ (k:=k)) ?_;rintro _ w3 ⟨rfl,o⟩;have c3:=c2.trans o;have b:=b.ext o;have d:=d.ext o;refine(aT) (fun g9=>?_) fun g9=>?_
 ·
  refine(bf) bu b.range<|(bf) ak d.range<|(cE) Qk (oU (k:=k) (hi.ext c3) (hr.ext c3)) ?_;rintro _ w4 ⟨rfl,e⟩;have c4:=c3.trans e;have b:=b.ext e;have d:=d.ext e;refine(tV) ?_;exact⟨by unfold nG jh;rw [if_pos g9,g9];rfl,c4⟩
 refine df ?_;refine WP .r (PV.fa rQ rfl)<|(bq) fb b.range<|(bf) ak d.range<|(cE) rV (dE (k:=k) (hr.ext c3)) ?_;rintro _ w4 ⟨f1,f2,f3,rfl,e⟩;have c4:=c3.trans e;have b:=b.ext e;have d:=d.ext e;refine cq ?_;refine WL.go rfl (OX.alloc oL rfl fun h w5 i j=>?_);have p:=i.ext;have D:=i.gY c4;have u:b2≠h:=i.ne b.lt;have I:h≠b2:=Ne.symm u;have y:b3≠h:=i.ne d.lt;have J:h≠b3:=Ne.symm y;have c5:=c4.trans p;have b:=b.ext p;have d:=d.ext p;refine WL.go rfl (OX.kL gk j rfl rfl rfl rfl rfl fun w6 q _ j=>?_);have z:=c5.own q D;have b:=b.bS q (by simp [u]);have d:=d.bS q (by simp [y]);refine cD ?_;refine WC.je (t:=27) (v:=.bool (jh x k)) (fun E=>w6=E) ?_ ?_
 ·
  refine(cG) (fun g21=>?_) (fun g21=>?_)
  ·
   refine WP .r (PV.fa oO rfl)<|(bq) aL j.range<|?_;refine WP .r (PV.fa ka rfl)<|(bq) aL b.range<|?_;exact(bY) (by unfold jh;simp only [g9,g21];first | rfl | simp) rfl
  exact(bY) (by unfold jh;simp only [g9,g21];first | rfl | simp) rfl
 rintro _ rfl;refine(aT) (fun f=>?_) fun f=>?_
 ·
  refine bJ ?_;refine WP .r (PV.fa vD rfl)<|(bq) fq j.range<|(tV) ?_;exact⟨by unfold nG;rw [if_neg (by simp [g9]),if_pos f,f],z⟩
 refine(tV) ?_;exact⟨by unfold nG;rw [if_neg (by simp [g9]),if_neg (by simp [f]),f],z⟩
theorem Ay(hi:Rd RR.aA 4 Z w a1 n1 e1 x.ab) (hr:Rd RR.fl 8 Z w a2 n2 e2 x.ah) {k:Key}{v:ByteArray}{reads:List Key}{a:Option Addr}{n e:Nat}(hk:Rd RR.key 2 Z w a n e reads):Calls prog 140 #[.agg (x.row a1 n1 e1 a2 n2 e2).toArray,k.val,.string v,.slice a n e] w fun en w'=>en=.returned (.agg ((di x k v reads).row a n e).toArray)∧aK [] w w':=by
 have hlen:=SR.len hk;have hle:=SR.le hk;refine enter func140 rfl ntmps140 rfl<|?_;have c0:aK [] w w:=aK.refl _ _;refine bJ ?_;refine WL.go rfl (OX.box rfl rfl rfl fun b4 w1 P b=>?_);have s1:=P.ext;have r6:=P.gY c0;have c1:=c0.trans s1;refine WL.go rfl (OX.box rfl rfl rfl fun b5 w2 G d=>?_);have s2:=G.ext;have Xi:=G.gY c1;have Az:b4≠b5:=G.ne b.lt;have Mh:b5≠b4:=Ne.symm Az;have c2:=c1.trans s2;have b:=b.ext s2;refine WL.go rfl (OX.alloc oL rfl fun m w3 D f=>?_);have H:=D.ext;have Q:=D.gY c2;have I:b4≠m:=D.ne b.lt;have Aq:m≠b4:=Ne.symm I;have J:b5≠m:=D.ne d.lt;have Mi:m≠b5:=Ne.symm J;have c3:=c2.trans H;have b:=b.ext H;have d:=d.ext H;refine(bf) ak d.range<|bJ ?_;refine WP .r (PV.fa ka rfl)<|(bq) aL b.range<|?_;refine WP .r (PV.fa ka rfl)<|(bq) aL b.range<|nx ?_;refine WP .r (PV.fZ dn rfl)<|nx ?_;refine WP .r (PV.br (us:=(Rec.mk k v reads x.ad x.ad (1+(n:Int)) false).row a n e) P3 rfl rfl rfl)<|?_;refine WL.go rfl (OX.alloc oL rfl fun o w4 s h=>?_);have E:=s.ext;have R:=s.gY c3;have K:b4≠o:=s.ne b.lt;have Mj:o≠b4:=Ne.symm K;have L:b5≠o:=s.ne d.lt;have Mk:o≠b5:=Ne.symm L;have M:m≠o:=s.ne f.lt;have S:o≠m:=Ne.symm M;have c4:=c3.trans E;have b:=b.ext E;have d:=d.ext E;have f:=f.ext E;refine WL.go rfl (OX.kL gk h rfl rfl rfl rfl rfl fun w5 F _ h=>?_);have c5:=c4.own F R;have b:=b.bS F (by simp [K]);have d:=d.bS F (by simp [L]);have f:=f.bS F (by simp [M]);refine df ?_;refine WP .r (PV.fa rQ rfl)<|(bq) fb b.range<|(bf) ak d.range<|(cE) rV (dE (k:=k) (hr.ext c5)) ?_;rintro _ w6 ⟨f1,f2,f3,rfl,u⟩;have T:=c5.trans u;have b:=b.ext u;have d:=d.ext u;have f:=f.ext u;have h:=h.ext u;refine cq ?_;refine WL.go rfl (OX.alloc oL rfl fun p w7 q j=>?_);have y:=q.ext;have vH:=q.gY T;have U:b4≠p:=q.ne b.lt;have x9:p≠b4:=Ne.symm U;have V:b5≠p:=q.ne d.lt;have JC:p≠b5:=Ne.symm V;have W:m≠p:=q.ne f.lt;have X:p≠m:=Ne.symm W;have Y:o≠p:=q.ne h.lt;have yd:p≠o:=Ne.symm Y;have c7:=T.trans y;have b:=b.ext y;have d:=d.ext y;have f:=f.ext y;have h:=h.ext y;refine WL.go rfl (OX.kL gk j rfl rfl rfl rfl rfl fun w8 z _ j=>?_);have c8:=c7.own z vH;have b:=b.bS z (by simp [U]);have d:=d.bS z (by simp [V]);have f:=f.bS z (by simp [W]);have h:=h.bS z (by simp [Y]);refine cD ?_;refine WC.je (t:=36) (v:=.bool ((az x.ah k).isSome && decide ((aF x.ah k).value=v))) (fun wx=>w8=wx) ?_ ?_
 ·
  refine(cG) (fun N=>?_) (fun N=>?_)
  ·
   refine WP .r (PV.fa vD rfl)<|(bq) fq j.range<|?_;exact(bY) (by simp only [N];first | rfl | simp) rfl
  exact(bY) (by simp only [N];first | rfl | simp) rfl
 rintro _ rfl;refine(aT) (fun O=>?_) fun O=>?_
 ·
  have hm:di x k v reads=⟨k,v,reads,(aF x.ah k).changed,x.ad,1+(reads.length:Int),false⟩:=by unfold di;rw [if_pos O]
  refine nx ?_;refine WP .r (PV.fa rR rfl)<|(bq) aL j.range<|?_;refine WP .r (PV.fa rR rfl)<|?_;refine WL.go rfl (OX.st Of h rfl rfl (by first | (simp [nth];done) | exact OS rfl) rfl rfl fun w9 i _ h=>?_);have c9:=c8.own i R;have b:=b.bS i (by simp [K]);have d:=d.bS i (by simp [L]);have f:=f.bS i (by simp [M]);have j:=j.bS i (by simp [yd]);refine(bf) dN h.range<|?_;refine WL.go rfl (OX.kL gk f rfl rfl rfl rfl rfl fun jP C _ f=>?_);have c10:=c9.own C Q;have b:=b.bS C (by simp [I]);have d:=d.bS C (by simp [J]);have h:=h.bS C (by simp [S]);have j:=j.bS C (by simp [X]);refine(jt) dN f.range<|?_;exact⟨by rw [hm,← hlen] <;> rfl,c10⟩
 have hm:di x k v reads=⟨k,v,reads,x.ad,x.ad,1+(reads.length:Int),false⟩:=by unfold di;rw [if_neg (by simp [O])]
 refine(bf) dN h.range<|?_;refine WL.go rfl (OX.kL gk f rfl rfl rfl rfl rfl fun w9 i _ f=>?_);have c9:=c8.own i Q;have b:=b.bS i (by simp [I]);have d:=d.bS i (by simp [J]);have h:=h.bS i (by simp [S]);have j:=j.bS i (by simp [X]);refine(jt) dN f.range<|?_;exact⟨by rw [hm,← hlen] <;> rfl,c9⟩
theorem tf{goals:List Key}{ar:Option Addr}(hu:eE A w ar r c aa) (hi:Rd RR.aA 4 Z w a1 n1 e1 x.ab) (hr:Rd RR.fl 8 Z w a2 n2 e2 x.ah) (m:u0 B w ag g eg goals):CR prog 53 #[.slice ar r c,.agg (x.row a1 n1 e1 a2 n2 e2).toArray,.slice ag g eg] w (.int .i64 (fk aa x goals)):=by
 have hlen:=SR.len m;have hle:=SR.le m;refine enter func53 rfl ntmps53 rfl<|?_;have c0:aK [] w w:=aK.refl _ _;refine bJ ?_;refine WL.go rfl (OX.box rfl rfl rfl fun b4 w1 s d=>?_);have s1:=s.ext;have Q:=s.gY c0;have c1:=c0.trans s1;refine(cE) Qe (pE (hu.ext c1)) ?_;rintro _ w2 ⟨bv,rfl,u,s2⟩;have c2:=c1.trans s2;have d:=d.ext s2;refine(aT) (fun g9=>?_) fun g9=>?_
 ·
  simp at g9
  have b:fk aa x goals=41:=by unfold fk;rw [if_pos (by rw [← u];simp [g9])]
  refine(bF) ?_;exact⟨by rw [b],c2⟩
 simp at g9
 have o:=u.1 g9;refine(bf) bu d.range<|(cE) LX (kc (hi.ext c2) (hr.ext c2)) ?_;rintro _ w3 ⟨R,rfl,v,z⟩;have c3:=c2.trans z;have d:=d.ext z;refine(aT) (fun g13=>?_) fun g13=>?_
 ·
  simp at g13
  have b:fk aa x goals=42:=by unfold fk;rw [if_neg (by simpa using o),if_pos (by rw [← v];simp [g13])]
  refine(bF) ?_;exact⟨by rw [b],c3⟩
 simp at g13
 have C:=v.1 g13;refine cq ?_;refine WP .r (PV.fZ dn rfl)<|(aT) (fun g17=>?_) fun g17=>?_
 ·
  simp at g17
  have b:fk aa x goals=3:=by unfold fk;rw [if_neg (by simpa using o),if_neg (by simpa using C),if_pos (by omega)]
  refine(bF) ?_;exact⟨by rw [b],c3⟩
 simp at g17
 have b:fk aa x goals=if goals.all (eu aa) then 0 else 40:=by unfold fk;rw [if_neg (by simpa using o),if_neg (by simpa using C),if_neg (by omega)]
 refine eX ?_;refine WP .r (PV.fZ dn rfl)<|cD ?_;refine WC.loop (σ:=Nat) (db:=fun i=>[(0,.slice ar r c),(21,.slice ag g eg),(22,.int .i64 (g:Int)),(23,.int .i64 (i:Int))]) (I:=fun i w'=>aK [] w w'∧i≤g∧∀j y,j<i→goals[j]?=some y→eu aa y=true) (μ:=fun i=>g - i) 0 Sub.t ⟨c3,by omega,fun j y h=>by omega⟩ ?_;rintro i w4 ⟨c4,eJ,D⟩;refine(aT) (fun g24=>?_) fun g24=>?_
 ·
  simp at g24
  have p:i<goals.length:=by omega
  obtain⟨S,T,U,J,_,K,q,_⟩:=SR.at m (ae p);subst K;refine df ?_;have q:=aW q c4 (by simp);refine nx ?_;refine WP .r (PV.dO dn J rfl rfl (by omega))<|(bf) ak q<|?_;refine WL.go rfl (OX.alloc Af rfl fun V w5 E e=>?_);have L:=E.ext;have M:=E.gY c4;have c5:=c4.trans L;refine WL.go rfl (OX.kL fW e rfl rfl rfl rfl rfl fun w6 N _ e=>?_);have F:=c5.own N M;refine(bf) ak e.range<|(cE) Qq (pG (k:=goals[i]) (hu.ext F)) ?_;rintro _ w7 ⟨rfl,G⟩;have H:=F.trans G;have e:=e.ext G;refine(aT) (fun f=>?_) fun f=>?_
  ·
   simp at f
   have b:fk aa x goals=40:=by rw [b,if_neg];rw [List.all_eq_true];intro h;have:=h _ (List.getElem_mem p);rw [f] at this;cases this
   refine(bF) ?_;exact⟨by rw [b],H⟩
  simp at f
  refine eX ?_;refine EX.again (i+1) (Sub.k2 rfl rfl<|Sub.cons rfl<|Sub.gM rfl (by simp)<|Sub.nil) ⟨H,by omega,cp (P:=fun _ y=>eu aa y=true) p D f⟩ (by omega)
 simp at g24
 have b:fk aa x goals=0:=by rw [b,if_pos];rw [List.all_eq_true];intro y hy;obtain⟨j,O,rfl⟩:=List.mem_iff_getElem.1 hy;exact D j _ (by omega) (ae O)
 refine(bF) ?_;exact⟨by rw [b],c4⟩
theorem vL{group:List Key}{M:Nat→Prop}(gn:St w M Z w []) (hl:Rd RR.fl 8 Z w a n c l) (D:Rd RR.key 2 Z w ag g eg group) (hb:∀i,(((group.take i).flatMap fun m=>ct group m (aF l m).reads)).length≤100000000):Calls prog 135 #[.slice a n c,.slice ag g eg] w fun e w'=>∃O P Q Z',e=.returned (.slice O P Q)∧dU w.heap.size Z Z'∧St w M Z' w' [As.os RR.I8 148 4 O P Q (bP l group)]:=by
 have hlen:=D.len;have hle:=D.le;refine enter func135 rfl ntmps135 rfl<|?_;have aR:=gn;have st1:=aR.fr hl;have st2:=st1.fr D;have iO:=st2.fD RR.I8 148 4;refine aQ ?_;refine eX ?_;refine WC.kl (σ:=Nat × (Nat→Prop) × (List ph) × (Option Addr) × Nat × Nat) (db:=fun(i,o,acc,d,b,f)=>[(0,.slice a n c),(1,.slice ag g eg),(5,.slice d b f),(12,.slice ag g eg),(13,.int .i64 (g:Int)),(14,.int .i64 (i:Int))]) (F:=fun(i,o,acc,d,b,f)=>[As.os RR.I8 148 4 d b f (acc)]) (I:=fun(i,o,acc,d,b,f)=>(i≤g)∧(dU w.heap.size Z o)∧(acc=(group.take i).flatMap fun m=>ct group m (aF l m).reads)∧True) (μ:=fun(i,o,acc,d,b,f)=>g - i) (Zf:=fun(i,o,acc,d,b,f)=>o) (0,Z,[],none,0,0) (iO) Sub.t (⟨by omega,dU.refl _ _,by simp,trivial⟩)<|?_;rintro⟨i,o,acc,d,b,f⟩ w1 y ⟨hi,E,p,_⟩;simp only [CA,NA] at y hi E p ⊢;refine(aT) (fun g15=>?_) fun g15=>?_
 ·
  simp at g15
  have R:i<group.length:=by omega
  refine df ?_;obtain⟨jK,qe,nX,cF,i6,G,ft,fF⟩:=Rd.at (As.gr y.g1) R;have G:=RR.bT G;subst G;have S:=y.fg fF ft;refine nx ?_;refine WP .r (PV.dO dn cF rfl rfl (by omega))<|(bf) ak (As.kW S.g0)<|(fy) S fun b7 w2 Ry Rz ke=>?_;refine(dw) fW ke fun w3 kI nj T=>?_;refine(bf) ak T.b0<|?_;have z:=T;refine(cE) rV (lx (k:=group[i]) z.e0 (As.gr z.g4)) ?_;rintro _ w4 ⟨f1,f2,f3,rfl,T3,U⟩;have ju:=St.lr z U;have KQ:=St.dC U;have hsz:=z.size;have V:=ju.dZ (by omega);have uM:=E.trans (dU.nA (F:=fun x=>x∈aZ f1) KQ) hsz;have RJ:=((As.gr V.g0)).len;refine(fy) V fun b8 w5 Mc hb8 dP=>?_;refine(dw) gk dP fun w6 vI oh W=>?_;refine(bq) gS W.b0<|df ?_;refine WC.bm (σ:=Nat × (List ph) × (Option Addr) × Nat × Nat) (db:=fun(j,h,d,b,f)=>[(0,.slice a n c),(1,.slice ag g eg),(5,.slice d b f),(7,.pointer (some ⟨b7,0,none⟩)),(12,.slice ag g eg),(13,.int .i64 (g:Int)),(14,.int .i64 (i:Int)),(25,.slice f1 f2 f3),(26,.int .i64 (f2:Int)),(27,.int .i64 (j:Int))]) (F:=fun(j,h,d,b,f)=>[As.os RR.I8 148 4 d b f (h)]) (I:=fun(j,h,d,b,f)=>(j≤f2)∧(h=acc++ct group group[i] ((aF l group[i]).reads.take j))∧True) (μ:=fun(j,h,d,b,f)=>f2 - j) (0,acc,d,b,f) (W.p4) Sub.t (⟨by omega,by simp [ct],trivial⟩)<|?_;rintro⟨j,h,d,b,f⟩ w7 q ⟨hj,s,_⟩;simp only [CA,NA] at q hj s ⊢;have ta:=((As.gs q.g0)).len;have Xj:=hb i;rw [← p] at Xj;have T0:=ig group group[i] ((aF l group[i]).reads.take j)
  have htl:h.length≤100100000:=by rw [s,List.length_append];rw [List.length_take] at T0;omega
  refine(aT) (fun H=>?_) fun H=>?_
  ·
   simp at H
   have J:j<(aF l group[i]).reads.length:=by omega
   refine df ?_;obtain⟨oV,C9,AA,gW,se,K,kz,ly⟩:=Rd.at (As.gr q.g2) J;have K:=RR.bT K;subst K;have X:=q.fg ly kz;refine nx ?_;refine WP .r (PV.dO dn gW rfl rfl (by omega))<|(bf) ak (As.kW X.g0)<|(fy) X fun b11 w8 Xk Xl fG=>?_;refine(dw) fW fG fun w9 C8 yX L=>?_;refine(bf) ak L.b0<|(fw) (oS (k:=(aF l group[i]).reads[j]) (As.gr L.g7)) L fun jP T4 C=>?_;refine(aT) (fun u=>?_) fun u=>?_
   ·
    simp at u
    have v:=gI (group:=group) (m:=group[i]) J;rw [if_neg u] at v;refine(bf) ak C.b5<|(bf) ak C.b0<|?_;refine WP .r (PV.br (us:=(ph.mk group[i] (aF l group[i]).reads[j]).cells) Jk rfl rfl rfl)<|?_;refine WL.go rfl (OX.aM (us:=(ph.mk group[i] (aF l group[i]).reads[j]).cells) BW rfl rfl rfl rfl fun b39 kF Xm Xn=>?_);have Y:=C.du Xm Xn;refine WL.ap rfl rfl Y.p3 (SR.cT (A:=fun _=>True) (x:=ph.mk group[i] (aF l group[i]).reads[j]) (As.gb Y.g0) trivial rfl (by simp [ph.cells,Value.oneCell']) rfl) fun a40 Xo pH ae8 ae9 ei=>?_;refine jg ?_;refine eb (j+1,_,a40,(b+1),Xo) ⟨ei.p1.drop.p1.drop.p1.drop,⟨by omega,by rw [v,s,List.append_assoc],trivial⟩⟩
   simp at u
   have v:=gI (group:=group) (m:=group[i]) J;rw [if_pos u] at v;refine eX ?_;refine eb (j+1,_,d,b,f) ⟨C.drop.drop,⟨by omega,by rw [v,s],trivial⟩⟩
  simp at H
  have N:(aF l group[i]).reads.take j=(aF l group[i]).reads:=List.take_of_length_le (by omega);refine lU ?_;refine eb (i+1,_,h,d,b,f) ⟨q.p6.p6.p2.k3,⟨by omega,uM,by rw [s,N,p,List.take_succ_eq_append_getElem R];simp only [List.flatMap_append,List.flatMap_cons,List.flatMap_nil,List.append_nil],trivial⟩⟩
 simp at g15
 have N:group.take i=group:=List.take_of_length_le (by omega);rw [N] at p;subst p;refine(bF) ?_;exact⟨_,_,_,_,rfl,E,y.p1.drop.p1.drop⟩
set_option maxHeartbeats 400000
end Go.Rc

