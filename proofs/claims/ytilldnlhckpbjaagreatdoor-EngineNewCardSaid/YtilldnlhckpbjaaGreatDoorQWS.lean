/- Walks over the program, part WS. Conditions: as each theorem says. -/
import Derived.Test.YtilldnlhckpbjaaGreatDoorQFacts
import Derived.Test.YtilldnlhckpbjaaGreatDoorQWN
import Derived.Test.YtilldnlhckpbjaaGreatDoorQBd
import Derived.Test.YtilldnlhckpbjaaGreatDoorQBe
set_option linter.all false
namespace Go.Rc
open Go Go.Proofs Go.Proofs.Tryz
variable {s f:ByteArray}{w:World}{t:TypeId}{p:Value}{A B C:Nat→Prop}{n:Int}{aa:List aG}{a a2:Option Addr}{r c i r2 e2:Nat}{ae:List ByteArray}
set_option maxHeartbeats 400000
set_option maxRecDepth 1000000 in
theorem jc(d:s.size≤1000):CR prog 343 #[.string s] w (.string s):=by
 refine enter func343 rfl ntmps343 rfl<|?_;have aO:=St.s0 w;refine aT ?_;refine(aX) (fun g6=>?_) fun g6=>?_
 ·
  refine(bB) ?_;exact⟨by rw [show s=⟨#[]⟩ from ByteArray.ext (Array.eq_empty_of_size_eq_zero (show s.size=0 by have:=of_decide_eq_true g6;omega))],(St.cg aO)⟩
 have h0:s.size≠0:=by have:=of_decide_eq_false g6;omega
 obtain⟨i,hi,b⟩:=Option.map_eq_some_iff.1 (show(prog.info? 5).map (fun i=>(i.zero,i.size,i.bytes))=some (some (.int .u8 0),1,1) by kernel_rfl);simp only [Prod.mk.injEq] at b;obtain⟨e,h1,hb⟩:=b;obtain⟨u1,g,h,k1,k2,k3,hc⟩:=uI (S:=9) (it:=3) (T3:=3) (T4:=9) underlying211 hi e h1 hb underlying545 h0 d w;refine fj ?_;refine WL.go rfl (OX.Om rfl rfl rfl k1 ?_);refine fb ?_;refine WL.go rfl (OX.On rfl rfl rfl k2 ?_);refine dp ?_;refine WP .r (PV.BD IV 0 (show some (⟨w.heap.size,0,none⟩:Addr)=some ⟨w.heap.size,0,none⟩ from rfl) rfl rfl rfl (by omega))<|bM ?_;refine WL.go rfl (OX.T2 rfl rfl rfl k3 ?_);refine(bB) ?_;exact⟨rfl,hc⟩
theorem sM(k:s.size≤1000) (l:w.cell? ⟨2,0,none⟩=some .nilIface):Calls prog 245 #[.string f,.string s] w fun e w'=>∃b,e=.returned (.pointer (some ⟨b,0,none⟩))∧aQ [] w w':=by
 have hr:w.rangeAt 2 0 [.nilIface]:=fun j v d=>by
  cases j with
  | zero=>simp at d;subst d;exact l
  | succ j=>simp at d
 refine enter func245 rfl ntmps245 rfl<|?_;have aO:=St.s0 w;refine fj ?_;have o:=aO.bL;refine WC.dh (m:=4) (E:=cA [(2,fun v _=>v=.string s)]) aO (bz (⟨fun _ _ _ _ _ _ _ h=>h,trivial⟩)) mixed (by kernel_rfl)<|bM ?_;refine DW.c0 (fun q g u=>jc k)<|?_;refine DP .r (fun _ g=>PV.ky vb (aV hr (St.cg g.2) (by simp)) rfl rfl)<|(cM)<|?_;rintro w1 ⟨x,st1⟩ ⟨_,_⟩;refine WP .r (PV.br (us:=[.string f,.string s,.nilIface]) Bp rfl rfl rfl)<|(dx) st1 fun y w2 z D st2=>?_;refine(bB) ?_;exact⟨_,rfl,(St.cg st2)⟩
theorem sO(k:s.size≤1000) (l:w.cell? ⟨2,0,none⟩=some (.iface t p)):Calls prog 245 #[.string f,.string s] w fun e w'=>∃b,e=.returned (.pointer (some ⟨b,0,none⟩))∧aQ [] w w':=by
 have hr:w.rangeAt 2 0 [(.iface t p)]:=fun j v d=>by
  cases j with
  | zero=>simp at d;subst d;exact l
  | succ j=>simp at d
 refine enter func245 rfl ntmps245 rfl<|?_;have aO:=St.s0 w;refine fj ?_;have o:=aO.bL;refine WC.dh (m:=4) (E:=cA [(2,fun v _=>v=.string s)]) aO (bz (⟨fun _ _ _ _ _ _ _ h=>h,trivial⟩)) mixed (by kernel_rfl)<|bM ?_;refine DW.c0 (fun q g u=>jc k)<|?_;refine DP .r (fun _ g=>PV.ky vb (aV hr (St.cg g.2) (by simp)) rfl rfl)<|(cM)<|?_;rintro w1 ⟨x,st1⟩ ⟨_,_⟩;refine WP .r (PV.br (us:=[.string f,.string s,(.iface t p)]) Bp rfl rfl rfl)<|(dx) st1 fun y w2 z D st2=>?_;refine(bB) ?_;exact⟨_,rfl,(St.cg st2)⟩
theorem Ws:prog.globalNamed "strconv.ErrSyntax" = some 2:=by kernel_rfl
theorem vu(ht:j5 prog A w) (d:s.size≤1000):Calls prog 245 #[.string f,.string s] w fun e w'=>∃b,e=.returned (.pointer (some ⟨b,0,none⟩))∧aQ [] w w':=by
 obtain⟨ev,g,h⟩:=ht.err (.inl rfl) Ws
 rcases h with rfl | ⟨t,p,rfl⟩
 ·
  exact sM d g
 exact sO d g
theorem sP(k:s.size≤1000) (l:w.cell? ⟨3,0,none⟩=some .nilIface):Calls prog 246 #[.string f,.string s] w fun e w'=>∃b,e=.returned (.pointer (some ⟨b,0,none⟩))∧aQ [] w w':=by
 have hr:w.rangeAt 3 0 [.nilIface]:=fun j v d=>by
  cases j with
  | zero=>simp at d;subst d;exact l
  | succ j=>simp at d
 refine enter func246 rfl ntmps246 rfl<|?_;have aO:=St.s0 w;refine fj ?_;have o:=aO.bL;refine WC.dh (m:=4) (E:=cA [(2,fun v _=>v=.string s)]) aO (bz (⟨fun _ _ _ _ _ _ _ h=>h,trivial⟩)) mixed (by kernel_rfl)<|bM ?_;refine DW.c0 (fun q g u=>jc k)<|?_;refine DP .r (fun _ g=>PV.ky vb (aV hr (St.cg g.2) (by simp)) rfl rfl)<|(cM)<|?_;rintro w1 ⟨x,st1⟩ ⟨_,_⟩;refine WP .r (PV.br (us:=[.string f,.string s,.nilIface]) Bp rfl rfl rfl)<|(dx) st1 fun y w2 z D st2=>?_;refine(bB) ?_;exact⟨_,rfl,(St.cg st2)⟩
theorem sQ(k:s.size≤1000) (l:w.cell? ⟨3,0,none⟩=some (.iface t p)):Calls prog 246 #[.string f,.string s] w fun e w'=>∃b,e=.returned (.pointer (some ⟨b,0,none⟩))∧aQ [] w w':=by
 have hr:w.rangeAt 3 0 [(.iface t p)]:=fun j v d=>by
  cases j with
  | zero=>simp at d;subst d;exact l
  | succ j=>simp at d
 refine enter func246 rfl ntmps246 rfl<|?_;have aO:=St.s0 w;refine fj ?_;have o:=aO.bL;refine WC.dh (m:=4) (E:=cA [(2,fun v _=>v=.string s)]) aO (bz (⟨fun _ _ _ _ _ _ _ h=>h,trivial⟩)) mixed (by kernel_rfl)<|bM ?_;refine DW.c0 (fun q g u=>jc k)<|?_;refine DP .r (fun _ g=>PV.ky vb (aV hr (St.cg g.2) (by simp)) rfl rfl)<|(cM)<|?_;rintro w1 ⟨x,st1⟩ ⟨_,_⟩;refine WP .r (PV.br (us:=[.string f,.string s,(.iface t p)]) Bp rfl rfl rfl)<|(dx) st1 fun y w2 z D st2=>?_;refine(bB) ?_;exact⟨_,rfl,(St.cg st2)⟩
theorem Wt:prog.globalNamed "strconv.ErrRange" = some 3:=by kernel_rfl
theorem vw(ht:j5 prog A w) (d:s.size≤1000):Calls prog 246 #[.string f,.string s] w fun e w'=>∃b,e=.returned (.pointer (some ⟨b,0,none⟩))∧aQ [] w w':=by
 obtain⟨ev,g,h⟩:=ht.err (.inr rfl) Wt
 rcases h with rfl | ⟨t,p,rfl⟩
 ·
  exact sP d g
 exact sQ d g
theorem x9(ht:j5 prog A w) (d:s.size≤1000):Calls prog 194 #[.string f,.string s,.int .i64 0,.int .i64 0,.iface 277 (.int .i64 2)] w fun e w'=>∃b,e=.returned (.iface 280 (.pointer (some ⟨b,0,none⟩)))∧aQ [] w w':=by
 refine enter func194 rfl ntmps194 rfl<|?_;have aO:=St.s0 w;refine aT ?_;refine bM ?_;refine WP .r (PV.Dt underlying277 (by intro ms h;cases h) rfl)<|WP .r (PV.JZ underlying184 (by kernel_rfl) underlying277 rfl rfl)<|(aX) (fun g12=>?_) fun g12=>?_
 ·
  refine(cJ) Qy (vu (ht.ext (St.cg aO)) d) ?_;rintro _ w1 ⟨b,rfl,s1⟩;have st1:=aO.step s1;refine WP .r (PV.Dt underlying280 (by intro ms h;cases h) rfl)<|(bB) ?_;exact⟨_,rfl,(St.cg st1)⟩
 ·
  exact cL g12
 -- k l m g.0 g.1 j.2 j.3 o
theorem ya(ht:j5 prog A w) (d:s.size≤1000):Calls prog 194 #[.string f,.string s,.int .i64 0,.int .i64 0,.iface 277 (.int .i64 1)] w fun e w'=>∃b,e=.returned (.iface 280 (.pointer (some ⟨b,0,none⟩)))∧aQ [] w w':=by
 refine enter func194 rfl ntmps194 rfl<|?_;have aO:=St.s0 w;refine aT ?_;refine bM ?_;refine WP .r (PV.Dt underlying277 (by intro ms h;cases h) rfl)<|WP .r (PV.JZ underlying184 (by kernel_rfl) underlying277 rfl rfl)<|(aX) (fun g12=>?_) fun g12=>?_
 ·
  exact cL g12
 ·
  refine bM ?_;refine WP .r (PV.Dt underlying277 (by intro ms h;cases h) rfl)<|WP .r (PV.JZ underlying184 (by kernel_rfl) underlying277 rfl rfl)<|(aX) (fun g19=>?_) fun g19=>?_
  ·
   refine(cJ) Qz (vw (ht.ext (St.cg aO)) d) ?_;rintro _ w1 ⟨b,rfl,s1⟩;have st1:=aO.step s1;refine WP .r (PV.Dt underlying280 (by intro ms h;cases h) rfl)<|(bB) ?_;exact⟨_,rfl,(St.cg st1)⟩
  exact cL g19
 -- j k g.2 g.3 l
theorem yb{ev:Value}(ht:j5 prog A w) (d:s.size≤1000) (he:ev=.iface 277 (.int .i64 2)∨ev=.iface 277 (.int .i64 1)):Calls prog 194 #[.string f,.string s,.int .i64 0,.int .i64 0,ev] w fun e w'=>∃b,e=.returned (.iface 280 (.pointer (some ⟨b,0,none⟩)))∧aQ [] w w':=by
 rcases he with rfl | rfl
 ·
  exact x9 ht d
 exact ya ht d
theorem Fk(ht:j5 prog A w) (d:s.size≤1000):Calls prog 153 #[.string s] w fun e w'=>∃(v:Int) (ok:Bool) (ev:Value),e=.returned (.tuple #[.int .i64 v,ev])∧(-9223372036854775808≤v∧v≤9223372036854775807)∧((ok=true∧ev=.nilIface)∨(ok=false∧∃t y,ev=.iface t y))∧aQ [] w w':=by
 refine enter func153 rfl ntmps153 rfl<|?_;have aO:=St.s0 w;refine(cJ) Qs (x7 d w) ?_;rintro _ w1 ⟨v,ok,ev,rfl,g,h,j,s1⟩;have st1:=aO.step s1;refine iM ?_;refine WP .r (PV.Oj u9 rfl h)<|(aX) (fun g12=>?_) fun g12=>?_
 ·
  refine(cJ) Qt (yb (ht.ext (St.cg st1)) d (j (by simpa using g12))) ?_;rintro _ w2 ⟨b,rfl,s2⟩;have st2:=st1.step s2;refine(wv) ?_;exact⟨v,false,_,rfl,g,.inr ⟨rfl,_,_,rfl⟩,(St.cg st2)⟩
 refine(wv) ?_;exact⟨v,true,.nilIface,rfl,g,.inl ⟨rfl,rfl⟩,(St.cg st1)⟩
set_option maxHeartbeats 400000
theorem po :CR prog 196 #[.int .i64 n] w ((bO n).val):=by
 refine enter func196 rfl ntmps196 rfl<|?_;have aO:=St.s0 w;refine(gx) aO fun b2 w1 e g st1=>?_;refine cw ?_;refine WC.eF (t:=8) (v:=.bool (decide (n<0) || decide (99<n))) st1 ?_<|?_
 ·
  refine(cO) (fun g5=>?_) (fun g5=>?_)
  ·
   exact(cp) (by simp only [g5];first | rfl | simp) (st1)
  exact(cp) (by simp only [g5];first | rfl | simp) (st1)
 intro w2 st2;refine(aX) (fun g8=>?_) fun g8=>?_
 ·
  have hk:bO n=dA:=by unfold bO;rw [if_pos (by simp at g8;omega)]
  refine(dZ) gk st2 fun w3 h j b=>?_;refine(kp) ak b.b0<|?_;rw [hk];exact⟨rfl,(St.cg b)⟩
 simp at g8
 have hk:bO n=⟨30,itoa n⟩:=by unfold bO;rw [if_neg (by omega)]
 refine(eY) (gG (n:=n) (by omega) (by omega) w2) st2 fun w3 k b=>?_;refine WP .r (PV.br (us:=[.int .i64 30,.string (itoa n)]) xJ rfl rfl rfl)<|(dZ) gk b fun w4 l m d=>?_;refine(kp) ak d.b0<|?_;rw [hk];exact⟨rfl,(St.cg d)⟩
theorem vx(hr:ei A w a r c aa):CR prog 191 #[.slice a r c,.int .i64 n] w (.tuple #[.int .i64 (block aa n).1,.int .i64 (block aa n).2]):=by
 have hle:=hr.le;have hlen:=hr.len;refine enter func191 rfl ntmps191 rfl<|?_;have aO:=St.s0 w;refine gW ?_;refine WC.eF (t:=15) (v:=.bool (decide (n<0) || decide ((r:Int)≤n))) aO ?_<|?_
 ·
  refine(cO) (fun g10=>?_) (fun g10=>?_)
  ·
   exact(cp) (by simp only [g10];first | rfl | simp) (aO)
  exact(cp) (by simp only [g10];first | rfl | simp) (aO)
 intro w1 st1;refine(aX) (fun g15=>?_) fun g15=>?_
 ·
  have hb:=tu aa n (by simp at g15;omega);refine(wv) ?_;exact⟨by rw [hb],(St.cg st1)⟩
 obtain⟨b,rfl⟩:∃i:Nat,n=i:=⟨n.toNat,by simp at g15;omega⟩
 have l:b<aa.length:=by simp at g15;omega
 have h:block aa b=if aA aa b then ((bd aa b:Int),(cU aa (b+1):Int)) else ((b:Int),(b:Int)+1):=by
  unfold block;rw [if_neg (by omega)];rfl
 refine aT ?_;refine nx ?_;obtain⟨V,W,X,G,_,⟨q1,Y,Z,rfl,_⟩,H,_⟩:=(hr.ext (St.cg st1)).at (ah l);refine cv ?_;refine WP .r (PV.dR gR G rfl rfl (by omega))<|nx ?_;refine WP .r (PV.ld1 (j:=0) dd H rfl rfl)<|(aX) (fun g24=>?_) fun g24=>?_
 ·
  simp at g24
  have hb:block aa b=((b:Int),(b:Int)+1):=by rw [h,if_neg (by rw [bs l,g24];simp)]
  refine(wv) ?_;exact⟨by rw [hb],(St.cg st1)⟩
 simp at g24
 rw [if_pos (by rw [bs l];exact g24)] at h;refine cw ?_;refine WC.bj (σ:=Nat) (db:=fun k=>[(0,.slice a r c),(6,.int .i64 (k:Int)),(7,.int .i64 ((b:Int)+1))]) (F:=fun k=>[]) (I:=fun k=>(k≤b)∧(bd aa k=bd aa b)∧True) (μ:=fun k=>k) (b) (st1) Sub.t (⟨Nat.le_refl _,rfl,trivial⟩)<|?_;rintro k w2 st2 ⟨hk,o,_⟩;simp only [CA,NA] at st2 hk o ⊢;refine bM ?_;refine WC.eF (t:=36) (v:=.bool (decide ((0:Int)<k) && aA aa (k - 1))) st2 ?_<|?_
 ·
  refine(cO) (fun q=>?_) (fun q=>?_)
  ·
   simp at q
   obtain⟨b_y,o_y,r_y,J,_,⟨K,L,M,rfl,_⟩,N,_⟩:=(hr.ext (St.cg st2)).at (ah (show k - 1<aa.length by omega));have yO:aa[k-1].ring=aA aa (k-1):=(bs (by omega)).symm;refine cv ?_;refine WP .r (PV.BD gR (i:=k - 1) J rfl rfl (by omega) (by omega))<|nx ?_;refine WP .r (PV.ld1 (j:=0) dd N rfl rfl)<|?_;exact(cp) (by simp [*]) (st2)
  simp at q
  have O:¬(0<k):=by omega
  exact(cp) (by simp [*]) (st2)
 intro w3 y;refine(aX) (fun d=>?_) fun d=>?_
 ·
  simp at d
  obtain⟨g1,g2⟩:=d;obtain⟨j,rfl⟩:∃j,k=j+1:=⟨k - 1,by omega⟩;refine lW ?_;refine fx (j) ⟨y,⟨by omega,by rw [← o,mY (by simpa using g2)],trivial⟩⟩
 simp at d
 have P:(block aa b).1=k:=by
  rw [h]
  show(bd aa b:Int)=k
  rw [← o,oM]
  by_cases h0:k=0
  ·
   exact .inl h0
  exact .inr (d (by omega))
 refine fb ?_;refine WC.bj (σ:=Nat) (db:=fun m=>[(0,.slice a r c),(6,.int .i64 (k:Int)),(7,.int .i64 (m:Int))]) (F:=fun m=>[]) (I:=fun m=>(b+1≤m)∧(m≤r)∧(cU aa m=cU aa (b+1))∧True) (μ:=fun m=>r - m) (b+1) (y) Sub.t (⟨Nat.le_refl _,by omega,rfl,trivial⟩)<|?_;rintro m w4 e ⟨Q,R,u,_⟩;simp only [CA,NA] at e Q R u ⊢;refine bM ?_;refine WC.eF (t:=49) (v:=.bool (decide ((m:Int)<r) && aA aa m)) e ?_<|?_
 ·
  refine(cO) (fun x=>?_) (fun x=>?_)
  ·
   simp at x
   obtain⟨b_z,o_z,r_z,S,_,⟨K,L,M,rfl,_⟩,T,_⟩:=(hr.ext (St.cg e)).at (ah (show m<aa.length by omega));have z:aa[m].ring=aA aa m:=(bs (by omega)).symm
   have D:decide ((m:Int)<r)=true:=by simp;omega
   refine bM ?_;refine WP .r (PV.dR gR S rfl rfl (by omega))<|nx ?_;refine WP .r (PV.ld1 (j:=0) dd T rfl rfl)<|?_;exact(cp) (by first | (rw [z,D];rfl) | simp [*]) (e)
  simp at x
  have O:¬(m<aa.length):=by omega
  exact(cp) (by first | (rw [z,D];rfl) | simp [*]) (e)
 intro w5 E;refine(aX) (fun g=>?_) fun g=>?_
 ·
  simp at g
  obtain⟨g3,g4⟩:=g;refine lW ?_;refine fx (m+1) ⟨E,⟨by omega,by omega,by rw [← u,← oL g4],trivial⟩⟩
 simp at g
 have U:(block aa b).2=m:=by
  rw [h]
  show(cU aa (b+1):Int)=m
  rw [← u,qk]
  rcases Nat.lt_or_ge m r with h0 | h0
  ·
   exact g (by omega)
  exact jG (by omega)
 refine aT ?_;refine(wv) ?_;exact⟨by rw [P,U],(St.cg E)⟩
theorem mK{cell:Bool}(hr:ei A w a r c aa) (hi:i<aa.length):CR prog 149 #[.slice a r c,.int .i64 (i:Int),.bool cell,.int .i64 n] w (.bool (eS aa i cell n)):=by
 have hle:=hr.le;have hlen:=hr.len;have g:=bs hi;have l:=zf hi
 have ht:dT aa i=if aa[i].ring=true then (block aa (i:Int)).2 else (block aa (i:Int)).1:=by unfold dT;rw [g]
 refine enter func149 rfl ntmps149 rfl<|?_;have aO:=St.s0 w;refine(aX) (fun g11=>?_) fun g11=>?_
 ·
  refine nx ?_;refine WC.jJ (t:=8) (v:=.bool (decide (0≤n) && decide (n≤15))) aO ?_<|?_
  ·
   refine(cO) (fun g14=>?_) (fun g14=>?_)
   ·
    exact(fF) (by simp only [g14];first | rfl | simp) (aO)
   exact(fF) (by simp only [g14];first | rfl | simp) (aO)
  intro w1 st1;refine(bB) ?_;exact⟨by unfold eS;rw [if_pos g11],(St.cg st1)⟩
 refine(eY) (vx (n:=(i:Int)) (hr.ext (St.cg aO))) aO fun w1 s1 st1=>?_;refine gW ?_;obtain⟨m,o,q,h,_,⟨q1,u,x,rfl,_⟩,k,_⟩:=(hr.ext (St.cg st1)).at (ah hi);refine WC.jJ (t:=8) (v:=.bool (decide (0≤n) && decide (n<dT aa i))) st1 ?_<|?_
 ·
  refine(cO) (fun b=>?_) (fun b=>?_)
  ·
   refine(cO) (fun d=>?_) (fun d=>?_)
   ·
    refine aT ?_;exact(fF) (by rw [ht];first | (simp [b,d];done) | (simp at b d;simp [b,d];done) | (simp at b d ⊢;split <;> omega) | (simp at b d;simp [b,d];omega)) (st1)
   refine bM ?_;refine WP .r (PV.dR gR h rfl rfl (by omega))<|nx ?_;refine WP .r (PV.ld1 (j:=0) dd k rfl rfl)<|(cO) (fun e=>?_) (fun e=>?_)
   ·
    exact(fF) (by rw [ht];first | (simp [b,d,e];done) | (simp at b d e;simp [b,d,e];done) | (simp at b d e ⊢;split <;> omega) | (simp at b d e;simp [b,d,e];omega)) (st1)
   exact(fF) (by rw [ht];first | (simp [b,d,e];done) | (simp at b d e;simp [b,d,e];done) | (simp at b d e ⊢;split <;> omega) | (simp at b d e;simp [b,d,e];omega)) (st1)
  refine aT ?_;exact(fF) (by rw [ht];first | (simp [b];done) | (simp at b;simp [b];done) | (simp at b ⊢;split <;> omega) | (simp at b;simp [b];omega)) (st1)
 intro w2 st2;refine(bB) ?_;exact⟨by unfold eS;rw [g11];rfl,(St.cg st2)⟩
theorem nL{k:Nat}{x:Ask}(hr:ei A w a r c aa) (hi:i<aa.length):CR prog 107 #[.slice a r c,.int .i64 (i:Int),x.val,.bool (decide ((k:Int)=0))] w (.bool (dL aa i aa[i].ring k x)):=by
 have hle:=hr.le;have hlen:=hr.len;obtain⟨q,u,y,g,_,⟨q1,z,D,rfl,_⟩,h,_⟩:=hr.at (ah hi);have e:(dL aa i aa[i].ring k x)=(eS aa i x.cell x.n && (if x.pick then !aa[i].ring && decide (k≠0) && eS aa i x.cell x.yZ else decide (x.yZ=0))):=rfl;rw [e]
 clear e
 have b:decide ((k:Int)=0)=decide (k=0):=by simp
 refine enter func107 rfl ntmps107 rfl<|?_;have aO:=St.s0 w;refine(dx) aO fun E w1 F G st1=>?_;refine dp ?_;refine WC.eF (t:=30) (v:=.bool ((x.pick && (aa[i].ring || decide (k=0))) || !eS aa i x.cell x.n)) st1 ?_<|?_
 ·
  refine(bp) dd st1.b0<|(cO) (fun g11=>?_) (fun g11=>?_)
  ·
   refine bM ?_;refine WP .r (PV.dR gR g rfl rfl (by omega))<|nx ?_;refine WP .r (PV.ld1 (j:=0) dd (aV h (St.cg st1) (by simp)) rfl rfl)<|(cO) (fun g17=>?_) (fun g17=>?_)
   ·
    refine aT ?_;exact(cp) (by first | (simp only [g11,g17,← b];rfl) | (simp [g11,g17,b];done) | (simp at g11 g17;simp [g11,g17,b];done) | (simp at g11 g17;simp_all;done)) (st1)
   refine(cO) (fun g21=>?_) (fun g21=>?_)
   ·
    exact(cp) (by first | (simp only [g11,g17,g21,← b];rfl) | (simp [g11,g17,g21,b];done) | (simp at g11 g17 g21;simp [g11,g17,g21,b];done) | (simp at g11 g17 g21;simp_all;done)) (st1)
   refine(bp) dd st1.b0<|(bp) aP st1.b0<|(eY) (mK (cell:=x.cell) (n:=x.n) (hr.ext (St.cg st1)) hi) st1 fun w2 s2 st2=>?_;exact(cp) (by first | (simp only [g11,g17,g21,← b];rfl) | (simp [g11,g17,g21,b];done) | (simp at g11 g17 g21;simp [g11,g17,g21,b];done) | (simp at g11 g17 g21;simp_all;done)) (st2)
  refine aT ?_;refine(bp) dd st1.b0<|(bp) aP st1.b0<|(eY) (mK (cell:=x.cell) (n:=x.n) (hr.ext (St.cg st1)) hi) st1 fun w2 s2 st2=>?_;exact(cp) (by first | (simp only [g11,← b];rfl) | (simp [g11,b];done) | (simp at g11;simp [g11,b];done) | (simp at g11;simp_all;done)) (st2)
 intro w2 st2;refine(aX) (fun l=>?_) fun l=>?_
 ·
  refine(bB) ?_;exact⟨by cases hm:eS aa i x.cell x.n <;> cases H:x.pick <;> cases m:aa[i].ring <;> by_cases h0:k=0 <;> simp_all,(St.cg st2)⟩
 refine(bp) dd st2.b0<|(aX) (fun d=>?_) fun d=>?_
 ·
  simp at d
  refine(bp) aP st2.b0<|(bB) ?_;exact⟨by cases hm:eS aa i x.cell x.n <;> simp_all,(St.cg st2)⟩
 simp at d
 refine(bp) dd st2.b0<|(bp) aP st2.b0<|(eY) (mK (cell:=x.cell) (n:=x.yZ) (hr.ext (St.cg st2)) hi) st2 fun w3 I o=>?_;refine(bB) ?_;exact⟨by cases hm:eS aa i x.cell x.n <;> cases m:aa[i].ring <;> by_cases h0:k=0 <;> simp_all,(St.cg o)⟩
theorem rR(hr:ei A w a r c aa) (M:ao aa):CR prog 68 #[.slice a r c] w (.bool true):=by
 have hle:=hr.le;have hlen:=hr.len;have Z:=M.1;refine enter func68 rfl ntmps68 rfl<|?_;have aO:=St.s0 w;refine aT ?_;refine(aX) (fun g12=>?_) fun g12=>?_
 ·
  exact cL g12
 ·
  refine iM ?_;refine WC.bj (σ:=Nat) (db:=fun i=>[(0,.slice a r c),(13,.slice a r c),(14,.int .i64 (r:Int)),(15,.int .i64 (i:Int))]) (F:=fun i=>[]) (I:=fun i=>(i≤r)∧True) (μ:=fun i=>r - i) (0) (aO) Sub.t (⟨by omega,trivial⟩)<|?_;rintro i w1 st1 ⟨hi,_⟩;simp only [CA,NA] at st1 hi ⊢;refine(aX) (fun g16=>?_) fun g16=>?_
  ·
   simp at g16
   have E:i<aa.length:=by omega
   obtain⟨Wu,N,q⟩:=M.2 i _ (ah E)
   unfold fH at q
   obtain⟨b_x,o_x,r_x,P,_,⟨q1,j,O,rfl,G⟩,Q,_⟩:=hr.at (ah E);have wE:=G.len;refine fb ?_;refine WP .r (PV.dR gR P rfl rfl (by omega))<|(bP) uc (aV Q (St.cg st1) (by simp))<|(gx) st1 fun b4 w2 CX H0 st2=>?_;refine(dZ) Cv st2 fun w3 nT rH b=>?_;refine aT ?_;refine(bp) dd b.b0<|(aX) (fun g21=>?_) fun g21=>?_
   ·
    rw [if_pos g21] at q
    simp at q
    refine gW ?_;refine WC.eF (t:=48) (v:=.bool false) b ?_<|?_
    ·
     refine(bp) ja b.b0<|(cO) (fun d=>?_) (fun d=>?_)
     ·
      refine aT ?_;exact(cp) (tG d) (b)
     refine(bp) aP b.b0<|(cO) (fun e=>?_) (fun e=>?_)
     ·
      refine aT ?_;exact(cp) (tG (aj d e)) (b)
     refine(bp) aP b.b0<|(cO) (fun g=>?_) (fun g=>?_)
     ·
      exact(cp) (tG (aj d<|aj e g)) (b)
     refine(bp) aP b.b0<|(cO) (fun l=>?_) (fun l=>?_)
     ·
      exact(cp) (tG (aj d<|aj e<|aj g l)) (b)
     refine(bp) aP b.b0<|?_;exact(cp) (tG (aj d<|aj e<|aj g l)) (b)
    intro w4 y;refine(aX) (fun z=>?_) fun z=>?_
    ·
     exact cL z
    refine(bp) ja y.b0<|dp ?_;refine WC.bj (σ:=Nat) (db:=fun k=>[(0,.slice a r c),(3,.int .i64 (i:Int)),(13,.slice a r c),(14,.int .i64 (r:Int)),(15,.int .i64 (i:Int)),(50,.slice q1 j O),(51,.int .i64 (j:Int)),(52,.int .i64 (k:Int))]) (F:=fun k=>[]) (I:=fun k=>(k≤j)∧True) (μ:=fun k=>j - k) (0) (y) Sub.t (⟨by omega,trivial⟩)<|?_;rintro k w5 h ⟨hk,_⟩;simp only [CA,NA] at h hk ⊢;refine(aX) (fun m=>?_) fun m=>?_
    ·
     simp at m
     have D:k<aa[i].asks.length:=by omega
     obtain⟨R,S,T,H,_,rfl,J,_⟩:=(G.ext (St.cg h)).at (ah D);refine fb ?_;refine WP .r (PV.dR sG H rfl rfl (by omega))<|(bP) l6 J<|(gx) h fun U w6 V W K=>?_;refine(dZ) zP K fun w7 Bt wu o=>?_;refine(bP) l6 o.b0<|bM ?_;refine WL.c1 (u:=.bool true) (nL (k:=k) (x:=aa[i].asks[k]) (hr.ext (St.cg o)) E) (by rw [show dL aa i aa[i].ring k aa[i].asks[k]=true from N k _ (ah D)]) o fun X Y L=>?_;refine cv ?_;refine WC.ef rfl<|fb ?_;refine fx (k+1) ⟨L.drop,⟨by omega,trivial⟩⟩
    simp at m
    refine kL ?_;refine fx (i+1) ⟨h.drop,⟨by omega,trivial⟩⟩
   rw [if_neg (by simp [g21])] at q
   simp at q
   refine cw ?_;refine WC.eF (t:=48) (v:=.bool false) b ?_<|?_
   ·
    refine(bp) ja b.b0<|(cO) (fun d=>?_) (fun d=>?_)
    ·
     refine aT ?_;exact(cp) (tG d) (b)
    refine(bp) aP b.b0<|(cO) (fun e=>?_) (fun e=>?_)
    ·
     refine aT ?_;exact(cp) (tG (aj d e)) (b)
    refine(bp) aP b.b0<|(cO) (fun g=>?_) (fun g=>?_)
    ·
     exact(cp) (tG (aj d<|aj e g)) (b)
    refine(bp) aP b.b0<|(cO) (fun l=>?_) (fun l=>?_)
    ·
     exact(cp) (tG (aj d<|aj e<|aj g l)) (b)
    refine(bp) aP b.b0<|?_;exact(cp) (tG (aj d<|aj e<|aj g l)) (b)
   intro w4 y;refine(aX) (fun z=>?_) fun z=>?_
   ·
    exact cL z
   refine(bp) ja y.b0<|dp ?_;refine WC.bj (σ:=Nat) (db:=fun k=>[(0,.slice a r c),(3,.int .i64 (i:Int)),(13,.slice a r c),(14,.int .i64 (r:Int)),(15,.int .i64 (i:Int)),(50,.slice q1 j O),(51,.int .i64 (j:Int)),(52,.int .i64 (k:Int))]) (F:=fun k=>[]) (I:=fun k=>(k≤j)∧True) (μ:=fun k=>j - k) (0) (y) Sub.t (⟨by omega,trivial⟩)<|?_;rintro k w5 h ⟨hk,_⟩;simp only [CA,NA] at h hk ⊢;refine(aX) (fun m=>?_) fun m=>?_
   ·
    simp at m
    have D:k<aa[i].asks.length:=by omega
    obtain⟨R,S,T,H,_,rfl,J,_⟩:=(G.ext (St.cg h)).at (ah D);refine fb ?_;refine WP .r (PV.dR sG H rfl rfl (by omega))<|(bP) l6 J<|(gx) h fun U w6 V W K=>?_;refine(dZ) zP K fun w7 LS BR o=>?_;refine(bP) l6 o.b0<|bM ?_;refine WL.c1 (u:=.bool true) (nL (k:=k) (x:=aa[i].asks[k]) (hr.ext (St.cg o)) E) (by rw [show dL aa i aa[i].ring k aa[i].asks[k]=true from N k _ (ah D)]) o fun X Y L=>?_;refine cv ?_;refine WC.ef rfl<|fb ?_;refine fx (k+1) ⟨L.drop,⟨by omega,trivial⟩⟩
   simp at m
   refine kL ?_;refine fx (i+1) ⟨h.drop,⟨by omega,trivial⟩⟩
  simp at g16
  refine(bB) ?_;exact⟨rfl,(St.cg st1)⟩
 -- kX eH C63
theorem vy{n:Nat}(ht:j5 prog A w) (hn:n≤65535):CR prog 195 #[.string (itoa (n:Int))] w (.int .i64 (n:Int)):=by
 refine enter func195 rfl ntmps195 rfl<|?_;have aO:=St.s0 w;refine(eY) (xN (n:=n) (by omega) w) aO fun w1 s1 st1=>?_;refine lW ?_;refine WC.eF (t:=25) (v:=.bool false) st1 ?_<|?_
 ·
  refine bM ?_;refine WP .r (PV.JX u9 rfl)<|nx ?_;refine WL.ct (t:=12) rfl (fun g12=>?_) (fun g12=>?_)
  ·
   refine aT ?_;exact(cp) (tG g12) (st1)
  refine cw ?_;refine WL.ct (t:=16) rfl (fun g16=>?_) (fun g16=>?_)
  ·
   exact(cp) (tG (aj g12 g16)) (st1)
  refine cw ?_;refine WL.ct (t:=20) rfl (fun g20=>?_) (fun g20=>?_)
  ·
   exact(cp) (tG (aj g12<|aj g16 g20)) (st1)
  refine(eY) (jY (n:=(n:Int)) (ht.ext (St.cg st1)) (by omega) (by omega)) st1 fun w2 s2 st2=>?_;exact(cp) (tG (aj g12<|aj g16 g20)) (st2)
 intro w2 st2;refine(aX) (fun b=>?_) fun b=>?_
 ·
  exact cL b
 refine(bB) ?_;exact⟨rfl,(St.cg st2)⟩
theorem vz(ht:j5 prog A w) (g:s.size≤1000) (b:∀n:Nat,n≤65535→s≠itoa (n:Int)):CR prog 195 #[.string s] w (.int .i64 0):=by
 refine enter func195 rfl ntmps195 rfl<|?_;have aO:=St.s0 w;refine(cJ) I4 (Fk (s:=s) (ht.ext (St.cg aO)) g) ?_;rintro _ w1 ⟨v,ok,ev,rfl,j,h,s1⟩;have st1:=aO.step s1;refine lW ?_;refine WC.eF (t:=25) (v:=.bool true) st1 ?_<|?_
 ·
  refine bM ?_;refine WP .r (PV.Oj u9 rfl h)<|(cO) (fun g12=>?_) (fun g12=>?_)
  ·
   refine aT ?_;exact(cp) (by first | (simp [g12];done) | (simp at g12 ⊢;intro e;exact b v.toNat (by omega) (by rw [show((v.toNat:Nat):Int)=v by omega];exact e.symm))) (st1)
  refine(cO) (fun g16=>?_) (fun g16=>?_)
  ·
   exact(cp) (by first | (simp [g12,g16];done) | (simp at g12 g16 ⊢;intro e;exact b v.toNat (by omega) (by rw [show((v.toNat:Nat):Int)=v by omega];exact e.symm))) (st1)
  refine(cO) (fun g20=>?_) (fun g20=>?_)
  ·
   exact(cp) (by first | (simp [g12,g16,g20];done) | (simp at g12 g16 g20 ⊢;intro e;exact b v.toNat (by omega) (by rw [show((v.toNat:Nat):Int)=v by omega];exact e.symm))) (st1)
  refine(eY) (jY (n:=v) (ht.ext (St.cg st1)) (by omega) (by omega)) st1 fun w2 s2 st2=>?_;exact(cp) (by first | (simp [g12,g16,g20];done) | (simp at g12 g16 g20 ⊢;intro e;exact b v.toNat (by omega) (by rw [show((v.toNat:Nat):Int)=v by omega];exact e.symm))) (st2)
 intro w2 st2;refine(aX) (fun d=>?_) fun d=>?_
 ·
  refine(bB) ?_;exact⟨rfl,(St.cg st2)⟩
 exact cL d
theorem pq(ht:j5 prog A w) (b:s.size≤1000):CR prog 195 #[.string s] w (.int .i64 (bR s:Int)):=by
 by_cases h:∃n:Nat,n≤65535∧s=itoa (n:Int)
 ·
  obtain⟨n,hn,rfl⟩:=h;rw [dH hn];exact vy ht hn
 have h0:∀n:Nat,n≤65535→s≠itoa (n:Int):=fun n hn e=>h ⟨n,hn,e⟩;rw [B1 h0];exact vz ht b h0
theorem sR{kd:Int}{l:List Nat}(hl:Ints A w a r c (l.map fun x:Nat=>(x:Int))) (g:∀x∈l,x≤65535) (hr:r≤1000):CR prog 197 #[.int .i64 kd,.slice a r c] w (.int .i64 (cI kd 0 l:Int)):=by
 have hle:=SR.le hl;have hlen:=SR.len hl;rw [List.length_map] at hlen;have k:∀i,∀x∈l.take i,x≤65535:=fun i x o=>g x (List.mem_of_mem_take o);refine enter func197 rfl ntmps197 rfl<|?_;have aO:=St.s0 w;refine aT ?_;refine lW ?_;refine WC.bj (σ:=Nat) (db:=fun i=>[(0,.int .i64 kd),(5,.int .i64 (mZ 0 (l.take i):Int)),(6,.int .i64 (oO 0 (l.take i):Int)),(7,.int .i64 (dE 0 (l.take i):Int)),(10,.slice a r c),(11,.int .i64 (r:Int)),(12,.int .i64 (i:Int))]) (F:=fun i=>[]) (I:=fun i=>(i≤r)∧True) (μ:=fun i=>r - i) (0) (aO) Sub.t (⟨by omega,trivial⟩)<|?_;rintro i w1 st1 ⟨hi,_⟩;simp only [CA,NA] at st1 hi ⊢;refine(aX) (fun g13=>?_) fun g13=>?_
 ·
  simp at g13
  have h:i<l.length:=by omega
  have q:i<(l.map fun x:Nat=>(x:Int)).length:=by simpa using h
  have u:=pX (c:=0) (k i);have v:=kI (c:=0) (by omega) (k i);have y:=ju (c:=0) (by omega) (k i);have E:=g l[i] (List.getElem_mem h)
  have G:(l.take i).length≤1000:=by rw [List.length_take];omega
  have e1:=tw (c:=0) h;have e2:=qn (c:=0) h;have e3:=qo (c:=0) h;refine dp ?_;obtain⟨H,J,K,z,_,rfl,m,_⟩:=(SR.ext hl (St.cg st1)).at (ah q);rw [List.getElem_map] at m;refine nx ?_;refine WP .r (PV.dR zO z rfl rfl (by omega))<|WP .r (PV.ky aP m rfl rfl)<|lW ?_;refine WP .r (PV.Dk rfl rfl)<|bM ?_;refine WP .r (PV.orN rfl rfl (by omega) (by omega))<|kL ?_;refine fx (i+1) ⟨st1,⟨by omega,trivial⟩⟩
 simp at g13
 have D:l.take i=l:=List.take_of_length_le (by omega);rw [D];have u:=pX (c:=0) g;have v:=kI (c:=0) (by omega) g;have y:=ju (c:=0) (by omega) g
 have L:l.length≤1000:=by omega
 refine aT ?_;refine(aX) (fun b=>?_) fun b=>?_
 ·
  simp at b
  refine(bB) ?_;exact⟨by unfold cI;rw [if_pos b,Int.tmod_eq_emod_of_nonneg (by omega)];rfl,(St.cg st1)⟩
 simp at b
 refine(aX) (fun d=>?_) fun d=>?_
 ·
  simp at d
  refine cv ?_;refine WP .r (PV.quo rfl rfl (by omega) (by rw [Int.tdiv_eq_ediv_of_nonneg (by omega)];omega) (by rw [Int.tdiv_eq_ediv_of_nonneg (by omega)];omega))<|(bB) ?_;exact⟨by unfold cI;rw [if_neg b,if_pos d,Int.tdiv_eq_ediv_of_nonneg (by omega),Int.tmod_eq_emod_of_nonneg (by omega)];rfl,(St.cg st1)⟩
 simp at d
 refine(aX) (fun e=>?_) fun e=>?_
 ·
  simp at e
  refine(bB) ?_;exact⟨by unfold cI;rw [if_neg b,if_neg d,if_pos e],(St.cg st1)⟩
 simp at e
 refine(aX) (fun j=>?_) fun j=>?_
 ·
  simp at j
  refine(bB) ?_;exact⟨by unfold cI;rw [if_neg b,if_neg d,if_neg e,if_pos j,Int.tmod_eq_emod_of_nonneg (by omega)];rfl,(St.cg st1)⟩
 simp at j
 refine(bB) ?_;exact⟨by unfold cI;rw [if_neg b,if_neg d,if_neg e,if_neg j],(St.cg st1)⟩
set_option maxHeartbeats 1600000 in
theorem yc(ht:j5 prog A w) (W:ao aa) (hi:i<aa.length) (hr:ei B w a r c aa) (hl:Strs C w a2 r2 e2 ae) (hsz:∀s∈ae,s.size≤1000):CR prog 156 #[.slice a r c,(aN aa (i:Int)).val,.slice a2 r2 e2] w ((bN aa (aN aa (i:Int)) ae).val):=by
 have CT:=W.len
 have gu:i≤99:=by omega
 have hle:=hr.le;have hlen:=hr.len;have rD:=hl.len;have pP:=hl.le
 obtain⟨kd,hkd,hk⟩:∃kd:Int,(kd=31∨kd=32)∧aN aa (i:Int)=⟨kd,itoa i⟩:=by
  unfold aN
  rw [if_neg (by omega)]
  cases h:aA aa i
  ·
   exact⟨31,.inl rfl,by simp [h]⟩
  exact⟨32,.inr rfl,by simp [h]⟩
 have N:=bC hi gu;obtain⟨Wu,Wv,aek⟩:=W.2 i _ (ah hi);have Ww:=ao.hb W _ (List.getElem_mem hi);obtain⟨g,QC⟩:∃g:Nat,aa[i].c=g:=⟨aa[i].c.toNat,by omega⟩;obtain⟨b_x,o_x,r_x,yd,_,⟨q1,b,q3,rfl,xQ⟩,Q3,_⟩:=hr.at (ah hi);rw [QC] at Q3;have wE:=xQ.len;rw [hk] at N ⊢;refine enter func156 rfl ntmps156 rfl<|?_;have aO:=St.s0 w;refine(dx) aO fun b4 w1 CX H0 st1=>?_;refine(gx) st1 fun b6 w2 Lx Wx st2=>?_;refine(bP) ak st2.b1<|(eY) (jm (k:=(⟨kd,itoa i⟩:Key)) ⟨by simp only [];omega,by simp only [];omega⟩ rfl gu) st2 fun w3 s3 X=>?_;refine dp ?_;refine WC.eF (t:=30) (v:=.bool false) X ?_<|?_
 ·
  have Wz:=X.bL;refine WC.dh (m:=12) (E:=cA [(10,fun v _=>v=(aN aa (i:Int)).val)]) X (bz (⟨fun _ _ _ _ _ _ _ h=>h,trivial⟩)) mixed (by kernel_rfl)<|cv ?_;refine DW.ct (t:=19) rfl (fun g19=>?_) (fun g19=>?_)
  ·
   refine(cM) ?_;rintro w4 ⟨sS,D⟩ _;exact(cp) (by first | rfl | (simp [g19,hk];done) | (simp [g19,hk];omega) | (simp only [g19];done) | (simp only [g19];rfl) | (simp [g19];done) | (simp;done) | (simp at g19 ⊢ <;> omega) | (simp <;> omega) | (simp [g19] <;> omega) | (simp at g19 <;> omega)) (D)
  refine(gX) aP St.g1<|cv ?_;refine DW.ct (t:=24) rfl (fun g24=>?_) (fun g24=>?_)
  ·
   refine(cM) ?_;rintro w4 ⟨sS,D⟩ _;exact(cp) (by first | rfl | (simp [g19,g24,hk];done) | (simp [g19,g24,hk];omega) | (simp only [g19,g24];done) | (simp only [g19,g24];rfl) | (simp [g19,g24];done) | (simp;done) | (simp at g19 g24 ⊢ <;> omega) | (simp <;> omega) | (simp [g19,g24] <;> omega) | (simp at g19 g24 <;> omega)) (D)
  refine bM ?_;refine DW.c0 (fun wx hC hF=>lJ (n:=(i:Int)) (hr.ext (St.cg hC.2)))<|(gy) ak St.g1<|(cM)<|?_;rintro w4 ⟨sS,D⟩ ⟨_,_⟩;refine WP .r (PV.It fP (p:=aN aa (i:Int)) (q:=(⟨kd,itoa i⟩:Key)) rfl rfl)<|?_;exact(cp) (by first | rfl | (simp [g19,g24,hk];done) | (simp [g19,g24,hk];omega) | (simp only [g19,g24];done) | (simp only [g19,g24];rfl) | (simp [g19,g24];done) | (simp;done) | (simp at g19 g24 ⊢ <;> omega) | (simp <;> omega) | (simp [g19,g24] <;> omega) | (simp at g19 g24 <;> omega)) (D)
 intro w4 D;refine(aX) (fun g30=>?_) fun g30=>?_
 ·
  exact cL g30
 refine fj ?_;refine WP .r (PV.BD gR (i:=i) yd rfl rfl (by omega) (by omega))<|(bP) uc (aV Q3 (St.cg D) (by simp))<|(gx) D fun b8 w5 Nr hb8 ki=>?_;refine(dZ) Cv ki fun w6 nT rH K=>?_;refine aT ?_;refine(bp) ja K.b0<|(aX) (fun Y=>?_) fun Y=>?_
 ·
  simp at Y
  have hn:r2<aa[i].asks.length:=by omega
  have z:=gB (ae:=ae) N hi (by rw [N];exact hk) (show ae.length<aa[i].asks.length by omega);simp only [← rD] at z
  have Me:r2=0→aa[i].asks[r2].pick=false:=fun h0=>by
   have:=Wv r2 _ (ah hn)
   cases hp:aa[i].asks[r2].pick
   ·
    rfl
   unfold dL at this
   rw [hp] at this
   simp [h0] at this
  refine nx ?_;obtain⟨b_y,o_y,r_y,WA,_,rfl,WG,_⟩:=(xQ.ext (St.cg K)).at (ah hn);refine(bp) ja K.b0<|nx ?_;refine WP .r (PV.dR sG WA rfl rfl (by omega))<|(bP) l6 WG<|(gx) K fun Ta w7 H3 H4 O=>?_;refine(dZ) zP O fun w8 Bt wu o=>?_;refine(bp) aP o.b0<|dp ?_;refine WC.eF (t:=65) (v:=.bool (dK aa[i].asks[r2] ae)) o ?_<|?_
  ·
   refine(bp) dd o.b0<|nx ?_;refine WL.ct (t:=52) rfl (fun T=>?_) (fun T=>?_)
   ·
    refine cw ?_;refine WL.ct (t:=56) rfl (fun Z=>?_) (fun Z=>?_)
    ·
     simp at Z
     obtain⟨b_z,o_z,r_z,WI,_,rfl,WJ,_⟩:=(hl.ext (St.cg o)).at (ah (show r2 - 1<ae.length by omega))
     have ss:dK aa[i].asks[r2] ae=decide ((bR ae[r2 - 1]:Int).tmod 2=0):=by
      unfold dK
      simp only [T,← rD,Bool.true_and];rw [decide_eq_false (by omega),Bool.false_or,getElem!_pos ae (r2 - 1) (by omega),Int.tmod_eq_emod_of_nonneg (by omega)]
      congr 1
      exact propext ⟨fun h=>by omega,fun h=>by omega⟩
     refine cv ?_;refine WP .r (PV.BD l7 (i:=r2 - 1) WI rfl rfl (by omega) (by omega))<|WP .r (PV.ky ff WJ rfl rfl)<|(eY) (pq (s:=ae[r2 - 1]) (ht.ext (St.cg o)) (hsz _ (List.getElem_mem _))) o fun w9 s9 d=>?_;exact(cp) (by rw [ss]) (d)
    exact absurd (Me (by simp at Z;omega)) (by simp [T])
   have ss:dK aa[i].asks[r2] ae=false:=by unfold dK;rw [T];rfl
   refine aT ?_;exact(cp) (by rw [ss]) (o)
  intro w9 d;refine(aX) (fun WK=>?_) fun WK=>?_
  ·
   have P:mr aa[i].asks[r2] ae=aa[i].asks[r2].yZ:=by unfold mr;rw [if_pos WK]
   refine(bp) aP d.b0<|(bp) dd d.b0<|(aX) (fun J=>?_) fun J=>?_
   ·
    rw [P,if_pos J] at z;refine(eY) (po) d fun Q U y=>?_;refine WP .r (PV.br (us:=[.bool false,.string ⟨#[]⟩,.int .i64 (bO _).kind,.string (bO _).text]) ke rfl rfl rfl)<|(dZ) fc y.p2 fun S LS BR e=>?_;refine(kp) gj e.b0<|?_;rw [z];exact⟨rfl,(St.cg e)⟩
   rw [P,if_neg (by simp [J])] at z;refine(eY) (lJ (hr.ext (St.cg d))) d fun Q U y=>?_;refine WP .r (PV.br (us:=[.bool false,.string ⟨#[]⟩,.int .i64 (aN aa _).kind,.string (aN aa _).text]) ke rfl rfl rfl)<|(dZ) fc y.p2 fun S S6 S7 e=>?_;refine(kp) gj e.b0<|?_;rw [z];exact⟨rfl,(St.cg e)⟩
  have P:mr aa[i].asks[r2] ae=aa[i].asks[r2].n:=by unfold mr;rw [if_neg (by simp [WK])]
  refine(bp) dd d.b0<|(aX) (fun J=>?_) fun J=>?_
  ·
   rw [P,if_pos J] at z;refine(eY) (po) d fun Q U y=>?_;refine WP .r (PV.br (us:=[.bool false,.string ⟨#[]⟩,.int .i64 (bO _).kind,.string (bO _).text]) ke rfl rfl rfl)<|(dZ) fc y.p2 fun S ss4 SN e=>?_;refine(kp) gj e.b0<|?_;rw [z];exact⟨rfl,(St.cg e)⟩
  rw [P,if_neg (by simp [J])] at z;refine(eY) (lJ (hr.ext (St.cg d))) d fun Q U y=>?_;refine WP .r (PV.br (us:=[.bool false,.string ⟨#[]⟩,.int .i64 (aN aa _).kind,.string (aN aa _).text]) ke rfl rfl rfl)<|(dZ) fc y.p2 fun S Wd We e=>?_;refine(kp) gj e.b0<|?_;rw [z];exact⟨rfl,(St.cg e)⟩
 simp at Y
 have z:=ik (ae:=ae) N hi (by rw [N];exact hk) (show aa[i].asks.length≤ae.length by omega);rw [← wE,QC,Int.toNat_natCast] at z
 have HU:∀x∈(ae.take b).map bR,x≤65535:=fun x G=>by obtain⟨s,_,rfl⟩:=List.mem_map.1 G;exact iS s
 have JO:=lu (kind:=aa[i].final) (c:=g) (l:=(ae.take b).map bR) (by omega) HU
 have hll:((ae.take b).map bR).length=b:=by rw [List.length_map,List.length_take];omega
 refine(bp) aP K.b0<|?_;refine WL.go rfl (OX.aS (us:=[.int .i64 (g:Int)]) Es rfl rfl rfl rfl fun b79 w7 Q4 WM=>?_);have O:=St.qu (R:=RR.int) (E:=3) (k:=1) (a:=some ⟨b79,0,none⟩) (n:=1) (c:=1) (xs:=[(g:Int)]) K Q4.ext (OR.dr WM (Nat.zero_le _) rfl (by simp [Value.oneCell']) rfl) (fun x G=>by simp [bA] at G;subst G;exact Q4.ge);refine(bp) ja O.b1<|nx ?_;refine WP .r (PV.nX l7 (hl.ext (St.cg O)) rfl rfl (by omega))<|dp ?_;refine WC.bj (σ:=Nat × (Option Addr) × Nat × Nat) (db:=fun(j,L,H,M)=>[(6,.pointer (some ⟨b6,0,none⟩)),(8,.pointer (some ⟨b8,0,none⟩)),(12,.slice L H M),(84,.slice a2 b e2),(85,.int .i64 (b:Int)),(86,.int .i64 (j:Int))]) (F:=fun(j,L,H,M)=>[As.os RR.int 3 1 L H M ((((g::((ae.take b).map bR).take j)).map fun x:Nat=>(x:Int)))]) (I:=fun(j,L,H,M)=>(j≤b)∧True) (μ:=fun(j,L,H,M)=>b - j) (0,(some ⟨b79,0,none⟩),1,1) (O) Sub.t (⟨by omega,trivial⟩)<|?_;rintro⟨j,L,H,M⟩ w8 o ⟨hj,_⟩;simp only [CA,NA] at o hj ⊢;have vl:=((As.gs o.g0)).len
 have Fa:H≤1+j:=by have h0:=vl;simp at h0;omega
 refine(aX) (fun H5=>?_) fun H5=>?_
 ·
  simp at H5
  have Ak:j<ae.length:=by omega
  obtain⟨b_u,o_u,r_u,WO,_,rfl,WQ,_⟩:=(hl.ext (St.cg o)).at (ah Ak);refine fj ?_;refine WP .r (PV.dR l7 WO rfl rfl (by omega))<|WP .r (PV.ky ff WQ rfl rfl)<|(eY) (pq (s:=ae[j]) (ht.ext (St.cg o)) (hsz _ (List.getElem_mem _))) o fun w9 s9 d=>?_;refine WL.go rfl (OX.aS (us:=[.int .i64 (bR ae[j]:Int)]) Es rfl rfl rfl rfl fun Q5 Q Mf Mg=>?_);have y:=d.df Mf Mg;refine WL.ap rfl rfl y.p1 (SR.dr (A:=fun _=>True) (x:=((bR ae[j]:Nat):Int)) (As.gb y.g0) trivial rfl (by simp [Value.oneCell']) rfl) fun a94 WR S aen aeo e=>?_;refine bM ?_;have V:=e.N4 (show(((((g::((ae.take b).map bR).take j)).map fun x:Nat=>(x:Int)))++[((bR ae[j]:Nat):Int)])=(((g::((ae.take b).map bR).take (j+1))).map fun x:Nat=>(x:Int)) by rw [List.take_succ_eq_append_getElem (by omega),← List.cons_append,List.map_append,List.getElem_map,List.getElem_take];rfl);refine fj ?_;refine fx (j+1,a94,(H+1),WR) ⟨V.p1.drop,⟨by omega,trivial⟩⟩
 simp at H5
 have hje:((ae.take b).map bR).take j=(ae.take b).map bR:=List.take_of_length_le (by omega);have d:=o.N4 (show(((g::((ae.take b).map bR).take j)).map fun x:Nat=>(x:Int))=(((g::(ae.take b).map bR)).map fun x:Nat=>(x:Int)) by rw [hje]);refine(bp) aP d.b1<|nx ?_;refine WL.c1 (u:=.int .i64 ((cI aa[i].final g ((ae.take b).map bR)):Int)) (sR (kd:=aa[i].final) (l:=g::(ae.take b).map bR) (Ow.rd (As.gs d.g0) (by simp;omega)) (fun x G=>by rcases List.mem_cons.1 G with rfl | G;omega;exact HU x G) (by omega)) (by rw [xj]) d fun w9 s9 y=>?_;refine(eY) (jY (n:=((cI aa[i].final g ((ae.take b).map bR)):Int)) (ht.ext (St.cg y)) (by omega) (by omega)) y fun Q U e=>?_;refine WP .r (PV.br (us:=[.bool true,.string (itoa ((cI aa[i].final g ((ae.take b).map bR)):Int)),.int .i64 0,.string ⟨#[]⟩]) ke rfl rfl rfl)<|(dZ) fc e.p2 fun S ss6 hs6 V=>?_;refine(kp) gj V.b0<|?_;rw [z];exact⟨rfl,(St.cg V)⟩
theorem jn(ht:j5 prog A w) (d:ao aa) (hi:i<aa.length) (hr:ei B w a r c aa) (hl:Strs C w a2 r2 e2 ae) (hsz:∀s∈ae,s.size≤1000):CR prog 121 #[.slice a r c,(aN aa (i:Int)).val,.slice a2 r2 e2] w ((bN aa (aN aa (i:Int)) ae).val):=by
 have j:=d.len;have g:=dn hi (by omega);refine enter func121 rfl ntmps121 rfl<|?_;have aO:=St.s0 w;refine(dx) aO fun b4 w1 l m st1=>?_;refine(gx) st1 fun o w2 q v st2=>?_;refine(bP) ak st2.b1<|?_;refine WL.c1 (u:=.bool true) (kY (k:=aN aa (i:Int))) (by rw [show(decide ((aN aa (i:Int)).kind=31) || decide ((aN aa (i:Int)).kind=32))=true by(rw [g];split <;> simp)]) st2 fun w3 x b=>?_;refine cv ?_;refine WC.lP rfl<|(bP) ak b.b1<|(eY) (yc (ht.ext (St.cg b)) d hi (hr.ext (St.cg b)) (hl.ext (St.cg b)) hsz) b fun w4 y h=>?_;refine(dZ) fc h fun w5 z D e=>?_;refine(kp) gj e.b0<|?_;exact⟨rfl,(St.cg e)⟩
theorem nM{k:Key}(hk:k.kind=32):CR prog 264 #[k.val] w (.string ⟨#[48]⟩):=by
 refine enter func264 rfl ntmps264 rfl<|?_;have aO:=St.s0 w;refine(dx) aO fun b1 w1 b d st1=>?_;refine(bp) aP st1.b0<|(aX) (fun g3=>?_) fun g3=>?_
 ·
  skip
  refine(bB) ?_;exact⟨rfl,(St.cg st1)⟩
 exact absurd g3 (by simp [hk])
theorem sT(hi:i<aa.length) (gu:i≤99) (hr:ei B w a r c aa):CR prog 72 #[.slice a r c,(aN aa (i:Int)).val] w (.bool true):=by
 have g:=dn hi gu
 have j:(aN aa (i:Int)).text=itoa i:=by unfold aN;rw [if_neg (by omega)]
 have l:30≤(aN aa (i:Int)).kind∧(aN aa (i:Int)).kind≤32:=by rw [g];split <;> omega
 refine enter func72 rfl ntmps72 rfl<|?_;have aO:=St.s0 w;refine(dx) aO fun b3 w1 o x st1=>?_;refine cw ?_;have y:=st1.bL;refine WC.dh (m:=12) (E:=cA [(1,fun v _=>v=.bool true),(4,fun v _=>v=.bool true),(9,fun v _=>v=.int .i64 (i:Int)),(10,fun v _=>v=(aN aa (i:Int)).val)]) st1 (bz (⟨fun _ _ _ _ _ _ _ h=>h,⟨fun _ _ _ _ _ _ _ h=>h,⟨fun _ _ _ _ _ _ _ h=>h,⟨fun _ _ _ _ _ _ _ h=>h,trivial⟩⟩⟩⟩)) mixed (by kernel_rfl)<|(gy) ak St.g0<|?_;refine DW.c0 (fun d b e=>fJ (k:=aN aa (i:Int)) l j gu)<|(gy) ak St.g0<|?_;refine DW.c1 (u:=.bool true) (fun d b e=>kY (k:=aN aa (i:Int))) (by rw [show(decide ((aN aa (i:Int)).kind=31) || decide ((aN aa (i:Int)).kind=32))=true by(rw [g];split <;> simp)])<|(gy) ak St.g0<|?_;refine DW.c0 (fun d b e=>jm (k:=aN aa (i:Int)) l j gu)<|?_;refine DW.c0 (fun d b e=>lJ (n:=(i:Int)) (hr.ext (St.cg b.2)))<|(gy) ak St.g0<|(cM)<|?_;rintro w2 ⟨z,st2⟩ ⟨_,⟨_,⟨_,⟨_,_⟩⟩⟩⟩;refine WP .r (PV.Dh fP (p:=aN aa (i:Int)) (q:=aN aa (i:Int)) rfl rfl)<|(bB) ?_;exact⟨by simp,(St.cg st2)⟩
end Go.Rc

