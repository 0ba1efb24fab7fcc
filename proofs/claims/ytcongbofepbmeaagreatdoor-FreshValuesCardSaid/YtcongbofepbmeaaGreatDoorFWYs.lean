/- Walks over the program, part WYs. Conditions: as each theorem says. -/
import Derived.Test.YtcongbofepbmeaaGreatDoorFFacts
import Derived.Test.YtcongbofepbmeaaGreatDoorFWZl
import Derived.Test.YtcongbofepbmeaaGreatDoorFBh
set_option linter.all false
namespace Go.Rc
open Go Go.Proofs Go.Proofs.Tryz
variable {k:Key}{A Z B M:Nat→Prop}{w:World}{n c n1 e1 n2 e2 r:Nat}{x:cA}{a a1 a2:Option Addr}{l:List Rec}{aa:List aA}{D:SD}{ml ql:List (Key × Value)}
set_option maxHeartbeats 400000
theorem vi(ht:gV prog A w) (p:k.text.size≤140737488355328) (d:(30≤k.kind∧k.kind≤32)→∀n:Nat,n≤99→k.text≠itoa (n:Int)):CR prog 82 #[k.val] w (.int .i64 (-1)):=by
 refine enter func82 rfl ntmps82 rfl<|?_;have aR:=St.s0 w;refine(dE) aR fun b1 w1 u y st1=>?_;refine(aU) aK st1.b0<|(dH) (lU (n:=k.kind)) st1 fun w2 s2 st2=>?_;refine(aN) (fun g8=>?_) fun g8=>?_
 ·
  skip
  refine(bm) ?_;exact⟨rfl,(St.cg st2)⟩
 have d:=d (by simpa using g8);refine(aU) eY st2.b0<|(bL) Ij (BC (s:=k.text) (ht.ext (St.cg st2)) p) ?_;rintro _ w3 ⟨z,ok,ev,rfl,C,q,s3⟩;have g:=st2.step s3;refine kQ ?_;refine WC.cI (t:=31) (v:=.bool true) g ?_<|?_
 ·
  have F:=g.cj;refine WC.cJ (m:=15) (E:=bK [(12,fun v _=>v=.string (itoa z))]) g (aS (⟨fun _ _ _ _ _ _ _ h=>h,trivial⟩)) mixed (by kernel_rfl)<|nx ?_;refine DP .r (fun _ j=>PV.NS ue rfl q)<|(jf) (fun g17=>?_) (fun g17=>?_)
  ·
   refine(cG) ?_;rintro w4 ⟨i,b⟩ _;exact(br) (by first | (simp [g17];done) | (simp at g17 ⊢;intro e;exact d z.toNat (by omega) (by rw [show((z.toNat:Nat):Int)=z by omega];exact e.symm))) (b)
  refine(jf) (fun g21=>?_) (fun g21=>?_)
  ·
   refine(cG) ?_;rintro w4 ⟨i,b⟩ _;exact(br) (by first | (simp [g17,g21];done) | (simp at g17 g21 ⊢;intro e;exact d z.toNat (by omega) (by rw [show((z.toNat:Nat):Int)=z by omega];exact e.symm))) (b)
  refine(jf) (fun f=>?_) (fun f=>?_)
  ·
   refine(cG) ?_;rintro w4 ⟨i,b⟩ _;exact(br) (by first | (simp [g17,g21,f];done) | (simp at g17 g21 f ⊢;intro e;exact d z.toNat (by omega) (by rw [show((z.toNat:Nat):Int)=z by omega];exact e.symm))) (b)
  refine nx ?_;refine DW.c0 (fun G j H=>iA (n:=z) (ht.ext (St.cg j.2)) (by omega) (by omega))<|(gT) eY St.g0<|(cG)<|?_;rintro w4 ⟨i,b⟩ ⟨_,_⟩;exact(br) (by first | (simp [g17,g21,f];done) | (simp at g17 g21 f ⊢;intro e;exact d z.toNat (by omega) (by rw [show((z.toNat:Nat):Int)=z by omega];exact e.symm))) (b)
 intro w4 b;refine(aN) (fun o=>?_) fun o=>?_
 ·
  refine(bm) ?_;exact⟨rfl,(St.cg b)⟩
 exact gu o
theorem jZ(ht:gV prog A w) (b:k.text.size≤140737488355328):CR prog 82 #[k.val] w (.int .i64 (number k)):=by
 by_cases h:(30≤k.kind∧k.kind≤32)∧∃n:Nat,n≤99∧k.text=itoa (n:Int)
 ·
  obtain⟨hk,n,hn,e⟩:=h;rw [F2 hk e hn];exact iG hk e hn
 rw [F3 fun hk n hn e=>h ⟨hk,n,hn,e⟩]
 exact vi ht b fun hk n hn e=>h ⟨hk,n,hn,e⟩
theorem iI(ht:gV prog A w) (h:k.text.size≤140737488355328):CR prog 118 #[k.val] w (.bool (cH k)):=by
 refine enter func118 rfl ntmps118 rfl<|?_;have aR:=St.s0 w;refine(dE) aR fun b1 w1 i j st1=>?_;refine(aU) aK st1.b0<|(dH) (lU (n:=k.kind)) st1 fun w2 s2 st2=>?_;refine(aN) (fun g6=>?_) fun g6=>?_
 ·
  simp at g6
  refine(aT) ak st2.b0<|(dH) (jZ (k:=k) (ht.ext (St.cg st2)) h) st2 fun w3 s3 f=>?_;refine(bm) ?_;exact⟨by unfold cH;rw [if_pos (by omega)],(St.cg f)⟩
 simp at g6
 have g:=qS k (by omega);refine cL ?_;refine WC.cI (t:=3) (v:=.bool (decide (k.kind=1) || decide (k.kind=21))) st2 ?_<|?_
 ·
  refine(aU) aK st2.b0<|(bW) (fun g13=>?_) (fun g13=>?_)
  ·
   exact(br) (tG g13) (st2)
  refine(aU) aK st2.b0<|?_;exact(br) (tG g13) (st2)
 intro w3 f;refine bz ?_;refine WC.gW (t:=2) (v:=.bool (cH k)) f ?_<|?_
 ·
  refine(aU) aK f.b0<|(dH) (mV (n:=k.kind)) f fun w4 m e=>?_;refine(bW) (fun g21=>?_) (fun g21=>?_)
  ·
   refine(aU) eY e.b0<|(bW) (fun b=>?_) (fun b=>?_)
   ·
    refine(bW) (fun d=>?_) (fun d=>?_)
    ·
     exact(eN) (by rw [g];first | (simp only [g21,b,d];done) | (simp only [g21,b,d];rfl) | (simp at g21 b d ⊢;simp_all;done) | (simp at g21 b d ⊢;grind) | grind) (e)
    refine(aU) eY e.b0<|?_;exact(eN) (by rw [g];first | (simp only [g21,b,d];done) | (simp only [g21,b,d];rfl) | (simp at g21 b d ⊢;simp_all;done) | (simp at g21 b d ⊢;grind) | grind) (e)
   exact(eN) (by rw [g];first | (simp only [g21,b];done) | (simp only [g21,b];rfl) | (simp at g21 b ⊢;simp_all;done) | (simp at g21 b ⊢;grind) | grind) (e)
  refine aO ?_;exact(eN) (by rw [g];first | (simp only [g21];done) | (simp only [g21];rfl) | (simp at g21 ⊢;simp_all;done) | (simp at g21 ⊢;grind) | grind) (e)
 intro w4 e;refine(bm) ?_;exact⟨rfl,(St.cg e)⟩
theorem yS{n:Int} :CR prog 80 #[.int .i64 n] w (.bool (fW n)):=by
 refine enter func80 rfl ntmps80 rfl<|?_;have aR:=St.s0 w;refine aO ?_;refine(aN) (fun g4=>?_) fun g4=>?_
 ·
  rw [g4];refine bz ?_;refine WC.sE rfl<|(bm) ?_;exact⟨by unfold fW;simp_all,(St.cg aR)⟩
 rw [g4];refine(aN) (fun g4=>?_) fun g4=>?_
 ·
  rw [g4];refine bz ?_;refine WC.sE rfl<|(bm) ?_;exact⟨by unfold fW;simp_all,(St.cg aR)⟩
 rw [g4];refine(aN) (fun g4=>?_) fun g4=>?_
 ·
  rw [g4];refine bz ?_;refine WC.sE rfl<|(bm) ?_;exact⟨by unfold fW;simp_all,(St.cg aR)⟩
 rw [g4];refine(aN) (fun g4=>?_) fun g4=>?_
 ·
  rw [g4];refine(bm) ?_;exact⟨by unfold fW;simp_all,(St.cg aR)⟩
 rw [g4];refine(bm) ?_;exact⟨by unfold fW;simp_all,(St.cg aR)⟩
theorem vj :CR prog 40 #[k.val] w (.bool (ax k)):=by
 refine enter func40 rfl ntmps40 rfl<|?_;have aR:=St.s0 w;refine(dE) aR fun b1 w1 d e st1=>?_;refine cX ?_;refine WC.gW (t:=2) (v:=.bool (ax k)) st1 ?_<|?_
 ·
  refine(aU) aK st1.b0<|(bW) (fun g6=>?_) (fun g6=>?_)
  ·
   exact(eN) (by unfold ax;simp only [g6];first | done | rfl | simp) (st1)
  refine(aU) aK st1.b0<|(dH) (mV (n:=k.kind)) st1 fun w2 s2 st2=>?_;refine(bW) (fun g10=>?_) (fun g10=>?_)
  ·
   refine(aU) aK st2.b0<|(dH) (yS (n:=k.kind)) st2 fun w3 s3 b=>?_;exact(eN) (by unfold ax;simp only [g6,g10];first | done | rfl | simp) (b)
  exact(eN) (by unfold ax;simp only [g6,g10];first | done | rfl | simp) (st2)
 intro w2 st2;refine(bm) ?_;exact⟨rfl,(St.cg st2)⟩
theorem qJ(ht:gV prog A w) (b:k.text.size≤140737488355328):CR prog 366 #[k.val] w (.bool (!cH k)):=by
 refine enter func366 rfl ntmps366 rfl<|?_;have aR:=St.s0 w;refine(dE) aR fun b1 w1 d e st1=>?_;refine(aT) ak st1.b0<|(dH) (iI (k:=k) (ht.ext (St.cg st1)) b) st1 fun w2 s2 st2=>?_;refine(bm) ?_;exact⟨rfl,(St.cg st2)⟩
set_option maxHeartbeats 1600000 in
theorem vk{x:Rec}(ht:gV prog A w) (hk:Rd RR.key 2 Z w a n c x.reads) (q:W0 x):CR prog 191 #[.agg (x.row a n c).toArray] w (.bool (dc x)):=by
 have hlen:=hk.len;refine enter func191 rfl ntmps191 rfl<|?_;have aR:=St.s0 w;refine(dE) aR fun b1 w1 u z st1=>?_;refine cS ?_;refine WC.cI (t:=34) (v:=.bool (jS x)) st1 ?_<|?_
 ·
  refine(il) ak st1.b0<|(dH) (iI (k:=x.key) (ht.ext (St.cg st1)) q.1) st1 fun w2 s2 st2=>?_;refine(bW) (fun g8=>?_) (fun g8=>?_)
  ·
   refine aO ?_;refine aO ?_;exact(br) (by unfold jS;first | (simp only [g8];done) | (simp only [g8];rfl) | (simp at g8 ⊢;simp_all;done) | (simp at g8 ⊢;grind) | grind) (st2)
  refine(il) ak st2.b0<|(dH) (eh (k:=x.key)) st2 fun w3 s3 f=>?_;refine(bW) (fun g13=>?_) (fun g13=>?_)
  ·
   refine aO ?_;exact(br) (by unfold jS;first | (simp only [g8,g13];done) | (simp only [g8,g13];rfl) | (simp at g8 g13 ⊢;simp_all;done) | (simp at g8 g13 ⊢;grind) | grind) (f)
  refine(aU) eY f.b0<|(bW) (fun g19=>?_) (fun g19=>?_)
  ·
   refine aO ?_;exact(br) (by unfold jS;first | (simp only [g8,g13,g19];done) | (simp only [g8,g13,g19];rfl) | (simp at g8 g13 g19 ⊢;simp_all;done) | (simp at g8 g13 g19 ⊢;grind) | grind) (f)
  refine(aU) eZ f.b0<|(bW) (fun g=>?_) (fun g=>?_)
  ·
   exact(br) (by unfold jS;first | (simp only [g8,g13,g19,g];done) | (simp only [g8,g13,g19,g];rfl) | (simp at g8 g13 g19 g ⊢;simp_all;done) | (simp at g8 g13 g19 g ⊢;grind) | grind) (f)
  refine(aU) dM f.b0<|(bW) (fun i=>?_) (fun i=>?_)
  ·
   refine(il) ak f.b0<|(dH) (vj (k:=x.key)) f fun w4 C s=>?_;exact(br) (by unfold jS;first | (simp only [g8,g13,g19,g,i];done) | (simp only [g8,g13,g19,g,i];rfl) | (simp at g8 g13 g19 g i ⊢;simp_all;done) | (simp at g8 g13 g19 g i ⊢;grind) | grind) (s)
  exact(br) (by unfold jS;first | (simp only [g8,g13,g19,g,i];done) | (simp only [g8,g13,g19,g,i];rfl) | (simp at g8 g13 g19 g i ⊢;simp_all;done) | (simp at g8 g13 g19 g i ⊢;grind) | grind) (f)
 intro w2 st2;refine(aN) (fun m=>?_) fun m=>?_
 ·
  have o:=yd m;refine(bm) ?_;exact⟨by rw [o],(St.cg st2)⟩
 have o:=vK m;refine iC ?_;refine WC.gW (t:=2) (v:=.bool (jq x)) st2 ?_<|?_
 ·
  refine(aU) aK st2.b0<|(bW) (fun b=>?_) (fun b=>?_)
  ·
   refine(aU) aK st2.b0<|(aU) aK st2.b0<|(bW) (fun d=>?_) (fun d=>?_)
   ·
    refine(aU) aK st2.b0<|(bW) (fun e=>?_) (fun e=>?_)
    ·
     refine(aU) aK st2.b0<|(bW) (fun h=>?_) (fun h=>?_)
     ·
      refine(aU) aK st2.b0<|(bW) (fun j=>?_) (fun j=>?_)
      ·
       refine(aU) eZ st2.b0<|(dH) (ks (p:=fun k=>!cH k) MC (hk.ext (St.cg st2)) (fun w1 h1 y hy=>qJ ((ht.ext (St.cg st2)).ext h1) (q.2 y hy))) st2 fun w3 s3 f=>?_;exact(eN) (by unfold jq;first | (simp only [b,d,e,h,j];done) | (simp only [b,d,e,h,j];rfl) | (simp at b d e h j ⊢;simp_all;done) | (simp at b d e h j ⊢;grind) | grind) (f)
      exact(eN) (by unfold jq;first | (simp only [b,d,e,h,j];done) | (simp only [b,d,e,h,j];rfl) | (simp at b d e h j ⊢;simp_all;done) | (simp at b d e h j ⊢;grind) | grind) (st2)
     refine aO ?_;exact(eN) (by unfold jq;first | (simp only [b,d,e,h];done) | (simp only [b,d,e,h];rfl) | (simp at b d e h ⊢;simp_all;done) | (simp at b d e h ⊢;grind) | grind) (st2)
    refine aO ?_;exact(eN) (by unfold jq;first | (simp only [b,d,e];done) | (simp only [b,d,e];rfl) | (simp at b d e ⊢;simp_all;done) | (simp at b d e ⊢;grind) | grind) (st2)
   refine aO ?_;exact(eN) (by unfold jq;first | (simp only [b,d];done) | (simp only [b,d];rfl) | (simp at b d ⊢;simp_all;done) | (simp at b d ⊢;grind) | grind) (st2)
  refine aO ?_;refine aO ?_;exact(eN) (by unfold jq;first | (simp only [b];done) | (simp only [b];rfl) | (simp at b ⊢;simp_all;done) | (simp at b ⊢;grind) | grind) (st2)
 intro w3 f;refine(bm) ?_;exact⟨by rw [o],(St.cg f)⟩
theorem pK(ht:gV prog A w) (hl:Rd RR.ed 8 Z w a n c l) (C:∀x∈l,W0 x):CR prog 114 #[.slice a n c] w (.bool (iD l)):=by
 have hlen:=hl.len;have hle:=hl.le;refine enter func114 rfl ntmps114 rfl<|?_;have aR:=St.s0 w;refine aO ?_;refine bz ?_;refine WC.bd (σ:=Nat) (dm:=fun j=>[(0,.slice a n c),(5,.slice a n c),(6,.int .i64 (n:Int)),(7,.int .i64 (j:Int))]) (F:=fun j=>[]) (I:=fun j=>(j≤n)∧(∀i x,i<j→l[i]?=some x→kg l i x)∧True) (μ:=fun j=>n - j) (0) (aR) Sub.t (⟨by omega,fun i x h=>by omega,trivial⟩)<|?_;rintro j w1 st1 ⟨G,o,_⟩;simp only [CA,NA] at st1 G o ⊢;refine(aN) (fun g8=>?_) fun g8=>?_
 ·
  simp at g8
  have e:j<l.length:=by omega
  have p:=getElem!_pos l j e;refine cS ?_;obtain⟨S,T,U,H,V,J,K,W⟩:=Rd.at hl e;obtain⟨q1,X,Y,rfl,L,Dx⟩:=J;refine bz ?_;refine WP .r (PV.ei iy H rfl rfl (by omega))<|(aT) dA (aV K (St.cg st1) (by simp))<|(ff) st1 fun b4 w2 AX E4 st2=>?_;refine(cD) gp st2 fun w3 ko ly q=>?_;refine cL ?_;refine WC.cI (t:=30) (v:=.bool (ku l j)) q ?_<|?_
  ·
   have UY:=q.cj;refine WC.cJ (m:=15) (E:=bK [(1,fun v _=>v=.bool (dc l[j]))]) q (aS (⟨fun _ _ _ _ _ _ _ h=>h,trivial⟩)) mixed (by kernel_rfl)<|(gx) dA St.g0<|?_;refine DW.c0 (fun wx g hF=>vk (ht.ext (St.cg g.2)) (L.ext (St.cg g.2)) (C _ (List.getElem_mem e)))<|(jf) (fun g15=>?_) (fun g15=>?_)
   ·
    refine(cG) ?_;rintro w4 ⟨u,d⟩ ⟨_,_⟩;exact(br) (by unfold ku;rw [p];first | (simp only [f,g15];done) | (simp only [f,g15];rfl) | (simp only [g15];done) | (simp only [g15];rfl) | (simp at g15 ⊢;simp_all;done) | grind) (d)
   refine(jf) (fun g18=>?_) (fun g18=>?_)
   ·
    have hj0:1≤j:=by have h0:=g18;simp at h0;omega
    have y:j - 1<l.length:=by omega
    have f:=getElem!_pos l (j - 1) y;obtain⟨nL,DB,Bg,N,rI,O,P,mT⟩:=Rd.at hl y;obtain⟨p1,p2,p3,rfl,_,_⟩:=O;refine cL ?_;refine DP .r (fun _ g=>PV.B5 iy (j - 1) N rfl rfl (by omega) (by omega))<|nx ?_;refine DP .r (fun _ g=>PV.xE ak (aV P (St.cg g.2) (by simp)) rfl rfl)<|(vE) ak St.g0<|(cG)<|?_;rintro w4 ⟨u,d⟩ ⟨_,_⟩;refine(dH) (jX (a:=l[j - 1].key) (b:=l[j].key)) d fun w5 s5 Q=>?_;exact(br) (by unfold ku;rw [p];first | (simp only [f,g15,g18];done) | (simp only [f,g15,g18];rfl) | (simp only [g15,g18];done) | (simp only [g15,g18];rfl) | (simp at g15 g18 ⊢;simp_all;done) | grind) (Q)
   refine(cG) ?_;rintro w4 ⟨u,d⟩ ⟨_,_⟩;exact(br) (by unfold ku;rw [p];first | (simp only [f,g15,g18];done) | (simp only [f,g15,g18];rfl) | (simp only [g15,g18];done) | (simp only [g15,g18];rfl) | (simp at g15 g18 ⊢;simp_all;done) | grind) (d)
  intro w4 d;refine(aN) (fun s=>?_) fun s=>?_
  ·
   have hn:iD l=false:=by rw [Bool.eq_false_iff];intro h;exact absurd ((jm e).2 ((ru.1 h).2 j _ (ai e))) (by simp [s])
   refine(bm) ?_;exact⟨by rw [hn],(St.cg d)⟩
  refine eP ?_;refine dY (j+1) ⟨d.drop,⟨by omega,bO e o ((jm e).1 s),trivial⟩⟩
 simp at g8
 have R:∀i x,l[i]?=some x→kg l i x:=fun i x z=>o i x (by have:=(List.getElem?_eq_some_iff.1 z).1;omega) z;refine aO ?_;refine(bm) ?_;exact⟨by rw [Ax R,hlen],(St.cg st1)⟩
theorem we(ht:gV prog A w) (b:k.text.size≤140737488355328):CR prog 115 #[k.val] w (.bool (cH k && aB k)):=by
 refine enter func115 rfl ntmps115 rfl<|?_;have aR:=St.s0 w;refine(dE) aR fun b1 w1 e f st1=>?_;refine cX ?_;refine WC.gW (t:=2) (v:=.bool (cH k && aB k)) st1 ?_<|?_
 ·
  refine(aT) ak st1.b0<|(dH) (iI (k:=k) (ht.ext (St.cg st1)) b) st1 fun w2 s2 st2=>?_;refine(bW) (fun g5=>?_) (fun g5=>?_)
  ·
   refine(aT) ak st2.b0<|(dH) (eh (k:=k)) st2 fun w3 s3 d=>?_;exact(eN) (tG g5) (d)
  exact(eN) (tG g5) (st2)
 intro w2 st2;refine(bm) ?_;exact⟨rfl,(St.cg st2)⟩
theorem pL{p:Rec→Bool}{f:FuncId}{cap:Value}(b:CF prog f) (hl:Rd RR.ed 8 Z w a n c l) (d:∀w1,aQ [] w w1→∀x∈l,∀a n c,Rd RR.key 2 Z w1 a n c x.reads→Calls prog f #[.agg (x.row a n c).toArray,cap] w1 fun e w'=>e=.returned (.bool (p x))∧aQ [] w1 w'):CR prog 116 #[.slice a n c,.func (.func f) #[] #[cap]] w (.bool (l.any p)):=by
 refine enter func116 rfl ntmps116 rfl<|?_;have aR:=St.s0 w;refine(bL) Mv (oc (w:=w) b (hl.ext (St.cg aR)) (fun w1 h1=>d w1 (aQ.trans (St.cg aR) h1))) ?_;rintro _ w1 ⟨j,rfl,g,s1⟩;have st1:=aR.step s1;have h:=g.any;refine(bm) ?_;exact⟨by rw [h],(St.cg st1)⟩
set_option maxHeartbeats 1600000 in
set_option maxRecDepth 100000 in
theorem qK(ht:gV prog A w) (hi:Rd RR.az 4 Z w a1 n1 e1 x.ad) (hr:Rd RR.ed 8 Z w a2 n2 e2 x.ah) (T:Jq x):Calls prog 68 #[.agg (x.row a1 n1 e1 a2 n2 e2).toArray] w fun e w'=>∃b:Bool,e=.returned (.bool b)∧(b=true↔eU x)∧aQ [] w w':=by
 have hP:=hi.len;have Lv:=hi.le;have Lx:=hr.len;refine enter func68 rfl ntmps68 rfl<|?_;have aR:=St.s0 w;refine(dE) aR fun b1 w1 Ri B8 st1=>?_;refine cS ?_;refine WC.cI (t:=24) (v:=.bool (!gC x)) st1 ?_<|?_
 ·
  refine(aU) aK st1.b0<|(bW) (fun g8=>?_) (fun g8=>?_)
  ·
   refine aO ?_;exact(br) (by unfold gC;rw [← hP];first | (simp only [g8];done) | (simp only [g8];rfl) | (simp at g8 ⊢;simp_all;done) | (simp at g8 ⊢;omega) | (simp at g8 ⊢;grind) | grind) (st1)
  refine(aU) aK st1.b0<|(bW) (fun g13=>?_) (fun g13=>?_)
  ·
   exact(br) (by unfold gC;rw [← hP];first | (simp only [g8,g13];done) | (simp only [g8,g13];rfl) | (simp at g8 g13 ⊢;simp_all;done) | (simp at g8 g13 ⊢;omega) | (simp at g8 g13 ⊢;grind) | grind) (st1)
  refine(aU) ji st1.b0<|(bW) (fun g19=>?_) (fun g19=>?_)
  ·
   exact(br) (by unfold gC;rw [← hP];first | (simp only [g8,g13,g19];done) | (simp only [g8,g13,g19];rfl) | (simp at g8 g13 g19 ⊢;simp_all;done) | (simp at g8 g13 g19 ⊢;omega) | (simp at g8 g13 g19 ⊢;grind) | grind) (st1)
  refine(aU) dL st1.b0<|(dH) (pK (ht.ext (St.cg st1)) (hr.ext (St.cg st1)) T.2) st1 fun w2 s2 st2=>?_;exact(br) (by unfold gC;rw [← hP];first | (simp only [g8,g13,g19];done) | (simp only [g8,g13,g19];rfl) | (simp at g8 g13 g19 ⊢;simp_all;done) | (simp at g8 g13 g19 ⊢;omega) | (simp at g8 g13 g19 ⊢;grind) | grind) (st2)
 intro w2 st2;refine(aN) (fun g24=>?_) fun g24=>?_
 ·
  have hn:¬eU x:=fun h=>by rw [(ki x).2 h.2.2] at g24;simp at g24
  refine(bm) ?_;exact⟨false,rfl,⟨fun h=>(by cases h),fun h=>absurd h hn⟩,(St.cg st2)⟩
 have Y:=(ki x).1 (by simpa using g24);refine(aU) ji st2.b0<|cS ?_;refine WC.bd (σ:=Nat) (dm:=fun j=>[(1,.pointer (some ⟨b1,0,none⟩)),(26,.slice a1 n1 e1),(27,.int .i64 (n1:Int)),(28,.int .i64 (j:Int))]) (F:=fun j=>[]) (I:=fun j=>(j≤n1)∧(∀i y,i<j→x.ad[i]?=some y→fi x.ab x.ad i=false)∧True) (μ:=fun j=>n1 - j) (0) (st2) Sub.t (⟨by omega,fun i y h=>by omega,trivial⟩)<|?_;rintro j w3 G ⟨hj,K,_⟩;simp only [CA,NA] at G hj K ⊢;refine(aN) (fun L=>?_) fun L=>?_
 ·
  simp at L
  have C:j<x.ad.length:=by omega
  obtain⟨y,hy⟩:∃y,x.ad[j]=y:=⟨_,rfl⟩;have hsy:y.key.text.size≤140737488355328:=T.1 _ (hy ▸ List.getElem_mem C);refine cS ?_;obtain⟨ia,lP,lk,ck,gP,N,U,e6⟩:=Rd.at hi C;have N:=RR.bN N;subst N;rw [hy] at U
  have V:j - 1<x.ad.length:=by omega
  obtain⟨z,W⟩:∃z,x.ad[j - 1]=z:=⟨_,rfl⟩;have q:=(getElem!_pos x.ad (j - 1) V).trans W;refine bz ?_;refine WP .r (PV.ei pr ck rfl rfl (by omega))<|(aT) lj (aV U (St.cg G) (by simp))<|(ff) G fun b4 w4 AX E4 O=>?_;refine(cD) yn O fun w5 ko ly Q=>?_;refine cL ?_;refine WC.cI (t:=71) (v:=.bool (fi x.ab x.ad j)) Q ?_<|?_
  ·
   have IB:=Q.cj;refine WC.cJ (m:=37) (E:=bK [(2,fun v _=>v=.bool (cH y.key && aB y.key)),(17,fun v _=>v=.int .i64 (bp z.key y.key))]) Q (aS (⟨fun _ _ _ _ _ _ _ h=>h,⟨fun _ _ _ _ _ _ _ h=>h,trivial⟩⟩)) mixed (by kernel_rfl)<|(vE) ak St.g0<|?_;refine DW.c0 (fun wx J hF=>we (k:=y.key) (ht.ext (St.cg J.2)) hsy)<|(jf) (fun d=>?_) (fun d=>?_)
   ·
    refine aO ?_;refine aO ?_;refine(cG) ?_;rintro w6 ⟨H,o⟩ ⟨_,_⟩;exact(br) (by rw [fY C hy];first | (simp only [d,Bool.not_true,Bool.not_false,Bool.true_or,Bool.false_or,Bool.or_true,Bool.or_false,Bool.true_and,Bool.false_and,Bool.and_true,Bool.and_false];done) | (simp only [q,d,Bool.not_true,Bool.not_false,Bool.true_or,Bool.false_or,Bool.or_true,Bool.or_false,Bool.true_and,Bool.false_and,Bool.and_true,Bool.and_false];done) | (simp only [q,d];simp;done)) (o)
   refine(jf) (fun f=>?_) (fun f=>?_)
   ·
    have hj0:1≤j:=by have h0:=f;simp at h0;omega
    obtain⟨nL,DB,Bg,fU,rI,R,X,mT⟩:=Rd.at hi V;have R:=RR.bN R;subst R;rw [W] at X;refine(gT) ji St.g1<|bz ?_;refine DP .r (fun _ J=>PV.B5 pr (j - 1) fU rfl rfl (by omega) (by omega))<|nx ?_;refine DP .r (fun _ J=>PV.xE ak (aV X (St.cg J.2) (by simp)) rfl rfl)<|(vE) ak St.g0<|?_;refine DW.c0 (fun wx J hF=>jX (a:=z.key) (b:=y.key))<|(jf) (fun u=>?_) (fun u=>?_)
    ·
     refine aO ?_;refine(cG) ?_;rintro w6 ⟨H,o⟩ ⟨_,⟨_,_⟩⟩;exact(br) (by rw [fY C hy];first | (simp only [d,f,u,Bool.not_true,Bool.not_false,Bool.true_or,Bool.false_or,Bool.or_true,Bool.or_false,Bool.true_and,Bool.false_and,Bool.and_true,Bool.and_false];done) | (simp only [q,d,f,u,Bool.not_true,Bool.not_false,Bool.true_or,Bool.false_or,Bool.or_true,Bool.or_false,Bool.true_and,Bool.false_and,Bool.and_true,Bool.and_false];done) | (simp only [q,d,f,u];simp;done)) (o)
    refine(gT) eY St.g0<|(jf) (fun g=>?_) (fun g=>?_)
    ·
     refine(cG) ?_;rintro w6 ⟨H,o⟩ ⟨_,⟨_,_⟩⟩;exact(br) (by rw [fY C hy];first | (simp only [d,f,u,g,Bool.not_true,Bool.not_false,Bool.true_or,Bool.false_or,Bool.or_true,Bool.or_false,Bool.true_and,Bool.false_and,Bool.and_true,Bool.and_false];done) | (simp only [q,d,f,u,g,Bool.not_true,Bool.not_false,Bool.true_or,Bool.false_or,Bool.or_true,Bool.or_false,Bool.true_and,Bool.false_and,Bool.and_true,Bool.and_false];done) | (simp only [q,d,f,u,g];simp;done)) (o)
    refine(gT) aK St.g0<|(jf) (fun s=>?_) (fun s=>?_)
    ·
     refine(cG) ?_;rintro w6 ⟨H,o⟩ ⟨_,⟨_,_⟩⟩;exact(br) (by rw [fY C hy];first | (simp only [d,f,u,g,s,Bool.not_true,Bool.not_false,Bool.true_or,Bool.false_or,Bool.or_true,Bool.or_false,Bool.true_and,Bool.false_and,Bool.and_true,Bool.and_false];done) | (simp only [q,d,f,u,g,s,Bool.not_true,Bool.not_false,Bool.true_or,Bool.false_or,Bool.or_true,Bool.or_false,Bool.true_and,Bool.false_and,Bool.and_true,Bool.and_false];done) | (simp only [q,d,f,u,g,s];simp;done)) (o)
    refine(gT) aK St.g0<|(gT) aK St.g1<|(cG)<|?_;rintro w6 ⟨H,o⟩ ⟨_,⟨_,_⟩⟩;exact(br) (by rw [fY C hy];first | (simp only [d,f,u,g,s,Bool.not_true,Bool.not_false,Bool.true_or,Bool.false_or,Bool.or_true,Bool.or_false,Bool.true_and,Bool.false_and,Bool.and_true,Bool.and_false];done) | (simp only [q,d,f,u,g,s,Bool.not_true,Bool.not_false,Bool.true_or,Bool.false_or,Bool.or_true,Bool.or_false,Bool.true_and,Bool.false_and,Bool.and_true,Bool.and_false];done) | (simp only [q,d,f,u,g,s];simp;done)) (o)
   refine aO ?_;refine(gT) eY St.g0<|(jf) (fun g=>?_) (fun g=>?_)
   ·
    refine(cG) ?_;rintro w6 ⟨H,o⟩ ⟨_,_⟩;exact(br) (by rw [fY C hy];first | (simp only [d,f,g,Bool.not_true,Bool.not_false,Bool.true_or,Bool.false_or,Bool.or_true,Bool.or_false,Bool.true_and,Bool.false_and,Bool.and_true,Bool.and_false];done) | (simp only [q,d,f,g,Bool.not_true,Bool.not_false,Bool.true_or,Bool.false_or,Bool.or_true,Bool.or_false,Bool.true_and,Bool.false_and,Bool.and_true,Bool.and_false];done) | (simp only [q,d,f,g];simp;done)) (o)
   refine(gT) aK St.g0<|(jf) (fun s=>?_) (fun s=>?_)
   ·
    refine(cG) ?_;rintro w6 ⟨H,o⟩ ⟨_,_⟩;exact(br) (by rw [fY C hy];first | (simp only [d,f,g,s,Bool.not_true,Bool.not_false,Bool.true_or,Bool.false_or,Bool.or_true,Bool.or_false,Bool.true_and,Bool.false_and,Bool.and_true,Bool.and_false];done) | (simp only [q,d,f,g,s,Bool.not_true,Bool.not_false,Bool.true_or,Bool.false_or,Bool.or_true,Bool.or_false,Bool.true_and,Bool.false_and,Bool.and_true,Bool.and_false];done) | (simp only [q,d,f,g,s];simp;done)) (o)
   refine(gT) aK St.g0<|(gT) aK St.g1<|(cG)<|?_;rintro w6 ⟨H,o⟩ ⟨_,_⟩;exact(br) (by rw [fY C hy];first | (simp only [d,f,g,s,Bool.not_true,Bool.not_false,Bool.true_or,Bool.false_or,Bool.or_true,Bool.or_false,Bool.true_and,Bool.false_and,Bool.and_true,Bool.and_false];done) | (simp only [q,d,f,g,s,Bool.not_true,Bool.not_false,Bool.true_or,Bool.false_or,Bool.or_true,Bool.or_false,Bool.true_and,Bool.false_and,Bool.and_true,Bool.and_false];done) | (simp only [q,d,f,g,s];simp;done)) (o)
  intro w6 o;refine(aN) (fun S=>?_) fun S=>?_
  ·
   skip
   refine(bm) ?_;exact⟨false,rfl,⟨fun h=>(by cases h),fun h=>absurd (h.1 j _ (ai C)) (by simp [S])⟩,(St.cg o)⟩
  refine eP ?_;refine dY (j+1) ⟨o.drop,⟨by omega,bO (P:=fun i _=>fi x.ab x.ad i=false) C K S,trivial⟩⟩
 simp at L
 have hV:pX x.ab x.ad:=fun i y hy=>K i y (by have:=(List.getElem?_eq_some_iff.1 hy).1;omega) hy;refine(aU) dL G.b0<|?_;refine WP .r (PV.func (us:=[]) (vs:=[.pointer (some ⟨b1,0,none⟩)]) rfl rfl)<|(dH) (pL (p:=fun r=>decide (x.ab<r.av)) Mq (hr.ext (St.cg G)) (fun wq hq y _ a n c _=>ll ((As.gb G.g0).ext hq))) G fun w4 s4 O=>?_;refine(bm) ?_;exact⟨_,rfl,F4 hV Y,(St.cg O)⟩
theorem wg(ht:gV prog A w) (hr:dX B w a r c aa) (f:k.text.size≤140737488355328):CR prog 69 #[.slice a r c,k.val] w (.bool (dh aa k)):=by
 refine enter func69 rfl ntmps69 rfl<|?_;have aR:=St.s0 w;refine(dE) aR fun b3 w1 i j st1=>?_;refine cX ?_;refine WC.gW (t:=4) (v:=.bool (dh aa k)) st1 ?_<|?_
 ·
  have o:=st1.cj;refine WC.cJ (m:=12) (E:=bK [(1,fun v _=>v=.bool (cH k)),(4,fun v _=>v=.bool (decide (k.kind=31) || decide (k.kind=32))),(9,fun v _=>v=.int .i64 (number k)),(10,fun v _=>v=(aD aa (number k)).val)]) st1 (aS (⟨fun _ _ _ _ _ _ _ h=>h,⟨fun _ _ _ _ _ _ _ h=>h,⟨fun _ _ _ _ _ _ _ h=>h,⟨fun _ _ _ _ _ _ _ h=>h,trivial⟩⟩⟩⟩)) mixed (by kernel_rfl)<|(gx) ak St.g0<|?_;refine DW.c0 (fun d b e=>iI (k:=k) (ht.ext (St.cg b.2)) f)<|(jf) (fun g7=>?_) (fun g7=>?_)
  ·
   refine(gx) ak St.g0<|?_;refine DW.c0 (fun d b e=>iX (k:=k))<|(jf) (fun g11=>?_) (fun g11=>?_)
   ·
    refine(cG) ?_;rintro w2 ⟨g,st2⟩ ⟨_,⟨_,_⟩⟩;exact(eN) (by unfold dh;first | (simp only [g7,g11];done) | (simp only [g7,g11];rfl) | (simp at g7 g11 ⊢;simp_all;done) | (simp at g7 g11 ⊢;grind) | grind) (st2)
   refine(gx) ak St.g0<|?_;refine DW.c0 (fun d b e=>jZ (k:=k) (ht.ext (St.cg b.2)) f)<|?_;refine DW.c0 (fun d b e=>jE (n:=number k) (hr.ext (St.cg b.2)))<|(gx) ak St.g0<|(cG)<|?_;rintro w2 ⟨g,st2⟩ ⟨_,⟨_,⟨_,⟨_,_⟩⟩⟩⟩;refine WP .r (PV.Fg ft (p:=aD aa (number k)) (q:=k) rfl rfl)<|?_;exact(eN) (by unfold dh;first | (simp only [g7,g11];done) | (simp only [g7,g11];rfl) | (simp at g7 g11 ⊢;simp_all;done) | (simp at g7 g11 ⊢;grind) | grind) (st2)
  refine(cG) ?_;rintro w2 ⟨g,st2⟩ ⟨_,_⟩;exact(eN) (by unfold dh;first | (simp only [g7];done) | (simp only [g7];rfl) | (simp at g7 ⊢;simp_all;done) | (simp at g7 ⊢;grind) | grind) (st2)
 intro w2 st2;refine(bm) ?_;exact⟨rfl,(St.cg st2)⟩
theorem j0{ar:Option Addr}{cr:Nat}(ht:gV prog A w) (hu:dX B w ar r cr aa) (hi:Rd RR.az 4 Z w a1 n1 e1 x.ad) (hr:Rd RR.ed 8 Z w a2 n2 e2 x.ah) (m:Jq x) (o:k.text.size≤140737488355328):CR prog 30 #[.slice ar r cr,.agg (x.row a1 n1 e1 a2 n2 e2).toArray,k.val] w (.int .i64 (dt aa x k)):=by
 refine enter func30 rfl ntmps30 rfl<|?_;have aR:=St.s0 w;refine(dE) aR fun b4 w1 q s st1=>?_;refine(dE) st1 fun b5 w2 t u st2=>?_;refine(bL) Tp (vl (hu.ext (St.cg st2))) ?_;rintro _ w3 ⟨bv,rfl,f,s3⟩;have b:=st2.step s3;refine(aN) (fun g7=>?_) fun g7=>?_
 ·
  have hn:¬aq aa:=fun h=>by rw [f.2 h] at g7;simp at g7
  refine(bm) ?_;exact⟨by rw [rq hn],(St.cg b)⟩
 have e:aq aa:=f.1 (by simpa using g7);refine(aT) aJ b.b1<|(bL) Tq (qK (ht.ext (St.cg b)) (hi.ext (St.cg b)) (hr.ext (St.cg b)) m) ?_;rintro _ w4 ⟨v,rfl,g,p⟩;have d:=b.step p;refine(aN) (fun g11=>?_) fun g11=>?_
 ·
  have hn:¬eU x:=fun h=>by rw [g.2 h] at g11;simp at g11
  refine(bm) ?_;exact⟨by rw [tV e hn],(St.cg d)⟩
 have i:eU x:=g.1 (by simpa using g11);refine(aT) ak d.b0<|(dH) (wg (k:=k) (ht.ext (St.cg d)) (hu.ext (St.cg d)) o) d fun w5 y j=>?_;refine(aN) (fun g15=>?_) fun g15=>?_
 ·
  have hn:dh aa k=false:=by simpa using g15
  refine(bm) ?_;exact⟨by rw [xm e i hn],(St.cg j)⟩
 have hk:dh aa k=true:=by simpa using g15
 refine(bm) ?_;exact⟨by rw [Av e i hk],(St.cg j)⟩
set_option maxHeartbeats 400000
theorem vm(i:St w M Z w [As.blk D.s 116 (D.cells x),As.map Key.val D.m ml,As.map Key.val D.q ql]) (j:(D.F prog aa x).p Z w) (hm:aY aa x.ad ml) (hk:aB k=true) (f:bq ql k=none):Calls prog 37 #[.pointer (some ⟨D.s,0,none⟩),k.val] w fun e w'=>∃(a:Option Addr) (n c:Nat) (g:List (Key × Value)),e=.returned (.slice a n c)∧aY aa x.ad g∧St w M Z w' [As.blk D.s 116 (D.cells x),As.map Key.val D.m g,As.map Key.val D.q ql,As.os RR.key 29 2 a n c (dq aa x.ad k)]:=by
 refine enter func37 rfl ntmps37 rfl<|?_;have aR:=i;have st1:=aR.fact (B:=As.fz (D.F prog aa x)) j (fun _ o=>o);have st2:=st1.df RR.key 29 2;refine(dE) st2 fun b3 w1 z C h=>?_;refine cS ?_;have E:=h.cj;refine WC.dS (m:=10) h mixed<|(gT) De St.g3<|(gx) ak St.g0<|?_;refine DP .r (fun _ y=>PV.my ec Dg Mo (As.gm y.2.g5) rfl rfl)<|(cG) ?_;rintro w2 ⟨G,b⟩ _;refine cX ?_;refine WC.cI (t:=23) (v:=.bool true) b ?_<|?_
 ·
  refine(bW) (fun g20=>?_) (fun g20=>?_)
  ·
   exact absurd g20 (by rw [f];simp)
  skip
  refine(aT) ak b.b0<|?_;refine WL.c1 (u:=.bool true) (de (k:=k)) (by rw [hk]) b fun w3 s3 d=>?_;exact(br) (tG g20) (d)
 intro w3 d;refine(aN) (fun g23=>?_) fun g23=>?_
 ·
  refine(bm) ?_;exact⟨none,0,0,ml,by rw [f];rfl,hm,by rw [show dq aa x.ad k=[] from if_pos hk];exact d.drop.p1.drop.p3.p3.p3⟩
 exact gu g23
set_option maxHeartbeats 1600000 in
theorem vo{i:Nat}(gg:St w M Z w [As.blk D.s 116 (D.cells x),As.map Key.val D.m ml,As.map Key.val D.q ql]) (hf:(D.F prog aa x).p Z w) (hm:aY aa x.ad ml) (g:aq aa) (hi:i<aa.length) (hq:bq ql (aD aa (i:Int))=none):Calls prog 37 #[.pointer (some ⟨D.s,0,none⟩),(aD aa (i:Int)).val] w fun e w'=>∃v:Value,∃(a:Option Addr) (n c:Nat) (mC:List (Key × Value)),e=.returned (.slice a n c)∧aY aa x.ad mC∧St w M Z w' [As.blk D.s 116 (D.cells x),As.map Key.val D.m mC,As.map Key.val D.q (cO ql (aD aa (i:Int)) v),As.os RR.key 29 2 a n c (cm aa x.ad i)]:=by
 have GN:=g.len
 have gD:i≤99:=by omega
 obtain⟨k,hk⟩:∃k,aD aa (i:Int)=k:=⟨_,rfl⟩;have hP:=cM hi gD;have ha6:=jL g hi;rw [hk] at hP hq ⊢;refine enter func37 rfl ntmps37 rfl<|?_;have aR:=gg;have st1:=aR.fact (B:=As.fz (D.F prog aa x)) hf (fun _ hx=>hx);refine(dE) st1 fun b3 w1 GS xy st2=>?_;refine cS ?_;have ZY:=st2.cj;refine WC.dS (m:=10) st2 mixed<|(gT) De St.g2<|(gx) ak St.g0<|?_;refine DP .r (fun _ f=>PV.my ec Dg Mo (As.gm f.2.g4) rfl rfl)<|(cG) ?_;rintro w2 ⟨uI,S⟩ _;refine cX ?_;refine WC.cI (t:=23) (v:=.bool false) S ?_<|?_
 ·
  refine(bW) (fun g20=>?_) (fun g20=>?_)
  ·
   exact absurd g20 (by rw [hq];simp)
  skip
  refine(aT) ak S.b0<|?_;refine WL.c1 (u:=.bool false) (de (k:=k)) (by rw [hP]) S fun w3 s3 T=>?_;exact(br) (tG g20) (T)
 intro w3 T;refine(aN) (fun g23=>?_) fun g23=>?_
 ·
  exact gu g23
 refine o5 ?_;have jD:=T.df RR.str 9 1;have jC:=jD.df RR.key 29 2;refine bz ?_;refine WC.bd (σ:=Nat × (List (Key × Value)) × (List ByteArray) × (List Key) × (Option Addr) × Nat × Nat × (Option Addr) × Nat × Nat) (dm:=fun(n,j,acc,out,G,o,H,J,y,K)=>[(0,.pointer (some ⟨D.s,0,none⟩)),(3,.pointer (some ⟨b3,0,none⟩)),(7,.slice G o H),(8,.slice J y K)]) (F:=fun(n,j,acc,out,G,o,H,J,y,K)=>[As.os RR.str 9 1 G o H (acc),As.os RR.key 29 2 J y K (out),As.map Key.val D.m j]) (I:=fun(n,j,acc,out,G,o,H,J,y,K)=>(n≤bZ aa i)∧(aY aa x.ad j)∧(acc=(dR (bQ aa k) (valOf aa x.ad) n).2)∧(out=(dR (bQ aa k) (valOf aa x.ad) n).1)∧True) (μ:=fun(n,j,acc,out,G,o,H,J,y,K)=>bZ aa i - n) (0,ml,[],[],none,0,0,none,0,0) (jC.p5.p1.p2) Sub.t (⟨by omega,hm,rfl,rfl,trivial⟩)<|?_;rintro⟨n,j,acc,out,G,o,H,J,y,K⟩ w4 z ⟨hn,U,O,P,_⟩;simp only [CA,NA] at z hn U O P ⊢;have r7:=((As.gs z.g0)).len;have W9:=((As.gs z.g1)).len
 have vN:acc.length=n:=by rw [O];exact(eV _ _ n).2
 have ajs:out.length=n:=by rw [P];exact(eV _ _ n).1
 obtain⟨t,GV⟩:∃t,aL aa k acc=t:=⟨_,rfl⟩
 have L:bQ aa k acc=t:=by rw [← GV,← hk,eB hi gD]
 refine bz ?_;have IB:=z.cj;have P1:=z.j4;have P2:=z.size;refine WC.cJ (m:=8) (E:=bK [(6,fun v _=>v=t.val),(7,PB w4.heap.size 55 [.bool false,.string ⟨#[]⟩,.int .i64 0,.string ⟨#[]⟩])]) z (aS (⟨fun _ _ _ _ _ _ _ h=>h,⟨fun _ _ _ _ _ _ c h=>PB.st IB c h,trivial⟩⟩)) mixed (by kernel_rfl)<|(gT) jT St.g5<|(gx) ak St.g3<|nx ?_;refine DW.c1 (fun V f hF=>dO (k:=k) (SD.ht (As.gf f.2.g4)) (SD.hu (As.gf f.2.g4)) (Ow.rd (As.gs f.2.g0) (by omega)) g.hb (hk ▸ eW hi gD)) (by rw [GV])<|?_;refine DW.e rfl rfl rfl rfl rfl (fun V f hF=>OX.alloc vM rfl fun b wy d hb=>⟨⟨Nat.le_trans f.1 d.ext.size,f.2.step d.ext⟩,d.ext.p0,_,rfl,_,rfl,Nat.le_trans f.1 d.ge,hb⟩)<|?_;rintro _ wz _ ⟨b9,rfl,_,_⟩;refine(cG) ?_;rintro w5 ⟨vR,ju⟩ ⟨Le,⟨_,_⟩⟩;have jc:=ju.pW Le IB P1 P2;refine(cD) hY jc fun w6 ko ly Q=>?_;refine(aU) dM Q.b0<|(aN) (fun N=>?_) fun N=>?_
 ·
  have GL:n=bZ aa i:=by
   rcases Nat.lt_or_ge n (bZ aa i) with h | h
   ·
    obtain⟨a,h1,_⟩:=dd g hi (ae:=acc) (by omega);rw [hk,L] at h1;rw [h1] at N;cases N
   omega
  refine nx ?_;have Pu:=Q.cj;refine WC.dS (m:=6) Q mixed<|(gT) De St.g6<|(gx) ak St.g4<|(cG) ?_;rintro w7 ⟨mh,C⟩ _;refine WL.go rfl (OX.put ec Dg (As.gm C.g7) rfl rfl rfl fun w8 It DC=>?_);have W:=C.p7.jn It DC;refine aO ?_;refine(bm) ?_;exact⟨_,_,_,_,j,rfl,U,by have h:out=cm aa x.ad i:=(by rw [P,GL];unfold cm;rw [hk]);rw [← h];exact W.p3.p1.p4.p7.k4⟩
 have GL:n<bZ aa i:=by
  rcases Nat.lt_or_ge n (bZ aa i) with h | h
  ·
   exact h
  have h1:=fx g hi (ae:=acc) (by omega);rw [hk,L] at h1;rw [h1] at N;cases N
 obtain⟨a,y5,y7,_⟩:=dd g hi (ae:=acc) (by omega);rw [hk,L] at y5
 have Ez:t.ask=a:=by rw [y5]
 have acm:eu aa t.ask:=by
  rw [Ez]
  rcases y7 with⟨n,h1,rfl⟩ | ⟨m,h1,rfl,_⟩
  ·
   exact .cell (by omega)
  exact .dp h1 (by omega)
 refine bz ?_;refine WC.bY (m:=12) [] [4,9,11] [0,1,2,3,4,6,7,8,9,5,10,11] [(3,.sl 29 1 t.ask.cells),(10,.sl 9 1 [.string (valOf aa x.ad t.ask)])] Q (ao.k4 M0 M4 M5 M7<|ao.nil) mixed (by kernel_rfl) (by kernel_rfl) rfl<|?_
 iterate 2 refine DG.a ?_
 refine(Fs) ak SV.g0<|?_;refine DG.side (s:=.sl 29 1 t.ask.cells) rfl rfl rfl rfl rfl rfl (fun V Zx Rx uS X=>OX.aP (us:=t.ask.cells) dU rfl rfl rfl rfl fun b wy d hb=>⟨d.ext.size,_,rfl,⟨b,rfl⟩,X.dy d hb⟩)<|?_;rintro _ ⟨b44,rfl⟩;refine(gi) (fun w7 LG yH C l7=>?_);simp only [CA,NA] at C;refine OX.j7 mP rfl rfl rfl (As.gs C.g2) (SR.dn (A:=fun _=>True) (x:=t.ask) (show cC _ b44 _ _ from C.ok _ (.tail _ (.tail _ (.tail _ (.tail _ (.tail _ (.tail _ (.tail _ (.tail _ (l7 _ (.head _))))))))))) trivial rfl (by simp [Key.cells,Value.oneCell']) rfl) (by omega) (by omega) (Nat.zero_le _) fun a45 Ut w8 acn s45 Uu ZH=>?_;have W:=C.p2.fO s45 acn Uu;refine⟨s45.size,_,rfl,_,_,_,W,aw.k4<|aw.k4<|aw.nil,ao.k4 M1 M4 M5 M7<|ao.nil,?_⟩
 iterate 2 refine DG.a ?_
 refine(Fs) ak SV.g0<|(gi) (fun w9 Ru GC db uT=>?_);simp only [CA,NA] at db;have Y:=db.p3.p6;refine OX.call Gc rfl rfl ((qy g acm _ _ _ _ Y.e2 (As.gf Y.g6) U).mono ?_);rintro _ jB ⟨eH,rfl,vI,uA,rL⟩;have fV:=St.lr Y rL;refine⟨_,rfl,rL.bT.size,_,rfl,_,_,_,fV,aw.k4<|aw.k4<|aw.nil,ao.k4 M3 M5 M6 M7<|ao.nil,?_⟩;refine DG.a<|?_;refine DG.side (s:=.sl 9 1 [.string (valOf aa x.ad t.ask)]) rfl rfl rfl rfl rfl rfl (fun V Zx Rx uS X=>OX.aP (us:=[.string (valOf aa x.ad t.ask)]) kH rfl rfl rfl rfl fun b wy d hb=>⟨d.ext.size,_,rfl,⟨b,rfl⟩,X.dy d hb⟩)<|?_;rintro _ ⟨b51,rfl⟩;refine(gi) (fun iV aco Vx R IY=>?_);simp only [CA,NA] at R;refine OX.j7 H2 rfl rfl rfl (As.gs R.g4) (SR.dn (A:=fun _=>True) (x:=valOf aa x.ad t.ask) (show cC _ b51 _ _ from R.ok _ (.tail _ (.tail _ (.tail _ (.tail _ (.tail _ (.tail _ (.tail _ (.tail _ (IY _ (.head _))))))))))) trivial rfl (by simp [Value.oneCell']) rfl) (by omega) (by omega) (Nat.zero_le _) fun a52 acp mu acq s52 acr ajv=>?_;have dW:=R.p4.fO s52 acq acr;refine⟨s52.size,_,rfl,_,_,_,dW,aw.k4<|aw.k4<|aw.nil,ao.k4 M4 M5 M6 M7<|ao.nil,?_⟩;refine(kZ) ?_;intro oL uH fH;simp only [CM,NM,CA,NA,iL.it] at fH;refine bz ?_;refine WL.nil (EX.np ?_);refine nx ?_;refine dY (n+1,eH,acc++[valOf aa x.ad t.ask],out++[t.ask],a52,(o+1),acp,a45,(y+1),Ut) ⟨fH.drop.drop.p4.drop.p5.p5.p4.p5.p4,⟨by omega,vI,by simp only [dR];rw [← O,L],by simp only [dR];rw [← O,← P,L],trivial⟩⟩
theorem od(g:St w M Z w [As.blk D.s 116 (D.cells x),As.map Key.val D.m ml,As.map Key.val D.q ql]) (i:(D.F prog aa x).p Z w) (hm:aY aa x.ad ml) (j:aq aa) (hk:eu aa k) (o:bq ql k=none):Calls prog 37 #[.pointer (some ⟨D.s,0,none⟩),k.val] w fun e w'=>∃(a:Option Addr) (n c:Nat) (b t:List (Key × Value)),e=.returned (.slice a n c)∧aY aa x.ad b∧(∀y,bq t y≠none→y=k∨bq ql y≠none)∧St w M Z w' [As.blk D.s 116 (D.cells x),As.map Key.val D.m b,As.map Key.val D.q t,As.os RR.key 29 2 a n c (dq aa x.ad k)]:=by
 cases hk with
 | cell h=>exact(vm g i hm (bf h) o).mono fun e w' ⟨a,n,c,b,h1,d,f⟩=>⟨a,n,c,b,ql,h1,d,fun y hy=>.inr hy,f⟩
 | dp h gD=>exact(vo g i hm j h o).mono fun e w' ⟨v,a,n,c,b,h1,d,f⟩=>⟨a,n,c,b,_,h1,d,fun y hy=>by
   rw [ey] at hy
   split at hy
   ·
    rename_i e;exact .inl e.symm
   exact .inr hy,by rw [dT j h];exact f⟩
set_option maxHeartbeats 400000
end Go.Rc

