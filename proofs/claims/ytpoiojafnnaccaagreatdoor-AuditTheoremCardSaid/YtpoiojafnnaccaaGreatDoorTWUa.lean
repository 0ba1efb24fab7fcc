/- Walks over the program, part WUa. Conditions: as each theorem says. -/
import Derived.Test.YtpoiojafnnaccaaGreatDoorTFacts
import Derived.Test.YtpoiojafnnaccaaGreatDoorTWU
import Derived.Test.YtpoiojafnnaccaaGreatDoorTBf
import Derived.Test.YtpoiojafnnaccaaGreatDoorTBg
import Derived.Test.YtpoiojafnnaccaaGreatDoorTWB
import Derived.Test.YtpoiojafnnaccaaGreatDoorTBh
import Derived.Test.YtpoiojafnnaccaaGreatDoorShelf
import Derived.Test.YtpoiojafnnaccaaGreatDoorTWLibE
import Derived.Test.YtpoiojafnnaccaaGreatDoorTBd
set_option linter.all false
namespace Go.Rc
open Go Go.Proofs Go.Proofs.Tryz
variable {n c n1 e1 n2 e2:Nat}{w:World}{a a1 a2:Option Addr}{A Z M:Nat→Prop}{ab:List aJ}{k:Key}{l:List Key}{f:FuncId}{x:dT}{D:SD}
set_option maxHeartbeats 400000
theorem Cd{n:Int} :CR prog 187 #[.int .i64 n] w (.bool false):=by
 refine enter func187 rfl ntmps187 rfl<|?_;have aW:=St.s0 w;refine bC ?_;refine(cj) ?_;exact⟨by simp,(St.cg aW)⟩
theorem Gf{a b:Int} :CR prog 169 #[.int .i64 a,.int .i64 b] w (.int .i64 (CU a b)):=by
 refine enter func169 rfl ntmps169 rfl<|?_;have aW:=St.s0 w;refine(gg) (Cd) aW fun w1 s1 st1=>?_;refine(gg) (Cd) st1 fun w2 s2 st2=>?_;refine pQ ?_;refine WC.gT rfl<|kE ?_;refine WC.gT rfl<|(br) (fun g16=>?_) fun g16=>?_
 ·
  simp at g16
  refine(cj) ?_;exact⟨by unfold CU;rw [if_pos g16],(St.cg st2)⟩
 simp at g16
 refine(br) (fun g19=>?_) fun g19=>?_
 ·
  simp at g19
  refine(cj) ?_;exact⟨by unfold CU;rw [if_neg (by omega),if_pos g19],(St.cg st2)⟩
 simp at g19
 refine(cj) ?_;exact⟨by unfold CU;rw [if_neg (by omega),if_neg (by omega)],(St.cg st2)⟩
theorem Gg{l:List Int}(hl:Ints A w a n c l):CR prog 168 #[.slice a n c] w (.int .i64 (Xw l)):=by
 have hle:=SR.le hl;have hlen:=SR.len hl;refine enter func168 rfl ntmps168 rfl<|?_;have aW:=St.s0 w;refine bC ?_;refine gp ?_;refine WC.bU (σ:=Nat) (eI:=fun i=>[(3,.int .i64 0),(6,.slice a n c),(7,.int .i64 (n:Int)),(8,.int .i64 (i:Int))]) (F:=fun i=>[]) (I:=fun i=>(i≤n)∧(∀j x,j<i→l[j]?=some x→x=0)∧True) (μ:=fun i=>n - i) (0) (aW) Sub.t (⟨by omega,fun j x h=>by omega,trivial⟩)<|?_;rintro i w1 st1 ⟨hi,gh,_⟩;simp only [CA,NA] at st1 hi gh ⊢;refine(br) (fun g9=>?_) fun g9=>?_
 ·
  simp at g9
  have cX:i<l.length:=by omega
  obtain⟨UB,UC,UD,mn,_,rfl,pc,_⟩:=(SR.ext hl (St.cg st1)).at (aq cX);refine jx ?_;refine WP .r (PV.fC KT mn rfl rfl (by omega))<|WP .r (PV.pT aZ pc rfl rfl)<|(br) (fun g14=>?_) fun g14=>?_
  ·
   simp at g14
   refine(cj) ?_;exact⟨by rw [Xx cX gh g14],(St.cg st1)⟩
  simp at g14
  refine gp ?_;refine fx (i+1) ⟨st1,⟨by omega,dJ cX gh (by simpa using g14),trivial⟩⟩
 simp at g9
 refine(cj) ?_;exact⟨by rw [S2 (fun x hx=>by obtain⟨j,hj,rfl⟩:=List.mem_iff_getElem.1 hx;exact gh j _ (by omega) (aq hj))],(St.cg st1)⟩
theorem u5{a b:Key} :CR prog 134 #[a.val,b.val] w (.int .i64 (cE a b)):=by
 refine enter func134 rfl ntmps134 rfl<|?_;have aW:=St.s0 w;refine(ef) aW fun b2 w1 lA eZ st1=>?_;refine(ef) st1 fun b3 w2 gO dB st2=>?_;refine dC ?_;have zo:=st2.dc;refine WC.eU (m:=9) (E:=dx [(4,fun v _=>v=.int .i64 (CU a.kind b.kind))]) st2 (bS (⟨fun _ _ _ _ _ _ _ h=>h,trivial⟩)) mixed (by kernel_rfl)<|(lX) aZ St.g1<|(lX) aZ St.g0<|?_;refine DW.c0 (fun wx hC hF=>Gf)<|(lX) iq St.g1<|(lX) iq St.g0<|(eu)<|?_;rintro w3 ⟨fh,aP⟩ ⟨_,_⟩;refine(gg) (tP a.text b.text w3) aP fun w4 s4 aU=>?_;refine WL.go rfl (OX.bB (us:=[.int .i64 (CU a.kind b.kind),.int .i64 (Lib.compareBytes a.text.data.toList b.text.data.toList)]) Yp rfl rfl rfl rfl fun GY w5 Ul Um=>?_);have aY:=aU.fb Ul Um;refine WL.c1 (u:=.int .i64 (cE a b)) (Gg (l:=[CU a.kind b.kind,Lib.compareBytes a.text.data.toList b.text.data.toList]) (SR.Ss (rows:=[[.int .i64 (CU a.kind b.kind)],[.int .i64 (Lib.compareBytes a.text.data.toList b.text.data.toList)]]) (As.gb aY.g0) rfl (by simp) (by simp [Value.oneCell']) (by simp) (PT rfl rfl))) (by rw [S3]) aY fun w6 s6 bj=>?_;refine(cj) ?_;exact⟨rfl,(St.cg bj)⟩
theorem zy(hk:gH ab k):CR prog 186 #[k.val] w (.bool false):=by
 obtain⟨i,lZ,Wj,yn⟩:=hk.shape;refine enter func186 rfl ntmps186 rfl<|?_;have aW:=St.s0 w;refine(ef) aW fun b1 w1 pR dO st1=>?_;refine(bA) av st1.b0<|(gg) (j6 (k:=k) yn Wj lZ) st1 fun w2 s2 st2=>?_;refine(cj) ?_;exact⟨rfl,(St.cg st2)⟩
theorem Ce{p:Key→Bool}(zG:CF prog f) (hl:Rd RR.key 2 Z w a n c l) (hp:∀w1,bm [] w w1→∀x∈l,Calls prog f #[x.val] w1 fun e w'=>e=.returned (.bool (p x))∧bm [] w1 w'):Calls prog 137 #[.slice a n c,.func (.func f) #[] #[]] w fun e w'=>∃j:Int,e=.returned (.int .i64 j)∧D4 l p j∧bm [] w w':=by
 have hlen:=hl.len;have hle:=hl.le;refine enter func137 rfl ntmps137 rfl<|?_;have aW:=St.s0 w;refine bC ?_;refine cV ?_;refine WC.bU (σ:=Nat) (eI:=fun i=>[(0,.slice a n c),(1,.func (.func f) #[] #[]),(7,.int .i64 (n:Int)),(8,.int .i64 (i:Int))]) (F:=fun i=>[]) (I:=fun i=>(i≤n)∧(∀j x,j<i→l[j]?=some x→p x=false)∧True) (μ:=fun i=>n - i) (0) (aW) Sub.t (⟨by omega,fun j x h=>by omega,trivial⟩)<|?_;rintro i w1 st1 ⟨hi,gh,_⟩;simp only [CA,NA] at st1 hi gh ⊢;refine(br) (fun g9=>?_) fun g9=>?_
 ·
  simp at g9
  have cX:i<l.length:=by omega
  refine rT ?_;obtain⟨gF,js,iU,aT,fl,bz,ck,di⟩:=Rd.at hl cX;have bz:=RR.cL bz;subst bz;refine dC ?_;refine WP .r (PV.fC fP aT rfl rfl (by omega))<|(bA) av (bG ck (St.cg st1) (by simp))<|?_;refine WL.go rfl (OX.qM zG rfl rfl rfl ((Calls.ai9 (hp _ (St.cg st1) l[i] (List.getElem_mem cX))).mono ?_));rintro _ w2 ⟨rfl,s2⟩;refine⟨_,rfl,?_⟩;have st2:=st1.step s2;refine(br) (fun g16=>?_) fun g16=>?_
  ·
   refine(cj) ?_;exact⟨_,rfl,.inl ⟨i,_,aq cX,g16,gh,rfl⟩,(St.cg st2)⟩
  have g16:p l[i]=false:=by simpa using g16
  refine gp ?_;refine fx (i+1) ⟨st2,⟨by omega,dJ cX gh (by simpa using g16),trivial⟩⟩
 simp at g9
 have cx:∀x∈l,p x=false:=fun x hx=>by obtain⟨j,hj,rfl⟩:=List.getElem_of_mem hx;exact gh j _ (by omega) (aq hj)
 refine(cj) ?_;exact⟨_,rfl,.inr ⟨cx,rfl⟩,(St.cg st1)⟩
theorem wC{p:Key→Bool}(zG:CF prog f) (hl:Rd RR.key 2 Z w a n c l) (hp:∀w1,bm [] w w1→∀x∈l,Calls prog f #[x.val] w1 fun e w'=>e=.returned (.bool (p x))∧bm [] w1 w'):CR prog 88 #[.slice a n c,.func (.func f) #[] #[]] w (.bool (l.any p)):=by
 refine enter func88 rfl ntmps88 rfl<|?_;have aW:=St.s0 w;refine(cW) QB (Ce (w:=w) zG (hl.ext (St.cg aW)) (fun w1 h1=>hp w1 (bm.trans (St.cg aW) h1))) ?_;rintro _ w1 ⟨j,rfl,hj,s1⟩;have st1:=aW.step s1;have Vv:=hj.any;refine(cj) ?_;exact⟨by rw [Vv],(St.cg st1)⟩
set_option maxHeartbeats 1600000 in
theorem Cf{x:Rec}(hk:Rd RR.key 2 Z w a n c x.reads) (hx:HK ab x):CR prog 167 #[.agg (x.row a n c).toArray] w (.bool true):=by
 have hlen:=hk.len;obtain⟨h1,h2,h3,hv⟩:=hx;obtain⟨i,lZ,Wj,yn⟩:=h1.shape;have l8:=h1.gY;rw [ez] at hv;obtain⟨_,_,_,v4,v5,v6,v7,v8,v9,v10,v11⟩:=hv;refine enter func167 rfl ntmps167 rfl<|?_;have aW:=St.s0 w;refine(ef) aW fun b1 w1 pR dO st1=>?_;refine ew ?_;refine WC.fF (t:=34) (v:=.bool false) st1 ?_<|?_
 ·
  refine(kF) av st1.b0<|(gg) (j6 (k:=x.key) yn Wj lZ) st1 fun w2 s2 st2=>?_;refine(kF) av st2.b0<|?_;refine WL.c1 (u:=.bool false) (dF (k:=x.key)) (by rw [h2]) st2 fun w3 s3 aP=>?_;refine(bO) iq aP.b0<|(dW) (fun g19=>?_) (fun g19=>?_)
  ·
   refine bC ?_;exact(dq) (by first | (simp only [g19];done) | (simp [g19];done) | (have h4:x.key.kind=32:=vy h1 (by simpa [g19] using v11);simp [g19,h4];done) | (simp at g19 ⊢ <;> omega) | (simp [g19] <;> omega)) (aP)
  refine(bO) fA aP.b0<|(dW) (fun fy=>?_) (fun fy=>?_)
  ·
   exact(dq) (by first | (simp only [g19,fy];done) | (simp [g19,fy];done) | (have h4:x.key.kind=32:=vy h1 (by simpa [g19,fy] using v11);simp [g19,fy,h4];done) | (simp at g19 fy ⊢ <;> omega) | (simp [g19,fy] <;> omega)) (aP)
  refine(bO) fH aP.b0<|(dW) (fun iG=>?_) (fun iG=>?_)
  ·
   refine(kF) av aP.b0<|(gg) (l4 (k:=x.key) l8) aP fun w4 s4 aU=>?_;exact(dq) (by first | (simp only [g19,fy,iG];done) | (simp [g19,fy,iG];done) | (have h4:x.key.kind=32:=vy h1 (by simpa [g19,fy,iG] using v11);simp [g19,fy,iG,h4];done) | (simp at g19 fy iG ⊢ <;> omega) | (simp [g19,fy,iG] <;> omega)) (aU)
  exact(dq) (by first | (simp only [g19,fy,iG];done) | (simp [g19,fy,iG];done) | (have h4:x.key.kind=32:=vy h1 (by simpa [g19,fy,iG] using v11);simp [g19,fy,iG,h4];done) | (simp at g19 fy iG ⊢ <;> omega) | (simp [g19,fy,iG] <;> omega)) (aP)
 intro w2 st2;refine(br) (fun pG=>?_) fun pG=>?_
 ·
  exact gw pG
 refine kE ?_;refine WC.mC (t:=2) (v:=.bool true) st2 ?_<|?_
 ·
  refine(bO) aZ st2.b0<|(dW) (fun qC=>?_) (fun qC=>?_)
  ·
   refine(bO) aZ st2.b0<|(bO) aZ st2.b0<|(dW) (fun zx=>?_) (fun zx=>?_)
   ·
    refine(bO) aZ st2.b0<|(dW) (fun Rq=>?_) (fun Rq=>?_)
    ·
     refine(bO) aZ st2.b0<|(dW) (fun Bx=>?_) (fun Bx=>?_)
     ·
      refine(bO) aZ st2.b0<|(dW) (fun Ou=>?_) (fun Ou=>?_)
      ·
       refine(bO) fA st2.b0<|nx ?_;refine WL.c1 (u:=.bool false) (wC (p:=fun _=>false) aeQ (hk.ext (St.cg st2)) (fun w1 _ y hy=>zy (h3 y hy))) (by rw [List.any_eq_false.2 (fun _ _=>by simp)]) st2 fun w3 s3 aP=>?_;exact(iu) (tG (aj qC<|aj zx<|aj Rq<|aj Bx Ou)) (aP)
      exact(iu) (tG (aj qC<|aj zx<|aj Rq<|aj Bx Ou)) (st2)
     refine bC ?_;exact(iu) (tG (aj qC<|aj zx<|aj Rq Bx)) (st2)
    refine bC ?_;exact(iu) (tG (aj qC<|aj zx Rq)) (st2)
   refine bC ?_;exact(iu) (tG (aj qC zx)) (st2)
  refine bC ?_;refine bC ?_;exact(iu) (tG qC) (st2)
 intro w3 aP;refine(cj) ?_;exact⟨rfl,(St.cg aP)⟩
theorem wD{l:List Rec}(hl:Rd RR.ff 8 Z w a n c l) (hG:∀x∈l,HK ab x) (hS:qj l) (h4:l.length≤4000):CR prog 132 #[.slice a n c] w (.bool true):=by
 have hlen:=hl.len;have hle:=hl.le;refine enter func132 rfl ntmps132 rfl<|?_;have aW:=St.s0 w;refine bC ?_;refine cV ?_;refine WC.bU (σ:=Nat) (eI:=fun j=>[(0,.slice a n c),(5,.slice a n c),(6,.int .i64 (n:Int)),(7,.int .i64 (j:Int))]) (F:=fun j=>[]) (I:=fun j=>(j≤n)∧True) (μ:=fun j=>n - j) (0) (aW) Sub.t (⟨by omega,trivial⟩)<|?_;rintro j w1 st1 ⟨hj,_⟩;simp only [CA,NA] at st1 hj ⊢;refine(br) (fun g8=>?_) fun g8=>?_
 ·
  simp at g8
  have lF:j<l.length:=by omega
  refine ew ?_;obtain⟨gF,js,iU,aT,fl,bz,ck,di⟩:=Rd.at hl lF;obtain⟨q1,q2,q3,rfl,qz,pg⟩:=bz;refine cV ?_;refine WP .r (PV.fC jk aT rfl rfl (by omega))<|(bA) dn (bG ck (St.cg st1) (by simp))<|(fU) st1 fun b4 w2 jE bM st2=>?_;refine(dA) gJ st2 fun w3 jv jC aP=>?_;refine dy ?_;refine WC.fF (t:=30) (v:=.bool false) aP ?_<|?_
  ·
   have Wf:=aP.dc;refine WC.eU (m:=15) (E:=dx [(1,fun v _=>v=.bool true)]) aP (bS (⟨fun _ _ _ _ _ _ _ h=>h,trivial⟩)) mixed (by kernel_rfl)<|(ju) dn St.g0<|?_;refine DW.c0 (fun wx hC hF=>Cf (qz.ext (St.cg hC.2)) (hG _ (List.getElem_mem lF)))<|(tm) (fun g18=>?_) (fun g18=>?_)
   ·
    have hj0:1≤j:=by have h0:=g18;simp at h0;omega
    have UI:j - 1<l.length:=by omega
    have ee:cE l[j - 1].key l[j].key<0:=List.pairwise_iff_getElem.1 hS (j - 1) j UI lF (by simp at g18;omega);obtain⟨vV,Ix,FU,fO,vW,gN,j4,pJ⟩:=Rd.at hl UI;obtain⟨p1,p2,p3,rfl,_,_⟩:=gN;refine dy ?_;refine DP .r (fun _ hC=>PV.LQ jk (j - 1) fO rfl rfl (by omega) (by omega))<|nx ?_;refine DP .r (fun _ hC=>PV.G4 av (bG j4 (St.cg hC.2) (by simp)) rfl rfl)<|(CS) av St.g0<|(eu)<|?_;rintro w4 ⟨lB,aU⟩ ⟨_,_⟩;refine(gg) (u5 (a:=l[j - 1].key) (b:=l[j].key)) aU fun w5 s5 aY=>?_;exact(dq) (tG g18) (aY)
   refine(eu) ?_;rintro w4 ⟨lB,aU⟩ ⟨_,_⟩;exact(dq) (tG g18) (aU)
  intro w4 aU;refine(br) (fun me=>?_) fun me=>?_
  ·
   exact gw me
  refine gp ?_;refine fx (j+1) ⟨aU.drop,⟨by omega,trivial⟩⟩
 simp at g8
 refine bC ?_;refine(cj) ?_;exact⟨by simp;omega,(St.cg st1)⟩
theorem Cg{i:Nat}(lZ:i≤99) (hk:k=⟨30,itoa i⟩):CR prog 133 #[k.val] w (.bool true):=by
 subst hk;refine enter func133 rfl ntmps133 rfl<|?_;have aW:=St.s0 w;refine(ef) aW fun b1 w1 pR dO st1=>?_;refine(bA) av st1.b0<|(gg) (j6 (k:=⟨30,itoa i⟩) ⟨(by decide:(30:Int)≤30),(by decide:(30:Int)≤32)⟩ rfl lZ) st1 fun w2 s2 st2=>?_;refine(bA) av st2.b0<|?_;refine WL.c1 (u:=.bool true) (dF (k:=⟨30,itoa i⟩)) (by rw [show aB ⟨30,itoa i⟩=true from rfl]) st2 fun w3 s3 aP=>?_;refine(cj) ?_;exact⟨rfl,(St.cg aP)⟩
set_option maxHeartbeats 1600000 in
set_option maxRecDepth 100000 in
theorem lW(hi:Rd RR.aH 4 Z w a1 n1 e1 x.ah) (hr:Rd RR.ff 8 Z w a2 n2 e2 x.ao) (hx:jM ab x):CR prog 87 #[.agg (x.row a1 n1 e1 a2 n2 e2).toArray] w (.bool true):=by
 obtain⟨x0,x1,xi,xk,x6,xr,xs,x4,xv⟩:=hx;have gk:=hi.len;have zI:=hi.le;have NK:=hr.len;refine enter func87 rfl ntmps87 rfl<|?_;have aW:=St.s0 w;refine(ef) aW fun b1 w1 pR dO st1=>?_;refine ew ?_;refine WC.fF (t:=24) (v:=.bool false) st1 ?_<|?_
 ·
  refine(bO) aZ st1.b0<|(dW) (fun g8=>?_) (fun g8=>?_)
  ·
   refine bC ?_;exact(dq) (tG g8) (st1)
  refine(bO) aZ st1.b0<|(dW) (fun g13=>?_) (fun g13=>?_)
  ·
   exact(dq) (tG (aj g8 g13)) (st1)
  refine(bO) pE st1.b0<|(dW) (fun g19=>?_) (fun g19=>?_)
  ·
   exact(dq) (tG (aj g8<|aj g13 g19)) (st1)
  refine(bO) eN st1.b0<|(gg) (wD (hr.ext (St.cg st1)) xr xs x4) st1 fun w2 s2 st2=>?_;exact(dq) (tG (aj g8<|aj g13 g19)) (st2)
 intro w2 st2;refine(br) (fun g24=>?_) fun g24=>?_
 ·
  exact gw g24
 refine(bO) pE st2.b0<|ew ?_;refine WC.bU (σ:=Nat) (eI:=fun j=>[(1,.pointer (some ⟨b1,0,none⟩)),(26,.slice a1 n1 e1),(27,.int .i64 (n1:Int)),(28,.int .i64 (j:Int))]) (F:=fun j=>[]) (I:=fun j=>(j≤n1)∧True) (μ:=fun j=>n1 - j) (0) (st2) Sub.t (⟨by omega,trivial⟩)<|?_;rintro j w3 aP ⟨hj,_⟩;simp only [CA,NA] at aP hj ⊢;refine(br) (fun n0=>?_) fun n0=>?_
 ·
  simp at n0
  have lF:j<x.ah.length:=by omega
  obtain⟨y,hy⟩:∃y,x.ah[j]=y:=⟨_,rfl⟩;obtain⟨i,lZ,hyk⟩:=xk _ (hy ▸ List.getElem_mem lF);obtain⟨_,_,hv,OM,hc1⟩:=xi.2 _ (hy ▸ List.getElem_mem lF);refine ew ?_;obtain⟨gF,js,iU,aT,fl,bz,ck,di⟩:=Rd.at hi lF;have bz:=RR.cL bz;subst bz;rw [hy] at ck
  have UI:j - 1<x.ah.length:=by omega
  obtain⟨z,hz⟩:∃z,x.ah[j - 1]=z:=⟨_,rfl⟩;refine cV ?_;refine WP .r (PV.fC zl aT rfl rfl (by omega))<|(bA) qU (bG ck (St.cg aP) (by simp))<|(fU) aP fun b4 w4 jE bM aU=>?_;refine(dA) Ii aU fun w5 jv jC aY=>?_;refine dy ?_;refine WC.fF (t:=71) (v:=.bool false) aY ?_<|?_
  ·
   have Sm:=aY.dc;refine WC.eU (m:=37) (E:=dx [(2,fun v _=>v=.bool true),(17,fun v _=>v=.int .i64 (cE z.key y.key))]) aY (bS (⟨fun _ _ _ _ _ _ _ h=>h,⟨fun _ _ _ _ _ _ _ h=>h,trivial⟩⟩)) mixed (by kernel_rfl)<|(CS) av St.g0<|?_;refine DW.c0 (fun wx hC hF=>Cg lZ hyk)<|(tm) (fun BG=>?_) (fun BG=>?_)
   ·
    have hj0:1≤j:=by have h0:=BG;simp at h0;omega
    have ee:cE z.key y.key<0:=by rw [← hy,← hz];exact List.pairwise_iff_getElem.1 xi.1 (j - 1) j UI lF (by omega)
    obtain⟨vV,Ix,FU,fO,vW,gN,j4,pJ⟩:=Rd.at hi UI;have gN:=RR.cL gN;subst gN;rw [hz] at j4;refine(lX) pE St.g1<|cV ?_;refine DP .r (fun _ hC=>PV.LQ zl (j - 1) fO rfl rfl (by omega) (by omega))<|nx ?_;refine DP .r (fun _ hC=>PV.G4 av (bG j4 (St.cg hC.2) (by simp)) rfl rfl)<|(CS) av St.g0<|?_;refine DW.c0 (fun wx hC hF=>u5 (a:=z.key) (b:=y.key))<|(tm) (fun uQ=>?_) (fun uQ=>?_)
    ·
     refine bC ?_;refine(eu) ?_;rintro w6 ⟨pL,bj⟩ ⟨_,⟨_,_⟩⟩;exact(dq) (tG (aj BG uQ)) (bj)
    refine(lX) iq St.g0<|(tm) (fun Ou=>?_) (fun Ou=>?_)
    ·
     refine(eu) ?_;rintro w6 ⟨pL,bj⟩ ⟨_,⟨_,_⟩⟩;exact(dq) (tG (aj BG<|aj uQ Ou)) (bj)
    refine(lX) aZ St.g0<|(tm) (fun FR=>?_) (fun FR=>?_)
    ·
     refine(eu) ?_;rintro w6 ⟨pL,bj⟩ ⟨_,⟨_,_⟩⟩;exact(dq) (tG (aj BG<|aj uQ<|aj Ou FR)) (bj)
    refine(lX) aZ St.g0<|(lX) aZ St.g1<|(eu)<|?_;rintro w6 ⟨pL,bj⟩ ⟨_,⟨_,_⟩⟩;exact(dq) (tG (aj BG<|aj uQ<|aj Ou FR)) (bj)
   refine bC ?_;refine(lX) iq St.g0<|(tm) (fun Ou=>?_) (fun Ou=>?_)
   ·
    refine(eu) ?_;rintro w6 ⟨pL,bj⟩ ⟨_,_⟩;exact(dq) (tG (aj BG Ou)) (bj)
   refine(lX) aZ St.g0<|(tm) (fun FR=>?_) (fun FR=>?_)
   ·
    refine(eu) ?_;rintro w6 ⟨pL,bj⟩ ⟨_,_⟩;exact(dq) (tG (aj BG<|aj Ou FR)) (bj)
   refine(lX) aZ St.g0<|(lX) aZ St.g1<|(eu)<|?_;rintro w6 ⟨pL,bj⟩ ⟨_,_⟩;exact(dq) (tG (aj BG<|aj Ou FR)) (bj)
  intro w6 bj;refine(br) (fun nW=>?_) fun nW=>?_
  ·
   exact gw nW
  refine gp ?_;refine fx (j+1) ⟨bj.drop,⟨by omega,trivial⟩⟩
 simp at n0
 refine(bO) eN aP.b0<|?_;refine WP .r (PV.func (us:=[]) (vs:=[.pointer (some ⟨b1,0,none⟩)]) rfl rfl)<|(gg) (xW (p:=fun r=>decide (x.ae<r.az)) ael (hr.ext (St.cg aP)) (fun wq hq y _ a n c _=>xX ((As.gb aP.g0).ext hq)) (fun y hy=>by have:=xv y hy;simp;omega)) aP fun w4 s4 aU=>?_;refine(cj) ?_;exact⟨by simp,(St.cg aU)⟩
theorem I5(bF:St w M Z w [As.os RR.key 58 2 a n c l]) (h0:l≠[]) (hn:l.length≤1000000):Calls prog 190 #[.slice a n c,.func (.func 134) #[] #[]] w fun e w'=>e=.returned (.tuple #[])∧∃l',l'.Perm l∧(l'.Pairwise fun x y=>¬cE y x<0)∧St w M Z w' [As.os RR.key 58 2 a n c l']:=
 NS (fun blk cap d w hc hH hb hs=>slices_SortFunc 2 isAgg58 sizeOf58 Key.cells (fun _=>rfl) (fun x v hv=>by(simp [Key.cells] at hv;rcases hv with rfl | rfl <;> rfl)) cE To 134 #[] blk 0 cap d w VX hc hH hb hs) (fun x y w=>u5) bF h0 hn
set_option maxHeartbeats 400000
set_option maxHeartbeats 1600000 in
theorem pe{goals:List Key}{ar ag:Option Addr}{r cr g eg f:Nat}{s':ES}(hR:ay ab) (bF:St w M Z w []) (hu:Rd RR.gx 4 Z w ar r cr ab) (hi:Rd RR.aH 4 Z w a1 n1 e1 x.ah) (hr:Rd RR.ff 8 Z w a2 n2 e2 x.ao) (hg:Rd RR.key 2 Z w ag g eg goals) (ht:oj prog Z w) (y9:iD ab x goals=0) (uy:Good ab x.ah ⟨x,[],[],0⟩) (hk:∀k∈goals,gH ab k) (zI:x.ah.length≤1000000)
 (Rb:eW ab (valOf ab x.ah) f ⟨x,[],[],0⟩ goals=some s') (rq:s'.cy.length≤1000000):Calls prog 16 #[.slice ar r cr,.agg (x.row a1 n1 e1 a2 n2 e2).toArray,.slice ag g eg] w fun e w'=>∃QM QN QO QP QQ QR ag' g' eg' Z',e=.returned (.tuple #[.agg ((s'.base x).row QM QN QO QP QQ QR).toArray,.slice ag' g' eg',.int .i64 s'.e])∧cQ w.heap.size Z Z'∧Rd RR.aH 4 Z' w' QM QN QO (s'.base x).ah∧Rd RR.ff 8 Z' w' QP QQ QR (s'.base x).ao∧St w M Z' w' [As.os RR.key 58 2 ag' g' eg' s'.list]:=by
 have Wq:=hg.len;have OI:=hg.le
 have h6:x.ao.length≤1000000:=by have:=uy.len;simp only at this;omega
 refine enter func16 rfl ntmps16 rfl<|?_;have aW:=St.rb bF;have st1:=aW.fr hu;have st2:=st1.fr hi;have aP:=st2.fr hr;have aU:=aP.fr hg;have aY:=aU.fact (B:=As.fz (FZ.JG prog)) ht (fun _ hx=>hx);refine(ef) aY fun b4 w1 jE bM bj=>?_;refine(fU) bj fun b6 w2 mY eO bP=>?_;refine(bA) aM bP.b1<|?_;have bQ:=bP;refine(cW) C4 (gu bQ.e0 (As.gr bQ.g5) (As.gr bQ.g4) h6 zI) ?_;rintro _ w3 ⟨f1,f2,f3,f4,f5,f6,Z1,rfl,gQ,eE⟩;have bV:=St.lv bQ eE gQ;have Ls:=St.cH eE;have EW:=St.cH eE.p1;have fh:=bQ.size;have oZ:=gQ.le fh;have Lv:=St.fresh bV;have aL:=bV.bX (by omega);have Ly:=St.fresh aL.p1;have aQ:=aL.p1.bX (by omega);have kZ:=(oZ.trans (cQ.fo (F:=fun x=>x∈aO f1) Ls) fh).trans (cQ.fo (F:=fun x=>x∈aO f4) EW) fh;refine(dA) fL aQ.p3 fun w4 jv jC aV=>?_;refine(bA) aM aV.b0<|(cW) YP (o7 (As.gr aV.g8) (As.gr aV.g2) (As.gr aV.g1) (As.gr aV.g5)) ?_;rintro _ w5 ⟨rfl,s5⟩;rw [y9];have bD:=aV.step s5;refine(br) (fun g20=>?_) fun g20=>?_
 ·
  exact absurd g20 (by simp)
 refine dy ?_;refine WC.df (m:=6) [] [2,4] [0,1,2,3,4,5] [(5,.map)] bD (ax.k4 M0 M1 M2 M3<|ax.k4 M4 M5 M6 M7<|ax.cons M8<|ax.nil) mixed (by kernel_rfl) (by kernel_rfl) rfl<|(nj) aM SV.g0<|(jg) (fun w6 Lt u4 bp oa=>?_);simp only [CA,NA] at bp;have ba:=bp;refine OX.call adR rfl rfl ((BW (x:=x) ba.e0).mono ?_);rintro _ w7 ⟨d1,d2,d3,rfl,kI⟩;have aX:=St.lr ba kI;refine⟨_,rfl,kI.cT.size,_,rfl,_,_,_,aX,aA.k4<|aA.k4<|aA.k4<|aA.nil,ax.k4 M3 M4 M5 M6<|ax.k4 M7 M8 M9 lH<|ax.cons my<|ax.nil,?_⟩;refine(nj) aM SV.g0<|(jg) (fun w8 UG Gd bN qY=>?_);simp only [CA,NA] at bN;have bR:=bN;refine OX.call C4 rfl rfl ((gu bR.e0 (As.gr bR.g5) (As.gr bR.g4) h6 zI).mono ?_);rintro _ w9 ⟨q1,q2,q3,q4,q5,q6,Z3,rfl,sw,oq⟩;have bE:=St.lv bR oq sw;have amp:=St.cH oq;have amq:=St.cH oq.p1;have eQ:=bR.size;have qX:=kZ.trans sw eQ;have amr:=St.fresh bE;have bZ:=bE.bX (by omega);have ams:=St.fresh bZ.p1;have cG:=bZ.p1.bX (by omega);have xU:=(qX.trans (cQ.fo (F:=fun x=>x∈aO q1) amp) eQ).trans (cQ.fo (F:=fun x=>x∈aO q4) amq) eQ;refine⟨_,rfl,oq.cT.size,_,rfl,_,_,_,cG,aA.k4<|aA.k4<|aA.k4<|aA.k2<|aA.nil,ax.k4 M5 M6 M7 M8<|ax.k4 M9 lH my rH<|ax.cons wM<|ax.nil,?_⟩;refine DG.side (s:=.map) rfl rfl rfl rfl rfl rfl (fun wx Zx Rx Cc fV=>OX.makeMap Key.val rfl fun b wy nw hb=>⟨nw.ext.size,_,rfl,⟨b,rfl⟩,fV.Pq nw hb⟩)<|?_;rintro _ ⟨b28,rfl⟩;refine(nk) ?_;intro kN Gh cF;simp only [CM,NM,CA,NA,kL.it] at cF;refine WP .r (PV.cD (us:=(EA.cells ⟨q1,q4,none,q2,q3,q5,q6,0,0⟩ d1 b28 ⟨x,[],[],0⟩)) adr rfl rfl rfl)<|(ef) cF fun b30 kO ae7 ae8 cP=>?_;refine nx ?_;refine WL.nil (EX.np ?_);have cv:=cP.p5.p5;have cK:=cv.join (C:=As.mD prog 144 ab x ⟨ar,f1,f4,r,cr,f2,f3,f5,f6,d2,d3,d1⟩) ⟨cv.acE,(As.gb cv.g0),⟨[],bd.nil,(As.gm cv.g1)⟩,⟨(As.gr cv.g15),(As.gr cv.g9),(As.gr cv.g8),(As.gf cv.g11)⟩⟩ (fun y h=>h);have ey:=cK.fc RR.key 58 2;refine mT ?_;refine WC.jY (σ:=Nat × ES × EA × (Nat→Prop)) (eI:=fun(j,s1,E1,Z5)=>[(4,.pointer (some ⟨b4,0,none⟩)),(6,.pointer (some ⟨b6,0,none⟩)),(10,.pointer (some ⟨b30,0,none⟩)),(31,.slice ag g eg),(32,.int .i64 (g:Int)),(33,.int .i64 (j:Int))]) (F:=fun(j,s1,E1,Z5)=>[As.blk b30 101 (EA.cells E1 d1 b28 s1),As.map Key.val b28 s1.busy,As.os RR.key 58 2 E1.a3 E1.n3 E1.c3 s1.cy,As.ro RR.aH 4 E1.a1 E1.n1 E1.c1 s1.b.ah,As.ro RR.ff 8 E1.a2 E1.n2 E1.c2 s1.b.ao]) (I:=fun(j,s1,E1,Z5)=>(eW ab (valOf ab x.ah) f s1 (goals.drop j)=some s')∧(Good ab x.ah s1)∧(j≤g)∧(cQ w.heap.size Z Z5)∧True) (μ:=fun(j,s1,E1,Z5)=>g - j) (Zf:=fun(j,s1,E1,Z5)=>Z5) (0,⟨x,[],[],0⟩,⟨q1,q4,none,q2,q3,q5,q6,0,0⟩,_) (ey.p4.p5.p2.p5.p5) Sub.t (⟨Rb,uy,Nat.zero_le _,xU,trivial⟩)<|?_;rintro⟨j,s1,E1,Z5⟩ qW dz ⟨dP,rp,hj,ot,_⟩;simp only [CA,NA] at dz dP rp hj ot ⊢;refine(br) (fun pG=>?_) fun pG=>?_
 ·
  simp at pG
  have lF:j<goals.length:=by omega
  rw [List.drop_eq_getElem_cons lF] at dP;simp only [eW] at dP;obtain⟨t,R9,r9⟩:=Option.bind_eq_some_iff.1 dP;have hkj:=hk goals[j] (List.getElem_mem lF);have JJ:=(dr (val:=valOf ab x.ah) hR f).1 _ _ _ R9 rp hkj;have hgc:=uw hR r9 JJ.1 (fun k og=>hk k (List.mem_of_mem_drop og));refine ew ?_;obtain⟨gF,js,iU,aT,fl,bz,ck,di⟩:=Rd.at (As.gr dz.g12) lF;have bz:=RR.cL bz;subst bz;have eC:=dz.fg di ck;refine nx ?_;refine WP .r (PV.fC fP aT rfl rfl (by omega))<|(bA) av (As.om eC.g0)<|(fU) eC fun zO uX af3 af4 dh=>?_;refine(dA) jT dh fun zN sr nc dV=>?_;refine(bA) av dV.b0<|?_;have db:=dV.p4.p4.p7.p5;refine(cW) YR (ZY (D:=⟨ar,f1,f4,r,cr,f2,f3,f5,f6,d2,d3,d1⟩) hR zI f _ _ _ _ _ _ _ db.e4 (As.gr db.g6) (As.gr db.g7) rp hkj R9 (by have:=hgc.2.cy;omega)) ?_;rintro _ uY ⟨E2,Z6,rfl,I6,hi6,hr6,wE⟩;have dt:=St.lv db wE I6;have Dk:=ot.trans I6 db.size;have du:=dt.fr (hi6);have eK:=du.fr (hr6);have dR:=eK.p8.drop;have eF:=dR.p8.drop;refine gp ?_;refine fx (j+1,t,E2,Z6) ⟨eF.p6.drop.p6.drop.p1.p5.p5.p4,⟨r9,JJ.1,by omega,Dk,trivial⟩⟩
 simp at pG
 rw [List.drop_eq_nil_of_le (by omega)] at dP;simp only [eW,Option.some.injEq] at dP;subst dP;refine(bO) Eu dz.b0<|(br) (fun zx=>?_) fun zx=>?_
 ·
  simp at zx
  have eC:=dz.fc RR.key 58 2;refine nx ?_;refine WC.df (m:=7) [] [5] [0,5,1,2,3,4,6] [] eC (ax.k4 M0 M1 M2 M3<|ax.k4 M4 M5 M6 M7<|ax.k4 M8 M9 lH rH<|ax.k4 wM DD OV UZ<|ax.nil) mixed (by kernel_rfl) (by kernel_rfl) rfl<|(nj) aM SV.g8<|?_;refine DG.cs rfl rfl rfl rfl rfl (fun uX UF Gb dh sC=>?_);simp only [CA,NA] at dh;refine OX.qJ fL (As.gb dh.g11) rfl rfl rfl rfl rfl fun zN ED _ tj=>?_;have dV:=dh.pP.Ho ED tj;refine⟨ED.size,rfl,_,_,_,dV,aA.k4<|aA.k4<|aA.k4<|aA.k4<|aA.cons<|aA.nil,ax.k4 M1 M2 M3 M4<|ax.k4 M5 M6 M7 M8<|ax.k4 M9 lH my rH<|ax.k4 wM DD OV UZ<|ax.nil,?_⟩
  iterate 3 refine DG.a ?_
  refine(xh) Eu SV.g1<|(nk) ?_;intro uY MI db;simp only [CM,NM,CA,NA,kL.it] at db;refine nx ?_;refine WL.nil (EX.np ?_);refine dy ?_;refine EX.jd rfl (RS.cell aM rfl db.b0 rfl<|RS.tmp rfl<|RS.tmp rfl<|RS.nil) rfl<|?_;have hb:s1.base x=x:=if_neg zx;have hl:s1.list=[]:=if_neg zx;exact⟨f1,f2,f3,f4,f5,f6,none,0,0,_,by rw [hb],ot,by rw [hb];exact(As.gr db.g11),by rw [hb];exact(As.gr db.g10),by rw [hl];exact(St.wk db.p1.k1)⟩
 simp at zx
 refine dy ?_;have J5:=((As.gs dz.g2)).len;have aan:=St.fresh dz.p2;have eC:=dz.p2.bX (by omega);have hZr:=ot.trans (cQ.fo (F:=fun x=>x∈aO E1.a3) aan) (Nat.le_refl _);refine WC.df (m:=9) [] [8] [4,5,6,7,8,0,1,2,3] [] eC (ax.k4 M0 M1 M2 M3<|ax.k4 M4 M5 M6 M7<|ax.k4 M8 M9 lH my<|ax.k4 rH wM DD OV<|ax.nil) mixed (by kernel_rfl) (by kernel_rfl) rfl<|?_
 iterate 3 refine DG.a ?_
 refine(xh) fA SV.g1<|(jg) (fun uX R8x amu dh af5=>?_);simp only [CA,NA] at dh;have dV:=dh;refine OX.call adT rfl rfl ((vY dV.e0 (As.gr dV.g0) (fun _ h _=>h) rq).mono ?_);rintro _ zN ⟨o1,o2,o3,rfl,Ch⟩;have db:=St.lr dV Ch;refine⟨_,rfl,Ch.cT.size,_,rfl,_,_,_,db,aA.k4<|aA.k4<|aA.k4<|aA.k4<|aA.cons<|aA.nil,ax.k4 M1 M2 M3 M4<|ax.k4 M5 M6 M7 M8<|ax.k4 M9 lH my rH<|ax.k4 wM DD OV UZ<|ax.nil,?_⟩
 iterate 3 refine DG.a ?_
 refine(J7) aM SV.g1<|(nk)<|?_;intro uY IU dt;simp only [CM,NM,CA,NA,kL.it] at dt;refine(dA) fL dt.pP fun zw Sj xt du=>?_;refine cV ?_;refine WL.nil (EX.np ?_);refine cV ?_;refine EX.jd rfl (RS.cell aM rfl du.b0 rfl<|RS.tmp rfl<|RS.tmp rfl<|RS.nil) rfl<|?_;have hb:s1.base x=s1.b:=if_pos zx;have hl:s1.list=jZ s1.cy:=if_pos zx;exact⟨E1.a1,E1.n1,E1.c1,E1.a2,E1.n2,E1.c2,o1,o2,o3,_,by rw [hb,zx];rfl,hZr,by rw [hb];exact(As.gr du.g5),by rw [hb];exact(As.gr du.g6),by rw [hl];exact(St.wk du.p1.k1)⟩
set_option maxHeartbeats 400000
theorem Ci{x:Rec}{aw:Option Addr}{nw cw bw:Nat}(hb:cI w bw 41 [.slice aw nw cw]) (hl:Rd RR.key 2 Z w aw nw cw l):CR prog 98 #[.agg (x.row a n c).toArray,.pointer (some ⟨bw,0,none⟩)] w (.bool (decide (x.key∈l))):=by
 refine enter func98 rfl ntmps98 rfl<|?_;have aW:=St.s0 w;refine(ef) aW fun b2 w1 lA eZ st1=>?_;refine ew ?_;refine WP .r (PV.pT fA (cI.range (hb.ext (St.cg st1))) rfl rfl)<|(kF) av st1.b0<|(gg) (pM (k:=x.key) (hl.ext (St.cg st1))) st1 fun w2 s2 st2=>?_;refine(cj) ?_;exact⟨rfl,(St.cg st2)⟩
set_option maxHeartbeats 400000
theorem qE{l:List (List Key)}{B:Nat→Prop}(hl:Ksl A B w a n l):CR prog 19 #[.slice a n c] w (.bool (decide l.flatten.Nodup)):=by
 have hlen:=LR.len hl;have hle:=LR.le hl;refine enter func19 rfl ntmps19 rfl<|?_;have aW:=St.s0 w;refine gp ?_;refine WL.mm Key.val aW fun b8 w1 zM hm8 st1=>?_;refine bC ?_;refine WC.bU (σ:=Nat × (List (Key × Value))) (eI:=fun(i,ml)=>[(3,.map (some b8)),(9,.slice a n c),(10,.int .i64 (n:Int)),(11,.int .i64 (i:Int))]) (F:=fun(i,ml)=>[As.map Key.val b8 ml]) (I:=fun(i,ml)=>(i≤n)∧(Vm ml (l.take i).flatten)∧((l.take i).flatten.Nodup)∧True) (μ:=fun(i,ml)=>n - i) (0,[]) (st1) Sub.t (⟨by omega,Vm.nil,List.nodup_nil,trivial⟩)<|?_;rintro⟨i,ml⟩ w2 st2 ⟨hi,hc,rB,_⟩;simp only [CA,NA] at st2 hi hc rB ⊢;refine(br) (fun g12=>?_) fun g12=>?_
 ·
  simp at g12
  have cX:i<l.length:=by omega
  obtain⟨UB,UC,UD,mn,_,⟨q1,q2,q3,rfl,hks⟩,pc,_⟩:=LR.at_ hl (aq cX);have CP:=hks.len;have oh:=hks.le;refine jx ?_;refine WP .r (PV.fC adw mn rfl rfl (by omega))<|WP .r (PV.pT fA (bG pc (St.cg st2) (by simp)) rfl rfl)<|rT ?_;refine WC.bU (σ:=Nat × (List (Key × Value))) (eI:=fun(j,m2)=>[(3,.map (some b8)),(9,.slice a n c),(10,.int .i64 (n:Int)),(11,.int .i64 (i:Int)),(15,.slice q1 q2 q3),(16,.int .i64 (q2:Int)),(17,.int .i64 (j:Int))]) (F:=fun(j,m2)=>[As.map Key.val b8 m2]) (I:=fun(j,m2)=>(j≤q2)∧(Vm m2 ((l.take i).flatten++l[i].take j))∧(((l.take i).flatten++l[i].take j).Nodup)∧True) (μ:=fun(j,m2)=>q2 - j) (0,ml) (st2) Sub.t (⟨by omega,by simpa using hc,by simpa using rB,trivial⟩)<|?_;rintro⟨j,m2⟩ w3 aP ⟨hj,Si,py,_⟩;simp only [CA,NA] at aP hj Si py ⊢;refine(br) (fun g18=>?_) fun g18=>?_
  ·
   simp at g18
   have lF:j<l[i].length:=by omega
   obtain⟨b_y,o_y,r_y,B8,_,rfl,xV,_⟩:=hks.at_ (aq lF);have xV:=bG xV (St.cg aP) (by simp)
   have jV:(cq m2 l[i][j]).getD (.bool false)=.bool (decide (l[i][j]∈(l.take i).flatten++l[i].take j)):=by rw [Si.get];split <;> rename_i h <;> simp [h]
   refine jx ?_;refine WP .r (PV.fC fP B8 rfl rfl (by omega))<|(bA) av xV<|(fU) aP fun b7 w4 uR oo aU=>?_;refine(dA) jT aU fun w5 jv jC aY=>?_;refine(bA) av aY.b0<|?_;refine WP .r (PV.mJ eD kB FJ (As.gm aY.g1) (jV) rfl rfl)<|(br) (fun g23=>?_) fun g23=>?_
   ·
    have amw:=Tb cX lF (of_decide_eq_true g23);refine bC ?_;refine(cj) ?_;exact⟨by rw [decide_eq_false amw],(St.cg aY)⟩
   have g23:=of_decide_eq_false g23;refine(bA) av aY.b0<|?_;refine WL.go rfl (OX.put eD kB (As.gm aY.g1) rfl rfl rfl fun w6 FX BZ=>?_);have bj:=aY.p1.mS FX BZ;refine gp ?_;refine fx (j+1,_) ⟨bj.p1.drop,⟨by omega,by rw [HW cX lF];exact Si.put _,by rw [HW cX lF];exact AZ.2 ⟨py,g23⟩,trivial⟩⟩
  simp at g18
  have hje:l[i].take j=l[i]:=List.take_of_length_le (by omega);have y9:=Si;rw [hje] at y9;have ku:=py;rw [hje] at ku;refine mT ?_;refine fx (i+1,m2) ⟨aP,⟨by omega,by rw [Ee cX];exact y9,by rw [Ee cX];exact ku,trivial⟩⟩
 simp at g12
 have Gi:l.take i=l:=List.take_of_length_le (by omega);rw [Gi] at rB;refine(cj) ?_;exact⟨by rw [decide_eq_true rB],(St.cg st2)⟩
set_option maxHeartbeats 400000
theorem UJ(hR:ay ab) (hS:∀k,(valOf ab x.ah k).size≤1000):∀i:Nat,i<ab.length→Wk ab x D (aS ab (i:Int)):=by
 intro i;have qf:=hR.len;have low:∀n:Nat,n≤15→Wk ab x D (dQ (n:Int)):=fun n hn w M Z ml al bF hf hm _=>yU bF hf hm (dj (by omega))
 induction i using Nat.strongRecOn with
 | _ i IH=>
  intro hi w M Z ml al bF hf hm uq
  have lZ:i≤99:=by omega
  have amx:nI ab i al:=by
   have h:=uq (dI hi lZ);rw [dK hi lZ,Int.toNat_natCast] at h;exact h
  refine Lu bF hf hm hR hi hS amx (fun hr w M Z ml al bF hf hm uq=>?_) (fun hr a ha=>?_)
  ·
   rw [dK hi lZ,Int.toNat_natCast] at uq;refine Ge bF hf hm hR hS hi hr uq fun j hj a ha hc=>?_;have ux:=ha.cyc hR
   rcases ha with⟨n,hn,rfl⟩ | ⟨m,hm,rfl,h1,h2,h3,h4⟩
   ·
    exact low n hn
   have hrm:aI ab m=false:=by
    rw [hc,fX hm (by omega)] at ux
    cases h:aI ab m
    ·
     rfl
    rw [h] at ux;simp at ux
   have JF:cz ab j≤i:=Nat.le_trans (nH hR hj) (iN ab i)
   have hmj:m<i:=by
    have:=h4 hrm (lK hi hr hj).2
    omega
   exact IH m hmj hm
  rcases ha with⟨n,hn,rfl⟩ | ⟨m,hm,rfl,_,h2,_⟩
  ·
   exact low n hn
  exact IH m (h2 hr) hm
theorem Cj(hR:ay ab) (hS:∀k,(valOf ab x.ah k).size≤1000) {k:Key}(hk:gH ab k):Wk ab x D k:=by
 cases hk with
 | cell h=>exact fun w M Z ml al bF hf hm _=>yU bF hf hm (dj h)
 | gx h _=>exact UJ hR hS _ h
end Go.Rc

