/- Walks over the program, part WUa. Conditions: as each theorem says. -/
import Derived.Test.YtpoiojafnnaccaaGreatDoorUFacts
import Derived.Test.YtpoiojafnnaccaaGreatDoorUWU
import Derived.Test.YtpoiojafnnaccaaGreatDoorUBf
import Derived.Test.YtpoiojafnnaccaaGreatDoorUBg
import Derived.Test.YtpoiojafnnaccaaGreatDoorUWB
import Derived.Test.YtpoiojafnnaccaaGreatDoorUBh
import Derived.Test.YtpoiojafnnaccaaGreatDoorShelf
import Derived.Test.YtpoiojafnnaccaaGreatDoorUWLibE
import Derived.Test.YtpoiojafnnaccaaGreatDoorUBd
set_option linter.all false
namespace Go.Rc
open Go Go.Proofs Go.Proofs.Tryz
variable {n c n1 e1 n2 e2:Nat}{w:World}{a a1 a2:Option Addr}{A Z M:Nat→Prop}{ab:List aJ}{k:Key}{l:List Key}{f:FuncId}{x:dV}{D:SD}
set_option maxHeartbeats 400000
theorem B0{n:Int} :CR prog 187 #[.int .i64 n] w (.bool false):=by
 refine enter func187 rfl ntmps187 rfl<|?_;have aW:=St.s0 w;refine bC ?_;refine(cm) ?_;exact⟨by simp,(St.cg aW)⟩
theorem F0{a b:Int} :CR prog 169 #[.int .i64 a,.int .i64 b] w (.int .i64 (Cx a b)):=by
 refine enter func169 rfl ntmps169 rfl<|?_;have aW:=St.s0 w;refine(gw) (B0) aW fun w1 s1 st1=>?_;refine(gw) (B0) st1 fun w2 s2 st2=>?_;refine qC ?_;refine WC.iu rfl<|kJ ?_;refine WC.iu rfl<|(bp) (fun g16=>?_) fun g16=>?_
 ·
  simp at g16
  refine(cm) ?_;exact⟨by unfold Cx;rw [if_pos g16],(St.cg st2)⟩
 simp at g16
 refine(bp) (fun g19=>?_) fun g19=>?_
 ·
  simp at g19
  refine(cm) ?_;exact⟨by unfold Cx;rw [if_neg (by omega),if_pos g19],(St.cg st2)⟩
 simp at g19
 refine(cm) ?_;exact⟨by unfold Cx;rw [if_neg (by omega),if_neg (by omega)],(St.cg st2)⟩
theorem F1{l:List Int}(hl:Ints A w a n c l):CR prog 168 #[.slice a n c] w (.int .i64 (Xk l)):=by
 have hle:=SR.le hl;have hlen:=SR.len hl;refine enter func168 rfl ntmps168 rfl<|?_;have aW:=St.s0 w;refine bC ?_;refine gp ?_;refine WC.bQ (σ:=Nat) (eI:=fun i=>[(3,.int .i64 0),(6,.slice a n c),(7,.int .i64 (n:Int)),(8,.int .i64 (i:Int))]) (F:=fun i=>[]) (I:=fun i=>(i≤n)∧(∀j x,j<i→l[j]?=some x→x=0)∧True) (μ:=fun i=>n - i) (0) (aW) Sub.t (⟨by omega,fun j x h=>by omega,trivial⟩)<|?_;rintro i w1 st1 ⟨hi,gh,_⟩;simp only [CA,NA] at st1 hi gh ⊢;refine(bp) (fun g9=>?_) fun g9=>?_
 ·
  simp at g9
  have cV:i<l.length:=by omega
  obtain⟨Ul,Um,Un,mg,_,rfl,oT,_⟩:=(SR.ext hl (St.cg st1)).at (aq cV);refine jo ?_;refine WP .r (PV.fm Kv mg rfl rfl (by omega))<|WP .r (PV.pM aX oT rfl rfl)<|(bp) (fun g14=>?_) fun g14=>?_
  ·
   simp at g14
   refine(cm) ?_;exact⟨by rw [Xl cV gh g14],(St.cg st1)⟩
  simp at g14
  refine gp ?_;refine fx (i+1) ⟨st1,⟨by omega,dJ cV gh (by simpa using g14),trivial⟩⟩
 simp at g9
 refine(cm) ?_;exact⟨by rw [SF (fun x hx=>by obtain⟨j,hj,rfl⟩:=List.mem_iff_getElem.1 hx;exact gh j _ (by omega) (aq hj))],(St.cg st1)⟩
theorem uR{a b:Key} :CR prog 134 #[a.val,b.val] w (.int .i64 (cE a b)):=by
 refine enter func134 rfl ntmps134 rfl<|?_;have aW:=St.s0 w;refine(eD) aW fun b2 w1 lB eZ st1=>?_;refine(eD) st1 fun b3 w2 ic dA st2=>?_;refine dF ?_;have zq:=st2.dc;refine WC.fc (m:=9) (E:=dy [(4,fun v _=>v=.int .i64 (Cx a.kind b.kind))]) st2 (bT (⟨fun _ _ _ _ _ _ _ h=>h,trivial⟩)) mixed (by kernel_rfl)<|(lF) aX St.g1<|(lF) aX St.g0<|?_;refine DW.c0 (fun wx hC hF=>F0)<|(lF) iq St.g1<|(lF) iq St.g0<|(ey)<|?_;rintro w3 ⟨fj,aP⟩ ⟨_,_⟩;refine(gw) (tH a.text b.text w3) aP fun w4 s4 aV=>?_;refine WL.go rfl (OX.bA (us:=[.int .i64 (Cx a.kind b.kind),.int .i64 (Lib.compareBytes a.text.data.toList b.text.data.toList)]) Yf rfl rfl rfl rfl fun Ju w5 Qu Qv=>?_);have bf:=aV.eW Qu Qv;refine WL.c1 (u:=.int .i64 (cE a b)) (F1 (l:=[Cx a.kind b.kind,Lib.compareBytes a.text.data.toList b.text.data.toList]) (SR.Sa (rows:=[[.int .i64 (Cx a.kind b.kind)],[.int .i64 (Lib.compareBytes a.text.data.toList b.text.data.toList)]]) (As.gb bf.g0) rfl (by simp) (by simp [Value.oneCell']) (by simp) (Pr rfl rfl))) (by rw [SG]) bf fun w6 s6 br=>?_;refine(cm) ?_;exact⟨rfl,(St.cg br)⟩
theorem y5(hk:gS ab k):CR prog 186 #[k.val] w (.bool false):=by
 obtain⟨i,mn,hkt,xY⟩:=hk.shape;refine enter func186 rfl ntmps186 rfl<|?_;have aW:=St.s0 w;refine(eD) aW fun b1 w1 pK dQ st1=>?_;refine(bz) av st1.b0<|(gw) (lW (k:=k) xY hkt mn) st1 fun w2 s2 st2=>?_;refine(cm) ?_;exact⟨rfl,(St.cg st2)⟩
theorem B1{p:Key→Bool}(zk:CF prog f) (hl:Rd RR.key 2 Z w a n c l) (hp:∀w1,bj [] w w1→∀x∈l,Calls prog f #[x.val] w1 fun e w'=>e=.returned (.bool (p x))∧bj [] w1 w'):Calls prog 137 #[.slice a n c,.func (.func f) #[] #[]] w fun e w'=>∃j:Int,e=.returned (.int .i64 j)∧DI l p j∧bj [] w w':=by
 have hlen:=hl.len;have hle:=hl.le;refine enter func137 rfl ntmps137 rfl<|?_;have aW:=St.s0 w;refine bC ?_;refine db ?_;refine WC.bQ (σ:=Nat) (eI:=fun i=>[(0,.slice a n c),(1,.func (.func f) #[] #[]),(7,.int .i64 (n:Int)),(8,.int .i64 (i:Int))]) (F:=fun i=>[]) (I:=fun i=>(i≤n)∧(∀j x,j<i→l[j]?=some x→p x=false)∧True) (μ:=fun i=>n - i) (0) (aW) Sub.t (⟨by omega,fun j x h=>by omega,trivial⟩)<|?_;rintro i w1 st1 ⟨hi,gh,_⟩;simp only [CA,NA] at st1 hi gh ⊢;refine(bp) (fun g9=>?_) fun g9=>?_
 ·
  simp at g9
  have cV:i<l.length:=by omega
  refine qT ?_;obtain⟨gE,js,iT,aS,fi,bq,bY,di⟩:=Rd.at hl cV;have bq:=RR.cH bq;subst bq;refine dF ?_;refine WP .r (PV.fm fL aS rfl rfl (by omega))<|(bz) av (bE bY (St.cg st1) (by simp))<|?_;refine WL.go rfl (OX.qA zk rfl rfl rfl ((Calls.aiA (hp _ (St.cg st1) l[i] (List.getElem_mem cV))).mono ?_));rintro _ w2 ⟨rfl,s2⟩;refine⟨_,rfl,?_⟩;have st2:=st1.step s2;refine(bp) (fun g16=>?_) fun g16=>?_
  ·
   refine(cm) ?_;exact⟨_,rfl,.inl ⟨i,_,aq cV,g16,gh,rfl⟩,(St.cg st2)⟩
  have g16:p l[i]=false:=by simpa using g16
  refine gp ?_;refine fx (i+1) ⟨st2,⟨by omega,dJ cV gh (by simpa using g16),trivial⟩⟩
 simp at g9
 have cy:∀x∈l,p x=false:=fun x hx=>by obtain⟨j,hj,rfl⟩:=List.getElem_of_mem hx;exact gh j _ (by omega) (aq hj)
 refine(cm) ?_;exact⟨_,rfl,.inr ⟨cy,rfl⟩,(St.cg st1)⟩
theorem vZ{p:Key→Bool}(zk:CF prog f) (hl:Rd RR.key 2 Z w a n c l) (hp:∀w1,bj [] w w1→∀x∈l,Calls prog f #[x.val] w1 fun e w'=>e=.returned (.bool (p x))∧bj [] w1 w'):CR prog 88 #[.slice a n c,.func (.func f) #[] #[]] w (.bool (l.any p)):=by
 refine enter func88 rfl ntmps88 rfl<|?_;have aW:=St.s0 w;refine(df) Qk (B1 (w:=w) zk (hl.ext (St.cg aW)) (fun w1 h1=>hp w1 (bj.trans (St.cg aW) h1))) ?_;rintro _ w1 ⟨j,rfl,hj,s1⟩;have st1:=aW.step s1;have Vg:=hj.any;refine(cm) ?_;exact⟨by rw [Vg],(St.cg st1)⟩
set_option maxHeartbeats 1600000 in
theorem B2{x:Rec}(hk:Rd RR.key 2 Z w a n c x.reads) (hx:Hy ab x):CR prog 167 #[.agg (x.row a n c).toArray] w (.bool true):=by
 have hlen:=hk.len;obtain⟨h1,h2,h3,hv⟩:=hx;obtain⟨i,mn,hkt,xY⟩:=h1.shape;have l3:=h1.gY;rw [dY] at hv;obtain⟨_,_,_,v4,v5,v6,v7,v8,v9,v10,v11⟩:=hv;refine enter func167 rfl ntmps167 rfl<|?_;have aW:=St.s0 w;refine(eD) aW fun b1 w1 pK dQ st1=>?_;refine eA ?_;refine WC.fQ (t:=34) (v:=.bool false) st1 ?_<|?_
 ·
  refine(kl) av st1.b0<|(gw) (lW (k:=x.key) xY hkt mn) st1 fun w2 s2 st2=>?_;refine(kl) av st2.b0<|?_;refine WL.c1 (u:=.bool false) (dN (k:=x.key)) (by rw [h2]) st2 fun w3 s3 aP=>?_;refine(bN) iq aP.b0<|(dT) (fun g19=>?_) (fun g19=>?_)
  ·
   refine bC ?_;exact(dx) (by first | (simp only [g19];done) | (simp [g19];done) | (have h4:x.key.kind=32:=vp h1 (by simpa [g19] using v11);simp [g19,h4];done) | (simp at g19 ⊢ <;> omega) | (simp [g19] <;> omega)) (aP)
  refine(bN) fE aP.b0<|(dT) (fun fB=>?_) (fun fB=>?_)
  ·
   exact(dx) (by first | (simp only [g19,fB];done) | (simp [g19,fB];done) | (have h4:x.key.kind=32:=vp h1 (by simpa [g19,fB] using v11);simp [g19,fB,h4];done) | (simp at g19 fB ⊢ <;> omega) | (simp [g19,fB] <;> omega)) (aP)
  refine(bN) fG aP.b0<|(dT) (fun iU=>?_) (fun iU=>?_)
  ·
   refine(kl) av aP.b0<|(gw) (lV (k:=x.key) l3) aP fun w4 s4 aV=>?_;exact(dx) (by first | (simp only [g19,fB,iU];done) | (simp [g19,fB,iU];done) | (have h4:x.key.kind=32:=vp h1 (by simpa [g19,fB,iU] using v11);simp [g19,fB,iU,h4];done) | (simp at g19 fB iU ⊢ <;> omega) | (simp [g19,fB,iU] <;> omega)) (aV)
  exact(dx) (by first | (simp only [g19,fB,iU];done) | (simp [g19,fB,iU];done) | (have h4:x.key.kind=32:=vp h1 (by simpa [g19,fB,iU] using v11);simp [g19,fB,iU,h4];done) | (simp at g19 fB iU ⊢ <;> omega) | (simp [g19,fB,iU] <;> omega)) (aP)
 intro w2 st2;refine(bp) (fun uW=>?_) fun uW=>?_
 ·
  exact gM uW
 refine kJ ?_;refine WC.mw (t:=2) (v:=.bool true) st2 ?_<|?_
 ·
  refine(bN) aX st2.b0<|(dT) (fun uP=>?_) (fun uP=>?_)
  ·
   refine(bN) aX st2.b0<|(bN) aX st2.b0<|(dT) (fun yZ=>?_) (fun yZ=>?_)
   ·
    refine(bN) aX st2.b0<|(dT) (fun Us=>?_) (fun Us=>?_)
    ·
     refine(bN) aX st2.b0<|(dT) (fun Be=>?_) (fun Be=>?_)
     ·
      refine(bN) aX st2.b0<|(dT) (fun N6=>?_) (fun N6=>?_)
      ·
       refine(bN) fE st2.b0<|nx ?_;refine WL.c1 (u:=.bool false) (vZ (p:=fun _=>false) aeA (hk.ext (St.cg st2)) (fun w1 _ y hy=>y5 (h3 y hy))) (by rw [List.any_eq_false.2 (fun _ _=>by simp)]) st2 fun w3 s3 aP=>?_;exact(iw) (tG (aj uP<|aj yZ<|aj Us<|aj Be N6)) (aP)
      exact(iw) (tG (aj uP<|aj yZ<|aj Us<|aj Be N6)) (st2)
     refine bC ?_;exact(iw) (tG (aj uP<|aj yZ<|aj Us Be)) (st2)
    refine bC ?_;exact(iw) (tG (aj uP<|aj yZ Us)) (st2)
   refine bC ?_;exact(iw) (tG (aj uP yZ)) (st2)
  refine bC ?_;refine bC ?_;exact(iw) (tG uP) (st2)
 intro w3 aP;refine(cm) ?_;exact⟨rfl,(St.cg aP)⟩
theorem wa{l:List Rec}(hl:Rd RR.fl 8 Z w a n c l) (hG:∀x∈l,Hy ab x) (hS:qc l) (h4:l.length≤4000):CR prog 132 #[.slice a n c] w (.bool true):=by
 have hlen:=hl.len;have hle:=hl.le;refine enter func132 rfl ntmps132 rfl<|?_;have aW:=St.s0 w;refine bC ?_;refine db ?_;refine WC.bQ (σ:=Nat) (eI:=fun j=>[(0,.slice a n c),(5,.slice a n c),(6,.int .i64 (n:Int)),(7,.int .i64 (j:Int))]) (F:=fun j=>[]) (I:=fun j=>(j≤n)∧True) (μ:=fun j=>n - j) (0) (aW) Sub.t (⟨by omega,trivial⟩)<|?_;rintro j w1 st1 ⟨hj,_⟩;simp only [CA,NA] at st1 hj ⊢;refine(bp) (fun g8=>?_) fun g8=>?_
 ·
  simp at g8
  have kL:j<l.length:=by omega
  refine eA ?_;obtain⟨gE,js,iT,aS,fi,bq,bY,di⟩:=Rd.at hl kL;obtain⟨q1,q2,q3,rfl,pA,oM⟩:=bq;refine db ?_;refine WP .r (PV.fm iF aS rfl rfl (by omega))<|(bz) dm (bE bY (St.cg st1) (by simp))<|(fT) st1 fun b4 w2 jS bL st2=>?_;refine(dB) gC st2 fun w3 jC jI aP=>?_;refine dw ?_;refine WC.fQ (t:=30) (v:=.bool false) aP ?_<|?_
  ·
   have V2:=aP.dc;refine WC.fc (m:=15) (E:=dy [(1,fun v _=>v=.bool true)]) aP (bT (⟨fun _ _ _ _ _ _ _ h=>h,trivial⟩)) mixed (by kernel_rfl)<|(jA) dm St.g0<|?_;refine DW.c0 (fun wx hC hF=>B2 (pA.ext (St.cg hC.2)) (hG _ (List.getElem_mem kL)))<|(tf) (fun g18=>?_) (fun g18=>?_)
   ·
    have hj0:1≤j:=by have h0:=g18;simp at h0;omega
    have Ut:j - 1<l.length:=by omega
    have ed:cE l[j - 1].key l[j].key<0:=List.pairwise_iff_getElem.1 hS (j - 1) j Ut kL (by simp at g18;omega);obtain⟨uM,Ih,CN,ft,tK,gk,jO,pB⟩:=Rd.at hl Ut;obtain⟨p1,p2,p3,rfl,_,_⟩:=gk;refine dw ?_;refine DP .r (fun _ hC=>PV.Ls iF (j - 1) ft rfl rfl (by omega) (by omega))<|nx ?_;refine DP .r (fun _ hC=>PV.GC av (bE jO (St.cg hC.2) (by simp)) rfl rfl)<|(Cm) av St.g0<|(ey)<|?_;rintro w4 ⟨lR,aV⟩ ⟨_,_⟩;refine(gw) (uR (a:=l[j - 1].key) (b:=l[j].key)) aV fun w5 s5 bf=>?_;exact(dx) (tG g18) (bf)
   refine(ey) ?_;rintro w4 ⟨lR,aV⟩ ⟨_,_⟩;exact(dx) (tG g18) (aV)
  intro w4 aV;refine(bp) (fun l9=>?_) fun l9=>?_
  ·
   exact gM l9
  refine gp ?_;refine fx (j+1) ⟨aV.drop,⟨by omega,trivial⟩⟩
 simp at g8
 refine bC ?_;refine(cm) ?_;exact⟨by simp;omega,(St.cg st1)⟩
theorem B3{i:Nat}(mn:i≤99) (hk:k=⟨30,itoa i⟩):CR prog 133 #[k.val] w (.bool true):=by
 subst hk;refine enter func133 rfl ntmps133 rfl<|?_;have aW:=St.s0 w;refine(eD) aW fun b1 w1 pK dQ st1=>?_;refine(bz) av st1.b0<|(gw) (lW (k:=⟨30,itoa i⟩) ⟨(by decide:(30:Int)≤30),(by decide:(30:Int)≤32)⟩ rfl mn) st1 fun w2 s2 st2=>?_;refine(bz) av st2.b0<|?_;refine WL.c1 (u:=.bool true) (dN (k:=⟨30,itoa i⟩)) (by rw [show aB ⟨30,itoa i⟩=true from rfl]) st2 fun w3 s3 aP=>?_;refine(cm) ?_;exact⟨rfl,(St.cg aP)⟩
set_option maxHeartbeats 1600000 in
set_option maxRecDepth 100000 in
theorem pG(hi:Rd RR.aH 4 Z w a1 n1 e1 x.ah) (hr:Rd RR.fl 8 Z w a2 n2 e2 x.ak) (hx:kT ab x):CR prog 87 #[.agg (x.row a1 n1 e1 a2 n2 e2).toArray] w (.bool true):=by
 obtain⟨x0,x1,xi,xk,x6,xr,xs,x4,xv⟩:=hx;have gQ:=hi.len;have zm:=hi.le;have Nr:=hr.len;refine enter func87 rfl ntmps87 rfl<|?_;have aW:=St.s0 w;refine(eD) aW fun b1 w1 pK dQ st1=>?_;refine eA ?_;refine WC.fQ (t:=24) (v:=.bool false) st1 ?_<|?_
 ·
  refine(bN) aX st1.b0<|(dT) (fun g8=>?_) (fun g8=>?_)
  ·
   refine bC ?_;exact(dx) (tG g8) (st1)
  refine(bN) aX st1.b0<|(dT) (fun g13=>?_) (fun g13=>?_)
  ·
   exact(dx) (tG (aj g8 g13)) (st1)
  refine(bN) pw st1.b0<|(dT) (fun g19=>?_) (fun g19=>?_)
  ·
   exact(dx) (tG (aj g8<|aj g13 g19)) (st1)
  refine(bN) ez st1.b0<|(gw) (wa (hr.ext (St.cg st1)) xr xs x4) st1 fun w2 s2 st2=>?_;exact(dx) (tG (aj g8<|aj g13 g19)) (st2)
 intro w2 st2;refine(bp) (fun g24=>?_) fun g24=>?_
 ·
  exact gM g24
 refine(bN) pw st2.b0<|eA ?_;refine WC.bQ (σ:=Nat) (eI:=fun j=>[(1,.pointer (some ⟨b1,0,none⟩)),(26,.slice a1 n1 e1),(27,.int .i64 (n1:Int)),(28,.int .i64 (j:Int))]) (F:=fun j=>[]) (I:=fun j=>(j≤n1)∧True) (μ:=fun j=>n1 - j) (0) (st2) Sub.t (⟨by omega,trivial⟩)<|?_;rintro j w3 aP ⟨hj,_⟩;simp only [CA,NA] at aP hj ⊢;refine(bp) (fun oq=>?_) fun oq=>?_
 ·
  simp at oq
  have kL:j<x.ah.length:=by omega
  obtain⟨y,hy⟩:∃y,x.ah[j]=y:=⟨_,rfl⟩;obtain⟨i,mn,hyk⟩:=xk _ (hy ▸ List.getElem_mem kL);obtain⟨_,_,hv,Ol,hc1⟩:=xi.2 _ (hy ▸ List.getElem_mem kL);refine eA ?_;obtain⟨gE,js,iT,aS,fi,bq,bY,di⟩:=Rd.at hi kL;have bq:=RR.cH bq;subst bq;rw [hy] at bY
  have Ut:j - 1<x.ah.length:=by omega
  obtain⟨z,hz⟩:∃z,x.ah[j - 1]=z:=⟨_,rfl⟩;refine db ?_;refine WP .r (PV.fm yR aS rfl rfl (by omega))<|(bz) qJ (bE bY (St.cg aP) (by simp))<|(fT) aP fun b4 w4 jS bL aV=>?_;refine(dB) H0 aV fun w5 jC jI bf=>?_;refine dw ?_;refine WC.fQ (t:=71) (v:=.bool false) bf ?_<|?_
  ·
   have R2:=bf.dc;refine WC.fc (m:=37) (E:=dy [(2,fun v _=>v=.bool true),(17,fun v _=>v=.int .i64 (cE z.key y.key))]) bf (bT (⟨fun _ _ _ _ _ _ _ h=>h,⟨fun _ _ _ _ _ _ _ h=>h,trivial⟩⟩)) mixed (by kernel_rfl)<|(Cm) av St.g0<|?_;refine DW.c0 (fun wx hC hF=>B3 mn hyk)<|(tf) (fun Bp=>?_) (fun Bp=>?_)
   ·
    have hj0:1≤j:=by have h0:=Bp;simp at h0;omega
    have ed:cE z.key y.key<0:=by rw [← hy,← hz];exact List.pairwise_iff_getElem.1 xi.1 (j - 1) j Ut kL (by omega)
    obtain⟨uM,Ih,CN,ft,tK,gk,jO,pB⟩:=Rd.at hi Ut;have gk:=RR.cH gk;subst gk;rw [hz] at jO;refine(lF) pw St.g1<|db ?_;refine DP .r (fun _ hC=>PV.Ls yR (j - 1) ft rfl rfl (by omega) (by omega))<|nx ?_;refine DP .r (fun _ hC=>PV.GC av (bE jO (St.cg hC.2) (by simp)) rfl rfl)<|(Cm) av St.g0<|?_;refine DW.c0 (fun wx hC hF=>uR (a:=z.key) (b:=y.key))<|(tf) (fun uG=>?_) (fun uG=>?_)
    ·
     refine bC ?_;refine(ey) ?_;rintro w6 ⟨pE,br⟩ ⟨_,⟨_,_⟩⟩;exact(dx) (tG (aj Bp uG)) (br)
    refine(lF) iq St.g0<|(tf) (fun N6=>?_) (fun N6=>?_)
    ·
     refine(ey) ?_;rintro w6 ⟨pE,br⟩ ⟨_,⟨_,_⟩⟩;exact(dx) (tG (aj Bp<|aj uG N6)) (br)
    refine(lF) aX St.g0<|(tf) (fun Fz=>?_) (fun Fz=>?_)
    ·
     refine(ey) ?_;rintro w6 ⟨pE,br⟩ ⟨_,⟨_,_⟩⟩;exact(dx) (tG (aj Bp<|aj uG<|aj N6 Fz)) (br)
    refine(lF) aX St.g0<|(lF) aX St.g1<|(ey)<|?_;rintro w6 ⟨pE,br⟩ ⟨_,⟨_,_⟩⟩;exact(dx) (tG (aj Bp<|aj uG<|aj N6 Fz)) (br)
   refine bC ?_;refine(lF) iq St.g0<|(tf) (fun N6=>?_) (fun N6=>?_)
   ·
    refine(ey) ?_;rintro w6 ⟨pE,br⟩ ⟨_,_⟩;exact(dx) (tG (aj Bp N6)) (br)
   refine(lF) aX St.g0<|(tf) (fun Fz=>?_) (fun Fz=>?_)
   ·
    refine(ey) ?_;rintro w6 ⟨pE,br⟩ ⟨_,_⟩;exact(dx) (tG (aj Bp<|aj N6 Fz)) (br)
   refine(lF) aX St.g0<|(lF) aX St.g1<|(ey)<|?_;rintro w6 ⟨pE,br⟩ ⟨_,_⟩;exact(dx) (tG (aj Bp<|aj N6 Fz)) (br)
  intro w6 br;refine(bp) (fun oo=>?_) fun oo=>?_
  ·
   exact gM oo
  refine gp ?_;refine fx (j+1) ⟨br.drop,⟨by omega,trivial⟩⟩
 simp at oq
 refine(bN) ez aP.b0<|?_;refine WP .r (PV.func (us:=[]) (vs:=[.pointer (some ⟨b1,0,none⟩)]) rfl rfl)<|(gw) (xG (p:=fun r=>decide (x.ae<r.az)) ad5 (hr.ext (St.cg aP)) (fun wq hq y _ a n c _=>xH ((As.gb aP.g0).ext hq)) (fun y hy=>by have:=xv y hy;simp;omega)) aP fun w4 s4 aV=>?_;refine(cm) ?_;exact⟨by simp,(St.cg aV)⟩
theorem IL(bF:St w M Z w [As.os RR.key 58 2 a n c l]) (h0:l≠[]) (hn:l.length≤1000000):Calls prog 190 #[.slice a n c,.func (.func 134) #[] #[]] w fun e w'=>e=.returned (.tuple #[])∧∃l',l'.Perm l∧(l'.Pairwise fun x y=>¬cE y x<0)∧St w M Z w' [As.os RR.key 58 2 a n c l']:=
 Nw (fun blk cap d w hc hH hb hs=>slices_SortFunc 2 isAgg58 sizeOf58 Key.cells (fun _=>rfl) (fun x v hv=>by(simp [Key.cells] at hv;rcases hv with rfl | rfl <;> rfl)) cE S5 134 #[] blk 0 cap d w VI hc hH hb hs) (fun x y w=>uR) bF h0 hn
set_option maxHeartbeats 400000
set_option maxHeartbeats 1600000 in
theorem oV{goals:List Key}{ar ag:Option Addr}{r cr g eg f:Nat}{s':ES}(hR:ay ab) (bF:St w M Z w []) (hu:Rd RR.gN 4 Z w ar r cr ab) (hi:Rd RR.aH 4 Z w a1 n1 e1 x.ah) (hr:Rd RR.fl 8 Z w a2 n2 e2 x.ak) (hg:Rd RR.key 2 Z w ag g eg goals) (ht:oy prog Z w) (Ai:iC ab x goals=0) (uj:Good ab x.ah ⟨x,[],[],0⟩) (hk:∀k∈goals,gS ab k) (zm:x.ah.length≤1000000)
 (QT:eU ab (valOf ab x.ah) f ⟨x,[],[],0⟩ goals=some s') (qY:s'.bU.length≤1000000):Calls prog 16 #[.slice ar r cr,.agg (x.row a1 n1 e1 a2 n2 e2).toArray,.slice ag g eg] w fun e w'=>∃Qx Qy Qz QA QB QC ag' g' eg' Z',e=.returned (.tuple #[.agg ((s'.base x).row Qx Qy Qz QA QB QC).toArray,.slice ag' g' eg',.int .i64 s'.e])∧cQ w.heap.size Z Z'∧Rd RR.aH 4 Z' w' Qx Qy Qz (s'.base x).ah∧Rd RR.fl 8 Z' w' QA QB QC (s'.base x).ak∧St w M Z' w' [As.os RR.key 58 2 ag' g' eg' s'.list]:=by
 have Wb:=hg.len;have Oh:=hg.le
 have h6:x.ak.length≤1000000:=by have:=uj.len;simp only at this;omega
 refine enter func16 rfl ntmps16 rfl<|?_;have aW:=St.rb bF;have st1:=aW.fr hu;have st2:=st1.fr hi;have aP:=st2.fr hr;have aV:=aP.fr hg;have bf:=aV.fact (B:=As.fz (FZ.LH prog)) ht (fun _ hx=>hx);refine(eD) bf fun b4 w1 jS bL br=>?_;refine(fT) br fun b6 w2 mV eM bP=>?_;refine(bz) aN bP.b1<|?_;have bS:=bP;refine(df) Bc (fO bS.e0 (As.gr bS.g5) (As.gr bS.g4) h6 zm) ?_;rintro _ w3 ⟨f1,f2,f3,f4,f5,f6,Z1,rfl,gP,eG⟩;have bX:=St.lv bS eG gP;have K8:=St.cK eG;have EB:=St.cK eG.p1;have fj:=bS.size;have oN:=gP.le fj;have Lc:=St.fresh bX;have aM:=bX.bV (by omega);have Le:=St.fresh aM.p1;have aT:=aM.p1.bV (by omega);have kZ:=(oN.trans (cQ.fo (F:=fun x=>x∈aL f1) K8) fj).trans (cQ.fo (F:=fun x=>x∈aL f4) EB) fj;refine(dB) gg aT.p3 fun w4 jC jI aY=>?_;refine(bz) aN aY.b0<|(df) YD (oP (As.gr aY.g8) (As.gr aY.g2) (As.gr aY.g1) (As.gr aY.g5)) ?_;rintro _ w5 ⟨rfl,s5⟩;rw [Ai];have bG:=aY.step s5;refine(bp) (fun g20=>?_) fun g20=>?_
 ·
  exact absurd g20 (by simp)
 refine dw ?_;refine WC.dq (m:=6) [] [2,4] [0,1,2,3,4,5] [(5,.map)] bG (ax.k4 M0 M1 M2 M3<|ax.k4 M4 M5 M6 M7<|ax.cons M8<|ax.nil) mixed (by kernel_rfl) (by kernel_rfl) rfl<|(oz) aN SV.g0<|(jD) (fun w6 Q1 BW bB sj=>?_);simp only [CA,NA] at bB;have bd:=bB;refine OX.call adC rfl rfl ((BC (x:=x) bd.e0).mono ?_);rintro _ w7 ⟨d1,d2,d3,rfl,ke⟩;have aU:=St.lr bd ke;refine⟨_,rfl,ke.cX.size,_,rfl,_,_,_,aU,aC.k4<|aC.k4<|aC.k4<|aC.nil,ax.k4 M3 M4 M5 M6<|ax.k4 M7 M8 M9 mF<|ax.cons nP<|ax.nil,?_⟩;refine(oz) aN SV.g0<|(jD) (fun w8 Up FX bM sk=>?_);simp only [CA,NA] at bM;have bO:=bM;refine OX.call Bc rfl rfl ((fO bO.e0 (As.gr bO.g5) (As.gr bO.g4) h6 zm).mono ?_);rintro _ w9 ⟨q1,q2,q3,q4,q5,q6,Z3,rfl,se,my⟩;have bD:=St.lv bO my se;have alW:=St.cK my;have alX:=St.cK my.p1;have eN:=bO.size;have qN:=kZ.trans se eN;have alY:=St.fresh bD;have cx:=bD.bV (by omega);have alZ:=St.fresh cx.p1;have cG:=cx.p1.bV (by omega);have xE:=(qN.trans (cQ.fo (F:=fun x=>x∈aL q1) alW) eN).trans (cQ.fo (F:=fun x=>x∈aL q4) alX) eN;refine⟨_,rfl,my.cX.size,_,rfl,_,_,_,cG,aC.k4<|aC.k4<|aC.k4<|aC.k2<|aC.nil,ax.k4 M5 M6 M7 M8<|ax.k4 M9 mF nP uS<|ax.cons zt<|ax.nil,?_⟩;refine DG.side (s:=.map) rfl rfl rfl rfl rfl rfl (fun wx Zx Rx BX fV=>OX.makeMap Key.val rfl fun b wy nw hb=>⟨nw.ext.size,_,rfl,⟨b,rfl⟩,fV.O2 nw hb⟩)<|?_;rintro _ ⟨b28,rfl⟩;refine(oa) ?_;intro kM C1 cF;simp only [CM,NM,CA,NA,lA.it] at cF;refine WP .r (PV.cD (us:=(EA.cells ⟨q1,q4,none,q2,q3,q5,q6,0,0⟩ d1 b28 ⟨x,[],[],0⟩)) ade rfl rfl rfl)<|(eD) cF fun b30 kN aeQ aeR cM=>?_;refine nx ?_;refine WL.nil (EX.np ?_);have cv:=cM.p5.p5;have cI:=cv.join (C:=As.mx prog 144 ab x ⟨ar,f1,f4,r,cr,f2,f3,f5,f6,d2,d3,d1⟩) ⟨cv.acr,(As.gb cv.g0),⟨[],ba.nil,(As.gm cv.g1)⟩,⟨(As.gr cv.g15),(As.gr cv.g9),(As.gr cv.g8),(As.gf cv.g11)⟩⟩ (fun y h=>h);have ef:=cI.eX RR.key 58 2;refine nj ?_;refine WC.kj (σ:=Nat × ES × EA × (Nat→Prop)) (eI:=fun(j,s1,E1,Z5)=>[(4,.pointer (some ⟨b4,0,none⟩)),(6,.pointer (some ⟨b6,0,none⟩)),(10,.pointer (some ⟨b30,0,none⟩)),(31,.slice ag g eg),(32,.int .i64 (g:Int)),(33,.int .i64 (j:Int))]) (F:=fun(j,s1,E1,Z5)=>[As.blk b30 101 (EA.cells E1 d1 b28 s1),As.map Key.val b28 s1.busy,As.os RR.key 58 2 E1.a3 E1.n3 E1.c3 s1.bU,As.ro RR.aH 4 E1.a1 E1.n1 E1.c1 s1.b.ah,As.ro RR.fl 8 E1.a2 E1.n2 E1.c2 s1.b.ak]) (I:=fun(j,s1,E1,Z5)=>(eU ab (valOf ab x.ah) f s1 (goals.drop j)=some s')∧(Good ab x.ah s1)∧(j≤g)∧(cQ w.heap.size Z Z5)∧True) (μ:=fun(j,s1,E1,Z5)=>g - j) (Zf:=fun(j,s1,E1,Z5)=>Z5) (0,⟨x,[],[],0⟩,⟨q1,q4,none,q2,q3,q5,q6,0,0⟩,_) (ef.p4.p5.p2.p5.p5) Sub.t (⟨QT,uj,Nat.zero_le _,xE,trivial⟩)<|?_;rintro⟨j,s1,E1,Z5⟩ qL dh ⟨dR,qX,hj,nV,_⟩;simp only [CA,NA] at dh dR qX hj nV ⊢;refine(bp) (fun uW=>?_) fun uW=>?_
 ·
  simp at uW
  have kL:j<goals.length:=by omega
  rw [List.drop_eq_getElem_cons kL] at dR;simp only [eU] at dR;obtain⟨t,RN,rR⟩:=Option.bind_eq_some_iff.1 dR;have hkj:=hk goals[j] (List.getElem_mem kL);have Jr:=(dr (val:=valOf ab x.ah) hR f).1 _ _ _ RN qX hkj;have hgc:=uh hR rR Jr.1 (fun k nQ=>hk k (List.mem_of_mem_drop nQ));refine eA ?_;obtain⟨gE,js,iT,aS,fi,bq,bY,di⟩:=Rd.at (As.gr dh.g12) kL;have bq:=RR.cH bq;subst bq;have eC:=dh.fg di bY;refine nx ?_;refine WP .r (PV.fm fL aS rfl rfl (by omega))<|(bz) av (As.nh eC.g0)<|(fT) eC fun Cs uN ZZ Z0 cT=>?_;refine(dB) jH cT fun yX r7 mR dO=>?_;refine(bz) av dO.b0<|?_;have cU:=dO.p4.p4.p7.p5;refine(df) YF (ZH (D:=⟨ar,f1,f4,r,cr,f2,f3,f5,f6,d2,d3,d1⟩) hR zm f _ _ _ _ _ _ _ cU.e4 (As.gr cU.g6) (As.gr cU.g7) qX hkj RN (by have:=hgc.2.bU;omega)) ?_;rintro _ uO ⟨E2,Z6,rfl,IM,hi6,hr6,B4⟩;have dz:=St.lv cU B4 IM;have B5:=nV.trans IM cU.size;have dt:=dz.fr (hi6);have eK:=dt.fr (hr6);have dD:=eK.p8.drop;have ew:=dD.p8.drop;refine gp ?_;refine fx (j+1,t,E2,Z6) ⟨ew.p6.drop.p6.drop.p1.p5.p5.p4,⟨rR,Jr.1,by omega,B5,trivial⟩⟩
 simp at uW
 rw [List.drop_eq_nil_of_le (by omega)] at dR;simp only [eU,Option.some.injEq] at dR;subst dR;refine(bN) Ea dh.b0<|(bp) (fun yZ=>?_) fun yZ=>?_
 ·
  simp at yZ
  have eC:=dh.eX RR.key 58 2;refine nx ?_;refine WC.dq (m:=7) [] [5] [0,5,1,2,3,4,6] [] eC (ax.k4 M0 M1 M2 M3<|ax.k4 M4 M5 M6 M7<|ax.k4 M8 M9 mF uS<|ax.k4 zt GL UH M16<|ax.nil) mixed (by kernel_rfl) (by kernel_rfl) rfl<|(oz) aN SV.g8<|?_;refine DG.cs rfl rfl rfl rfl rfl (fun uN R7 CY cT qO=>?_);simp only [CA,NA] at cT;refine OX.qx gg (As.gb cT.g11) rfl rfl rfl rfl rfl fun yX Ej _ td=>?_;have dO:=cT.pJ.Hc Ej td;refine⟨Ej.size,rfl,_,_,_,dO,aC.k4<|aC.k4<|aC.k4<|aC.k4<|aC.cons<|aC.nil,ax.k4 M1 M2 M3 M4<|ax.k4 M5 M6 M7 M8<|ax.k4 M9 mF nP uS<|ax.k4 zt GL UH M16<|ax.nil,?_⟩
  iterate 3 refine DG.a ?_
  refine(wS) Ea SV.g1<|(oa) ?_;intro uO Ms cU;simp only [CM,NM,CA,NA,lA.it] at cU;refine nx ?_;refine WL.nil (EX.np ?_);refine dw ?_;refine EX.je rfl (RS.cell aN rfl cU.b0 rfl<|RS.tmp rfl<|RS.tmp rfl<|RS.nil) rfl<|?_;have hb:s1.base x=x:=if_neg yZ;have hl:s1.list=[]:=if_neg yZ;exact⟨f1,f2,f3,f4,f5,f6,none,0,0,_,by rw [hb],nV,by rw [hb];exact(As.gr cU.g11),by rw [hb];exact(As.gr cU.g10),by rw [hl];exact(St.wk cU.p1.k1)⟩
 simp at yZ
 refine dw ?_;have Cv:=((As.gs dh.g2)).len;have aaa:=St.fresh dh.p2;have eC:=dh.p2.bV (by omega);have hZr:=nV.trans (cQ.fo (F:=fun x=>x∈aL E1.a3) aaa) (Nat.le_refl _);refine WC.dq (m:=9) [] [8] [4,5,6,7,8,0,1,2,3] [] eC (ax.k4 M0 M1 M2 M3<|ax.k4 M4 M5 M6 M7<|ax.k4 M8 M9 mF nP<|ax.k4 uS zt GL UH<|ax.nil) mixed (by kernel_rfl) (by kernel_rfl) rfl<|?_
 iterate 3 refine DG.a ?_
 refine(wS) fE SV.g1<|(jD) (fun uN R8x al1 cT afH=>?_);simp only [CA,NA] at cT;have dO:=cT;refine OX.call adE rfl rfl ((vP dO.e0 (As.gr dO.g0) (fun _ h _=>h) qY).mono ?_);rintro _ yX ⟨o1,o2,o3,rfl,B6⟩;have cU:=St.lr dO B6;refine⟨_,rfl,B6.cX.size,_,rfl,_,_,_,cU,aC.k4<|aC.k4<|aC.k4<|aC.k4<|aC.cons<|aC.nil,ax.k4 M1 M2 M3 M4<|ax.k4 M5 M6 M7 M8<|ax.k4 M9 mF nP uS<|ax.k4 zt GL UH M16<|ax.nil,?_⟩
 iterate 3 refine DG.a ?_
 refine(JN) aN SV.g1<|(oa)<|?_;intro uO Ix dz;simp only [CM,NM,CA,NA,lA.it] at dz;refine(dB) gg dz.pJ fun yY RZ wX dt=>?_;refine db ?_;refine WL.nil (EX.np ?_);refine db ?_;refine EX.je rfl (RS.cell aN rfl dt.b0 rfl<|RS.tmp rfl<|RS.tmp rfl<|RS.nil) rfl<|?_;have hb:s1.base x=s1.b:=if_pos yZ;have hl:s1.list=iv s1.bU:=if_pos yZ;exact⟨E1.a1,E1.n1,E1.c1,E1.a2,E1.n2,E1.c2,o1,o2,o3,_,by rw [hb,yZ];rfl,hZr,by rw [hb];exact(As.gr dt.g5),by rw [hb];exact(As.gr dt.g6),by rw [hl];exact(St.wk dt.p1.k1)⟩
set_option maxHeartbeats 400000
theorem B7{x:Rec}{aw:Option Addr}{nw cw bw:Nat}(hb:cJ w bw 41 [.slice aw nw cw]) (hl:Rd RR.key 2 Z w aw nw cw l):CR prog 98 #[.agg (x.row a n c).toArray,.pointer (some ⟨bw,0,none⟩)] w (.bool (decide (x.key∈l))):=by
 refine enter func98 rfl ntmps98 rfl<|?_;have aW:=St.s0 w;refine(eD) aW fun b2 w1 lB eZ st1=>?_;refine eA ?_;refine WP .r (PV.pM fE (cJ.range (hb.ext (St.cg st1))) rfl rfl)<|(kl) av st1.b0<|(gw) (pF (k:=x.key) (hl.ext (St.cg st1))) st1 fun w2 s2 st2=>?_;refine(cm) ?_;exact⟨rfl,(St.cg st2)⟩
set_option maxHeartbeats 400000
theorem we{l:List (List Key)}{B:Nat→Prop}(hl:Ksl A B w a n l):CR prog 19 #[.slice a n c] w (.bool (decide l.flatten.Nodup)):=by
 have hlen:=LR.len hl;have hle:=LR.le hl;refine enter func19 rfl ntmps19 rfl<|?_;have aW:=St.s0 w;refine gp ?_;refine WL.mm Key.val aW fun b8 w1 Bn hm8 st1=>?_;refine bC ?_;refine WC.bQ (σ:=Nat × (List (Key × Value))) (eI:=fun(i,ml)=>[(3,.map (some b8)),(9,.slice a n c),(10,.int .i64 (n:Int)),(11,.int .i64 (i:Int))]) (F:=fun(i,ml)=>[As.map Key.val b8 ml]) (I:=fun(i,ml)=>(i≤n)∧(U6 ml (l.take i).flatten)∧((l.take i).flatten.Nodup)∧True) (μ:=fun(i,ml)=>n - i) (0,[]) (st1) Sub.t (⟨by omega,U6.nil,List.nodup_nil,trivial⟩)<|?_;rintro⟨i,ml⟩ w2 st2 ⟨hi,hc,tV,_⟩;simp only [CA,NA] at st2 hi hc tV ⊢;refine(bp) (fun g12=>?_) fun g12=>?_
 ·
  simp at g12
  have cV:i<l.length:=by omega
  obtain⟨Ul,Um,Un,mg,_,⟨q1,q2,q3,rfl,hks⟩,oT,_⟩:=LR.at_ hl (aq cV);have Dn:=hks.len;have nS:=hks.le;refine jo ?_;refine WP .r (PV.fm adi mg rfl rfl (by omega))<|WP .r (PV.pM fE (bE oT (St.cg st2) (by simp)) rfl rfl)<|qT ?_;refine WC.bQ (σ:=Nat × (List (Key × Value))) (eI:=fun(j,m2)=>[(3,.map (some b8)),(9,.slice a n c),(10,.int .i64 (n:Int)),(11,.int .i64 (i:Int)),(15,.slice q1 q2 q3),(16,.int .i64 (q2:Int)),(17,.int .i64 (j:Int))]) (F:=fun(j,m2)=>[As.map Key.val b8 m2]) (I:=fun(j,m2)=>(j≤q2)∧(U6 m2 ((l.take i).flatten++l[i].take j))∧(((l.take i).flatten++l[i].take j).Nodup)∧True) (μ:=fun(j,m2)=>q2 - j) (0,ml) (st2) Sub.t (⟨by omega,by simpa using hc,by simpa using tV,trivial⟩)<|?_;rintro⟨j,m2⟩ w3 aP ⟨hj,RY,pf,_⟩;simp only [CA,NA] at aP hj RY pf ⊢;refine(bp) (fun g18=>?_) fun g18=>?_
  ·
   simp at g18
   have kL:j<l[i].length:=by omega
   obtain⟨b_y,o_y,r_y,BQ,_,rfl,xF,_⟩:=hks.at_ (aq kL);have xF:=bE xF (St.cg aP) (by simp)
   have jT:(ck m2 l[i][j]).getD (.bool false)=.bool (decide (l[i][j]∈(l.take i).flatten++l[i].take j)):=by rw [RY.get];split <;> rename_i h <;> simp [h]
   refine jo ?_;refine WP .r (PV.fm fL BQ rfl rfl (by omega))<|(bz) av xF<|(fT) aP fun b7 w4 tJ nT aV=>?_;refine(dB) jH aV fun w5 jC jI bf=>?_;refine(bz) av bf.b0<|?_;refine WP .r (PV.mA eF ku Fq (As.gm bf.g1) (jT) rfl rfl)<|(bp) (fun g23=>?_) fun g23=>?_
   ·
    have al3:=SO cV kL (of_decide_eq_true g23);refine bC ?_;refine(cm) ?_;exact⟨by rw [decide_eq_false al3],(St.cg bf)⟩
   have g23:=of_decide_eq_false g23;refine(bz) av bf.b0<|?_;refine WL.go rfl (OX.put eF ku (As.gm bf.g1) rfl rfl rfl fun w6 FD BE=>?_);have br:=bf.p1.mH FD BE;refine gp ?_;refine fx (j+1,_) ⟨br.p1.drop,⟨by omega,by rw [HJ cV kL];exact RY.put _,by rw [HJ cV kL];exact AD.2 ⟨pf,g23⟩,trivial⟩⟩
  simp at g18
  have hje:l[i].take j=l[i]:=List.take_of_length_le (by omega);have Ai:=RY;rw [hje] at Ai;have kh:=pf;rw [hje] at kh;refine nj ?_;refine fx (i+1,m2) ⟨aP,⟨by omega,by rw [DU cV];exact Ai,by rw [DU cV];exact kh,trivial⟩⟩
 simp at g12
 have Lf:l.take i=l:=List.take_of_length_le (by omega);rw [Lf] at tV;refine(cm) ?_;exact⟨by rw [decide_eq_true tV],(St.cg st2)⟩
set_option maxHeartbeats 400000
theorem Uu(hR:ay ab) (hS:∀k,(valOf ab x.ah k).size≤1000):∀i:Nat,i<ab.length→V7 ab x D (aQ ab (i:Int)):=by
 intro i;have pY:=hR.len;have low:∀n:Nat,n≤15→V7 ab x D (eL (n:Int)):=fun n hn w M Z ml al bF hf hm _=>yE bF hf hm (dj (by omega))
 induction i using Nat.strongRecOn with
 | _ i IH=>
  intro hi w M Z ml al bF hf hm tC
  have mn:i≤99:=by omega
  have al4:nU ab i al:=by
   have h:=tC (dI hi mn);rw [dK hi mn,Int.toNat_natCast] at h;exact h
  refine K9 bF hf hm hR hi hS al4 (fun hr w M Z ml al bF hf hm tC=>?_) (fun hr a ha=>?_)
  ·
   rw [dK hi mn,Int.toNat_natCast] at tC;refine FY bF hf hm hR hS hi hr tC fun j hj a ha hc=>?_;have ui:=ha.cyc hR
   rcases ha with⟨n,hn,rfl⟩ | ⟨m,hm,rfl,h1,h2,h3,h4⟩
   ·
    exact low n hn
   have hrm:aI ab m=false:=by
    rw [hc,fX hm (by omega)] at ui
    cases h:aI ab m
    ·
     rfl
    rw [h] at ui;simp at ui
   have Jo:cz ab j≤i:=Nat.le_trans (nt hR hj) (iL ab i)
   have hmj:m<i:=by
    have:=h4 hrm (lG hi hr hj).2
    omega
   exact IH m hmj hm
  rcases ha with⟨n,hn,rfl⟩ | ⟨m,hm,rfl,_,h2,_⟩
  ·
   exact low n hn
  exact IH m (h2 hr) hm
theorem F2(hR:ay ab) (hS:∀k,(valOf ab x.ah k).size≤1000) {k:Key}(hk:gS ab k):V7 ab x D k:=by
 cases hk with
 | cell h=>exact fun w M Z ml al bF hf hm _=>yE bF hf hm (dj h)
 | gN h _=>exact Uu hR hS _ h
end Go.Rc

