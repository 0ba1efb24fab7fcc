/- Walks over the program, part WZu. Conditions: as each theorem says. -/
import Derived.Test.YtpoiojafnnaccaaGreatDoorUFacts
import Derived.Test.YtpoiojafnnaccaaGreatDoorUWZr
import Derived.Test.YtpoiojafnnaccaaGreatDoorUBh
import Derived.Test.YtpoiojafnnaccaaGreatDoorUWUa
import Derived.Test.YtpoiojafnnaccaaGreatDoorUWZb
import Derived.Test.YtpoiojafnnaccaaGreatDoorUWZl
set_option linter.all false
namespace Go.Rc
open Go Go.Proofs Go.Proofs.Tryz
variable {a a1 a2:Option Addr}{n c n1 e1 n2 e2:Nat}{w:World}{Z M A B:Nat→Prop}{bU:List Key}
set_option maxHeartbeats 400000
set_option maxHeartbeats 1600000 in
theorem Jj{xs:List Rec}{p:Rec→Bool}{f:FuncId}{cap:Value}(zk:CF prog f) (bF:St w (rh [As.os RR.fl 60 8 a n c xs]) Z w [As.os RR.fl 60 8 a n c xs]) (h6:xs.length≤1000000) (hp:∀w1,bj (aL a) w w1→∀(x:Rec) a n c,Calls prog f #[.agg (x.row a n c).toArray,cap] w1 fun e w'=>e=.returned (.bool (p x))∧bj [] w1 w'):Calls prog 96 #[.slice a n c,.func (.func f) #[] #[cap]] w fun e w'=>∃n' c',e=.returned (.slice a n' c')∧St w (rh [As.os RR.fl 60 8 a n c xs]) Z w' [As.os RR.fl 60 8 a n' c' (xs.filter fun x=>!p x)]:=by
 have hn:=(As.gs bF.g0).len;refine enter func96 rfl ntmps96 rfl<|?_;have aW:=bF;refine(df) Qj (oU (p:=p) zk (Ow.rd (As.gs aW.g0) (by omega)) (fun w1 h1 y hy a n c _=>hp w1 ((aW.cX.acV (fun x ⟨A,hA,hx⟩=>.inl (by simp at hA;subst hA;exact hx))).trans (h1.mono (by simp))) y a n c)) ?_;rintro _ w1 ⟨j,rfl,hj,s1⟩;have st1:=aW.step s1;refine(bp) (fun g12=>?_) fun g12=>?_
 ·
  have gh:∀x∈xs,p x=false:=by
   rcases hj with⟨i,y,_,_,_,h⟩ | ⟨h,_⟩
   ·
    exfalso;simp at g12;omega
   exact h
  have hfa:(xs.filter fun x=>!p x)=xs:=List.filter_eq_self.2 fun x hx=>by simp [gh x hx]
  refine(cm) ?_;exact⟨n,c,rfl,by rw [hfa];exact st1⟩
 obtain⟨i0,x0,Mu,anS,anT,rfl⟩:∃(i0:Nat) (x0:Rec),xs[i0]?=some x0∧p x0=true∧(∀(q:Nat) y,q<i0→xs[q]?=some y→p y=false)∧j=i0:=by
  rcases hj with⟨i,y,h1,h2,h3,h4⟩ | ⟨_,h⟩
  ·
   exact⟨i,y,h1,h2,h3,h4⟩
  exfalso;simp at g12;omega
 have V9:=(List.getElem?_eq_some_iff.1 Mu).1;obtain⟨b_s,Ry⟩:=Ow.addr (As.gs st1.g0) Mu
 have hnc:n≤c:=by obtain⟨l,_,_,h⟩:=Ow.blk (As.gs st1.g0) Ry;exact h
 refine qT ?_;refine WC.bQ (σ:=Nat × Nat × (List Rec)) (eI:=fun(i,j,ys)=>[(0,.slice a n c),(1,.func (.func f) #[] #[cap]),(5,.int .i64 (i:Int)),(6,.int .i64 (j:Int))]) (F:=fun(i,j,ys)=>[As.os RR.fl 60 8 a n c ys]) (I:=fun(i,j,ys)=>(Dl p xs ys i j)∧True) (μ:=fun(i,j,ys)=>n - j) (i0,i0+1,xs) (st1) Sub.t (⟨Dl.start anT Mu anS,trivial⟩)<|?_;rintro⟨i,j,ys⟩ w2 st2 ⟨hD,_⟩;simp only [CA,NA] at st2 hD ⊢;have MB:=hD.len;have hij:=hD.ij;have mu:=hD.jl;refine(bp) (fun g19=>?_) fun g19=>?_
 ·
  simp at g19
  have kL:j<xs.length:=by omega
  obtain⟨x,hxj⟩:∃x,xs[j]?=some x:=⟨_,aq kL⟩;have hyj:ys[j]?=some x:=(hD.suf j (Nat.le_refl _)).trans hxj;refine eA ?_;obtain⟨gE,iT,aS,fi,bq,bY⟩:=Ow.at (As.gs st2.g0) (by omega) hyj;obtain⟨q1,q2,q3,rfl,pA,oM⟩:=bq;have aP:=st2.fr (pA);refine dw ?_;refine WP .r (PV.fm iF (i:=j) aS rfl rfl (by omega))<|(bz) dm bY<|(fT) aP fun b7 w3 tJ nT aV=>?_;refine(dB) gC aV fun w4 jC jI bf=>?_;refine(bz) dm bf.b0<|?_;refine WL.go rfl (OX.qA zk rfl rfl rfl ((Calls.cap (hp _ (bf.cX.acV (fun x ⟨A,hA,hx⟩=>.inl (by simp at hA;subst hA;exact hx))) x q1 q2 q3)).mono ?_));rintro _ w5 ⟨rfl,s5⟩;refine⟨_,rfl,?_⟩;have br:=bf.step s5;refine(bp) (fun oq=>?_) fun oq=>?_
  ·
   have hpj:p x=false:=by simpa using oq
   refine(bz) dm br.b0<|?_;refine WP .r (PV.fm iF (i:=i) Ry rfl rfl (by omega))<|?_;refine WL.go rfl (OX.W2 (i:=i) gC (As.gs br.g2) Ry (by omega) rfl rfl rfl (by simp [Rec.row,Value.oneCell']) x ⟨q1,q2,q3,rfl,(As.gr br.g1),oM⟩ fun w6 s9 h9=>?_);have bP:=br.p2.iY s9 h9 (fun x h=>.inl h);refine bC ?_;refine db ?_;refine fx (i+1,j+1,_) ⟨bP.p1.drop.p1.drop,⟨hD.ly hxj hpj,trivial⟩⟩
  have hpj:p x=true:=by simpa using oq
  refine kJ ?_;refine fx (i,j+1,ys) ⟨br.drop.drop,⟨hD.skip hxj hpj,trivial⟩⟩
 simp at g19
 have Jl:=hD.done (by omega)
 have yo:i≤n:=by omega
 refine qC ?_;refine WP .r (PV.zN iF (i:=i) (Ow.rd (As.gs st2.g0) (by omega)) rfl rfl yo)<|?_;refine WL.go rfl (OX.ai3 (i:=i) Qa adw rfl rfl (by decide) (by decide) (As.gs st2.g0) Ry yo rfl fun w3 sc hc=>?_);have aP:=st2.iY sc hc (fun x h=>.inl h);have aV:=aP.Cl (B:=As.os RR.fl 60 8 a i c (xs.filter fun x=>!p x)) (by rw [Jl]);refine jo ?_;refine WP .r ((PV.S6 iF (i:=i) Ry (by omega) rfl rfl))<|(cm) ?_;exact⟨i,c,rfl,aV⟩
theorem tR{l:List Rec}{aw:Option Addr}{nw cw:Nat}(bF:St w M Z w []) (hr:Rd RR.fl 8 Z w a n c l) (hl:Rd RR.key 2 Z w aw nw cw bU) (h6:l.length≤1000000):Calls prog 51 #[.slice a n c,.slice aw nw cw] w fun e w'=>∃a' n' c',e=.returned (.slice a' n' c')∧St w M Z w' [As.os RR.fl 60 8 a' n' c' (iO l bU)]:=by
 refine enter func51 rfl ntmps51 rfl<|?_;have aW:=bF;have st1:=aW.fr hr;have st2:=st1.fr hl;refine(eD) st2 fun b3 w1 ic dA aP=>?_;refine jo ?_;have aV:=aP;refine(df) adQ (tP aV.e0 (As.gr aV.g2) h6) ?_;rintro _ w2 ⟨f1,f2,f3,rfl,tj⟩;have bf:=St.lr aV tj;refine WP .r (PV.func (us:=[]) (vs:=[.pointer (some ⟨b3,0,none⟩)]) rfl rfl)<|?_;have br:=bf.p1.p1;have hap:=br.XH;have hzf:=br.pI (As.os RR.fl 60 8 f1 f2 f3 l) (by simp);have bP:=br;refine(df) adP (Jj (p:=fun x=>decide (x.key∈bU)) ake bP.e1 h6 (fun w1 h1 x a n c=>B7 ((As.gb bP.g1).cX h1 (fun h=>hap _ h rfl)) (Rd.st h1.size (fun x hx ed=>h1.block x ed (fun h=>hzf x h hx)) (As.gr bP.g2)))) ?_;rintro _ w3 ⟨d1,d2,rfl,eG⟩;have bS:=St.lr bP eG;refine(cm) ?_;exact⟨f1,d1,d2,rfl,bS.k1⟩
theorem Jk{x y:Rec}(h1:Rd RR.key 2 A w a1 n1 e1 x.reads) (h2:Rd RR.key 2 B w a2 n2 e2 y.reads):CR prog 52 #[.agg (x.row a1 n1 e1).toArray,.agg (y.row a2 n2 e2).toArray] w (.bool (decide (strip x=strip y))):=by
 refine enter func52 rfl ntmps52 rfl<|?_;have aW:=St.s0 w;refine(eD) aW fun b2 w1 lB eZ st1=>?_;refine(eD) st1 fun b3 w2 ic dA st2=>?_;refine dF ?_;refine WC.mw (t:=4) (v:=.bool (decide (strip x=strip y))) st2 ?_<|?_
 ·
  refine(kl) av st2.b1<|(kl) av st2.b0<|?_;refine WP .r (PV.G3 gB (p:=x.key) (q:=y.key) rfl rfl)<|(dT) (fun g10=>?_) (fun g10=>?_)
  ·
   refine(bN) iq st2.b1<|(bN) iq st2.b0<|(dT) (fun g17=>?_) (fun g17=>?_)
   ·
    refine(bN) fE st2.b1<|(bN) fE st2.b0<|(gw) (tQ (h1.ext (St.cg st2)) (h2.ext (St.cg st2))) st2 fun w3 s3 aP=>?_;refine(dT) (fun g24=>?_) (fun g24=>?_)
    ·
     refine(bN) aX aP.b1<|(bN) aX aP.b0<|(dT) (fun px=>?_) (fun px=>?_)
     ·
      refine(bN) aX aP.b1<|(bN) aX aP.b0<|?_;exact(iw) (by rw [pr];first | rfl | (simp only [g10,g17,g24,px];done) | (simp only [g10,g17,g24,px];rfl) | (simp [g10,g17,g24,px];done) | (simp_all;done)) (aP)
     exact(iw) (by rw [pr];first | rfl | (simp only [g10,g17,g24,px];done) | (simp only [g10,g17,g24,px];rfl) | (simp [g10,g17,g24,px];done) | (simp_all;done)) (aP)
    refine bC ?_;exact(iw) (by rw [pr];first | rfl | (simp only [g10,g17,g24];done) | (simp only [g10,g17,g24];rfl) | (simp [g10,g17,g24];done) | (simp_all;done)) (aP)
   refine bC ?_;exact(iw) (by rw [pr];first | rfl | (simp only [g10,g17];done) | (simp only [g10,g17];rfl) | (simp [g10,g17];done) | (simp_all;done)) (st2)
  refine bC ?_;refine bC ?_;exact(iw) (by rw [pr];first | rfl | (simp only [g10];done) | (simp only [g10];rfl) | (simp [g10];done) | (simp_all;done)) (st2)
 intro w3 aP;refine(cm) ?_;exact⟨rfl,(St.cg aP)⟩
theorem Dg{l1 l2:List Rec}{b:Option Addr}{m d:Nat}(h1:Rd RR.fl 8 A w a n c l1) (h2:Rd RR.fl 8 B w b m d l2):CR prog 50 #[.slice a n c,.slice b m d,.func (.func 52) #[] #[]] w (.bool (decide (l1.map strip=l2.map strip))):=by
 have jM:=SR.len h1;have sa:=SR.le h1;have pP:=SR.len h2;have fU:=SR.le h2;refine enter func50 rfl ntmps50 rfl<|?_;have aW:=St.s0 w;refine bC ?_;refine(bp) (fun g14=>?_) fun g14=>?_
 ·
  simp at g14
  refine(cm) ?_;exact⟨by rw [decide_eq_false (fun e:l1.map strip=l2.map strip=>g14 (by have h:=congrArg List.length e;rw [List.length_map,List.length_map] at h;rw [jM,pP,h]))],(St.cg aW)⟩
 simp at g14
 refine qT ?_;refine WC.bQ (σ:=Nat) (eI:=fun i=>[(1,.slice b m d),(2,.func (.func 52) #[] #[]),(15,.slice a n c),(16,.int .i64 (n:Int)),(17,.int .i64 (i:Int))]) (F:=fun i=>[]) (I:=fun i=>(i≤n)∧((l1.take i).map strip=(l2.take i).map strip)∧True) (μ:=fun i=>n - i) (0) (aW) Sub.t (⟨by omega,rfl,trivial⟩)<|?_;rintro i w1 st1 ⟨hi,gh,_⟩;simp only [CA,NA] at st1 hi gh ⊢;refine(bp) (fun g18=>?_) fun g18=>?_
 ·
  simp at g18
  have cV:i<l1.length:=by omega
  have yo:i<l2.length:=by omega
  refine eA ?_;obtain⟨gE,js,iT,aS,fi,bq,bY,di⟩:=SR.at h1 (aq cV);obtain⟨q1,q2,q3,rfl,pA,oM⟩:=bq;refine db ?_;refine WP .r (PV.fm iF aS rfl rfl (by omega))<|(bz) dm (bE bY (St.cg st1) (by simp))<|(fT) st1 fun b8 w2 Bn jm st2=>?_;refine(dB) gC st2 fun w3 jC jI aP=>?_;refine dw ?_;obtain⟨uM,Ih,CN,ft,tK,gk,jO,pB⟩:=SR.at h2 (aq yo);obtain⟨q4,q5,q6,rfl,vm,hk5⟩:=gk;refine dw ?_;refine WP .r (PV.fm iF ft rfl rfl (by omega))<|(bz) dm (bE jO (St.cg aP) (by simp))<|(fT) aP fun b9 w4 QE Bw aV=>?_;refine(dB) gC aV fun w5 r7 mR bf=>?_;refine(bz) dm bf.b1<|(bz) dm bf.b0<|?_;refine WL.go rfl (OX.qA ajK rfl rfl rfl ((Calls.ai2 (Jk (x:=l1[i]) (y:=l2[i]) (pA.ext (St.cg bf)) (vm.ext (St.cg bf)))).mono ?_));rintro _ w6 ⟨rfl,s6⟩;refine⟨_,rfl,?_⟩;have br:=bf.step s6;refine(bp) (fun l9=>?_) fun l9=>?_
  ·
   have kh:¬strip l1[i]=strip l2[i]:=by simpa using l9
   refine(cm) ?_;exact⟨by rw [decide_eq_false (fun e:l1.map strip=l2.map strip=>kh (by have h:=congrArg (fun l:List Rec=>l[i]?) e;simp only [List.getElem?_map,aq cV,aq yo,Option.map_some,Option.some.injEq] at h;exact h))],(St.cg br)⟩
  have heq:strip l1[i]=strip l2[i]:=by simpa using l9
  refine gp ?_;refine fx (i+1) ⟨br.drop.drop,⟨by omega,Kk gh cV yo heq,trivial⟩⟩
 simp at g18
 have cy:l1.map strip=l2.map strip:=by
  have h:=gh;rw [List.take_of_length_le (by omega),List.take_of_length_le (by omega)] at h;exact h
 refine(cm) ?_;exact⟨by rw [decide_eq_true cy],(St.cg st1)⟩
set_option maxHeartbeats 1600000 in
theorem k9{ab:List aJ}{x:dV}{ar:Option Addr}{r cr:Nat}{y:dV}{c1 c2 ag:Option Addr}{p1 g1 p2 g2 ng eg:Nat}(bF:St w M Z w []) (ht:oy prog Z w) (hu:Rd RR.gN 4 Z w ar r cr ab) (oW:Rd RR.aH 4 Z w a1 n1 e1 x.ah) (hr:Rd RR.fl 8 Z w a2 n2 e2 x.ak) (hR:ay ab) (hx:kT ab x) (hS:∀k,(valOf ab x.ah k).size≤1000) (hyr:Rd RR.fl 8 Z w c2 p2 g2 y.ak) (hy6:y.ak.length≤1000000) (hg:Rd RR.key 2 Z w ag ng eg bU):Calls prog 18 #[.slice ar r cr,.agg (x.row a1 n1 e1 a2 n2 e2).toArray,.agg (y.row c1 p1 g1 c2 p2 g2).toArray,.slice ag ng eg] w fun e w'=>e=.returned (.bool (lN ab x y bU))∧St w M Z w' []:=by
 have Wb:=hg.len;have Oh:=hg.le
 have hx6:x.ak.length≤1000000:=by have:=hx.2.2.2.2.2.2.2.1;omega
 refine enter func18 rfl ntmps18 rfl<|?_;have aW:=bF;have st1:=aW.fr hu;have st2:=st1.fr oW;have aP:=st2.fr hr;have aV:=aP.fr hyr;have bf:=aV.fr hg;have br:=bf.fact (B:=As.fz (FZ.LH prog)) ht (fun _ hx=>hx);refine(eD) br fun b5 w1 nH gI bP=>?_;refine(eD) bP fun b6 w2 mV eM bS=>?_;refine(bz) aN bS.b1<|(gw) (su (As.gr bS.g7) (As.gr bS.g6) (As.gr bS.g5) hR hx) bS fun w3 s3 bX=>?_;refine(bp) (fun g15=>?_) fun g15=>?_
 ·
  exact gM g15
 refine(bz) aN bX.b1<|?_;have aM:=bX;refine(df) adF (GB (x:=x) aM.e0 (As.gf aM.g2) (As.gr aM.g7) (As.gr aM.g6) (As.gr aM.g5) hx.2.2.2.2.2.2.2.1 (Nat.le_trans hx.2.2.2.2.1 (by decide)) hx.2.2.2.2.2.2.1) ?_;rintro _ w4 ⟨D,S,wb,lf,mD,Z1,rfl,uX,gP,hfv,hdi,fN⟩;have aT:=St.lv aM fN gP;have aY:=aT.fact (B:=As.fz (S.FV prog ab x)) hfv (fun _ hx=>hx);have bG:=aY.fr (hdi);refine bC ?_;refine WC.bQ (σ:=Nat × (List (Key × Value))) (eI:=fun(q,ml)=>[(3,.slice ag ng eg),(5,.pointer (some ⟨b5,0,none⟩)),(6,.pointer (some ⟨b6,0,none⟩)),(9,.pointer (some ⟨wb,0,none⟩)),(19,.slice ag ng eg),(20,.int .i64 (ng:Int)),(21,.int .i64 (q:Int))]) (F:=fun(q,ml)=>[As.map Key.val S.m ml]) (I:=fun(q,ml)=>(q≤ng)∧(ba ab x.ah ml)∧((bU.take q).all (fun k=>decide ((l6 (valOf ab x.ah) x k).1≠0))=true)∧True) (μ:=fun(q,ml)=>ng - q) (0,[]) (bG.p2) Sub.t (⟨Nat.zero_le _,ba.nil,rfl,trivial⟩)<|?_;rintro⟨q,ml⟩ w5 bB ⟨hq,hm,cy,_⟩;simp only [CA,NA] at bB hq hm cy ⊢;refine(bp) (fun g22=>?_) fun g22=>?_
 ·
  simp at g22
  have zs:q<bU.length:=by omega
  refine eA ?_;obtain⟨gE,js,iT,aS,fi,bq,bY,di⟩:=Rd.at (As.gr bB.g10) zs;have bq:=RR.cH bq;subst bq;have bd:=bB.fg di bY;refine nx ?_;refine WP .r (PV.fm fL aS rfl rfl (by omega))<|(bz) av (As.nh bd.g0)<|(fT) bd fun tS w6 QG T3 aU=>?_;refine(dB) jH aU fun w7 jC jI bM=>?_;refine(bz) av bM.b0<|?_;have bO:=bM.p8.p8.p8.p8.p6;refine(df) adG (Ji (x0:=x) (k:=bU[q]) bO.e5 (As.gf bO.g8) (As.gr bO.g7) hm uX hR hS hx.kr hx.2.2.2.2.2.2.2.1 hx.r4) ?_;rintro _ w8 ⟨fq,rfl,jg,_,kF⟩;have bD:=St.lr bO kF;refine WP .r (PV.wT (fs:=[_,_]) (f:=0) (off:=0) (T:=111) underlying111 rfl rfl (show ∀w,(isAgg 3).run _ w=.ok false w from isAgg3) rfl rfl)<|(bp) (fun oq=>?_) fun oq=>?_
  ·
   have hw0:(l6 (valOf ab x.ah) x bU[q]).1=0:=by simpa using oq
   have j9:bU.all (fun k=>decide ((l6 (valOf ab x.ah) x k).1≠0))=false:=List.all_eq_false.2 ⟨bU[q],List.getElem_mem zs,by simp [hw0]⟩;refine(cm) ?_;exact⟨by unfold lN;rw [j9];rfl,(bD.k0).shrink gP.up⟩
  have hwn:(l6 (valOf ab x.ah) x bU[q]).1≠0:=by simpa using oq
  refine gp ?_;refine fx (q+1,fq) ⟨bD.p5.drop.p5.drop.p6.p6.p2,⟨by omega,jg,by rw [List.take_succ_eq_append_getElem zs,List.all_append,cy];simp [hwn],trivial⟩⟩
 simp at g22
 have j9:bU.all (fun k=>decide ((l6 (valOf ab x.ah) x k).1≠0))=true:=by rw [List.take_of_length_le (by omega)] at cy;exact cy
 refine jo ?_;refine WC.dq (m:=7) [] [3] [0,1,2,3,4,5,6] [] bB (ax.k4 M0 M1 M2 M3<|ax.k4 M4 M5 M6 M7<|ax.k4 M8 M9 mF nP<|ax.cons uS<|ax.cons zt<|ax.cons GL<|ax.nil) mixed (by kernel_rfl) (by kernel_rfl) rfl<|(wS) ez SV.g8<|(jD) (fun w6 ZU La bd BZ=>?_);simp only [CA,NA] at bd;have aU:=bd;refine OX.call adH rfl rfl ((tR aU.e0 (As.gr aU.g12) (As.gr aU.g10) hx6).mono ?_);rintro _ w7 ⟨o1,o2,o3,rfl,ke⟩;have bM:=St.lr aU ke;refine⟨_,rfl,ke.cX.size,_,rfl,_,_,_,bM,aC.k4<|aC.k4<|aC.k4<|aC.k4<|aC.nil,ax.k4 M1 M2 M3 M4<|ax.k4 M5 M6 M7 M8<|ax.k4 M9 mF nP uS<|ax.cons zt<|ax.cons GL<|ax.cons UH<|ax.nil,?_⟩;refine(wS) ez SV.g7<|(oa) ?_;intro w8 BD bO;simp only [CM,NM,CA,NA,lA.it] at bO;have bD:=bO;refine(df) adH (tR bD.e0 (As.gr bD.g12) (As.gr bD.g11) hy6) ?_;rintro _ w9 ⟨o4,o5,o6,rfl,my⟩;have cx:=St.lr bD my;refine(gw) (Dg (Ow.rd (As.gs cx.g1) (by have:=List.length_filter_le (fun r:Rec=>!decide (r.key∈bU)) x.ak;unfold iO;omega)) (Ow.rd (As.gs cx.g0) (by have:=List.length_filter_le (fun r:Rec=>!decide (r.key∈bU)) y.ak;unfold iO;omega))) cx fun kM pz cG=>?_;refine nx ?_;refine WL.nil (EX.np ?_);refine(cm) ?_;exact⟨by unfold lN;rw [j9,Bool.true_and],(cG.k0).shrink gP.up⟩
set_option maxHeartbeats 400000
set_option maxHeartbeats 1600000 in
theorem mP(bF:St w M Z w []) (ht:oy prog Z w):Calls prog 6 #[] w fun e w'=>∃Z':Nat→Prop,e=.returned (.bool true)∧St w M Z' w' []:=by
 refine enter func6 rfl ntmps6 rfl<|?_;have aW:=bF;have st1:=aW.fact (B:=As.fz (FZ.LH prog)) ht (fun _ hx=>hx);refine gp ?_;refine WP .r (PV.cD (us:=[.bool false,.slice none 0 0,.int .i64 1,.int .i64 3]) Yj rfl rfl rfl)<|?_;refine WL.go rfl (OX.bA (us:=[.bool false,.slice none 0 0,.int .i64 1,.int .i64 3]) Kt rfl rfl rfl rfl fun tS w1 QG T3=>?_);have st2:=St.wR (R:=RR.gN) (E:=69) (k:=4) (a:=some ⟨tS,0,none⟩) (n:=1) (c:=1) (xs:=[r3]) st1 QG.ext (OR.eP T3 (Nat.zero_le _) rfl (by simp [Value.oneCell']) ⟨none,0,0,rfl,SR.nil _ _ _ _⟩) (fun x hx=>by simp [aL] at hx;subst hx;exact QG.ge);refine db ?_;have aP:=st2.bV (by simp);refine dF ?_;refine WP .r (PV.cD (us:=((⟨0,[],[]⟩:dV).row none 0 0 none 0 0)) Yi rfl rfl rfl)<|nx ?_;refine WL.c1 (u:=K0.val) (l8 (n:=0) (ab:=[r3]) (As.gr aP.g0)) (by rw [show aQ [r3] 0=K0 from yg]) aP fun w2 s2 aV=>?_;refine WL.go rfl (OX.bA (us:=K0.cells) fK rfl rfl rfl rfl fun RB w3 QR ZA=>?_);have bf:=St.wR (R:=RR.key) (E:=58) (k:=2) (a:=some ⟨RB,0,none⟩) (n:=1) (c:=1) (xs:=[K0]) aV QR.ext (OR.eP ZA (Nat.zero_le _) rfl (by simp [Key.cells,Value.oneCell']) rfl) (fun x hx=>by simp [aL] at hx;subst hx;exact QR.ge);have br:=bf.bV (by simp);have bP:=br;refine(df) YA (oV (x:=⟨0,[],[]⟩) (s':=s1) oe bP.e0 (As.gr bP.g1) (Rd.nil _ _ _ _) (Rd.nil _ _ _ _) (As.gr bP.g0) (As.gf bP.g2) XJ acX (fun k hk=>by simp at hk;subst hk;exact PR) (by simp) (ai5 _) (by simp)) ?_;rintro _ w4 ⟨x1,n1,e1,x2,n2,e2,xg,ng,eg,Z1,rfl,oN,hi1,jG,fN⟩;have bS:=St.lv bP fN oN;rw [S8] at hi1 jG ⊢;obtain rfl:n1=0:=hi1.len;obtain rfl:n2=1:=jG.len;have bX:=bS.WZ (S9);obtain rfl:ng=1:=((As.gs bX.g0)).len;have aM:=bX.bV (by simp);have aT:=aM.fr (hi1.mono (fun _ h=>.inl h));have aY:=aT.fr (jG.mono (fun _ h=>.inl h));refine(fT) aY fun b2 w5 lB eZ bG=>?_;refine(dB) gg bG fun w6 jC jI bB=>?_;refine(bz) aN bB.b0<|?_;have bd:=bB;refine(df) Bc (fO (x:=(⟨0,[],[iN 0 v3]⟩:dV)) bd.e0 (As.gr bd.g2) (As.gr bd.g1) (by simp) (by simp)) ?_;rintro _ w7 ⟨f1,f2,f3,f4,f5,f6,Z2,rfl,kZ,ke⟩;have aU:=St.lv bd ke kZ;obtain rfl:f2=0:=((As.gs aU.g0)).len;obtain rfl:f5=1:=((As.gs aU.g1)).len;have bM:=aU.bV (by simp);refine(fT) bM fun b5 w8 nH gI bO=>?_;refine(dB) gg bO fun w9 r7 mR bD=>?_;refine dw ?_;obtain⟨au5,au6,Wq,ap6,ap7,ap8⟩:=Ow.at (As.gs bD.g2) (by simp) (show [iN 0 v3][0]?=some (iN 0 v3) from rfl);refine(bN) ez bD.b0<|?_;refine WP .r (PV.fm iF (i:=0) Wq rfl rfl Nat.zero_lt_one)<|nx ?_;refine WL.go rfl (OX.O4 (i:=0) (f:=2) sz9 (As.gs bD.g2) Wq rfl (by decide) rfl rfl rfl (iN 0 v4) (fun r hl ⟨a,n,c,h1,h2,h3⟩=>⟨a,n,c,by rw [h1];rfl,h2,h3⟩) fun kM s8 h8=>?_);have cx:=bD.p2.iY s8 h8 (fun x h=>.inl h);have cG:=cx.WZ ((show [iN 0 v3].set 0 (iN 0 v4)=[iN 0 v4] from rfl));have cF:=cG.bV (by simp);refine(bz) aN cF.b3<|?_;have cM:=cF;refine(df) adA (sw (x:=(⟨0,[],[iN 0 v3]⟩:dV)) cM.e0 (As.gf cM.g9) (As.gr cM.g8) (As.gr cM.g5) (As.gr cM.g4) oe gb3 vs3 up3) ?_;rintro _ kN ⟨k1,k0,k2,Z3,rfl,qN,wm⟩;have cv:=St.lv cM wm qN;obtain rfl:k0=0:=((As.gs cv.g0)).len.trans (congrArg List.length au3);refine(bz) aN cv.b2<|?_;have cI:=cv;refine(df) adA (sw (x:=(⟨0,[],[iN 0 v4]⟩:dV)) cI.e0 (As.gf cI.g10) (As.gr cI.g9) (As.gr cI.g3) (As.gr cI.g1) oe gb4 vs3 up3) ?_;rintro _ qL ⟨k3,k5,k4,Z4,rfl,xE,qM⟩;have ef:=St.lv cI qM xE;obtain rfl:k5=2:=((As.gs ef.g0)).len.trans au4;refine(dT) (fun kE=>?_) (fun kE=>?_)
 ·
  refine(dT) (fun Bl=>?_) (fun Bl=>?_)
  ·
   refine(dT) (fun g51=>?_) (fun g51=>?_)
   ·
    refine(dT) (fun FR=>?_) (fun FR=>?_)
    ·
     refine(bz) aN ef.b5<|nx ?_;have dh:=ef;refine(df) ady (sy (x:=(⟨0,[],[iN 0 v3]⟩:dV)) (l:=[K0]) dh.e0 (As.gf dh.g11) (As.gr dh.g10) (As.gr dh.g7) (As.gr dh.g6) (As.gr dh.g8) oe gb3 vs3 up3 Kc (by simp)) ?_;rintro _ uN ⟨rfl,BN⟩;have eC:=St.lr dh BN;rw [rg3];refine(bz) aN eC.b3<|nx ?_;have cT:=eC;refine(df) ady (sy (x:=(⟨0,[],[iN 0 v4]⟩:dV)) (l:=[K0]) cT.e0 (As.gf cT.g11) (As.gr cT.g10) (As.gr cT.g4) (As.gr cT.g2) (As.gr cT.g8) oe gb4 vs3 up3 Kc (by simp)) ?_;rintro _ yX ⟨rfl,B6⟩;have dO:=St.lr cT B6;rw [rg4];refine dF ?_;refine WL.go rfl (OX.bA (us:=[.slice xg 1 eg]) Yd rfl rfl rfl rfl fun b71 uO Zm Zn=>?_);have cU:=dO.eW Zm Zn;refine WL.c1 (u:=.bool true) (we (l:=[[K0]]) (SR.lr<|SR.eP (A:=fun _=>True) (x:=[K0]) (As.gb cU.g0) trivial rfl (by simp [Value.oneCell']) ⟨xg,1,eg,rfl,SR.lr (As.gr cU.g9)⟩)) (by rw [show decide ([[K0]].flatten.Nodup)=true by simp]) cU fun yY s16 dz=>?_;refine dF ?_;refine WL.go rfl (OX.bA (us:=[.slice xg 1 eg,.slice xg 1 eg]) Yg rfl rfl rfl rfl fun b77 El anW anX=>?_);have dt:=dz.eW anW anX;refine WL.c1 (u:=.bool false) (we (l:=[[K0],[K0]]) (SR.lr<|SR.Sa (rows:=[[.slice xg 1 eg],[.slice xg 1 eg]]) (xs:=[[K0],[K0]]) (As.gb dt.g0) rfl (by simp) (by simp [Value.oneCell']) (by simp) (fun i x r hx hr=>by(have h1:=List.mem_of_getElem? hx;have h2:=List.mem_of_getElem? hr;simp at h1 h2;subst h1;subst h2;exact⟨xg,1,eg,rfl,SR.lr (As.gr dt.g10)⟩)))) (by rw [show decide ([[K0],[K0]].flatten.Nodup)=false by simp]) dt fun Cr s18 eK=>?_;refine dF ?_;refine WP .r (PV.cD (us:=((⟨0,[],[]⟩:dV).row none 0 0 none 0 0)) Yi rfl rfl rfl)<|(bz) aN (cJ.range (As.gb eK.g7))<|nx ?_;have dD:=eK;refine(df) TN (k9 (x:=⟨0,[],[]⟩) (y:=(⟨0,[],[iN 0 v3]⟩:dV)) (bU:=[K0]) dD.e0 (As.gf dD.g13) (As.gr dD.g12) (Rd.nil _ _ _ _) (Rd.nil _ _ _ _) oe gb0 vs3 (As.gr dD.g8) (by simp) (As.gr dD.g10)) ?_;rintro _ Ip ⟨rfl,I1⟩;have ew:=St.lr dD I1;rw [sd3];refine(cm) ?_;exact⟨_,rfl,ew.k0⟩
    exact gM FR
   exact gM g51
  exact gM Bl
 ·
  exact gM kE
 -- xz ky G62 G69 G74 G81
set_option maxHeartbeats 400000
set_option maxHeartbeats 8000000 in
set_option maxRecDepth 8000 in
theorem uB{l:List Int}{al:Option Addr}{nl cl:Nat}{ia:Int}(bF:St w M Z w []) (ht:oy prog Z w) (hl:Rd RR.int 1 Z w al nl cl l):CR prog 4 #[.slice al nl cl,.int .i64 ia] w (.bool true):=by
 refine enter func4 rfl ntmps4 rfl<|?_;have aW:=St.rb bF;have st1:=aW.fr hl;have st2:=st1.fact (B:=As.fz (FZ.LH prog)) ht (fun _ hx=>hx);refine(gw) (H9) st2 fun w1 s1 aP=>?_;refine(bp) (fun g23=>?_) fun g23=>?_
 ·
  skip
  refine db ?_;refine WL.go rfl (OX.call (xs:=[]) (args:=[]) cf6 rfl rfl ((mP (aP.e0) (As.gf aP.g0)).mono ?_));rintro _ _ ⟨_,rfl,hzz⟩;refine⟨_,rfl,?_⟩;refine(cm) ?_;exact⟨rfl,bj.trans (St.cg aP) (hzz.cX.cX (fun _ h=>by obtain⟨A,hA,_⟩:=h;cases hA))⟩
 have hl4:nl≤400:=by simpa using g23
 refine eA ?_;have aV:=aP;refine(df) cf7 (IP aV.e0 (As.gr aV.g1) hl4) ?_;rintro _ w2 ⟨d,rfl,tj⟩;have bf:=St.lr aV tj;refine jo ?_;have br:=bf;refine(df) cf8 (Jb br.e1 (As.gf br.g1) (m:=6) (by omega) (by omega)) ?_;rintro _ w3 ⟨ab,x,ra,y1,y2,rn,rc,m1,e1,m2,e2,Z1,rfl,hR,zd,hr8,R9,Xs,U5,hyi,hyr,oN,eG⟩;have bP:=St.lv br eG oN;have bS:=bP.p2.drop;have bX:=bS.fr (U5);have aM:=bX.fr (hyi);have aT:=aM.fr (hyr);have pY:=hR.len;have Nr:=((As.gr aT.g2)).len;have hxl:=R9.lb.ok.yM;have au8:x.ak.length≤4000:=R9.lb.ok.kC.len;refine(fT) aT fun b7 w4 tJ nT aY=>?_;refine(dB) gg aY fun w5 jC jI bG=>?_;refine dw ?_;refine WC.dq (m:=11) [8,9] [4,5] [2,3,4,0,1,5,6,7,8,9,10] [(10,.blk 31 [.int .i64 0,.slice none 0 0,.slice none 0 0])] bG (ax.k4 M0 M1 M2 M3<|ax.cons M5<|ax.nil) mixed (by kernel_rfl) (by kernel_rfl) rfl<|?_
 iterate 2 refine DG.a ?_
 refine(jD) (fun w6 Up FX bB sk=>?_);simp only [CA,NA] at bB;have bd:=bB.p4;refine OX.call Yz rfl rfl ((qv bd.e1 (As.gr bd.g4) (by omega) (by omega) (by decide) (by decide)).mono ?_);rintro _ w7 ⟨ga,gn,gc,gl,rfl,agD,xT,ke⟩;have aU:=St.lr bd ke;have UE:=((As.gs aU.g1)).len;have anY:=St.fresh aU.p1;have bM:=aU.p1.bV (by omega);obtain⟨f,s',Ai,uj,yF,dR,qY,UF,hrq,he0,ze,hwy,au9,hvl⟩:=R9.req hR xT (by omega);refine⟨_,rfl,ke.cX.size,_,rfl,_,_,_,bM,aC.k4<|aC.k2<|aC.cons<|aC.nil,ax.k4 M2 M3 M4 M5<|ax.cons M6<|ax.nil,?_⟩;refine(oz) aN SV.g0<|(jD) (fun w8 R7 CY bO qO=>?_);simp only [CA,NA] at bO;have bD:=bO;refine OX.call YA rfl rfl ((oV (x:=x) (s':=s') hR bD.e0 (As.gr bD.g5) (As.gr bD.g4) (As.gr bD.g3) (As.gr bD.g0) (As.gf bD.g6) Ai uj yF (by omega) dR qY).mono ?_);rintro _ w9 ⟨q1,q2,q3,q4,q5,q6,o1,o2,o3,Z11,rfl,agS,RU,hqc,my⟩;have cx:=St.lv bD my agS;rw [ze] at RU hqc;rw [ze,he0];have cG:=cx.Cl (B:=As.os RR.key 58 2 o1 o2 o3 (iv s'.bU)) (by unfold ES.list;rw [if_pos he0]);have cF:=cG.fr (RU);have cM:=cF.fr (hqc);have ava:=((As.gs cM.g2)).len;have hsl:=wW s'.bU;have anZ:=St.fresh cM.p2;have cv:=cM.p2.bV (by omega);have Rz:LC ab s'.b:=ze ▸ UF;have Lm:=HQ hwy R9.lb.ok.xc.st Rz.lb.ok.xc.st;have hsr:=Rz.lb.ok.xc.st;have avc:s'.b.ak.length≤4000:=Rz.lb.ok.kC.len;have avd:=Rz.lb.ok.yM;refine⟨_,rfl,my.cX.size,_,rfl,_,_,_,cv,aC.k4<|aC.k4<|aC.k2<|aC.nil,ax.k4 M5 M6 M7 M8<|ax.cons M9<|ax.nil,?_⟩
 iterate 4 refine DG.a ?_
 refine DG.side (s:=.blk 31 [.int .i64 0,.slice none 0 0,.slice none 0 0]) rfl rfl rfl rfl rfl rfl (fun wx Zx Rx BX fV=>OX.alloc ado rfl fun b wy nw hb=>⟨nw.ext.size,_,rfl,⟨b,rfl⟩,fV.eW nw hb⟩)<|?_;rintro _ ⟨b8,rfl⟩;refine(oa) ?_;intro kM C1 cI;simp only [CM,NM,CA,NA,lA.it] at cI;refine(dB) gg cI fun kN r7 mR ef=>?_;refine db ?_;refine WL.nil (EX.np ?_);refine(dT) (fun V5=>?_) (fun V5=>?_)
 ·
  exact gM V5
 refine(bz) aN (cJ.range (As.gb ef.g6))<|(bz) aN ef.b0<|nx ?_;have dh:=ef;refine(df) TN (k9 (x:=x) (y:=s'.b) (bU:=iv s'.bU) dh.e0 (As.gf dh.g10) (As.gr dh.g9) (As.gr dh.g8) (As.gr dh.g7) hR R9.lb.Px (R9.lb.small hR) (As.gr dh.g2) (by omega) (As.gr dh.g1)) ?_;rintro _ qL ⟨rfl,qM⟩;have eC:=St.lr dh qM;rw [Lm];refine dF ?_;refine WC.iu rfl<|(bN) ez eC.b0<|eA ?_;refine WC.kj (σ:=Nat × (Nat→Prop)) (eI:=fun(i,Z5)=>[(1,.int .i64 ia),(6,.slice ra rn rc),(7,.pointer (some ⟨b7,0,none⟩)),(8,.pointer (some ⟨b8,0,none⟩)),(9,.slice o1 o2 o3),(53,.slice q4 q5 q6),(54,.int .i64 (q5:Int)),(55,.int .i64 (i:Int))]) (F:=fun(i,Z5)=>[]) (I:=fun(i,Z5)=>(i≤q5)∧True) (μ:=fun(i,Z5)=>q5 - i) (Zf:=fun(i,Z5)=>Z5) (0,_) (eC) Sub.t (⟨Nat.zero_le _,trivial⟩)<|?_;rintro⟨i,Z5⟩ uN cT ⟨hi,_⟩;simp only [CA,NA] at cT hi ⊢;have Dn:=((As.gr cT.g2)).len;refine(bp) (fun FR=>?_) fun FR=>?_
 ·
  simp at FR
  have cV:i<s'.b.ak.length:=by omega
  refine eA ?_;obtain⟨gE,js,iT,aS,fi,bq,bY,di⟩:=Rd.at (As.gr cT.g2) cV;obtain⟨p1,p2,p3,rfl,pA,oM⟩:=bq;have dO:=cT.fg di bY;have cU:=dO.fr pA;refine nx ?_;refine WP .r (PV.fm iF aS rfl rfl (by omega))<|(bz) dm (As.nh cU.g1)<|(fT) cU fun Cs yX ZZ Z0 dz=>?_;refine(dB) gC dz fun uO Ej td dt=>?_;refine(kl) av dt.b0<|(gw) (sX (k:=s'.b.ak[i].key) (As.gr dt.g4)) dt fun yY s16 eK=>?_;refine(bp) (fun VR=>?_) fun VR=>?_
  ·
   have an0:s'.b.ak[i].key∉iv s'.bU:=by simpa using VR
   have kG:=gA hsr (List.getElem_mem cV);have KY:=HR Lm kG an0;refine(bz) aN eK.b3<|?_;have dD:=eK;refine(df) Bc (fO (x:=s'.b) dD.e0 (As.gr dD.g6) (As.gr dD.g5) (by omega) (by omega)) ?_;rintro _ El ⟨f1,f2,f3,f4,f5,f6,Z6,rfl,B5,BO⟩;have ew:=St.lv dD BO B5;have hyn:=((As.gs ew.g1)).len;refine(fT) ew fun sZ Cr NX ae7 fk=>?_;refine(dB) gg fk fun Ip RZ wX eY=>?_;refine(bN) ez eY.b0<|eA ?_;refine WC.bQ (σ:=Nat × (List Rec)) (eI:=fun(j,acc)=>[(1,.int .i64 ia),(6,.slice ra rn rc),(7,.pointer (some ⟨b7,0,none⟩)),(8,.pointer (some ⟨b8,0,none⟩)),(9,.slice o1 o2 o3),(12,.pointer (some ⟨Cs,0,none⟩)),(13,.pointer (some ⟨sZ,0,none⟩)),(53,.slice q4 q5 q6),(54,.int .i64 (q5:Int)),(55,.int .i64 (i:Int)),(68,.int .i64 (f5:Int)),(69,.int .i64 (j:Int))]) (F:=fun(j,acc)=>[As.os RR.fl 60 8 f4 f5 f6 acc]) (I:=fun(j,acc)=>(j≤f5)∧(acc=(s'.b.ak.take j).map (yP s'.b.ak[i].key)++s'.b.ak.drop j)∧True) (μ:=fun(j,acc)=>f5 - j) (0,s'.b.ak) (eY.p2) Sub.t (⟨Nat.zero_le _,by simp,trivial⟩)<|?_;rintro⟨j,acc⟩ Mt gu ⟨hj,ee,_⟩;simp only [CA,NA] at gu hj ee ⊢
   have tC:acc.length=s'.b.ak.length:=by rw [ee];simp;omega
   refine(bp) (fun g70=>?_) fun g70=>?_
   ·
    simp at g70
    have kL:j<s'.b.ak.length:=by omega
    have uX:=PY (yP s'.b.ak[i].key) kL;rw [← ee] at uX
    have QS:acc[j]?=some s'.b.ak[j]:=by rw [ee,List.getElem?_append_right (by simp;omega)];simp [Nat.min_eq_left (by omega:j≤s'.b.ak.length)]
    refine qT ?_;obtain⟨uM,CN,ft,tK,gk,jO⟩:=Ow.at (As.gs gu.g0) (by omega) QS;obtain⟨z1,z2,z3,rfl,hz1,hz2⟩:=gk;have Ui:=gu.dc;refine WC.dS (m:=8) gu mixed<|(lF) ez St.g1<|nx ?_;refine DP .r (fun _ hC=>PV.fm iF ft rfl rfl (by omega))<|nx ?_;refine DP .r (fun _ hC=>PV.GC av (Ow.ai9 (As.gs hC.2.g0) (by omega) ft QS) rfl rfl)<|(Cm) av St.g3<|(ey)<|?_;rintro My ⟨QW,gF⟩ _;refine WP .r (PV.G3 gB (p:=s'.b.ak[j].key) (q:=s'.b.ak[i].key) rfl rfl)<|(bp) (fun Q8=>?_) fun Q8=>?_
    ·
     simp at Q8
     have hz1:(⟨#[49]⟩:ByteArray).size=1:=rfl;have hvs:=((dY _).1 (Rz.lb.ok.xc.v _ (List.getElem_mem kL)).1).2.2.2.1
     have wI:acc.set j {s'.b.ak[j] with value:=s'.b.ak[j].value++(⟨#[49]⟩:ByteArray)}=(s'.b.ak.take (j+1)).map (yP s'.b.ak[i].key)++s'.b.ak.drop (j+1):=by
      rw [← uX]
      unfold yP
      rw [if_pos Q8]
     obtain⟨NV,afb,kz,V4,Em,Mv⟩:=Ow.at (As.gs gF.g0) (by omega) QS;obtain⟨z4,z5,z6,rfl,hz4,hz5⟩:=Em;refine(bN) ez gF.b1<|nx ?_;refine WP .r (PV.fm iF kz rfl rfl (by omega))<|(bN) iq Mv<|nx ?_;refine WP .r (PV.fm iF kz rfl rfl (by omega))<|nx ?_;refine WL.go rfl (OX.O4 (i:=j) (f:=2) sz9 (As.gs gF.g0) kz QS (by omega) rfl rfl rfl {s'.b.ak[j] with value:=s'.b.ak[j].value++(⟨#[49]⟩:ByteArray)} (fun r _ ⟨a,n,c,h1,h2,h3⟩=>⟨a,n,c,by rw [h1];rfl,h2,h3⟩) fun Ur s7 h7x=>?_);have jb:=gF.iY s7 h7x (fun x h=>.inl h);refine gp ?_;refine fx (j+1,_) ⟨jb,⟨by omega,wI,trivial⟩⟩
    simp at Q8
    have qI:acc=(s'.b.ak.take (j+1)).map (yP s'.b.ak[i].key)++s'.b.ak.drop (j+1):=ee.trans (PZ _ kL (by unfold yP;rw [if_neg Q8]));refine gp ?_;refine fx (j+1,acc) ⟨gF,⟨by omega,qI,trivial⟩⟩
   simp at g70
   have cy:acc=s'.b.ak.map (yP s'.b.ak[i].key):=by rw [ee,List.take_of_length_le (by omega),List.drop_eq_nil_of_le (by omega)];simp
   subst cy;refine jo ?_;have an1:=St.fresh gu.p2;have gF:=gu.p2.bV (by omega);have an2:=St.fresh gF.p1;have jb:=gF.p1.bV (by rw [List.length_map];omega);refine(bz) aN (cJ.range (As.gb jb.g12))<|(bz) aN jb.b2<|nx ?_;have gG:=jb;refine(df) TN (k9 (x:=x) (y:={s'.b with ak:=s'.b.ak.map (yP s'.b.ak[i].key)}) (bU:=iv s'.bU) gG.e0 (As.gf gG.g16) (As.gr gG.g15) (As.gr gG.g14) (As.gr gG.g13) hR R9.lb.Px (R9.lb.small hR) (As.gr gG.g0) (by rw [List.length_map];omega) (As.gr gG.g7)) ?_;rintro _ My ⟨rfl,I2⟩;have ig:=St.lr gG I2;rw [KY];refine db ?_;refine WC.iu rfl<|gp ?_;refine fx (i+1,_) ⟨ig.drop.drop.drop.drop.drop.drop,⟨by omega,trivial⟩⟩
  skip
  refine gp ?_;refine fx (i+1,_) ⟨eK.drop.drop.drop,⟨by omega,trivial⟩⟩
 skip
 refine bC ?_;refine(bp) (fun g99=>?_) fun g99=>?_
 ·
  simp at g99
  have LS:0<(iv s'.bU).length:=by omega
  obtain⟨j,hj,hja⟩:∃j:Nat,j<(iv s'.bU).length∧(if (o2:Int)<1 then 0 else ia % (o2:Int))=(j:Int):=by
   rw [if_neg (by omega)];have h1:=Int.emod_nonneg ia (show(o2:Int)≠0 by omega);have h2:=Int.emod_lt_of_pos ia (show(0:Int)<o2 by omega);exact⟨(ia % (o2:Int)).toNat,by omega,by omega⟩
  have Cu:∀w:World,CR prog 23 #[.int .i64 ia,.int .i64 (o2:Int)] w (.int .i64 (j:Int)):=fun w=>by rw [← hja];exact Eb (by omega)
  obtain⟨k,hk⟩:∃k,(iv s'.bU)[j]=k:=⟨_,rfl⟩;refine nx ?_;obtain⟨Zt,avf,avg,tL,aqc,RA,Wr,agT⟩:=Rd.at (As.gr cT.g1) hj;have RA:=RR.cH RA;subst RA;have dO:=cT.fg agT Wr;rw [hk] at Wr dO;refine(gw) ((Cu _)) dO fun yX VV cU=>?_;refine WP .r (PV.fm fL tL rfl rfl (by omega))<|(bz) av (As.nh cU.g0)<|(fT) cU fun Ju uO Qu Qv dz=>?_;refine(dB) jH dz fun yY R6 Hf dt=>?_;refine jo ?_;have eK:=dt.eX RR.key 58 2;refine nj ?_;refine WC.bQ (σ:=Nat × (List Key) × (Option Addr) × Nat × Nat) (eI:=fun(q,rl,oR,nW,sf)=>[(6,.slice ra rn rc),(7,.pointer (some ⟨b7,0,none⟩)),(8,.pointer (some ⟨b8,0,none⟩)),(15,.pointer (some ⟨Ju,0,none⟩)),(16,.slice oR nW sf),(107,.slice o1 o2 o3),(108,.int .i64 (o2:Int)),(109,.int .i64 (q:Int))]) (F:=fun(q,rl,oR,nW,sf)=>[As.os RR.key 58 2 oR nW sf (rl)]) (I:=fun(q,rl,oR,nW,sf)=>(q≤o2)∧(rl=((iv s'.bU).take q).filter fun y=>decide (y≠k))∧True) (μ:=fun(q,rl,oR,nW,sf)=>o2 - q) (0,[],none,0,0) (eK) Sub.t (⟨Nat.zero_le _,rfl,trivial⟩)<|?_;rintro⟨q,rl,oR,nW,sf⟩ El dD ⟨hq,Cv,_⟩;simp only [CA,NA] at dD hq Cv ⊢;have avh:=((As.gs dD.g0)).len
  have avi:rl.length≤q:=by rw [Cv];exact Nat.le_trans (List.length_filter_le _ _) (by rw [List.length_take];omega)
  refine(bp) (fun pD=>?_) fun pD=>?_
  ·
   simp at pD
   have zs:q<(iv s'.bU).length:=by omega
   obtain⟨y,hq0⟩:∃y,(iv s'.bU)[q]=y:=⟨_,rfl⟩;refine eA ?_;obtain⟨agt,anG,anH,Ep,agL,Ci,Jd,Rw⟩:=Rd.at (As.gr dD.g4) zs;have Ci:=RR.cH Ci;subst Ci;have ew:=dD.fg Rw Jd;rw [hq0] at Jd ew;refine nx ?_;refine WP .r (PV.fm fL Ep rfl rfl (by omega))<|(bz) av (As.nh ew.g0)<|(fT) ew fun b18 Cr T4 T5 fk=>?_;refine(dB) jH fk fun Ip VW VX eY=>?_;refine(bz) av eY.b0<|(bz) av eY.b3<|?_;refine WP .r (PV.OT gB (p:=y) (q:=k) rfl rfl)<|(bp) (fun aaV=>?_) fun aaV=>?_
   ·
    refine(bz) av eY.b0<|?_;refine WL.go rfl (OX.bA (us:=y.cells) fK rfl rfl rfl rfl fun avj Mt agU agV=>?_);have gu:=eY.eW agU agV;refine WL.ap rfl rfl gu.p3 (SR.eP (A:=fun _=>True) (x:=y) (As.gb gu.g0) trivial rfl (by simp [Key.cells,Value.oneCell']) rfl) fun a119 agW My aqd aqe gF=>?_;refine kJ ?_;refine fx (q+1,_,a119,(nW+1),agW) ⟨gF.p1.drop.p1.drop.p1.drop,⟨by omega,by rw [List.take_succ_eq_append_getElem zs,List.filter_append,← Cv,hq0,List.filter_cons,if_pos (by simpa using aaV)];rfl,trivial⟩⟩
   refine gp ?_;refine fx (q+1,rl,oR,nW,sf) ⟨eY.drop.drop,⟨by omega,by rw [List.take_succ_eq_append_getElem zs,List.filter_append,← Cv,hq0,List.filter_cons,if_neg (by simpa using aaV)];simp,trivial⟩⟩
  simp at pD
  rw [List.take_of_length_le (by omega)] at Cv;subst Cv;refine(bN) ez (cJ.range (As.gb dD.g9))<|(bz) av dD.b1<|?_;have ew:=dD;refine(df) uA (kx (k:=k) ew.e0 (As.gr ew.g10)) ?_;rintro _ Cr ⟨v1,v2,v3,rfl,Oo,wu⟩;have fk:=St.lr ew wu;refine(fT) fk fun UI Ip NY Uf eY=>?_;refine(dB) gC eY fun Mt Zo Zp gu=>?_;refine dF ?_;have an4:=St.fresh gu.p2;have gF:=gu.p2.bV (by omega);refine(dT) (fun agX=>?_) (fun agX=>?_)
  ·
   have hxn:aD x.ak k=none:=by simpa using agX
   have vm:k∈s'.bU:=(pj _ _).1 (hk ▸ List.getElem_mem hj);obtain⟨rk,Vc,_⟩:=cW.1 (hwy.SU k vm);have an5:=Km Lm hxn Vc;refine(bz) aN (cJ.range (As.gb gF.g11))<|(bz) aN gF.b5<|nx ?_;have jb:=gF;refine(df) TN (k9 (x:=x) (y:=s'.b) (bU:=((iv s'.bU).filter fun y=>decide (y≠k))) jb.e0 (As.gf jb.g15) (As.gr jb.g14) (As.gr jb.g13) (As.gr jb.g12) hR R9.lb.Px (R9.lb.small hR) (As.gr jb.g7) (by omega) (As.gr jb.g0)) ?_;rintro _ My ⟨rfl,I2⟩;have gG:=St.lr jb I2;rw [an5];refine dw ?_;refine WC.iu rfl<|dF ?_;refine WL.go rfl (OX.call (xs:=[]) (args:=[]) cf6 rfl rfl ((mP (gG.e0) (As.gf gG.g15)).mono ?_));rintro _ _ ⟨_,rfl,hzz⟩;refine⟨_,rfl,?_⟩;refine(cm) ?_;exact⟨rfl,bj.trans (St.cg gG) (hzz.cX.cX (fun _ h=>by obtain⟨A,hA,_⟩:=h;cases hA))⟩
  skip
  refine kJ ?_;refine WC.iu rfl<|dF ?_;refine WL.go rfl (OX.call (xs:=[]) (args:=[]) cf6 rfl rfl ((mP (gF.e0) (As.gf gF.g15)).mono ?_));rintro _ _ ⟨_,rfl,hzz⟩;refine⟨_,rfl,?_⟩;refine(cm) ?_;exact⟨rfl,bj.trans (St.cg gF) (hzz.cX.cX (fun _ h=>by obtain⟨A,hA,_⟩:=h;cases hA))⟩
 skip
 refine dF ?_;refine WL.go rfl (OX.call (xs:=[]) (args:=[]) cf6 rfl rfl ((mP (cT.e0) (As.gf cT.g10)).mono ?_));rintro _ _ ⟨_,rfl,hzz⟩;refine⟨_,rfl,?_⟩;refine(cm) ?_;exact⟨rfl,bj.trans (St.cg cT) (hzz.cX.cX (fun _ h=>by obtain⟨A,hA,_⟩:=h;cases hA))⟩
end Go.Rc

