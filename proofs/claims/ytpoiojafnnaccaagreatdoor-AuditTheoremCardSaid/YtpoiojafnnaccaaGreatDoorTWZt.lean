/- Walks over the program, part WZt. Conditions: as each theorem says. -/
import Derived.Test.YtpoiojafnnaccaaGreatDoorTFacts
import Derived.Test.YtpoiojafnnaccaaGreatDoorTWZr
import Derived.Test.YtpoiojafnnaccaaGreatDoorTBh
import Derived.Test.YtpoiojafnnaccaaGreatDoorTWUa
import Derived.Test.YtpoiojafnnaccaaGreatDoorTWZb
import Derived.Test.YtpoiojafnnaccaaGreatDoorTWZl
set_option linter.all false
namespace Go.Rc
open Go Go.Proofs Go.Proofs.Tryz
variable {a a1 a2 ar ag:Option Addr}{n c n1 e1 n2 e2 r cr ng eg:Nat}{w:World}{Z M A B:Nat→Prop}{cy:List Key}{x:dT}{ab:List aJ}
set_option maxHeartbeats 400000
set_option maxHeartbeats 1600000 in
theorem Jy{xs:List Rec}{p:Rec→Bool}{f:FuncId}{cap:Value}(zG:CF prog f) (bF:St w (rF [As.os RR.ff 60 8 a n c xs]) Z w [As.os RR.ff 60 8 a n c xs]) (h6:xs.length≤1000000) (hp:∀w1,bm (aO a) w w1→∀(x:Rec) a n c,Calls prog f #[.agg (x.row a n c).toArray,cap] w1 fun e w'=>e=.returned (.bool (p x))∧bm [] w1 w'):Calls prog 96 #[.slice a n c,.func (.func f) #[] #[cap]] w fun e w'=>∃n' c',e=.returned (.slice a n' c')∧St w (rF [As.os RR.ff 60 8 a n c xs]) Z w' [As.os RR.ff 60 8 a n' c' (xs.filter fun x=>!p x)]:=by
 have hn:=(As.gs bF.g0).len;refine enter func96 rfl ntmps96 rfl<|?_;have aW:=bF;refine(cW) QA (pd (p:=p) zG (Ow.rd (As.gs aW.g0) (by omega)) (fun w1 h1 y hy a n c _=>hp w1 ((aW.cT.ac7 (fun x ⟨A,hA,hx⟩=>.inl (by simp at hA;subst hA;exact hx))).trans (h1.mono (by simp))) y a n c)) ?_;rintro _ w1 ⟨j,rfl,hj,s1⟩;have st1:=aW.step s1;refine(br) (fun g12=>?_) fun g12=>?_
 ·
  have gh:∀x∈xs,p x=false:=by
   rcases hj with⟨i,y,_,_,_,h⟩ | ⟨h,_⟩
   ·
    exfalso;simp at g12;omega
   exact h
  have hfa:(xs.filter fun x=>!p x)=xs:=List.filter_eq_self.2 fun x hx=>by simp [gh x hx]
  refine(cj) ?_;exact⟨n,c,rfl,by rw [hfa];exact st1⟩
 obtain⟨i0,x0,MK,aoc,aod,rfl⟩:∃(i0:Nat) (x0:Rec),xs[i0]?=some x0∧p x0=true∧(∀(q:Nat) y,q<i0→xs[q]?=some y→p y=false)∧j=i0:=by
  rcases hj with⟨i,y,h1,h2,h3,h4⟩ | ⟨_,h⟩
  ·
   exact⟨i,y,h1,h2,h3,h4⟩
  exfalso;simp at g12;omega
 have Wm:=(List.getElem?_eq_some_iff.1 MK).1;obtain⟨b_s,RX⟩:=Ow.addr (As.gs st1.g0) MK
 have hnc:n≤c:=by obtain⟨l,_,_,h⟩:=Ow.blk (As.gs st1.g0) RX;exact h
 refine rT ?_;refine WC.bU (σ:=Nat × Nat × (List Rec)) (eI:=fun(i,j,ys)=>[(0,.slice a n c),(1,.func (.func f) #[] #[cap]),(5,.int .i64 (i:Int)),(6,.int .i64 (j:Int))]) (F:=fun(i,j,ys)=>[As.os RR.ff 60 8 a n c ys]) (I:=fun(i,j,ys)=>(Dl p xs ys i j)∧True) (μ:=fun(i,j,ys)=>n - j) (i0,i0+1,xs) (st1) Sub.t (⟨Dl.start aod MK aoc,trivial⟩)<|?_;rintro⟨i,j,ys⟩ w2 st2 ⟨hD,_⟩;simp only [CA,NA] at st2 hD ⊢;have LK:=hD.len;have hij:=hD.ij;have mB:=hD.jl;refine(br) (fun g19=>?_) fun g19=>?_
 ·
  simp at g19
  have lF:j<xs.length:=by omega
  obtain⟨x,hxj⟩:∃x,xs[j]?=some x:=⟨_,aq lF⟩;have hyj:ys[j]?=some x:=(hD.suf j (Nat.le_refl _)).trans hxj;refine ew ?_;obtain⟨gF,iU,aT,fl,bz,ck⟩:=Ow.at (As.gs st2.g0) (by omega) hyj;obtain⟨q1,q2,q3,rfl,qz,pg⟩:=bz;have aP:=st2.fr (qz);refine dy ?_;refine WP .r (PV.fC jk (i:=j) aT rfl rfl (by omega))<|(bA) dn ck<|(fU) aP fun b7 w3 uR oo aU=>?_;refine(dA) gJ aU fun w4 jv jC aY=>?_;refine(bA) dn aY.b0<|?_;refine WL.go rfl (OX.qM zG rfl rfl rfl ((Calls.cap (hp _ (aY.cT.ac7 (fun x ⟨A,hA,hx⟩=>.inl (by simp at hA;subst hA;exact hx))) x q1 q2 q3)).mono ?_));rintro _ w5 ⟨rfl,s5⟩;refine⟨_,rfl,?_⟩;have bj:=aY.step s5;refine(br) (fun n0=>?_) fun n0=>?_
  ·
   have hpj:p x=false:=by simpa using n0
   refine(bA) dn bj.b0<|?_;refine WP .r (PV.fC jk (i:=i) RX rfl rfl (by omega))<|?_;refine WL.go rfl (OX.Xe (i:=i) gJ (As.gs bj.g2) RX (by omega) rfl rfl rfl (by simp [Rec.row,Value.oneCell']) x ⟨q1,q2,q3,rfl,(As.gr bj.g1),pg⟩ fun w6 s9 h9=>?_);have bP:=bj.p2.iY s9 h9 (fun x h=>.inl h);refine bC ?_;refine cV ?_;refine fx (i+1,j+1,_) ⟨bP.p1.drop.p1.drop,⟨hD.lz hxj hpj,trivial⟩⟩
  have hpj:p x=true:=by simpa using n0
  refine kE ?_;refine fx (i,j+1,ys) ⟨bj.drop.drop,⟨hD.skip hxj hpj,trivial⟩⟩
 simp at g19
 have JB:=hD.done (by omega)
 have yF:i≤n:=by omega
 refine pQ ?_;refine WP .r (PV.Ag jk (i:=i) (Ow.rd (As.gs st2.g0) (by omega)) rfl rfl yF)<|?_;refine WL.go rfl (OX.ajB (i:=i) Qr adI rfl rfl (by decide) (by decide) (As.gs st2.g0) RX yF rfl fun w3 sc hc=>?_);have aP:=st2.iY sc hc (fun x h=>.inl h);have aU:=aP.CE (B:=As.os RR.ff 60 8 a i c (xs.filter fun x=>!p x)) (by rw [JB]);refine jx ?_;refine WP .r ((PV.Tq jk (i:=i) RX (by omega) rfl rfl))<|(cj) ?_;exact⟨i,c,rfl,aU⟩
theorem uc{l:List Rec}{aw:Option Addr}{nw cw:Nat}(bF:St w M Z w []) (hr:Rd RR.ff 8 Z w a n c l) (hl:Rd RR.key 2 Z w aw nw cw cy) (h6:l.length≤1000000):Calls prog 51 #[.slice a n c,.slice aw nw cw] w fun e w'=>∃a' n' c',e=.returned (.slice a' n' c')∧St w M Z w' [As.os RR.ff 60 8 a' n' c' (jI l cy)]:=by
 refine enter func51 rfl ntmps51 rfl<|?_;have aW:=bF;have st1:=aW.fr hr;have st2:=st1.fr hl;refine(ef) st2 fun b3 w1 gO dB aP=>?_;refine jx ?_;have aU:=aP;refine(cW) ad6 (tW aU.e0 (As.gr aU.g2) h6) ?_;rintro _ w2 ⟨f1,f2,f3,rfl,tu⟩;have aY:=St.lr aU tu;refine WP .r (PV.func (us:=[]) (vs:=[.pointer (some ⟨b3,0,none⟩)]) rfl rfl)<|?_;have bj:=aY.p1.p1;have hap:=bj.XS;have hzf:=bj.pO (As.os RR.ff 60 8 f1 f2 f3 l) (by simp);have bP:=bj;refine(cW) ad5 (Jy (p:=fun x=>decide (x.key∈cy)) akG bP.e1 h6 (fun w1 h1 x a n c=>Ci ((As.gb bP.g1).cT h1 (fun h=>hap _ h rfl)) (Rd.st h1.size (fun x hx ee=>h1.block x ee (fun h=>hzf x h hx)) (As.gr bP.g2)))) ?_;rintro _ w3 ⟨d1,d2,rfl,eE⟩;have bQ:=St.lr bP eE;refine(cj) ?_;exact⟨f1,d1,d2,rfl,bQ.k1⟩
theorem Jz{x y:Rec}(h1:Rd RR.key 2 A w a1 n1 e1 x.reads) (h2:Rd RR.key 2 B w a2 n2 e2 y.reads):CR prog 52 #[.agg (x.row a1 n1 e1).toArray,.agg (y.row a2 n2 e2).toArray] w (.bool (decide (strip x=strip y))):=by
 refine enter func52 rfl ntmps52 rfl<|?_;have aW:=St.s0 w;refine(ef) aW fun b2 w1 lA eZ st1=>?_;refine(ef) st1 fun b3 w2 gO dB st2=>?_;refine dC ?_;refine WC.mC (t:=4) (v:=.bool (decide (strip x=strip y))) st2 ?_<|?_
 ·
  refine(kF) av st2.b1<|(kF) av st2.b0<|?_;refine WP .r (PV.JD im (p:=x.key) (q:=y.key) rfl rfl)<|(dW) (fun g10=>?_) (fun g10=>?_)
  ·
   refine(bO) iq st2.b1<|(bO) iq st2.b0<|(dW) (fun g17=>?_) (fun g17=>?_)
   ·
    refine(bO) fA st2.b1<|(bO) fA st2.b0<|(gg) (tY (h1.ext (St.cg st2)) (h2.ext (St.cg st2))) st2 fun w3 s3 aP=>?_;refine(dW) (fun g24=>?_) (fun g24=>?_)
    ·
     refine(bO) aZ aP.b1<|(bO) aZ aP.b0<|(dW) (fun pF=>?_) (fun pF=>?_)
     ·
      refine(bO) aZ aP.b1<|(bO) aZ aP.b0<|?_;exact(iu) (by rw [pD];first | rfl | (simp only [g10,g17,g24,pF];done) | (simp only [g10,g17,g24,pF];rfl) | (simp [g10,g17,g24,pF];done) | (simp_all;done)) (aP)
     exact(iu) (by rw [pD];first | rfl | (simp only [g10,g17,g24,pF];done) | (simp only [g10,g17,g24,pF];rfl) | (simp [g10,g17,g24,pF];done) | (simp_all;done)) (aP)
    refine bC ?_;exact(iu) (by rw [pD];first | rfl | (simp only [g10,g17,g24];done) | (simp only [g10,g17,g24];rfl) | (simp [g10,g17,g24];done) | (simp_all;done)) (aP)
   refine bC ?_;exact(iu) (by rw [pD];first | rfl | (simp only [g10,g17];done) | (simp only [g10,g17];rfl) | (simp [g10,g17];done) | (simp_all;done)) (st2)
  refine bC ?_;refine bC ?_;exact(iu) (by rw [pD];first | rfl | (simp only [g10];done) | (simp only [g10];rfl) | (simp [g10];done) | (simp_all;done)) (st2)
 intro w3 aP;refine(cj) ?_;exact⟨rfl,(St.cg aP)⟩
theorem DB{l1 l2:List Rec}{b:Option Addr}{m d:Nat}(h1:Rd RR.ff 8 A w a n c l1) (h2:Rd RR.ff 8 B w b m d l2):CR prog 50 #[.slice a n c,.slice b m d,.func (.func 52) #[] #[]] w (.bool (decide (l1.map strip=l2.map strip))):=by
 have jO:=SR.len h1;have su:=SR.le h1;have pW:=SR.len h2;have fT:=SR.le h2;refine enter func50 rfl ntmps50 rfl<|?_;have aW:=St.s0 w;refine bC ?_;refine(br) (fun g14=>?_) fun g14=>?_
 ·
  simp at g14
  refine(cj) ?_;exact⟨by rw [decide_eq_false (fun e:l1.map strip=l2.map strip=>g14 (by have h:=congrArg List.length e;rw [List.length_map,List.length_map] at h;rw [jO,pW,h]))],(St.cg aW)⟩
 simp at g14
 refine rT ?_;refine WC.bU (σ:=Nat) (eI:=fun i=>[(1,.slice b m d),(2,.func (.func 52) #[] #[]),(15,.slice a n c),(16,.int .i64 (n:Int)),(17,.int .i64 (i:Int))]) (F:=fun i=>[]) (I:=fun i=>(i≤n)∧((l1.take i).map strip=(l2.take i).map strip)∧True) (μ:=fun i=>n - i) (0) (aW) Sub.t (⟨by omega,rfl,trivial⟩)<|?_;rintro i w1 st1 ⟨hi,gh,_⟩;simp only [CA,NA] at st1 hi gh ⊢;refine(br) (fun g18=>?_) fun g18=>?_
 ·
  simp at g18
  have cX:i<l1.length:=by omega
  have yF:i<l2.length:=by omega
  refine ew ?_;obtain⟨gF,js,iU,aT,fl,bz,ck,di⟩:=SR.at h1 (aq cX);obtain⟨q1,q2,q3,rfl,qz,pg⟩:=bz;refine cV ?_;refine WP .r (PV.fC jk aT rfl rfl (by omega))<|(bA) dn (bG ck (St.cg st1) (by simp))<|(fU) st1 fun b8 w2 zM jm st2=>?_;refine(dA) gJ st2 fun w3 jv jC aP=>?_;refine dy ?_;obtain⟨vV,Ix,FU,fO,vW,gN,j4,pJ⟩:=SR.at h2 (aq yF);obtain⟨q4,q5,q6,rfl,xm,hk5⟩:=gN;refine dy ?_;refine WP .r (PV.fC jk fO rfl rfl (by omega))<|(bA) dn (bG j4 (St.cg aP) (by simp))<|(fU) aP fun b9 w4 QT BP aU=>?_;refine(dA) gJ aU fun w5 sr nc aY=>?_;refine(bA) dn aY.b1<|(bA) dn aY.b0<|?_;refine WL.go rfl (OX.qM akc rfl rfl rfl ((Calls.ajA (Jz (x:=l1[i]) (y:=l2[i]) (qz.ext (St.cg aY)) (xm.ext (St.cg aY)))).mono ?_));rintro _ w6 ⟨rfl,s6⟩;refine⟨_,rfl,?_⟩;have bj:=aY.step s6;refine(br) (fun me=>?_) fun me=>?_
  ·
   have ku:¬strip l1[i]=strip l2[i]:=by simpa using me
   refine(cj) ?_;exact⟨by rw [decide_eq_false (fun e:l1.map strip=l2.map strip=>ku (by have h:=congrArg (fun l:List Rec=>l[i]?) e;simp only [List.getElem?_map,aq cX,aq yF,Option.map_some,Option.some.injEq] at h;exact h))],(St.cg bj)⟩
  have heq:strip l1[i]=strip l2[i]:=by simpa using me
  refine gp ?_;refine fx (i+1) ⟨bj.drop.drop,⟨by omega,KF gh cX yF heq,trivial⟩⟩
 simp at g18
 have cx:l1.map strip=l2.map strip:=by
  have h:=gh;rw [List.take_of_length_le (by omega),List.take_of_length_le (by omega)] at h;exact h
 refine(cj) ?_;exact⟨by rw [decide_eq_true cx],(St.cg st1)⟩
set_option maxHeartbeats 1600000 in
theorem sP{y:dT}{c1 c2:Option Addr}{p1 g1 p2 g2:Nat}(bF:St w M Z w []) (ht:oj prog Z w) (hu:Rd RR.gx 4 Z w ar r cr ab) (mF:Rd RR.aH 4 Z w a1 n1 e1 x.ah) (hr:Rd RR.ff 8 Z w a2 n2 e2 x.ao) (hR:ay ab) (hx:jM ab x) (hS:∀k,(valOf ab x.ah k).size≤1000) (hyr:Rd RR.ff 8 Z w c2 p2 g2 y.ao) (hy6:y.ao.length≤1000000) (hg:Rd RR.key 2 Z w ag ng eg cy):Calls prog 18 #[.slice ar r cr,.agg (x.row a1 n1 e1 a2 n2 e2).toArray,.agg (y.row c1 p1 g1 c2 p2 g2).toArray,.slice ag ng eg] w fun e w'=>e=.returned (.bool (uB ab x y cy))∧St w M Z w' []:=by
 have Wq:=hg.len;have OI:=hg.le
 have hx6:x.ao.length≤1000000:=by have:=hx.2.2.2.2.2.2.2.1;omega
 refine enter func18 rfl ntmps18 rfl<|?_;have aW:=bF;have st1:=aW.fr hu;have st2:=st1.fr mF;have aP:=st2.fr hr;have aU:=aP.fr hyr;have aY:=aU.fr hg;have bj:=aY.fact (B:=As.fz (FZ.JG prog)) ht (fun _ hx=>hx);refine(ef) bj fun b5 w1 mM gz bP=>?_;refine(ef) bP fun b6 w2 mY eO bQ=>?_;refine(bA) aM bQ.b1<|(gg) (sF (As.gr bQ.g7) (As.gr bQ.g6) (As.gr bQ.g5) hR hx) bQ fun w3 s3 bV=>?_;refine(br) (fun g15=>?_) fun g15=>?_
 ·
  exact gw g15
 refine(bA) aM bV.b1<|?_;have aL:=bV;refine(cW) adW (GO (x:=x) aL.e0 (As.gf aL.g2) (As.gr aL.g7) (As.gr aL.g6) (As.gr aL.g5) hx.2.2.2.2.2.2.2.1 (Nat.le_trans hx.2.2.2.2.1 (by decide)) hx.2.2.2.2.2.2.1) ?_;rintro _ w4 ⟨D,S,wb,lf,mO,Z1,rfl,xT,gQ,hfv,hdi,fE⟩;have aQ:=St.lv aL fE gQ;have aV:=aQ.fact (B:=As.fz (S.FV prog ab x)) hfv (fun _ hx=>hx);have bD:=aV.fr (hdi);refine bC ?_;refine WC.bU (σ:=Nat × (List (Key × Value))) (eI:=fun(q,ml)=>[(3,.slice ag ng eg),(5,.pointer (some ⟨b5,0,none⟩)),(6,.pointer (some ⟨b6,0,none⟩)),(9,.pointer (some ⟨wb,0,none⟩)),(19,.slice ag ng eg),(20,.int .i64 (ng:Int)),(21,.int .i64 (q:Int))]) (F:=fun(q,ml)=>[As.map Key.val S.m ml]) (I:=fun(q,ml)=>(q≤ng)∧(bd ab x.ah ml)∧((cy.take q).all (fun k=>decide ((mb (valOf ab x.ah) x k).1≠0))=true)∧True) (μ:=fun(q,ml)=>ng - q) (0,[]) (bD.p2) Sub.t (⟨Nat.zero_le _,bd.nil,rfl,trivial⟩)<|?_;rintro⟨q,ml⟩ w5 bp ⟨hq,hm,cx,_⟩;simp only [CA,NA] at bp hq hm cx ⊢;refine(br) (fun g22=>?_) fun g22=>?_
 ·
  simp at g22
  have zz:q<cy.length:=by omega
  refine ew ?_;obtain⟨gF,js,iU,aT,fl,bz,ck,di⟩:=Rd.at (As.gr bp.g10) zz;have bz:=RR.cL bz;subst bz;have ba:=bp.fg di ck;refine nx ?_;refine WP .r (PV.fC fP aT rfl rfl (by omega))<|(bA) av (As.om ba.g0)<|(fU) ba fun rI w6 QV Un aX=>?_;refine(dA) jT aX fun w7 jv jC bN=>?_;refine(bA) av bN.b0<|?_;have bR:=bN.p8.p8.p8.p8.p6;refine(cW) adX (Jx (x0:=x) (k:=cy[q]) bR.e5 (As.gf bR.g8) (As.gr bR.g7) hm xT hR hS hx.kr hx.2.2.2.2.2.2.2.1 hx.r4) ?_;rintro _ w8 ⟨fm,rfl,jf,_,jU⟩;have bE:=St.lr bR jU;refine WP .r (PV.xj (fs:=[_,_]) (f:=0) (off:=0) (T:=111) underlying111 rfl rfl (show ∀w,(isAgg 3).run _ w=.ok false w from isAgg3) rfl rfl)<|(br) (fun n0=>?_) fun n0=>?_
  ·
   have hw0:(mb (valOf ab x.ah) x cy[q]).1=0:=by simpa using n0
   have kj:cy.all (fun k=>decide ((mb (valOf ab x.ah) x k).1≠0))=false:=List.all_eq_false.2 ⟨cy[q],List.getElem_mem zz,by simp [hw0]⟩;refine(cj) ?_;exact⟨by unfold uB;rw [kj];rfl,(bE.k0).shrink gQ.up⟩
  have hwn:(mb (valOf ab x.ah) x cy[q]).1≠0:=by simpa using n0
  refine gp ?_;refine fx (q+1,fm) ⟨bE.p5.drop.p5.drop.p6.p6.p2,⟨by omega,jf,by rw [List.take_succ_eq_append_getElem zz,List.all_append,cx];simp [hwn],trivial⟩⟩
 simp at g22
 have kj:cy.all (fun k=>decide ((mb (valOf ab x.ah) x k).1≠0))=true:=by rw [List.take_of_length_le (by omega)] at cx;exact cx
 refine jx ?_;refine WC.df (m:=7) [] [3] [0,1,2,3,4,5,6] [] bp (ax.k4 M0 M1 M2 M3<|ax.k4 M4 M5 M6 M7<|ax.k4 M8 M9 lH my<|ax.cons rH<|ax.cons wM<|ax.cons DD<|ax.nil) mixed (by kernel_rfl) (by kernel_rfl) rfl<|(xh) eN SV.g8<|(jg) (fun w6 Sp Dj ba tX=>?_);simp only [CA,NA] at ba;have aX:=ba;refine OX.call adY rfl rfl ((uc aX.e0 (As.gr aX.g12) (As.gr aX.g10) hx6).mono ?_);rintro _ w7 ⟨o1,o2,o3,rfl,kI⟩;have bN:=St.lr aX kI;refine⟨_,rfl,kI.cT.size,_,rfl,_,_,_,bN,aA.k4<|aA.k4<|aA.k4<|aA.k4<|aA.nil,ax.k4 M1 M2 M3 M4<|ax.k4 M5 M6 M7 M8<|ax.k4 M9 lH my rH<|ax.cons wM<|ax.cons DD<|ax.cons OV<|ax.nil,?_⟩;refine(xh) eN SV.g7<|(nk) ?_;intro w8 BX bR;simp only [CM,NM,CA,NA,kL.it] at bR;have bE:=bR;refine(cW) adY (uc bE.e0 (As.gr bE.g12) (As.gr bE.g11) hy6) ?_;rintro _ w9 ⟨o4,o5,o6,rfl,oq⟩;have bZ:=St.lr bE oq;refine(gg) (DB (Ow.rd (As.gs bZ.g1) (by have:=List.length_filter_le (fun r:Rec=>!decide (r.key∈cy)) x.ao;unfold jI;omega)) (Ow.rd (As.gs bZ.g0) (by have:=List.length_filter_le (fun r:Rec=>!decide (r.key∈cy)) y.ao;unfold jI;omega))) bZ fun kN pI cG=>?_;refine nx ?_;refine WL.nil (EX.np ?_);refine(cj) ?_;exact⟨by unfold uB;rw [kj,Bool.true_and],(cG.k0).shrink gQ.up⟩
theorem DC{k:Key}(bF:St w M Z w []) (mF:Rd RR.aH 4 Z w a1 n1 e1 x.ah) (hr:Rd RR.ff 8 Z w a2 n2 e2 x.ao):Calls prog 45 #[.agg (x.row a1 n1 e1 a2 n2 e2).toArray,k.val] w fun e w'=>e=.returned (.tuple #[.string (mK x k),.bool (iC x k)])∧St w M Z w' []:=by
 refine enter func45 rfl ntmps45 rfl<|?_;have aW:=bF;have st1:=aW.fr mF;have st2:=st1.fr hr;refine(ef) st2 fun b2 w1 lA eZ aP=>?_;refine(ef) aP fun b3 w2 gO dB aU=>?_;refine(bA) av aU.b0<|(gg) (dF (k:=k)) aU fun w3 s3 aY=>?_;refine(br) (fun g9=>?_) fun g9=>?_
 ·
  have oi:iC x k=true:=by unfold iC;rw [g9];rfl
  have hkv:mK x k=(dX x.ah k).value:=by unfold mK;rw [if_pos g9]
  refine(bA) aM aY.b1<|(bA) av aY.b0<|(gg) (yR (As.gr aY.g3) (As.gr aY.g2)) aY fun w4 s4 bj=>?_;refine(CH) ?_;exact⟨by rw [oi,hkv],bj.k0⟩
 skip
 refine(bO) eN aY.b1<|(bA) av aY.b0<|?_;have bj:=aY;refine(cW) YT (qD (k:=k) bj.e0 (As.gr bj.g2)) ?_;rintro _ w4 ⟨f1,f2,f3,rfl,_,fE⟩;have bP:=St.lr bj fE;refine(fU) bP fun b6 w5 mY eO bQ=>?_;refine(dA) gJ bQ fun w6 jv jC bV=>?_;refine ew ?_;refine WC.fF (t:=28) (v:=.bool (!((aD x.ao k).isSome && decide ((aG x.ao k).az=x.ae)))) bV ?_<|?_
 ·
  refine(dW) (fun g22=>?_) (fun g22=>?_)
  ·
   exact(dq) (tG g22) (bV)
  refine(bO) aZ bV.b0<|(bO) aZ bV.b3<|?_;exact(dq) (tG g22) (bV)
 intro w7 aL;refine(br) (fun iG=>?_) fun iG=>?_
 ·
  have gk:aB k=false:=by simpa using g9
  have oi:iC x k=false:=by
   unfold iC
   rw [gk,Bool.false_or,Bool.eq_false_iff];intro hh;rw [Bool.and_eq_true] at hh;have h9:=hh.1;have h8:=of_decide_eq_true hh.2;have g:=iG
   simp at g
   exact g.elim (fun h=>by rw [h] at h9;cases h9) fun h=>h h8
  have hkv:mK x k=⟨#[]⟩:=by unfold mK;rw [if_neg (by rw [gk];simp),if_neg (by rw [oi];simp)]
  refine(CH) ?_;exact⟨by rw [oi,hkv],aL.k0⟩
 have gk:aB k=false:=by simpa using g9
 have oi:iC x k=true:=by unfold iC;rw [gk,Bool.false_or];simpa using iG
 have hkv:mK x k=(aG x.ao k).value:=by unfold mK;rw [if_neg (by rw [gk];simp),if_pos oi]
 refine(bO) iq aL.b0<|(CH) ?_;exact⟨by rw [oi,hkv],aL.k0⟩
theorem Cz{l:List Key}(bF:St w M Z w []) (ht:oj prog Z w) (hu:Rd RR.gx 4 Z w ar r cr ab) (mF:Rd RR.aH 4 Z w a1 n1 e1 x.ah) (hr:Rd RR.ff 8 Z w a2 n2 e2 x.ao) (hR:ay ab) (hx:jM ab x) (hS:∀k,(valOf ab x.ah k).size≤1000) (hg:Rd RR.key 2 Z w ag ng eg l) (hl:∀k∈l,gH ab k):Calls prog 17 #[.slice ar r cr,.agg (x.row a1 n1 e1 a2 n2 e2).toArray,.slice ag ng eg] w fun e w'=>e=.returned (.bool (l.all (lR ab x)))∧St w M Z w' []:=by
 have hlen:=hg.len;have hle:=hg.le;refine enter func17 rfl ntmps17 rfl<|?_;have aW:=bF;have st1:=aW.fr hu;have st2:=st1.fr mF;have aP:=st2.fr hr;have aU:=aP.fr hg;have aY:=aU.fact (B:=As.fz (FZ.JG prog)) ht (fun _ hx=>hx);refine(ef) aY fun b4 w1 jE bM bj=>?_;refine bC ?_;refine WC.bU (σ:=Nat) (eI:=fun q=>[(0,.slice ar r cr),(4,.pointer (some ⟨b4,0,none⟩)),(13,.slice ag ng eg),(14,.int .i64 (ng:Int)),(15,.int .i64 (q:Int))]) (F:=fun q=>[]) (I:=fun q=>(q≤l.length)∧((l.take q).all (lR ab x)=true)∧True) (μ:=fun q=>l.length - q) (0) (bj) Sub.t (⟨by omega,rfl,trivial⟩)<|?_;rintro q w2 bP ⟨hq,cx,_⟩;simp only [CA,NA] at bP hq cx ⊢;refine(br) (fun g16=>?_) fun g16=>?_
 ·
  simp at g16
  have zz:q<l.length:=by omega
  have CP:=hl _ (List.getElem_mem zz);refine ew ?_;obtain⟨gF,js,iU,aT,fl,bz,ck,di⟩:=Rd.at (As.gr bP.g2) zz;have bz:=RR.cL bz;subst bz;have bQ:=bP.fg di ck;refine nx ?_;refine WP .r (PV.fC fP aT rfl rfl (by omega))<|(bA) av (As.om bQ.g0)<|(fU) bQ fun b8 w3 zM jm bV=>?_;refine(dA) jT bV fun w4 jv jC aL=>?_;refine(bA) aM aL.b2<|(bA) av aL.b0<|?_;have aQ:=aL;refine(cW) adU (DC (k:=l[q]) aQ.e0 (As.gr aQ.g6) (As.gr aQ.g5)) ?_;rintro _ w5 ⟨rfl,ic⟩;have aV:=St.lr aQ ic;refine(bA) aM aV.b2<|(bA) av aV.b0<|?_;have bD:=aV;refine(cW) adV (Cx bD.e0 (As.gf bD.g3) CP (As.gr bD.g7) (As.gr bD.g6) (As.gr bD.g5) hR hx hS) ?_;rintro _ w6 ⟨rfl,mE⟩;have bp:=St.lr bD mE;refine kE ?_;refine WC.fF (t:=42) (v:=.bool (!lR ab x l[q])) bp ?_<|?_
  ·
   refine dC ?_;refine WL.gi (t:=34) rfl (fun pG=>?_) (fun pG=>?_)
   ·
    exact(dq) (by unfold lR;first | rfl | (simp only [pG];done) | (simp only [pG];rfl) | (simp [pG];done) | (simp_all;done)) (bp)
   refine dC ?_;refine WL.gi (t:=38) rfl (fun qC=>?_) (fun qC=>?_)
   ·
    exact(dq) (by unfold lR;first | rfl | (simp only [pG,qC];done) | (simp only [pG,qC];rfl) | (simp [pG,qC];done) | (simp_all;done)) (bp)
   exact(dq) (by unfold lR;first | rfl | (simp only [pG,qC];done) | (simp only [pG,qC];rfl) | (simp [pG,qC];done) | (simp_all;done)) (bp)
  intro w7 ba;refine(br) (fun jP=>?_) fun jP=>?_
  ·
   have eL:lR ab x l[q]=false:=by simpa using jP
   have Gi:l.all (lR ab x)=false:=List.all_eq_false.2 ⟨l[q],List.getElem_mem zz,by rw [eL];simp⟩;refine(cj) ?_;exact⟨by rw [Gi],ba.k0⟩
  have eL:lR ab x l[q]=true:=by simpa using jP
  refine gp ?_;refine fx (q+1) ⟨ba.drop.drop,⟨by omega,by rw [List.take_succ_eq_append_getElem zz,List.all_append,cx];simp [eL],trivial⟩⟩
 simp at g16
 have Gi:l.all (lR ab x)=true:=by rw [List.take_of_length_le (by omega)] at cx;exact cx
 refine(cj) ?_;exact⟨by rw [Gi],bP.k0⟩
set_option maxHeartbeats 400000
set_option maxHeartbeats 1600000 in
theorem wL(bF:St w M Z w []) (ht:oj prog Z w):Calls prog 6 #[] w fun e w'=>∃Z':Nat→Prop,e=.returned (.bool true)∧St w M Z' w' []:=by
 refine enter func6 rfl ntmps6 rfl<|?_;have aW:=bF;have st1:=aW.fact (B:=As.fz (FZ.JG prog)) ht (fun _ hx=>hx);refine gp ?_;refine WP .r (PV.cD (us:=[.bool false,.slice none 0 0,.int .i64 1,.int .i64 3]) Yt rfl rfl rfl)<|?_;refine WL.go rfl (OX.bB (us:=[.bool false,.slice none 0 0,.int .i64 1,.int .i64 3]) KP rfl rfl rfl rfl fun rI w1 QV Un=>?_);have st2:=St.xf (R:=RR.gx) (E:=69) (k:=4) (a:=some ⟨rI,0,none⟩) (n:=1) (c:=1) (xs:=[r3]) st1 QV.ext (OR.eP Un (Nat.zero_le _) rfl (by simp [Value.oneCell']) ⟨none,0,0,rfl,SR.nil _ _ _ _⟩) (fun x hx=>by simp [aO] at hx;subst hx;exact QV.ge);refine cV ?_;have aP:=st2.bX (by simp);refine dC ?_;refine WP .r (PV.cD (us:=((⟨0,[],[]⟩:dT).row none 0 0 none 0 0)) Ys rfl rfl rfl)<|nx ?_;refine WL.c1 (u:=K0.val) (mc (n:=0) (ab:=[r3]) (As.gr aP.g0)) (by rw [show aS [r3] 0=K0 from yz]) aP fun w2 s2 aU=>?_;refine WL.go rfl (OX.bB (us:=K0.cells) fS rfl rfl rfl rfl fun LJ w3 Q9 ZO=>?_);have aY:=St.xf (R:=RR.key) (E:=58) (k:=2) (a:=some ⟨LJ,0,none⟩) (n:=1) (c:=1) (xs:=[K0]) aU Q9.ext (OR.eP ZO (Nat.zero_le _) rfl (by simp [Key.cells,Value.oneCell']) rfl) (fun x hx=>by simp [aO] at hx;subst hx;exact Q9.ge);have bj:=aY.bX (by simp);have bP:=bj;refine(cW) YL (pe (x:=⟨0,[],[]⟩) (s':=s1) oC bP.e0 (As.gr bP.g1) (Rd.nil _ _ _ _) (Rd.nil _ _ _ _) (As.gr bP.g0) (As.gf bP.g2) XU ac9 (fun k hk=>by simp at hk;subst hk;exact Qd) (by simp) (ajD _) (by simp)) ?_;rintro _ w4 ⟨x1,n1,e1,x2,n2,e2,xg,ng,eg,Z1,rfl,oZ,hi1,jH,fE⟩;have bQ:=St.lv bP fE oZ;rw [Ts] at hi1 jH ⊢;obtain rfl:n1=0:=hi1.len;obtain rfl:n2=1:=jH.len;have bV:=bQ.Xb (Tt);obtain rfl:ng=1:=((As.gs bV.g0)).len;have aL:=bV.bX (by simp);have aQ:=aL.fr (hi1.mono (fun _ h=>.inl h));have aV:=aQ.fr (jH.mono (fun _ h=>.inl h));refine(fU) aV fun b2 w5 lA eZ bD=>?_;refine(dA) fL bD fun w6 jv jC bp=>?_;refine(bA) aM bp.b0<|?_;have ba:=bp;refine(cW) C4 (gu (x:=(⟨0,[],[iP 0 v3]⟩:dT)) ba.e0 (As.gr ba.g2) (As.gr ba.g1) (by simp) (by simp)) ?_;rintro _ w7 ⟨f1,f2,f3,f4,f5,f6,Z2,rfl,kZ,kI⟩;have aX:=St.lv ba kI kZ;obtain rfl:f2=0:=((As.gs aX.g0)).len;obtain rfl:f5=1:=((As.gs aX.g1)).len;have bN:=aX.bX (by simp);refine(fU) bN fun b5 w8 mM gz bR=>?_;refine(dA) fL bR fun w9 sr nc bE=>?_;refine dy ?_;obtain⟨avA,avB,WJ,aqx,aqy,aqz⟩:=Ow.at (As.gs bE.g2) (by simp) (show [iP 0 v3][0]?=some (iP 0 v3) from rfl);refine(bO) eN bE.b0<|?_;refine WP .r (PV.fC jk (i:=0) WJ rfl rfl Nat.zero_lt_one)<|nx ?_;refine WL.go rfl (OX.SO (i:=0) (f:=2) sz9 (As.gs bE.g2) WJ rfl (by decide) rfl rfl rfl (iP 0 v4) (fun r hl ⟨a,n,c,h1,h2,h3⟩=>⟨a,n,c,by rw [h1];rfl,h2,h3⟩) fun kN s8 h8=>?_);have bZ:=bE.p2.iY s8 h8 (fun x h=>.inl h);have cG:=bZ.Xb ((show [iP 0 v3].set 0 (iP 0 v4)=[iP 0 v4] from rfl));have cF:=cG.bX (by simp);refine(bA) aM cF.b3<|?_;have cP:=cF;refine(cW) adP (sG (x:=(⟨0,[],[iP 0 v3]⟩:dT)) cP.e0 (As.gf cP.g9) (As.gr cP.g8) (As.gr cP.g5) (As.gr cP.g4) oC gb3 vs3 up3) ?_;rintro _ kO ⟨k1,k0,k2,Z3,rfl,qX,wG⟩;have cv:=St.lv cP wG qX;obtain rfl:k0=0:=((As.gs cv.g0)).len.trans (congrArg List.length au3);refine(bA) aM cv.b2<|?_;have cK:=cv;refine(cW) adP (sG (x:=(⟨0,[],[iP 0 v4]⟩:dT)) cK.e0 (As.gf cK.g10) (As.gr cK.g9) (As.gr cK.g3) (As.gr cK.g1) oC gb4 vs3 up3) ?_;rintro _ qW ⟨k3,k5,k4,Z4,rfl,xU,tR⟩;have ey:=St.lv cK tR xU;obtain rfl:k5=2:=((As.gs ey.g0)).len.trans au4;refine(dW) (fun jP=>?_) (fun jP=>?_)
 ·
  refine(dW) (fun BD=>?_) (fun BD=>?_)
  ·
   refine(dW) (fun g51=>?_) (fun g51=>?_)
   ·
    refine(dW) (fun JM=>?_) (fun JM=>?_)
    ·
     refine(bA) aM ey.b5<|nx ?_;have dz:=ey;refine(cW) YM (sH (x:=(⟨0,[],[iP 0 v3]⟩:dT)) (l:=[K0]) dz.e0 (As.gf dz.g11) (As.gr dz.g10) (As.gr dz.g7) (As.gr dz.g6) (As.gr dz.g8) oC gb3 vs3 up3 Kx (by simp)) ?_;rintro _ uX ⟨rfl,we⟩;have eC:=St.lr dz we;rw [rg3];refine(bA) aM eC.b3<|nx ?_;have dh:=eC;refine(cW) YM (sH (x:=(⟨0,[],[iP 0 v4]⟩:dT)) (l:=[K0]) dh.e0 (As.gf dh.g11) (As.gr dh.g10) (As.gr dh.g4) (As.gr dh.g2) (As.gr dh.g8) oC gb4 vs3 up3 Kx (by simp)) ?_;rintro _ zN ⟨rfl,Ch⟩;have dV:=St.lr dh Ch;rw [rg4];refine dC ?_;refine WL.go rfl (OX.bB (us:=[.slice xg 1 eg]) KS rfl rfl rfl rfl fun b71 uY ZC ZD=>?_);have db:=dV.fb ZC ZD;refine WL.c1 (u:=.bool true) (qE (l:=[[K0]]) (SR.lr<|SR.eP (A:=fun _=>True) (x:=[K0]) (As.gb db.g0) trivial rfl (by simp [Value.oneCell']) ⟨xg,1,eg,rfl,SR.lr (As.gr db.g9)⟩)) (by rw [show decide ([[K0]].flatten.Nodup)=true by simp]) db fun zw s16 dt=>?_;refine dC ?_;refine WL.go rfl (OX.bB (us:=[.slice xg 1 eg,.slice xg 1 eg]) Yq rfl rfl rfl rfl fun b77 C9 aa7 aa8=>?_);have du:=dt.fb aa7 aa8;refine WL.c1 (u:=.bool false) (qE (l:=[[K0],[K0]]) (SR.lr<|SR.Ss (rows:=[[.slice xg 1 eg],[.slice xg 1 eg]]) (xs:=[[K0],[K0]]) (As.gb du.g0) rfl (by simp) (by simp [Value.oneCell']) (by simp) (fun i x r hx hr=>by(have h1:=List.mem_of_getElem? hx;have h2:=List.mem_of_getElem? hr;simp at h1 h2;subst h1;subst h2;exact⟨xg,1,eg,rfl,SR.lr (As.gr du.g10)⟩)))) (by rw [show decide ([[K0],[K0]].flatten.Nodup)=false by simp]) du fun CN s18 eK=>?_;refine dC ?_;refine WP .r (PV.cD (us:=((⟨0,[],[]⟩:dT).row none 0 0 none 0 0)) Ys rfl rfl rfl)<|(bA) aM (cI.range (As.gb eK.g7))<|nx ?_;have dR:=eK;refine(cW) adM (sP (x:=⟨0,[],[]⟩) (y:=(⟨0,[],[iP 0 v3]⟩:dT)) (cy:=[K0]) dR.e0 (As.gf dR.g13) (As.gr dR.g12) (Rd.nil _ _ _ _) (Rd.nil _ _ _ _) oC gb0 vs3 (As.gr dR.g8) (by simp) (As.gr dR.g10)) ?_;rintro _ IF ⟨rfl,Jg⟩;have eF:=St.lr dR Jg;rw [sd3];refine(cj) ?_;exact⟨_,rfl,eF.k0⟩
    exact gw JM
   exact gw g51
  exact gw BD
 ·
  exact gw jP
 -- xO kC G62 G69 G74 G81
set_option maxHeartbeats 400000
set_option maxHeartbeats 8000000 in
set_option maxRecDepth 8000 in
theorem uL{l:List Int}{al:Option Addr}{nl cl:Nat}(bF:St w M Z w []) (ht:oj prog Z w) (hl:Rd RR.int 1 Z w al nl cl l):CR prog 3 #[.slice al nl cl] w (.bool true):=by
 refine enter func3 rfl ntmps3 rfl<|?_;have aW:=St.rb bF;have st1:=aW.fr hl;have st2:=st1.fact (B:=As.fz (FZ.JG prog)) ht (fun _ hx=>hx);refine(gg) (Ir) st2 fun w1 s1 aP=>?_;refine(br) (fun g19=>?_) fun g19=>?_
 ·
  skip
  refine cV ?_;refine WL.go rfl (OX.call (xs:=[]) (args:=[]) cf6 rfl rfl ((wL (aP.e0) (As.gf aP.g0)).mono ?_));rintro _ _ ⟨_,rfl,hzz⟩;refine⟨_,rfl,?_⟩;refine(cj) ?_;exact⟨rfl,bm.trans (St.cg aP) (hzz.cT.cT (fun _ h=>by obtain⟨A,hA,_⟩:=h;cases hA))⟩
 have hl4:nl≤400:=by simpa using g19
 refine ew ?_;have aU:=aP;refine(cW) cf7 (I7 aU.e0 (As.gr aU.g1) hl4) ?_;rintro _ w2 ⟨d,rfl,tu⟩;have aY:=St.lr aU tu;refine jx ?_;have bj:=aY;refine(cW) cf8 (Jr bj.e1 (As.gf bj.g1) (m:=7) (by omega) (by omega)) ?_;rintro _ w3 ⟨ab,y0,ra,y1,y2,rn,rc,m1,e1,m2,e2,Z1,rfl,hR,zC,hr8,hlc,S8,Vl,hyi,hyr,oZ,eE⟩;have bP:=St.lv bj eE oZ;have bQ:=bP.p2.drop;have bV:=bQ.fr (Vl);have aL:=bV.fr (hyi);have aQ:=aL.fr (hyr);have qf:=hR.len;have NK:=((As.gr aQ.g2)).len;refine(fU) aQ fun b5 w4 mM gz aV=>?_;refine(dA) fL aV fun w5 jv jC bD=>?_;refine pQ ?_;refine WC.jY (σ:=Nat × dT × (Option Addr) × Nat × Nat × (Option Addr) × Nat × Nat × (Nat→Prop)) (eI:=fun(i,y,a1,n1,e1,a2,n2,e2,Z5)=>[(3,.pointer (some ⟨d,0,none⟩)),(4,.slice ra rn rc),(5,.pointer (some ⟨b5,0,none⟩)),(6,.int .i64 (i:Int))]) (F:=fun(i,y,a1,n1,e1,a2,n2,e2,Z5)=>[As.jA 74 d,As.blk b5 31 (y.row a1 n1 e1 a2 n2 e2),As.ro RR.aH 4 a1 n1 e1 y.ah,As.ro RR.ff 8 a2 n2 e2 y.ao]) (I:=fun(i,y,a1,n1,e1,a2,n2,e2,Z5)=>(i≤4)∧(LC ab y)∧True) (μ:=fun(i,y,a1,n1,e1,a2,n2,e2,Z5)=>4 - i) (Zf:=fun(i,y,a1,n1,e1,a2,n2,e2,Z5)=>Z5) (0,y0,y1,m1,e1,y2,m2,e2,Z1) (bD.p1.p2.p2.p4) Sub.t (⟨Nat.zero_le _,hlc,trivial⟩)<|?_;rintro⟨i,y,a1,n1,e1,a2,n2,e2,Z5⟩ w6 bp ⟨hi4,ub,_⟩;simp only [CA,NA] at bp hi4 ub ⊢;have LK:=ub.lb.ok.ze;have UU:y.ao.length≤4000:=ub.lb.ok.ki.len;refine(br) (fun n0=>?_) fun n0=>?_
 ·
  simp at n0
  refine ew ?_;refine WC.df (m:=7) [6] [2,3] [1,2,0,3,4,5,6] [] bp (ax.k4 M1 M2 M3 M4<|ax.cons M5<|ax.nil) mixed (by kernel_rfl) (by kernel_rfl) rfl<|(jg) (fun w7 Lt u4 ba oa=>?_);simp only [CA,NA] at ba;have aX:=ba;refine OX.call YJ rfl rfl ((ob aX.e1 (by decide) (by decide)).mono ?_);rintro _ w8 ⟨ca,cn,cc,ch,rfl,rD,CO,jU⟩;have bN:=St.lr aX jU;have RP:=((As.gs bN.g1)).len;have aoh:=St.fresh bN.p1;have bR:=bN.p1.bX (by omega);refine⟨_,rfl,jU.cT.size,_,rfl,_,_,_,bR,aA.k4<|aA.k2<|aA.cons<|aA.nil,ax.k4 M2 M3 M4 M5<|ax.cons M6<|ax.nil,?_⟩;refine(nj) aM SV.g0<|(jg) (fun w9 Sp Dj bE tX=>?_);simp only [CA,NA] at bE;have bZ:=bE;refine OX.call cf9 rfl rfl ((qF (x:=y) bZ.e0 (As.gr bZ.g3) (As.gr bZ.g4) (As.gr bZ.g0) ub.lb.ok.lE ub.lb.aH CO (by omega)).mono ?_);rintro _ kN ⟨z,b1,b2,j1,d1,j2,d2,er,Z8,rfl,aoi,V6,GX,hG,RQ,Q2,hap,_,GW,RU,qG,iL⟩;have cG:=St.lv bZ iL qG;have cF:=cG.fr (GW);have cP:=cF.fr (RU);refine⟨_,rfl,iL.cT.size,_,rfl,_,_,_,cP,aA.k4<|aA.k4<|aA.cons<|aA.nil,ax.k4 M4 M5 M6 M7<|ax.cons M8<|ax.nil,?_⟩
  iterate 3 refine DG.a ?_
  refine(nk) ?_;intro kO ru cv;simp only [CM,NM,CA,NA,kL.it] at cv;refine(dA) fL cv.p4 fun qW sr nc cK=>?_;refine WL.nil (EX.np ?_);have ey:=cK.p5.drop;have dz:=ey.p5.drop;have hlz:=ub.apply hap aoi V6 GX hG RQ;refine ew ?_;have eC:=dz.fc RR.OQ 41 1;refine ew ?_;have dh:=eC.p5;refine(cW) kn (bJ dh.e1 (m:=3) (by omega)) ?_;rintro _ uX ⟨z0,rfl,MO,oJ,we⟩;have dV:=St.lr dh we;have oJ:=oJ (by omega);obtain⟨z3,rfl⟩:∃z3:Nat,z0=z3:=⟨z0.toNat,by omega⟩;refine dC ?_;have db:=dV.fact (B:=As.fz (JL [] [])) (JL.nil _ _) (fun _ hx=>hx);refine WC.jY (σ:=Nat × dT × (List (Option Addr × Nat × Nat)) × (List (List Key)) × (Option Addr) × Nat × Nat × (Option Addr) × Nat × Nat × (Nat→Prop) × (Option Addr) × Nat × Nat) (eI:=fun(m,x,hp,kp,a1,n1,e1,a2,n2,e2,Z6,o9,n5,sy)=>[(3,.pointer (some ⟨d,0,none⟩)),(4,.slice ra rn rc),(5,.pointer (some ⟨b5,0,none⟩)),(6,.int .i64 (i:Int)),(7,.slice o9 n5 sy),(8,.int .i64 ((m:Int) - 1))]) (F:=fun(m,x,hp,kp,a1,n1,e1,a2,n2,e2,Z6,o9,n5,sy)=>[As.os RR.OQ 41 1 o9 n5 sy (hp),As.fz (JL hp kp),As.jA 74 d,As.blk b5 31 (x.row a1 n1 e1 a2 n2 e2),As.ro RR.aH 4 a1 n1 e1 x.ah,As.ro RR.ff 8 a2 n2 e2 x.ao]) (I:=fun(m,x,hp,kp,a1,n1,e1,a2,n2,e2,Z6,o9,n5,sy)=>(m≤3)∧(hp.length+m≤3)∧(LC ab x)∧(kp.flatten.Nodup)∧(∀k∈kp.flatten,aK x k=true)∧True) (μ:=fun(m,x,hp,kp,a1,n1,e1,a2,n2,e2,Z6,o9,n5,sy)=>m) (Zf:=fun(m,x,hp,kp,a1,n1,e1,a2,n2,e2,Z6,o9,n5,sy)=>Z6) (z3+1,z,[],[],b1,j1,d1,b2,j2,d2,_,none,0,0) (db.p4.p5.p5.p4.p4.p5) Sub.t (⟨by omega,by simp;omega,hlz,by simp,by simp,trivial⟩)<|?_;rintro⟨m,x,hp,kp,a1,n1,e1,a2,n2,e2,Z6,o9,n5,sy⟩ zN dt ⟨IE,Sk,xe,rB,j8,_⟩;simp only [CA,NA] at dt IE Sk xe rB j8 ⊢;have J5:=((As.gs dt.g0)).len;have hxl:=xe.lb.ok.ze;have avG:x.ao.length≤4000:=xe.lb.ok.ki.len;refine(br) (fun jP=>?_) fun jP=>?_
  ·
   simp at jP
   refine kE ?_;have du:=dt.p2;refine(cW) YK (qH du.e1 (As.gr du.g7) (by omega) (by omega) (by decide) (by decide)) ?_;rintro _ uY ⟨ga,gn,gc,gl,rfl,ag3,yh,wE⟩;have eK:=St.lr du wE;have RP:=((As.gs eK.g1)).len;have aoj:=St.fresh eK.p1;have dR:=eK.p1.bX (by omega);obtain⟨f,s',y9,uy,wB,dP,rq,RV,hrq,he0,yY,hwy,aok,hvl⟩:=xe.req hR yh (by omega);refine gp ?_;have eF:=dR.p1;refine(cW) kn (bJ eF.e1 (m:=3) (by omega)) ?_;rintro _ zw ⟨z4,rfl,MN,yV,EJ⟩;have eY:=St.lr eF EJ;have yV:=yV (by omega);refine(br) (fun Rq=>?_) fun Rq=>?_
   ·
    skip
    refine(bA) aM eY.b4<|nx ?_;have eG:=eY;refine(cW) adJ (wH eG.e0 (As.gr eG.g8) (As.gr eG.g5) (As.gr eG.g6) (As.gr eG.g1) ((xe.lb.start wB (by omega)).sz hR (by omega)) y9) ?_;rintro _ C9 ⟨A7,Z7,rfl,Oz,LD,wg⟩;have iv:=St.lv eG wg LD;have ja:=iv.fr (Oz.u);have lh:=ja.fr (Oz.i);have iw:=lh.fr (Oz.r);have gA:=iw.fr (Oz.g);have oe:=gA.fr (Oz.f);have lj:=oe.fr (Oz.p);refine(fU) lj fun iI CN lV fN iV=>?_;refine(dA) qt iV fun IF ED tj rz=>?_;refine dC ?_;refine WC.df (m:=8) [6,7] [2,3] [1,2,0,3,4,5,6,7] [] rz (ax.k4 M0 M1 M2 M3<|ax.k4 M4 M5 M6 M8<|ax.k4 M9 lH my rH<|ax.k4 wM DD OV UZ<|ax.nil) mixed (by kernel_rfl) (by kernel_rfl) rfl<|(jg) (fun MJ Lt u4 mG oa=>?_);simp only [CA,NA] at mG;have tw:=mG.p7;refine OX.call kn rfl rfl ((bJ tw.e1 (m:=25) (by omega)).mono ?_);rintro _ Ot ⟨z5,rfl,ag2,Jp,EG⟩;have mu:=St.lr tw EG;have Jp:=Jp (by omega);obtain⟨mo,rfl⟩:∃mo:Nat,z5=mo:=⟨z5.toNat,by omega⟩;refine⟨_,rfl,EG.cT.size,_,rfl,_,_,_,mu,aA.k4<|aA.k4<|aA.k4<|aA.k4<|aA.cons<|aA.nil,ax.k4 M1 M2 M3 M4<|ax.k4 M5 M6 M7 M8<|ax.k4 M9 lH my rH<|ax.k4 wM DD OV UZ<|ax.nil,?_⟩;refine(nj) ib SV.g0<|(jg) (fun Rp Sp Dj wK tX=>?_);simp only [CA,NA] at wK;have mH:=wK;refine OX.call adK rfl rfl ((Cu hR mH.e0 (As.gf mH.g16) ⟨(As.gr mH.g7),(As.gr mH.g6),(As.gr mH.g5),(As.gr mH.g4),(As.gr mH.g3),(As.gr mH.g2)⟩ (xe.lb.start wB (by omega)) y9 (by omega)).mono ?_);rintro _ Wo ⟨t8,A8,i8,er8,Z9,rfl,hk8,aa1,OA,UW,WM⟩;have Ct:=St.lv mH WM UW;obtain⟨rfl,BH⟩:=aa1 xe.bh;have hcn:=BH.cancel;have xZ:=Ct.fr (OA.u);have Dx:=xZ.fr (OA.i);have Jm:=Dx.fr (OA.r);have RN:=Jm.fr (OA.g);have aaW:=RN.fr (OA.f);have LF:=aaW.fr (OA.p);refine⟨_,rfl,WM.cT.size,_,rfl,_,_,_,LF,aA.k4<|aA.k4<|aA.k4<|aA.k4<|aA.k4<|aA.k2<|aA.cons<|aA.nil,ax.k4 M7 M8 M9 lH<|ax.k4 my rH wM DD<|ax.k4 OV UZ M17 M18<|ax.k4 M19 M20 M21 M22<|ax.nil,?_⟩
    iterate 4 refine DG.a ?_
    refine(nk) ?_;intro Wp Rg ahj;simp only [CM,NM,CA,NA,kL.it] at ahj;refine(dA) qt ahj.p7 fun w25 Sj xt ahk=>?_;refine cV ?_;refine WL.nil (EX.np ?_);refine gp ?_;refine WL.gi (t:=68) rfl (fun Sg=>?_) (fun Sg=>?_)
    ·
     exact gw Sg
    refine(br) (fun nW=>?_) fun nW=>?_
    ·
     exact gw nW
    refine(bA) ib ahk.b0<|?_;have JA:=ahk;refine(cW) adL (tZ JA.e0 ⟨(As.gr JA.g6),(As.gr JA.g5),(As.gr JA.g4),(As.gr JA.g3),(As.gr JA.g2),(As.gr JA.g1)⟩ (hk8.sz hR (by omega))) ?_;rintro _ w26 ⟨rs8,b1x,b2x,j1x,d1x,j2x,d2x,Z10,rfl,_,aa2,aaY,aon,ahl,ahm⟩;have aoo:=St.lv JA ahm ahl;subst aa2;have aop:=aoo.fr (aaY);have aoq:=aop.fr (aon);refine(dA) fL aoq.p19 fun w27 Sn Hr aor=>?_;refine nx ?_;have aos:=aor.p20.drop;have ahn:=aos.p20.drop;refine(bO) fA ahn.b3<|?_;refine WL.go rfl (OX.bB (us:=[.slice A8.p A8.np A8.cp]) KS rfl rfl rfl rfl fun b77 w28 aa7 aa8=>?_);have aho:=ahn.fb aa7 aa8;refine WL.ap rfl rfl aho.p19 (SR.eP (A:=fun _=>True) (x:=((A8.p,A8.np,A8.cp):Option Addr × Nat × Nat)) (As.gb aho.g0) trivial rfl (by simp [Value.oneCell']) rfl) fun a78 aot w29 avM avN aa9=>?_;refine cV ?_;have aou:=aa9.fact (B:=As.fz (JL (hp++[(A8.p,A8.np,A8.cp)]) (kp++[t8.cy]))) (JL.snoc (As.gf aa9.g20) (As.gr aa9.g6)) (fun _ hx=>hx);have aov:=aou.p21.drop;refine mT ?_;refine fx (m - 1,⟨t8.base.ae,t8.base.ah,gI t8.stack t8.base.ao⟩,_,kp++[t8.cy],b1x,j1x,d1x,b2x,j2x,d2x,_,a78,(n5+1),aot) ⟨aov.p2.drop.p5.drop.p5.drop.p5.drop.p5.drop.p5.drop.p5.drop.p5.drop.p6.drop.p6.drop.p6.drop.p6.drop.p6.drop.p6.drop.p6.drop.p4.p3.p5.p3.p4,⟨by omega,by rw [List.length_append,List.length_singleton];omega,xe.task hk8.ok.base BH,Bm rB hcn.2.2.2.2 j8 fun k hk=>(hcn.2.2.2.1 k hk).2,Qc (fun k hk=>hcn.2.2.1 k (j8 k hk)) hcn.2.1,trivial⟩⟩
   skip
   refine(bA) aM eY.b4<|nx ?_;have eG:=eY;refine(cW) YL (pe (x:=x) (s':=s') hR eG.e0 (As.gr eG.g8) (As.gr eG.g5) (As.gr eG.g6) (As.gr eG.g1) (As.gf eG.g9) y9 uy wB (by omega) dP rq) ?_;rintro _ C9 ⟨q1,q2,q3,q4,q5,q6,o1,o2,o3,Z11,rfl,ahp,Sd,hqc,wg⟩;have iv:=St.lv eG wg ahp;rw [yY] at Sd hqc;rw [yY,he0];have ja:=iv.CE (B:=As.os RR.key 58 2 o1 o2 o3 (jZ s'.cy)) (by unfold ES.list;rw [if_pos he0]);have lh:=ja.fr (Sd);have iw:=lh.fr (hqc);have avO:=((As.gs iw.g2)).len;have hsl:=xo s'.cy;have aow:=St.fresh iw.p2;have gA:=iw.p2.bX (by omega);have UY:LC ab s'.b:=yY ▸ RV
   have aba:gl.all (lR ab s'.b)=true:=List.all_eq_true.2 fun k hk=>H5 hwy.aH (aok k hk) hvl
   have abb:=H7 hwy xe.lb.ok.zd.st UY.lb.ok.zd.st;refine(fU) gA fun CB CN aft UK oe=>?_;refine(dA) fL oe fun IF Wb Wc lj=>?_;refine mT ?_;refine WL.gi (t:=89) rfl (fun g89=>?_) (fun g89=>?_)
   ·
    exact gw g89
   refine(bA) aM lj.b0<|nx ?_;have iV:=lj;refine(cW) YM (Cz (x:=s'.b) iV.e0 (As.gf iV.g13) (As.gr iV.g12) (As.gr iV.g3) (As.gr iV.g2) hR UY.lb.Vn (UY.lb.small hR) (As.gr iV.g5) wB) ?_;rintro _ MJ ⟨rfl,wA⟩;have rz:=St.lr iV wA;rw [aba];refine(bA) aM (cI.range (As.gb rz.g8))<|(bA) aM rz.b0<|nx ?_;have mG:=rz;refine(cW) adM (sP (x:=x) (y:=s'.b) mG.e0 (As.gf mG.g13) (As.gr mG.g12) (As.gr mG.g9) (As.gr mG.g10) hR xe.lb.Vn (xe.lb.small hR) (As.gr mG.g2) (by have:=UY.lb.ok.ki.len;show s'.b.ao.length≤_;have h5:s'.b.ao.length≤4000:=this;omega) (As.gr mG.g1)) ?_;rintro _ Ot ⟨rfl,EG⟩;have tw:=St.lr mG EG;rw [abb];refine dC ?_;refine WC.gT rfl<|cV ?_;refine WC.df (m:=5) [] [4] [1,2,3,4,0] [(3,.sl 41 1 [.slice o1 o2 o3])] tw (ax.k4 M0 M1 M2 M3<|ax.k4 M4 M5 M7 M8<|ax.k4 M9 lH my rH<|ax.cons wM<|ax.nil) mixed (by kernel_rfl) (by kernel_rfl) rfl<|?_
   iterate 2 refine DG.a ?_
   refine DG.side (s:=.sl 41 1 [.slice o1 o2 o3]) rfl rfl rfl rfl rfl rfl (fun wx Zx Rx Cc fV=>OX.bB (us:=[.slice o1 o2 o3]) KS rfl rfl rfl rfl fun b wy nw hb=>⟨nw.ext.size,_,rfl,⟨b,rfl⟩,fV.fb nw hb⟩)<|?_;rintro _ ⟨aox,rfl⟩;refine(jg) (fun Rp UG Gd mu qY=>?_);simp only [CA,NA] at mu;refine OX.oM adn rfl rfl rfl (As.gs mu.g6) (SR.eP (A:=fun _=>True) (x:=((o1,o2,o3):Option Addr × Nat × Nat)) (show cI _ aox _ _ from mu.ok _ (.tail _ (.tail _ (.tail _ (.tail _ (.tail _ (.tail _ (.tail _ (.tail _ (.tail _ (.tail _ (.tail _ (.tail _ (.tail _ (.tail _ (qY _ (.head _))))))))))))))))) trivial rfl (by simp [Value.oneCell']) rfl) (by omega) (by omega) (Nat.zero_le _) fun aoy ahq Wo ahr ahs aht aqC=>?_;have wK:=mu.p6.iY ahs ahr aht;refine⟨ahs.size,_,rfl,_,_,_,wK,aA.k4<|aA.k4<|aA.k4<|aA.k2<|aA.nil,ax.k4 M1 M2 M3 M4<|ax.k4 M5 M6 M7 M8<|ax.k4 M9 lH my rH<|ax.cons wM<|ax.nil,?_⟩;refine(nj) aM SV.g0<|(nk)<|?_;intro Wp afm mH;simp only [CM,NM,CA,NA,kL.it] at mH;refine(dA) fL mH.p9 fun w25 ZE ZF Ct=>?_;refine nx ?_;refine WL.nil (EX.np ?_);have xZ:=Ct.fact (B:=As.fz (JL (hp++[(o1,o2,o3)]) (kp++[jZ s'.cy]))) (JL.snoc (As.gf Ct.g9) (As.gr Ct.g4)) (fun _ hx=>hx);have Dx:=xZ.q0.drop;have Jm:=Dx.q0.drop;have RN:=Jm.q0.drop;refine gp ?_;refine fx (m - 1,s'.b,_,kp++[jZ s'.cy],q1,q2,q3,q4,q5,q6,_,aoy,(n5+1),ahq) ⟨RN.p2.drop.p3.drop.p3.drop.p6.drop.p4.p2.p5.p3.p4,⟨by omega,by rw [List.length_append,List.length_singleton];omega,yY ▸ RV,Bm rB (H6 _) j8 fun k hk=>(hwy.cy k ((nt _ _).1 hk)).2.1,Qc (fun k hk=>hwy.aK (j8 k hk)) fun k hk=>hwy.Tf k ((nt _ _).1 hk),trivial⟩⟩
  skip
  refine pQ ?_;refine WL.c1 (u:=.bool true) (qE (JL.ksl ((JL hp kp).mono (fun _ h=>.inl h) (As.gf dt.g1)) (Ow.rd (As.gs dt.g0) (by omega)))) (by rw [decide_eq_true rB]) dt fun uY s15 du=>?_;refine dy ?_;refine WC.gT rfl<|ew ?_;have eK:=du.p2;refine(cW) kn (bJ eK.e1 (m:=3) (by omega)) ?_;rintro _ zw ⟨z6,rfl,agc,Jb,EJ⟩;have dR:=St.lr eK EJ;have Jb:=Jb (by omega);refine(br) (fun Ck=>?_) fun Ck=>?_
  ·
   skip
   refine WC.df (m:=8) [6,7] [2,3] [1,2,0,3,4,5,6,7] [] dR (ax.k4 M1 M2 M3 M4<|ax.k4 M5 M6 M7 M8<|ax.nil) mixed (by kernel_rfl) (by kernel_rfl) rfl<|(jg) (fun C9 Lt u4 eF oa=>?_);simp only [CA,NA] at eF;have eY:=eF;refine OX.call kn rfl rfl ((bJ eY.e1 (m:=200) (by omega)).mono ?_);rintro _ CN ⟨zb,rfl,ag5,Jq,ua⟩;have eG:=St.lr eY ua;have Jq:=Jq (by omega);refine⟨_,rfl,ua.cT.size,_,rfl,_,_,_,eG,aA.k4<|aA.k4<|aA.cons<|aA.nil,ax.k4 M1 M2 M3 M4<|ax.k4 M5 M6 M7 M8<|ax.nil,?_⟩;refine(nj) aM SV.g2<|(jg) (fun IF Sp Dj iv tX=>?_);simp only [CA,NA] at iv;have ja:=iv;refine OX.call adN rfl rfl ((yW ja.e0 (As.gr ja.g4) (As.gr ja.g5) xe.lb.ok.lE xe.lb.ok.small (by omega) (by omega)).mono ?_);rintro _ MJ ⟨rs,b1,b2,m1x,d1x,m2x,d2x,va,vn,vc,Z12,rfl,jQ,GW,RU,ahu,wA⟩;have lh:=St.lv ja wA ahu;have iw:=lh.fr (GW);have gA:=iw.fr (RU);refine⟨_,rfl,wA.cT.size,_,rfl,_,_,_,gA,aA.k4<|aA.k4<|aA.k2<|aA.cons<|aA.nil,ax.k4 M3 M4 M5 M6<|ax.k4 M7 M8 M9 lH<|ax.nil,?_⟩
   iterate 4 refine DG.a ?_
   refine(nk) ?_;intro Ot afr oe;simp only [CM,NM,CA,NA,kL.it] at oe;refine(dA) fL oe.p5 fun Rp ss7 hs7 lj=>?_;refine WL.nil (EX.np ?_);have iV:=lj.p6.drop;have rz:=iV.p6.drop;refine gp ?_;refine fx (i+1,⟨x.ae,x.ah,rs⟩,b1,m1x,d1x,b2,m2x,d2x,_) ⟨rz.p4.drop.p4.drop.p4.drop.p2.p1.p3,⟨by omega,xe.sub jQ,trivial⟩⟩
  skip
  refine kE ?_;refine fx (i+1,x,a1,n1,e1,a2,n2,e2,_) ⟨dR.p1.drop.p1.drop.p4.drop,⟨by omega,xe,trivial⟩⟩
 skip
 refine gp ?_;refine WL.go rfl (OX.call (xs:=[]) (args:=[]) cf6 rfl rfl ((wL (bp.e0) (As.gf bp.g5)).mono ?_));rintro _ _ ⟨_,rfl,hzz⟩;refine⟨_,rfl,?_⟩;refine(cj) ?_;exact⟨rfl,bm.trans (St.cg bp) (hzz.cT.cT (fun _ h=>by obtain⟨A,hA,_⟩:=h;cases hA))⟩
end Go.Rc

