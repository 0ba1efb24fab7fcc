/- Walks over the program, part WZe. Conditions: as each theorem says. -/
import Derived.Test.YtjpagoacbadijaaGreatDoorVFacts
import Derived.Test.YtjpagoacbadijaaGreatDoorVWX
import Derived.Test.YtjpagoacbadijaaGreatDoorVBf
import Derived.Test.YtjpagoacbadijaaGreatDoorVWF
import Derived.Test.YtjpagoacbadijaaGreatDoorVBh
set_option linter.all false
namespace Go.Rc
open Go Go.Proofs Go.Proofs.Tryz
variable {l:List Key}{f:FuncId}{cap:Value}{a a1 a2:Option Addr}{n c n1 e1 n2 e2 c1 c2:Nat}{w:World}{Z M:Nat→Prop}{x y:Rec}
set_option maxHeartbeats 400000
theorem AY{p:Key→Bool}(Bn:CF prog f) (hl:Rd RR.key 2 Z w a n c l) (hp:∀w1,aV [] w w1→∀x∈l,Calls prog f #[x.val,cap] w1 fun e w'=>e=.returned (.bool (p x))∧aV [] w1 w'):Calls prog 123 #[.slice a n c,.func (.func f) #[] #[cap]] w fun e w'=>∃j:Int,e=.returned (.int .i64 j)∧CB l p j∧aV [] w w':=by
 have hlen:=hl.len;have hle:=hl.le;refine enter func123 rfl ntmps123 rfl<|?_;have bd:=St.s0 w;refine bf ?_;refine cS ?_;refine WC.cq (σ:=Nat) (eP:=fun i=>[(0,.slice a n c),(1,.func (.func f) #[] #[cap]),(7,.int .i64 (n:Int)),(8,.int .i64 (i:Int))]) (F:=fun i=>[]) (I:=fun i=>(i≤n)∧(∀j x,j<i→l[j]?=some x→p x=false)∧True) (μ:=fun i=>n - i) (0) (bd) Sub.t (⟨by omega,fun j x h=>by omega,trivial⟩)<|?_;rintro i w1 st1 ⟨hi,gR,_⟩;simp only [CA,NA] at st1 hi gR ⊢;refine(aZ) (fun g9=>?_) fun g9=>?_
 ·
  simp at g9
  have cT:i<l.length:=by omega
  refine uj ?_;obtain⟨iz,ku,jW,aX,gk,bF,cQ,dO⟩:=Rd.at hl cT;have bF:=RR.cG bF;subst bF;refine dV ?_;refine WP .r (PV.fO fV aX rfl rfl (by omega))<|(bA) aq (bH cQ (St.cg st1) (by simp))<|?_;refine WL.go rfl (OX.ud Bn rfl rfl rfl ((Calls.cap (hp _ (St.cg st1) l[i] (List.getElem_mem cT))).mono ?_));rintro _ w2 ⟨rfl,s2⟩;refine⟨_,rfl,?_⟩;have st2:=st1.step s2;refine(aZ) (fun g16=>?_) fun g16=>?_
  ·
   refine(cy) ?_;exact⟨_,rfl,.inl ⟨i,_,ao cT,g16,gR,rfl⟩,(St.cg st2)⟩
  have g16:p l[i]=false:=by simpa using g16
  refine gM ?_;refine fJ (i+1) ⟨st2,⟨by omega,dD cT gR (by simpa using g16),trivial⟩⟩
 simp at g9
 have cY:∀x∈l,p x=false:=fun x hx=>by obtain⟨j,hj,rfl⟩:=List.getElem_of_mem hx;exact gR j _ (by omega) (ao hj)
 refine(cy) ?_;exact⟨_,rfl,.inr ⟨cY,rfl⟩,(St.cg st1)⟩
theorem u7{p:Key→Bool}(Bn:CF prog f) (hl:Rd RR.key 2 Z w a n c l) (hp:∀w1,aV [] w w1→∀x∈l,Calls prog f #[x.val,cap] w1 fun e w'=>e=.returned (.bool (p x))∧aV [] w1 w'):CR prog 84 #[.slice a n c,.func (.func f) #[] #[cap]] w (.bool (l.any p)):=by
 refine enter func84 rfl ntmps84 rfl<|?_;have bd:=St.s0 w;refine(dh) Ph (AY (w:=w) Bn (hl.ext (St.cg bd)) (fun w1 h1=>hp w1 (aV.trans (St.cg bd) h1))) ?_;rintro _ w1 ⟨j,rfl,hj,s1⟩;have st1:=bd.step s1;have Uc:=hj.any;refine(cy) ?_;exact⟨by rw [Uc],(St.cg st1)⟩
set_option maxHeartbeats 400000
set_option maxHeartbeats 400000
theorem St.shrink{w0:World}{Z':Nat→Prop}(h:St w0 M Z' w []) (hz:∀x,Z x→Z' x):St w0 M Z w []:=⟨h.cW,fun x hx=>h.ma x (hz x hx),by simp,by simp,.nil,by simp⟩
set_option maxHeartbeats 400000
set_option maxHeartbeats 1600000 in
set_option maxRecDepth 8000 in
theorem u9{x:dP}{l:List Change}{al:Option Addr}{nl el:Nat}(bJ:St w M Z w []) (hi:Rd RR.aF 4 Z w a1 n1 e1 x.ad) (hr:Rd RR.fT 8 Z w a2 n2 e2 x.ak) (hl:Rd RR.cW 3 Z w al nl el l) (hb:lH x) (hx:lI x.ae x.ad) (hs:∀c∈l,c.small) (hl4:l.length≤32):Calls prog 21 #[.agg (x.row a1 n1 e1 a2 n2 e2).toArray,.slice al nl el] w fun e w'=>∃(y:dP) (b1 b2:Option Addr) (m1 d1 m2 d2:Nat) (er:Int) (Z':Nat→Prop),e=.returned (.tuple #[.agg (y.row b1 m1 d1 b2 m2 d2).toArray,.int .i64 er])∧y.ak=x.ak∧x.ae≤y.ae∧y.ae≤1073741824∧lI y.ae y.ad∧y.ad.length≤64∧y.ae≤x.ae+1∧ApR x l y∧AO x l y∧(x.ae+1≤1073741824→er=0)∧Rd RR.aF 4 Z' w' b1 m1 d1 y.ad∧Rd RR.fT 8 Z' w' b2 m2 d2 y.ak∧cI w.heap.size Z Z'∧St w M Z' w' []:=by
 have hln:=hl.len;have h7a:=hb.2.2.2.2.1;have h6a:=hb.2.2.2.2.2.1
 have h6:x.ak.length≤1000000:=by omega
 have h7:x.ad.length≤1000000:=by omega
 have hv0:=hb.2.2.1;have Ic:=hb.2.2.2.1;refine enter func21 rfl ntmps21 rfl<|?_;have bd:=St.rb bJ;have st1:=bd.fr hi;have st2:=st1.fr hr;have aW:=st2.fr hl;refine(fm) aW fun b2 w1 nv fl ba=>?_;refine(gy) ba fun b4 w2 jG bE bs=>?_;refine(bA) aP bs.b1<|?_;have bj:=bs;refine(dh) Ed (gK (x:=x) bj.e0 (As.gr bj.g4) (As.gr bj.g3) h6 h7) ?_;rintro _ w3 ⟨f1,f2,f3,f4,f5,f6,Z1,rfl,gq,eN⟩;have bV:=St.lv bj eN gq;have ak8:=St.cH eN;have ak9:=St.cH eN.p1;have fx:=bj.size;have oL:=gq.le fx;have ala:=St.fresh bV;have bT:=bV.bN (by omega);have alb:=St.fresh bT.p1;have cm:=bT.p1.bN (by omega);have alc:=(oL.trans (cI.fc (F:=fun x=>x∈aI f1) ak8) fx).trans (cI.fc (F:=fun x=>x∈aI f4) ak9) fx;refine(dB) fR cm.p3 fun w4 jV j0 aM=>?_;refine(bA) aP aM.b0<|(dh) Xy (pr (x:=x) (As.gr aM.g2) (As.gr aM.g1)) ?_;rintro _ w5 ⟨bb,rfl,hbb,s5⟩;have aO:=aM.step s5;obtain rfl:bb=true:=hbb.2 hb;refine(aZ) (fun g24=>?_) fun g24=>?_
 ·
  exact ic g24
 ·
  refine(aZ) (fun qg=>?_) fun qg=>?_
  ·
   exact ic qg
  refine bf ?_;refine WC.cq (σ:=Nat) (eP:=fun i=>[(1,.slice al nl el),(2,.pointer (some ⟨b2,0,none⟩)),(4,.pointer (some ⟨b4,0,none⟩)),(34,.slice al nl el),(35,.int .i64 (nl:Int)),(36,.int .i64 (i:Int))]) (F:=fun i=>[]) (I:=fun i=>(i≤l.length)∧True) (μ:=fun i=>l.length - i) (0) (aO) Sub.t (⟨by omega,trivial⟩)<|?_;rintro i w6 aS ⟨ij,_⟩;simp only [CA,NA] at aS ij ⊢;refine(aZ) (fun uL=>?_) fun uL=>?_
  ·
   simp at uL
   have cT:i<l.length:=by omega
   have Df:=hs _ (List.getElem_mem cT);have hsk:=Df.ok;have Tc:=Df.2;refine eC ?_;obtain⟨iz,ku,jW,aX,gk,bF,cQ,dO⟩:=Rd.at (As.gr aS.g4) cT;have bF:=RR.cG bF;subst bF;have bC:=aS.fg dO cQ;refine nx ?_;refine WP .r (PV.fO Mw aX rfl rfl (by omega))<|(bA) GU (As.oS bC.g0)<|(gy) bC fun b7 w7 vZ om br=>?_;refine(dB) Pc br fun w8 sC nj aY=>?_;refine(kB) aq aY.b0<|?_;refine WL.c1 (u:=.bool true) (ks (k:=l[i].key)) (by rw [hsk.1]) aY fun w9 s9 aQ=>?_;refine(kB) aq aQ.b0<|?_;refine WL.c1 (u:=.bool true) (fD (k:=l[i].key)) (by rw [hsk.2]) aQ fun kE nZ bB=>?_;refine dV ?_;refine WC.ke rfl<|gM ?_;refine fJ (i+1) ⟨bB.drop.drop,⟨by omega,trivial⟩⟩
  skip
  refine bf ?_;refine cS ?_;refine WC.cq (σ:=Nat) (eP:=fun i=>[(1,.slice al nl el),(2,.pointer (some ⟨b2,0,none⟩)),(4,.pointer (some ⟨b4,0,none⟩)),(52,.slice al nl el),(53,.int .i64 (nl:Int)),(54,.int .i64 (i:Int))]) (F:=fun i=>[]) (I:=fun i=>(i≤l.length)∧True) (μ:=fun i=>l.length - i) (0) (aS) Sub.t (⟨by omega,trivial⟩)<|?_;rintro i w7 bC ⟨ij,_⟩;simp only [CA,NA] at bC ij ⊢;refine(aZ) (fun zX=>?_) fun zX=>?_
  ·
   simp at zX
   have cT:i<l.length:=by omega
   have Df:=hs _ (List.getElem_mem cT);have Tc:=Df.2;refine eC ?_;obtain⟨iz,ku,jW,aX,gk,bF,cQ,dO⟩:=Rd.at (As.gr bC.g4) cT;have bF:=RR.cG bF;subst bF;have br:=bC.fg dO cQ;refine nx ?_;refine WP .r (PV.fO Mw aX rfl rfl (by omega))<|(bA) GU (As.oS br.g0)<|(gy) br fun b9 w8 PI Al aY=>?_;refine(dB) Pc aY fun w9 BC rq aQ=>?_;refine(bM) iF aQ.b0<|(aZ) (fun S7=>?_) fun S7=>?_
   ·
    exact ic S7
   refine gM ?_;refine fJ (i+1) ⟨aQ.drop.drop,⟨by omega,trivial⟩⟩
  skip
  refine(bA) aP bC.b0<|?_;have br:=bC;refine(dh) Ed (gK (x:=x) br.e0 (As.gr br.g2) (As.gr br.g1) h6 h7) ?_;rintro _ w8 ⟨k1,k2,k3,k4,k5,k6,Z2,rfl,AD,kM⟩;have aY:=St.lv br kM AD;have ald:=St.cH kM;have ale:=St.cH kM.p1;have pw:=br.size;have ly:=alc.trans AD pw;have alf:=St.fresh aY;have aQ:=aY.bN (by omega);have alg:=St.fresh aQ.p1;have bB:=aQ.p1.bN (by omega);have alh:=(ly.trans (cI.fc (F:=fun x=>x∈aI k1) ald) pw).trans (cI.fc (F:=fun x=>x∈aI k4) ale) pw;refine(gy) bB fun iA w9 kL ft bL=>?_;refine(dB) fR bL fun kE QW vE bG=>?_;refine(bM) aU bG.b0<|cS ?_;refine WL.s1 bG fun kF _ ck=>?_;refine bf ?_;refine dV ?_;refine WC.kh (σ:=Nat × Bool × (List dy) × (Option Addr) × Nat × Nat × (Nat→Prop)) (eP:=fun(i,ch,li,ai,ni,ei,Z3)=>[(1,.slice al nl el),(2,.pointer (some ⟨b2,0,none⟩)),(4,.pointer (some ⟨b4,0,none⟩)),(10,.pointer (some ⟨iA,0,none⟩)),(11,.bool ch),(70,.slice al nl el),(71,.int .i64 (nl:Int)),(72,.int .i64 (i:Int))]) (F:=fun(i,ch,li,ai,ni,ei,Z3)=>[As.blk iA 31 [.int .i64 (x.ae+1),.slice ai ni ei,.slice k4 k5 k6],As.ro RR.aF 4 ai ni ei li]) (I:=fun(i,ch,li,ai,ni,ei,Z3)=>(i≤l.length)∧(lI (x.ae+1) li)∧(li.length≤x.ad.length+i)∧(∀k,(∀c∈l,c.key≠k)→cZ li k=cZ x.ad k)∧(∀k,cZ li k=cZ x.ad k∨(cZ li k).changed=x.ae+1)∧(cI w.heap.size Z Z3)∧(Mi x l i ch li)∧True) (μ:=fun(i,ch,li,ai,ni,ei,Z3)=>l.length - i) (Zf:=fun(i,ch,li,ai,ni,ei,Z3)=>Z3) (0,false,x.ad,k1,k2,k3,_) (ck.p2.p1) Sub.t (⟨by omega,hx.mono (by omega),by omega,fun _ _=>rfl,fun _=>.inl rfl,alh,.start,trivial⟩)<|?_;rintro⟨i,ch,li,ai,ni,ei,Z3⟩ qf cw ⟨ij,hG,ali,TQ,hfc,sE,Qq,_⟩;simp only [CA,NA] at cw ij hG ali TQ hfc sE Qq ⊢;refine(aZ) (fun J5=>?_) fun J5=>?_
  ·
   have alj:=((As.gr cw.g1)).len
   simp at J5
   have cT:i<l.length:=by omega
   have Df:=hs _ (List.getElem_mem cT);refine eC ?_;obtain⟨iz,ku,jW,aX,gk,bF,cQ,dO⟩:=Rd.at (As.gr cw.g7) cT;have bF:=RR.cG bF;subst bF;have cx:=cw.fg dO cQ;refine cS ?_;refine WP .r (PV.fO Mw aX rfl rfl (by omega))<|(bA) GU (As.oS cx.g0)<|(gy) cx fun sK tU PZ ajZ cU=>?_;refine(dB) Pc cU fun Ay Q1 Gd ct=>?_;refine bf ?_;refine nx ?_;refine WP .r (PV.Dt Mw (i:=i+1) (As.gr ct.g9) rfl rfl (by omega))<|dA ?_;have cN:=ct.fr (SR.drop (i:=i+1) (As.gr ct.g9) (by omega));refine cS ?_;refine WC.cq (σ:=Nat × Bool) (eP:=fun(q,la)=>[(1,.slice al nl el),(2,.pointer (some ⟨b2,0,none⟩)),(4,.pointer (some ⟨b4,0,none⟩)),(10,.pointer (some ⟨iA,0,none⟩)),(11,.bool ch),(13,.pointer (some ⟨sK,0,none⟩)),(14,.bool la),(70,.slice al nl el),(71,.int .i64 (nl:Int)),(72,.int .i64 (i:Int)),(80,.slice (pE al (i+1) 3 el) (nl - (i+1)) (el - (i+1))),(81,.int .i64 ((nl - (i+1):Nat):Int)),(82,.int .i64 (q:Int))]) (F:=fun(q,la)=>[]) (I:=fun(q,la)=>(q≤nl - (i+1))∧(q=0→la=true)∧True) (μ:=fun(q,la)=>nl - (i+1) - q) (0,true) (cN) Sub.t (⟨by omega,fun _=>rfl,trivial⟩)<|?_;rintro⟨q,la⟩ uP ef ⟨hq,hla,_⟩;simp only [CA,NA] at ef hq hla ⊢;refine(aZ) (fun g83=>?_) fun g83=>?_
   ·
    simp at g83
    have U4:q<(l.drop (i+1)).length:=by rw [List.length_drop];omega
    refine eC ?_;obtain⟨xX,MG,JI,gp,An,im,lS,qO⟩:=Rd.at (As.gr ef.g0) U4;have im:=RR.cG im;subst im;have dq:=ef.fg qO lS;refine nx ?_;refine WP .r (PV.fO Mw gp rfl rfl (by omega))<|(bA) GU (As.oS dq.g0)<|(gy) dq fun xI yq Td Yu ew=>?_;refine(dB) Pc ew fun En Yj Yk db=>?_;refine cS ?_;have dM:=db;refine WC.mM (σ:=Bool) [] (fun YP=>[(1,.slice al nl el),(2,.pointer (some ⟨b2,0,none⟩)),(4,.pointer (some ⟨b4,0,none⟩)),(10,.pointer (some ⟨iA,0,none⟩)),(11,.bool ch),(13,.pointer (some ⟨sK,0,none⟩)),(14,.bool YP),(70,.slice al nl el),(71,.int .i64 (nl:Int)),(72,.int .i64 (i:Int)),(80,.slice (pE al (i+1) 3 el) (nl - (i+1)) (el - (i+1))),(81,.int .i64 ((nl - (i+1):Nat):Int)),(82,.int .i64 (q:Int))]) (fun YP=>[]) (fun YP=>True) dM ?_ ?_
    ·
     refine(ed) (fun P5=>?_) (fun P5=>?_)
     ·
      refine(kB) aq dM.b0<|(kB) aq dM.b3<|?_;refine WP .r (PV.NY gY (p:=(l.drop (i+1))[q].key) (q:=l[i].key) rfl rfl)<|dA ?_;exact sf (_) ⟨dM,trivial⟩
     refine kP ?_;exact sf (_) ⟨dM,trivial⟩
    rintro YP De cR _;simp only [CA,NA] at cR ⊢;refine jo ?_;refine fJ (q+1,_) ⟨cR.drop.drop,⟨by omega,fun h=>absurd h (Nat.succ_ne_zero _),trivial⟩⟩
   skip
   refine gM ?_;refine WC.fE (t:=105) (v:=.bool (!la || decide ((cZ x.ad l[i].key).value=l[i].value))) ef ?_<|?_
   ·
    have asr:=ef.cX;refine WC.eJ (m:=9) (E:=dm [(6,fun v _=>v=.string (cZ x.ad l[i].key).value)]) ef (bK (⟨fun _ _ _ _ _ _ _ h=>h,trivial⟩)) mixed (by kernel_rfl)<|(qe) (fun YV=>?_) (fun YV=>?_)
    ·
     refine(eb) ?_;rintro yq ⟨aeW,dq⟩ _;exact(dp) (tG YV) (dq)
    refine(iX) aP St.g6<|(Cp) aq St.g1<|?_;refine DW.c0 (fun wx hC hF=>we (x:=x) (k:=l[i].key) (As.gr hC.2.g8) (As.gr hC.2.g7))<|(kQ) iF St.g1<|(eb)<|?_;rintro yq ⟨aeW,dq⟩ ⟨_,_⟩;exact(dp) (tG YV) (dq)
   intro yq dq;refine(aZ) (fun J6=>?_) fun J6=>?_
   ·
    refine kP ?_;refine fJ (i+1,ch,li,ai,ni,ei,Z3) ⟨dq.drop.drop.drop,⟨by omega,hG,by show li.length≤x.ad.length+(i+1);omega,TQ,hfc,sE,Qq.skip cT (fun e=>hla (by omega)) J6,trivial⟩⟩
   refine bf ?_;refine(bM) oI dq.b3<|eC ?_;have ew:=dq.eR RR.aF 102 4;refine WC.cq (σ:=Nat × Bool × (List dy) × (Option Addr) × Nat × Nat) (eP:=fun(q,put,acc,mu,lU,nb)=>[(1,.slice al nl el),(2,.pointer (some ⟨b2,0,none⟩)),(4,.pointer (some ⟨b4,0,none⟩)),(10,.pointer (some ⟨iA,0,none⟩)),(11,.bool true),(13,.pointer (some ⟨sK,0,none⟩)),(17,.slice mu lU nb),(18,.bool put),(70,.slice al nl el),(71,.int .i64 (nl:Int)),(72,.int .i64 (i:Int)),(107,.slice ai ni ei),(108,.int .i64 (ni:Int)),(109,.int .i64 (q:Int))]) (F:=fun(q,put,acc,mu,lU,nb)=>[As.os RR.aF 102 4 mu lU nb (acc)]) (I:=fun(q,put,acc,mu,lU,nb)=>(q≤li.length)∧(acc++ig (⟨l[i].key,l[i].value,x.ae+1⟩:dy) (li.drop q) put=ig (⟨l[i].key,l[i].value,x.ae+1⟩:dy) li false)∧True) (μ:=fun(q,put,acc,mu,lU,nb)=>li.length - q) (0,false,[],none,0,0) (ew) Sub.t (⟨by omega,rfl,trivial⟩)<|?_;rintro⟨q,put,acc,mu,lU,nb⟩ En db ⟨hq,HM,_⟩;simp only [CA,NA] at db hq HM ⊢;have aeX:=RH HM;have alk:=((As.gs db.g0)).len;refine(aZ) (fun rX=>?_) fun rX=>?_
   ·
    simp at rX
    have U4:q<li.length:=by omega
    have MK:=RG U4 HM
    dsimp only at MK
    refine eC ?_;obtain⟨PU,ass,akb,mf,ad3,Lk,UQ,aeY⟩:=Rd.at (As.gr db.g5) U4;have Lk:=RR.cG Lk;subst Lk;have dM:=db.fg aeY UQ;refine nx ?_;refine WP .r (PV.fO xU mf rfl rfl (by omega))<|(bA) l6 (As.oS dM.g0)<|(gy) dM fun b20 De XK XL cR=>?_;refine(dB) xh cR fun JT ss6 hs6 di=>?_;refine(kB) aq di.b0<|(kB) aq di.b4<|(iu) (mD (k:=li[q].key) (q:=l[i].key)) di fun MM s20 dr=>?_;refine eC ?_;have eQ:=dr;refine WC.mM (σ:=Bool) [] (fun MY=>[(1,.slice al nl el),(2,.pointer (some ⟨b2,0,none⟩)),(4,.pointer (some ⟨b4,0,none⟩)),(10,.pointer (some ⟨iA,0,none⟩)),(11,.bool true),(13,.pointer (some ⟨sK,0,none⟩)),(17,.slice mu lU nb),(18,.bool put),(20,.pointer (some ⟨b20,0,none⟩)),(21,.int .i64 (cv li[q].key l[i].key)),(70,.slice al nl el),(71,.int .i64 (nl:Int)),(72,.int .i64 (i:Int)),(107,.slice ai ni ei),(108,.int .i64 (ni:Int)),(109,.int .i64 (q:Int)),(123,.bool MY)]) (fun MY=>[]) (fun MY=>(MY=(decide (0≤cv li[q].key l[i].key) && !put))∧True) eQ ?_ ?_
    ·
     refine(ed) (fun YW=>?_) (fun YW=>?_)
     ·
      refine dV ?_;exact sf (!put) ⟨eQ,⟨by rw [decide_eq_true (show 0≤cv li[q].key l[i].key by simp at YW;omega)];rfl,trivial⟩⟩
     refine dV ?_;exact sf (false) ⟨eQ,⟨by rw [decide_eq_false (show ¬0≤cv li[q].key l[i].key by simp at YW;omega)];rfl,trivial⟩⟩
    rintro MY Lm dR ⟨YX,_⟩;simp only [CA,NA] at dR YX ⊢;refine nx ?_;have eA:=dR.p2;refine WC.mM (σ:=Bool × (List dy) × (Option Addr) × Nat × Nat) [_] (fun(YY,jm,mu,lU,nb)=>[(1,.slice al nl el),(2,.pointer (some ⟨b2,0,none⟩)),(4,.pointer (some ⟨b4,0,none⟩)),(10,.pointer (some ⟨iA,0,none⟩)),(11,.bool true),(13,.pointer (some ⟨sK,0,none⟩)),(17,.slice mu lU nb),(18,.bool YY),(20,.pointer (some ⟨b20,0,none⟩)),(21,.int .i64 (cv li[q].key l[i].key)),(70,.slice al nl el),(71,.int .i64 (nl:Int)),(72,.int .i64 (i:Int)),(107,.slice ai ni ei),(108,.int .i64 (ni:Int)),(109,.int .i64 (q:Int))]) (fun(YY,jm,mu,lU,nb)=>[As.os RR.aF 102 4 mu lU nb (jm)]) (fun(YY,jm,mu,lU,nb)=>(jm++(if cv li[q].key l[i].key=0 then [] else [li[q]])++ig (⟨l[i].key,l[i].value,x.ae+1⟩:dy) (li.drop (q+1)) YY=ig (⟨l[i].key,l[i].value,x.ae+1⟩:dy) li false)∧True) eA ?_ ?_
    ·
     refine(aZ) (fun JU=>?_) fun JU=>?_
     ·
      refine(kB) aq eA.b4<|(bM) iF eA.b4<|(bM) aU (cV.range (As.gb eA.g6))<|?_;refine WP .r (PV.bU (us:=(⟨l[i].key,l[i].value,x.ae+1⟩:dy).cells) K7 rfl rfl rfl)<|?_;refine WL.go rfl (OX.aR (us:=(⟨l[i].key,l[i].value,x.ae+1⟩:dy).cells) Jm rfl rfl rfl rfl fun ast Tr aeZ ae0=>?_);have eO:=eA.eI aeZ ae0;refine WL.ap rfl rfl eO.p1 (SR.ek (A:=fun _=>True) (x:=(⟨l[i].key,l[i].value,x.ae+1⟩:dy)) (As.gb eO.g0) trivial rfl (by simp [dy.cells,Value.oneCell']) rfl) fun alm ae1 YQ aoi aoj fH=>?_;refine dA ?_;exact sf (true,acc++[(⟨l[i].key,l[i].value,x.ae+1⟩:dy)],alm,(lU+1),ae1) ⟨fH.p1.drop,⟨by have h2:(decide (0≤cv li[q].key l[i].key) && !put)=true:=(by rw [← YX];simpa using JU);have h3:(put || decide (0≤cv li[q].key l[i].key))=true:=(by revert h2;cases put <;> simp);rw [if_pos h2,h3] at MK;exact MK,trivial⟩⟩
     refine nx ?_;exact sf (put,acc,mu,lU,nb) ⟨eA,⟨by have h2:(decide (0≤cv li[q].key l[i].key) && !put)=false:=(by rw [← YX];simpa using JU);have h3:(put || decide (0≤cv li[q].key l[i].key))=put:=(by revert h2;cases put <;> simp);rw [if_neg (by rw [h2];simp),h3,List.append_nil] at MK;exact MK,trivial⟩⟩
    rintro⟨YY,jm,mu,lU,nb⟩ Tr eO ⟨pO,_⟩;simp only [CA,NA] at eO pO ⊢
    have aok:jm.length≤li.length+1:=by have h1:=congrArg List.length pO;rw [List.length_append,List.length_append] at h1;have:=qz (⟨l[i].key,l[i].value,x.ae+1⟩:dy) li false;omega
    have aol:=((As.gs eO.g0)).len;refine(aZ) (fun Qr=>?_) fun Qr=>?_
    ·
     simp at Qr
     refine(bA) l6 eO.b1<|?_;refine WL.go rfl (OX.aR (us:=li[q].cells) Jm rfl rfl rfl rfl fun asu YQ ae2 ae3=>?_);have fH:=eO.eI ae2 ae3;refine WL.ap rfl rfl fH.p1 (SR.ek (A:=fun _=>True) (x:=li[q]) (As.gb fH.g0) trivial rfl (by simp [dy.cells,Value.oneCell']) rfl) fun a139 ae4 YR aom aon iG=>?_;refine kP ?_;refine fJ (q+1,YY,jm++[li[q]],a139,(lU+1),ae4) ⟨iG.p1.drop.p1.drop.p1.drop,⟨by omega,by rw [← pO,if_neg Qr],trivial⟩⟩
    simp at Qr
    refine gM ?_;refine fJ (q+1,YY,jm,mu,lU,nb) ⟨eO.p1.drop.p1.drop,⟨by omega,by rw [← pO,if_pos Qr,List.append_nil],trivial⟩⟩
   simp at rX
   rw [List.drop_eq_nil_of_le (by omega)] at HM;refine bf ?_;have dM:=db;refine WC.mM (σ:=(List dy) × (Option Addr) × Nat × Nat) [_] (fun(jm,mu,lU,nb)=>[(1,.slice al nl el),(2,.pointer (some ⟨b2,0,none⟩)),(4,.pointer (some ⟨b4,0,none⟩)),(10,.pointer (some ⟨iA,0,none⟩)),(11,.bool true),(17,.slice mu lU nb),(70,.slice al nl el),(71,.int .i64 (nl:Int)),(72,.int .i64 (i:Int))]) (fun(jm,mu,lU,nb)=>[As.os RR.aF 102 4 mu lU nb (jm)]) (fun(jm,mu,lU,nb)=>(jm=ig (⟨l[i].key,l[i].value,x.ae+1⟩:dy) li false)∧True) dM ?_ ?_
   ·
    refine(aZ) (fun YZ=>?_) fun YZ=>?_
    ·
     refine(kB) aq dM.b2<|(bM) iF dM.b2<|(bM) aU dM.b4<|?_;refine WP .r (PV.bU (us:=(⟨l[i].key,l[i].value,x.ae+1⟩:dy).cells) K7 rfl rfl rfl)<|?_;refine WL.go rfl (OX.aR (us:=(⟨l[i].key,l[i].value,x.ae+1⟩:dy).cells) Jm rfl rfl rfl rfl fun asv De ae5 ae6=>?_);have cR:=dM.eI ae5 ae6;refine WL.ap rfl rfl cR.p1 (SR.ek (A:=fun _=>True) (x:=(⟨l[i].key,l[i].value,x.ae+1⟩:dy)) (As.gb cR.g0) trivial rfl (by simp [dy.cells,Value.oneCell']) rfl) fun a152 ae7 JT aoo aop di=>?_;refine cS ?_;exact sf (acc++[(⟨l[i].key,l[i].value,x.ae+1⟩:dy)],a152,(lU+1),ae7) ⟨di.p1.drop,⟨by have hp:put=false:=(by simpa using YZ);rw [hp] at HM;exact HM,trivial⟩⟩
    refine nx ?_;exact sf (acc,mu,lU,nb) ⟨dM,⟨by have hp:put=true:=(by simpa using YZ);rw [hp] at HM;exact(List.append_nil acc).symm.trans HM,trivial⟩⟩
   rintro⟨jm,mu,lU,nb⟩ De cR ⟨J7,_⟩;simp only [CA,NA] at cR J7 ⊢;refine nx ?_;have aeX:=qz (⟨l[i].key,l[i].value,x.ae+1⟩:dy) li false;have alk:=((As.gs cR.g0)).len;rw [← J7] at aeX;have Y0:=St.fresh cR;have di:=cR.bN (by omega);have AF:=sE.trans (cI.fc (F:=fun x=>x∈aI mu) Y0) (Nat.le_refl _);have dr:=di.p5.drop;refine dA ?_;refine WL.s1 dr.p4 fun JT _ eQ=>?_;refine gM ?_;refine fJ (i+1,true,jm,mu,lU,nb,_) ⟨eQ.p2.drop.p2.drop.p2.drop,⟨by omega,by rw [J7];exact hG.put Df (by omega),by show jm.length≤x.ad.length+(i+1);rw [J7];have:=qz (⟨l[i].key,l[i].value,x.ae+1⟩:dy) li false;omega,fun k hk=>by rw [J7,vI (hk _ (List.getElem_mem cT))];exact TQ k hk,by rw [J7];exact R0 hfc _ rfl,AF,by rw [J7];exact Qq.put cT J6,trivial⟩⟩
  have alj:=((As.gr cw.g1)).len
  simp at J5
  refine bf ?_;refine(aZ) (fun aln=>?_) fun aln=>?_
  ·
   refine(bA) aP cw.b3<|(dB) fR cw.p6 fun tU ss7 hs7 cx=>?_;refine jo ?_;refine EX.iT rfl (RS.cell aP rfl cx.b0 rfl<|RS.tmp rfl<|RS.nil) rfl<|?_;exact⟨x,_,_,_,_,_,_,_,_,rfl,rfl,Int.le_refl _,Ic,hx,h7a,by omega,.refl _ _,Qq.same (by omega) (by simp_all),fun _=>rfl,(As.gr cx.g6),(As.gr cx.g5),sE,(St.wk cx.k0)⟩
  refine(bM) oI cw.b0<|(aZ) (fun Y1=>?_) fun Y1=>?_
  ·
   refine(bA) aP cw.b3<|(dB) fR cw.p6 fun tU ss8 hs8 cx=>?_;refine jo ?_;refine EX.iT rfl (RS.cell aP rfl cx.b0 rfl<|RS.tmp rfl<|RS.nil) rfl<|?_;exact absurd Y1 (by have:=hG.len;simp;omega)
  refine(bM) aU cw.b0<|(aZ) (fun Tx=>?_) fun Tx=>?_
  ·
   refine(bA) aP cw.b3<|(dB) fR cw.p6 fun tU ss9 hs9 cx=>?_;refine jo ?_;refine EX.iT rfl (RS.cell aP rfl cx.b0 rfl<|RS.tmp rfl<|RS.nil) rfl<|?_;exact⟨x,_,_,_,_,_,_,_,_,rfl,rfl,Int.le_refl _,Ic,hx,h7a,by omega,.refl _ _,⟨fun c _ _ h=>by(simp at Tx;omega),fun _=>.inl rfl⟩,fun h=>by(simp at Tx;omega),(As.gr cx.g6),(As.gr cx.g5),sE,(St.wk cx.k0)⟩
  refine(bA) aP cw.b0<|(dB) fR cw.p6 fun tU alo alp cx=>?_;refine dV ?_;refine EX.iT rfl (RS.cell aP rfl cx.b0 rfl<|RS.tmp rfl<|RS.nil) rfl<|?_;exact⟨⟨x.ae+1,li,x.ak⟩,_,_,_,_,_,_,_,_,rfl,rfl,by show x.ae≤x.ae+1;omega,by simp at Tx;show x.ae+1≤_;omega,hG,by simp at Y1;show li.length≤64;omega,Int.le_refl _,⟨TQ,.inr ⟨rfl,hfc⟩⟩,Qq.done (by omega),fun _=>rfl,(As.gr cx.g2),(As.gr cx.g3),sE,(St.wk cx.k0)⟩
 -- tJ je C49
theorem vd{{x:dP}} {{l:List Change}} {{a1 a2 al:Option Addr}} {{n1 e1 n2 e2 nl el:Nat}} {{w:World}} {{M Z:Nat→Prop}} (bJ:St w M Z w []) (hi:Rd RR.aF 4 Z w a1 n1 e1 x.ad) (hr:Rd RR.fT 8 Z w a2 n2 e2 x.ak) (hl:Rd RR.cW 3 Z w al nl el l) (hb:lH x) (hx:lI x.ae x.ad) (hs:∀c∈l,c.small) (hl4:l.length≤32):Calls prog 21 #[.agg (x.row a1 n1 e1 a2 n2 e2).toArray,.slice al nl el] w fun e w'=>∃(y:dP) (b1 b2:Option Addr) (m1 d1 m2 d2:Nat) (er:Int) (Z':Nat→Prop),e=.returned (.tuple #[.agg (y.row b1 m1 d1 b2 m2 d2).toArray,.int .i64 er])∧y.ak=x.ak∧x.ae≤y.ae∧y.ae≤1073741824∧lI y.ae y.ad∧y.ad.length≤64∧y.ae≤x.ae+1∧ApR x l y∧(x.ae+1≤1073741824→er=0)∧Rd RR.aF 4 Z' w' b1 m1 d1 y.ad∧Rd RR.fT 8 Z' w' b2 m2 d2 y.ak∧cI w.heap.size Z Z'∧St w M Z' w' []:=
 (u9 bJ hi hr hl hb hx hs hl4).mono fun _ _ ⟨y,b1,b2,m1,d1,m2,d2,er,Z',g1,g2,g3,g4,g5,g6,g7,g8,_,g⟩=>⟨y,b1,b2,m1,d1,m2,d2,er,Z',g1,g2,g3,g4,g5,g6,g7,g8,g⟩
set_option maxHeartbeats 400000
theorem qV(hx:L7 x) (hn:n=x.reads.length):CR prog 116 #[.agg (x.row a n c).toArray] w (.int .i64 (CH x)):=by
 obtain⟨h1,h2,h3⟩:=hx
 exact(G5 (x:=x) (by omega) (by omega) (by omega)).mono fun e w' ⟨h4,h5⟩=>⟨by rw [h4,hn];rfl,h5⟩
theorem EP{l:List Rec}(bJ:St w M Z w []) (hl:Rd RR.fT 8 Z w a n c l) (h4:l.length≤4000) (hs:∀x∈l,L7 x):Calls prog 81 #[.slice a n c] w fun e w'=>e=.returned (.int .i64 (mR l))∧St w M Z w' []:=by
 have hlen:=hl.len;refine enter func81 rfl ntmps81 rfl<|?_;have bd:=bJ;have st1:=bd.fr hl;refine bf ?_;refine gM ?_;refine WC.cq (σ:=Nat × Int) (eP:=fun(i,t)=>[(3,.int .i64 t),(6,.slice a n c),(7,.int .i64 (n:Int)),(8,.int .i64 (i:Int))]) (F:=fun(i,t)=>[]) (I:=fun(i,t)=>(i≤n)∧(t=mR (l.take i))∧True) (μ:=fun(i,t)=>n - i) (0,0) (st1) Sub.t (⟨by omega,by simp [mR],trivial⟩)<|?_;rintro⟨i,t⟩ w1 st2 ⟨hi,ht,_⟩;simp only [CA,NA] at st2 hi ht ⊢
 have htb:=CI (l:=l.take i) fun x hx=>hs x (List.mem_of_mem_take hx)
 rw [← ht,List.length_take] at htb;refine(aZ) (fun g9=>?_) fun g9=>?_
 ·
  simp at g9
  have cT:i<l.length:=by omega
  have hsi:=hs _ (List.getElem_mem cT);have hsz:=hsi.size;refine eC ?_;obtain⟨iz,ku,jW,aX,gk,bF,cQ,dO⟩:=Rd.at (As.gr st2.g0) cT;obtain⟨q1,q2,q3,rfl,sB,rI⟩:=bF;have aW:=st2.fg dO cQ;have ba:=aW.fr sB;have FQ:=((As.gr ba.g0)).len;refine nx ?_;refine WP .r (PV.fO kK aX rfl rfl (by omega))<|(bA) eB (As.oS ba.g1)<|(gy) ba fun b5 w2 nh gw bs=>?_;refine(dB) iM bs fun w3 jV j0 bj=>?_;refine(bA) eB bj.b0<|(iu) (qV (x:=l[i]) (a:=q1) (n:=q2) (c:=q3) hsi FQ) bj fun w4 s4 bV=>?_;refine qd ?_;refine fJ (i+1,_) ⟨bV.p3.k1,⟨by omega,by rw [GB cT,← ht],trivial⟩⟩
 simp at g9
 have cY:t=mR l:=by rw [ht,List.take_of_length_le (by omega)]
 subst cY;refine(cy) ?_;exact⟨rfl,st2.drop⟩
theorem AZ(bJ:St w M Z w []) (hx:L7 x) (hy:L7 y) (h1:n1=x.reads.length) (h2:n2=y.reads.length) (hcx:0≤x.cost∧x.cost≤1073741824) (tk:0≤y.cost∧y.cost≤1073741824):Calls prog 115 #[.agg (x.row a1 n1 c1).toArray,.agg (y.row a2 n2 c2).toArray] w fun e w'=>∃b:Bool,e=.returned (.bool b)∧St w M Z w' []:=by
 refine enter func115 rfl ntmps115 rfl<|?_;have bd:=bJ;refine(fm) bd fun b2 w1 nv fl st1=>?_;refine(fm) st1 fun b3 w2 iO dJ st2=>?_;refine dV ?_;refine WC.du (m:=3) [] [1] [0,1,2] [] st2 (av.cons M0<|av.cons M1<|av.nil) mixed (by kernel_rfl) (by kernel_rfl) rfl<|(pS) eB SV.g1<|(jb) (fun w3 R1x aeA aW UY=>?_);simp only [CA,NA] at aW;refine OX.call Ux rfl rfl ((qV (x:=x) (a:=a1) (n:=n1) (c:=c1) hx h1).mono ?_);rintro _ w4 ⟨rfl,s4⟩;have ba:=aW.step s4;refine⟨_,rfl,s4.size,_,rfl,_,_,_,ba,ay.k2<|ay.nil,av.cons M0<|av.cons M1<|av.nil,?_⟩;refine(pS) eB SV.g0<|(oD)<|?_;intro w5 fx bs;simp only [CM,NM,CA,NA,lG.it] at bs;refine(iu) (qV (x:=y) (a:=a2) (n:=n2) (c:=c2) hy h2) bs fun w6 s6 bj=>?_;refine cS ?_;refine WL.nil (EX.np ?_);refine(bM) aU bj.b1<|nx ?_;refine WP .r (PV.mul rfl rfl (GC hcx hy.size).1 (GC hcx hy.size).2)<|(bM) aU bj.b0<|nx ?_;refine WP .r (PV.mul rfl rfl (GC tk hx.size).1 (GC tk hx.size).2)<|(aZ) (fun g11=>?_) fun g11=>?_
 ·
  refine(bM) aU bj.b1<|nx ?_;refine WP .r (PV.mul rfl rfl (GC hcx hy.size).1 (GC hcx hy.size).2)<|(bM) aU bj.b0<|nx ?_;refine WP .r (PV.mul rfl rfl (GC tk hx.size).1 (GC tk hx.size).2)<|(cy) ?_;exact⟨_,rfl,bj.drop.drop⟩
 refine(aZ) (fun lO=>?_) fun lO=>?_
 ·
  refine(cy) ?_;exact⟨_,rfl,bj.drop.drop⟩
 refine(kB) aq bj.b1<|(kB) aq bj.b0<|(iu) (mD (k:=x.key) (q:=y.key)) bj fun w7 s7 bV=>?_;refine(cy) ?_;exact⟨_,rfl,bV.drop.drop⟩
theorem wB{l:List et}(bJ:St w M Z w []) (hl:Rd RR.pT 6 Z w a n c l) (h6:l.length≤1000000):Calls prog 111 #[.slice a n c] w fun e w'=>∃a' n' c' Z',e=.returned (.slice a' n' c')∧cI w.heap.size Z Z'∧St w M Z' w' [As.os RR.pT 151 6 a' n' c' l]:=by
 have hlen:=hl.len;have hle:=hl.le;refine enter func111 rfl ntmps111 rfl<|?_;have bd:=bJ;have st1:=bd.fr hl;have st2:=st1.eR RR.pT 151 6;refine bf ?_;refine gM ?_;refine WC.kh (σ:=Nat × (Nat→Prop) × (List et) × (Option Addr) × Nat × Nat) (eP:=fun(i,Z1,acc,cE,cj,cF)=>[(3,.slice cE cj cF),(6,.slice a n c),(7,.int .i64 (n:Int)),(8,.int .i64 (i:Int))]) (F:=fun(i,Z1,acc,cE,cj,cF)=>[As.os RR.pT 151 6 cE cj cF (acc)]) (I:=fun(i,Z1,acc,cE,cj,cF)=>(i≤n)∧(cI w.heap.size Z Z1)∧(acc=l.take i)∧True) (μ:=fun(i,Z1,acc,cE,cj,cF)=>n - i) (Zf:=fun(i,Z1,acc,cE,cj,cF)=>Z1) (0,Z,[],none,0,0) (st2) Sub.t (⟨by omega,cI.refl _ _,by simp,trivial⟩)<|?_;rintro⟨i,Z1,acc,cE,cj,cF⟩ w1 aW ⟨hi,hZ,eu,_⟩;simp only [CA,NA] at aW hi hZ eu ⊢;have l4:=((As.gs aW.g0)).len
 have BA:acc.length≤1000000:=by rw [eu,List.length_take];omega
 have asy:=aW.size;refine(aZ) (fun g9=>?_) fun g9=>?_
 ·
  simp at g9
  have cT:i<l.length:=by omega
  refine eC ?_;obtain⟨iz,ku,jW,aX,gk,bF,cQ,dO⟩:=Rd.at (As.gr aW.g1) cT;obtain⟨q1,q2,q3,q4,q5,q6,rfl,sB,hsq,rI,Gd⟩:=bF;have ba:=aW.fg dO cQ;have bs:=ba.fr sB;have bj:=bs.fr hsq;have FQ:=((As.gr bj.g1)).len;have hsn:=((As.gr bj.g0)).len;have bV:=bj.eR RR.key 39 2;have bT:=bV.eR RR.str 9 1;refine nx ?_;refine WP .r (PV.fO xf aX rfl rfl (by omega))<|(bA) vS (As.oS bT.g4)<|(gy) bT fun b5 w2 nh gw cm=>?_;refine(dB) La cm fun w3 jV j0 aM=>?_;refine dA ?_;have Qs:=aM.size;refine WC.du (m:=7) [] [2,5] [0,1,2,3,4,5,6] [] aM (av.k4 M0 M3 M4 M5<|av.cons M6<|av.cons M7<|av.nil) mixed (by kernel_rfl) (by kernel_rfl) rfl<|(Bo) gJ SV.g0<|(jb) (fun w4 UT Hu aO xD=>?_);simp only [CA,NA] at aO;refine OX.ox rU rfl rfl rfl (As.gs aO.g2) ((As.gr aO.g4)) (by omega) (by omega) (Nat.zero_le _) fun PK JL w5 Y2 Ye MH adT=>?_;have aS:=aO.p2.jk Ye Y2 MH;refine⟨Ye.size,_,rfl,_,_,_,aS,ay.k4<|ay.k4<|ay.nil,av.k4 M1 M3 M4 M5<|av.cons M6<|av.cons M7<|av.nil,?_⟩;refine(Bo) D6 SV.g0<|(jb) (fun w6 To ED bC qS=>?_);simp only [CA,NA] at bC;refine OX.ox K5 rfl rfl rfl (As.gs bC.g2) ((As.gr bC.g3)) (by omega) (by omega) (Nat.zero_le _) fun a17 ET w7 Y3 s17 Qt ae8=>?_;have br:=bC.p2.jk s17 Y3 Qt;refine⟨s17.size,_,rfl,_,_,_,br,ay.k4<|ay.k4<|ay.nil,av.k4 M2 M3 M4 M5<|av.cons M6<|av.cons M7<|av.nil,?_⟩;refine(oD) ?_;intro w8 EL aY;simp only [CM,NM,CA,NA,lG.it] at aY;refine WL.s1 aY.p2 fun w9 _ aQ=>?_;refine nx ?_;refine WL.s1 aQ fun kE _ bB=>?_;refine WL.nil (EX.np ?_);refine nx ?_;have bL:=bB.p2.bN (by omega);have bG:=bL.p2.bN (by omega)
  have alq:∀x∈aI PK,w.heap.size≤x:=fun x hx=>by rcases MH x hx with h | h;simp [aI] at h;omega
  have N9:∀x∈aI a17,w.heap.size≤x:=fun x hx=>by rcases Qt x hx with h | h;simp [aI] at h;omega
  have sE:=(hZ.trans (cI.fc (F:=fun x=>x∈aI PK) alq) (Nat.le_refl _)).trans (cI.fc (F:=fun x=>x∈aI a17) N9) (Nat.le_refl _);refine(bA) vS bG.b2<|?_;refine WL.go rfl (OX.aR (us:=l[i].row _ _ _ _ _ _) uH rfl rfl rfl rfl fun b22 kF MJ PQ=>?_);have ck:=bG.eI MJ PQ;refine WL.ap rfl rfl ck.p7 (SR.ek (A:=fun _=>True) (x:=l[i]) (As.gb ck.g0) trivial rfl (et.one _ _ _ _ _ _ _) ⟨_,_,_,_,_,_,rfl,(As.gr ck.g2),(As.gr ck.g1),rI,Gd⟩) fun a23 Y4 qf alr als cw=>?_;refine kP ?_;refine fJ (i+1,_,acc++[l[i]],a23,(cj+1),Y4) ⟨cw.p8.p1.k2,⟨by omega,sE,by rw [eu,List.take_succ_eq_append_getElem cT],trivial⟩⟩
 simp at g9
 have cY:acc=l:=by rw [eu];exact List.take_of_length_le (by omega)
 subst cY;refine(cy) ?_;exact⟨_,_,_,_,rfl,hZ,aW.p1.drop⟩
theorem yb(hx:L7 x) (hy:L7 y) (h1:n1=x.reads.length) (h2:n2=y.reads.length) (hcx:0≤x.cost∧x.cost≤1073741824) (tk:0≤y.cost∧y.cost≤1073741824):Calls prog 115 #[.agg (x.row a1 n1 c1).toArray,.agg (y.row a2 n2 c2).toArray] w fun e w'=>∃b:Bool,e=.returned (.bool b)∧aV [] w w':=
 (AZ (M:=fun _=>False) (Z:=fun _=>False) (St.start fun _ h=>h.elim) hx hy h1 h2 hcx tk).mono fun e w' ⟨b,h3,h4⟩=>⟨b,h3,h4.cg⟩
set_option maxHeartbeats 1600000 in
theorem BZ{l:List Rec}(bJ:St w M Z w []) (hl:Rd RR.fT 8 Z w a n c l) (h4:l.length≤4000) (hs:∀x∈l,L7 x∧0≤x.cost∧x.cost≤1073741824):Calls prog 80 #[.slice a n c] w fun e w'=>∃(a':Option Addr) (n' c':Nat) (out:List Rec) (Z':Nat→Prop),e=.returned (.slice a' n' c')∧out.Perm l∧cI w.heap.size Z Z'∧St w M Z' w' [As.os RR.fT 48 8 a' n' c' out]:=by
 have hlen:=hl.len;refine enter func80 rfl ntmps80 rfl<|?_;have bd:=St.rb bJ;have st1:=bd.fr hl;have st2:=st1.eR RR.fT 48 8;refine bf ?_;refine gM ?_;refine WC.kh (σ:=Nat × (Nat→Prop) × (List Rec) × (Option Addr) × Nat × Nat) (eP:=fun(i,Z1,out,cE,cj,cF)=>[(3,.slice cE cj cF),(7,.slice a n c),(8,.int .i64 (n:Int)),(9,.int .i64 (i:Int))]) (F:=fun(i,Z1,out,cE,cj,cF)=>[As.os RR.fT 48 8 cE cj cF (out)]) (I:=fun(i,Z1,out,cE,cj,cF)=>(i≤n)∧(cI w.heap.size Z Z1)∧(out.Perm (l.take i))∧True) (μ:=fun(i,Z1,out,cE,cj,cF)=>n - i) (Zf:=fun(i,Z1,out,cE,cj,cF)=>Z1) (0,Z,[],none,0,0) (st2) Sub.t (⟨by omega,cI.refl _ _,by simp,trivial⟩)<|?_;rintro⟨i,Z1,out,cE,cj,cF⟩ w1 aW ⟨hi,hZ,gE,_⟩;simp only [CA,NA] at aW hi hZ gE ⊢;have l4:=((As.gs aW.g0)).len
 have Ua:out.length=i:=by rw [gE.length_eq,List.length_take];omega
 refine(aZ) (fun g10=>?_) fun g10=>?_
 ·
  simp at g10
  have cT:i<l.length:=by omega
  obtain⟨hsi,hci⟩:=hs _ (List.getElem_mem cT);refine eC ?_;obtain⟨iz,ku,jW,aX,gk,bF,cQ,dO⟩:=Rd.at (As.gr aW.g1) cT;obtain⟨q1,q2,q3,rfl,sB,rI⟩:=bF;have ba:=aW.fg dO cQ;have bs:=ba.fr sB;have FQ:=((As.gr bs.g0)).len;refine nx ?_;refine WP .r (PV.fO kK aX rfl rfl (by omega))<|(bA) eB (As.oS bs.g1)<|(gy) bs fun b5 w2 nh gw bj=>?_;refine(dB) iM bj fun w3 jV j0 bV=>?_;refine dA ?_;have Y5:=St.fresh bV.p3;have bT:=bV.p3.bN (by omega);have ly:=hZ.trans (cI.fc (F:=fun x=>x∈aI cE) Y5) (Nat.le_refl _);refine jo ?_;refine WC.cq (σ:=Nat) (eP:=fun p=>[(3,.slice cE cj cF),(5,.pointer (some ⟨b5,0,none⟩)),(6,.int .i64 (p:Int)),(7,.slice a n c),(8,.int .i64 (n:Int)),(9,.int .i64 (i:Int))]) (F:=fun p=>[]) (I:=fun p=>(p≤out.length)∧True) (μ:=fun p=>out.length - p) (0) (bT) Sub.t (⟨by omega,trivial⟩)<|?_;rintro p w4 cm ⟨hp,_⟩;simp only [CA,NA] at cm hp ⊢;refine cS ?_;obtain⟨b2,o2,r2,sa,FB⟩:=Rd.opt (As.gr cm.g0) cm.ma p;have aM:=cm.fact FB (fun _ hx=>hx);have aO:=aM;refine WC.mM (σ:=Bool) [] (fun cb=>[(3,.slice cE cj cF),(5,.pointer (some ⟨b5,0,none⟩)),(6,.int .i64 (p:Int)),(7,.slice a n c),(8,.int .i64 (n:Int)),(9,.int .i64 (i:Int)),(24,.bool cb)]) (fun cb=>[]) (fun cb=>(cb=true→p<out.length)∧True) aO ?_ ?_
  ·
   have QZ:=aO.cX;refine WC.dS (m:=10) aO mixed<|(qe) (fun g17=>?_) (fun g17=>?_)
   ·
    simp at g17
    have pO:p<out.length:=by omega
    obtain⟨Bj,qm,y1,y2,y3,rfl,alu,asA⟩:=sa pO;have hyn:=Rd.len alu;obtain⟨hsp,hcp⟩:=hs _ (List.mem_of_mem_take (gE.subset (List.getElem_mem pO)));refine cS ?_;refine DP .r (fun _ hC=>PV.fO kK (i:=p) Bj rfl rfl (by omega))<|DP .r (fun _ hC=>VA eB (As.gro pO hC.2.g0) .r)<|(iX) eB St.g2<|(eb)<|?_;rintro w5 ⟨oM,aS⟩ _;refine(dh) acP (yb (x:=out[p]) (y:=l[i]) (a1:=y1) (n1:=y2) (c1:=y3) (a2:=q1) (n2:=q2) (c2:=q3) hsp hsi hyn FQ hcp hci) ?_;rintro _ w6 ⟨bb,rfl,s6⟩;have bC:=aS.step s6;refine cS ?_;exact sf (bb) ⟨bC,⟨fun _=>pO,trivial⟩⟩
   refine(eb) ?_;rintro w5 ⟨oM,aS⟩ _;refine dA ?_;exact sf (false) ⟨aS,⟨fun h=>absurd h Bool.false_ne_true,trivial⟩⟩
  rintro cb w5 aS ⟨hcb,_⟩;simp only [CA,NA] at aS hcb ⊢;refine(aZ) (fun g24=>?_) fun g24=>?_
  ·
   have pO:=hcb g24;refine qd ?_;refine fJ (p+1) ⟨aS.drop,⟨by omega,trivial⟩⟩
  skip
  refine eC ?_;have bC:=aS.eR RR.fT 48 8;refine WC.du (m:=10) [] [3,6] [0,1,2,3,4,5,6,7,8,9] [(5,.sl 48 1 (l[i].row q1 q2 q3))] bC (av.k4 M1 M2 M3 M4<|av.cons M5<|av.cons M6<|av.nil) mixed (by kernel_rfl) (by kernel_rfl) rfl<|?_
  iterate 2 refine DG.a ?_
  refine DQ .r (fun wx Zx Rx _ fN kT=>PV.yJ kK (As.gr (fN.sv kT).g1) rfl rfl (by omega))<|(jb) (fun w6 UX Hz br xF=>?_);simp only [CA,NA] at br;refine OX.ox Xb rfl rfl rfl (As.gs br.g0) (SR.take (i:=p) (As.gr br.g2) (by omega)) (by omega) (by omega) (Nat.zero_le _) fun a30 asC w7 alv s30 alw asD=>?_;have aY:=br.jk s30 alv alw;refine⟨s30.size,_,rfl,_,_,_,aY,ay.k4<|ay.k2<|ay.cons<|ay.nil,av.k4 M1 M2 M3 M4<|av.cons M5<|av.cons M6<|av.nil,?_⟩;refine(pS) eB SV.g2<|?_;refine DG.side (s:=.sl 48 1 (l[i].row q1 q2 q3)) rfl rfl rfl rfl rfl rfl (fun wx Zx Rx BU fN=>OX.aR (us:=(l[i].row q1 q2 q3)) tu rfl rfl rfl rfl fun b wy nw hb=>⟨nw.ext.size,_,rfl,⟨b,rfl⟩,fN.eI nw hb⟩)<|?_;rintro _ ⟨Ny,rfl⟩;refine(jb) (fun w8 R6x MW aQ uZ=>?_);simp only [CA,NA] at aQ;refine OX.ox Xb rfl rfl rfl (As.gs aQ.g0) (SR.ek (A:=fun _=>True) (x:=l[i]) (show cV _ Ny _ _ from aQ.ok _ (.tail _ (.tail _ (.tail _ (.tail _ (.tail _ (.tail _ (.tail _ (uZ _ (.head _)))))))))) trivial rfl (Rec.one _ _ _ _) ⟨q1,q2,q3,rfl,(As.gr aQ.g4),rI⟩) (by omega) (by omega) (Nat.zero_le _) fun a33 asE w9 alx s33 aly asF=>?_;have bB:=aQ.jk s33 alx aly;refine⟨s33.size,_,rfl,_,_,_,bB,ay.k4<|ay.k2<|ay.cons<|ay.nil,av.k4 M1 M2 M3 M4<|av.cons M5<|av.cons M6<|av.nil,?_⟩
  iterate 2 refine DG.a ?_
  refine DQ .r (fun wx Zx Rx _ fN kT=>PV.Dt kK (As.gr (fN.sv kT).g1) rfl rfl (by omega))<|(oD)<|?_;intro kE qP bL;simp only [CM,NM,CA,NA,lG.it] at bL;refine WL.ap rfl rfl bL.p1 (SR.drop (i:=p) (As.gr bL.g3) (by omega)) fun a37 JD kF XM XN bG=>?_;refine nx ?_;refine WL.nil (EX.np ?_);have ck:=bG.p3.drop;refine jo ?_;refine fJ (i+1,_,_,a37,(((0+p)+1)+(cj - p)),JD) ⟨ck.p6.p1.k2,⟨by omega,ly,by rw [List.take_succ_eq_append_getElem cT];exact OA p gE,trivial⟩⟩
 simp at g10
 have cY:out.Perm l:=by rw [List.take_of_length_le (by omega)] at gE;exact gE
 refine(cy) ?_;exact⟨_,_,_,_,_,rfl,cY,hZ,(St.wk aW.p1.drop)⟩
set_option maxHeartbeats 1600000 in
theorem HN{x:dP}{bu:Int}(bJ:St w M Z w []) (hi:Rd RR.aF 4 Z w a1 n1 e1 x.ad) (hr:Rd RR.fT 8 Z w a2 n2 e2 x.ak) (hb:lH x) (hs:∀r∈x.ak,L7 r∧0≤r.cost∧r.cost≤1073741824) (Mm:0≤bu) (dK:bu≤1073741824):Calls prog 53 #[.agg (x.row a1 n1 e1 a2 n2 e2).toArray,.int .i64 bu,.slice none 0 0] w fun e w'=>∃(rs:List Rec) (b1 b2:Option Addr) (m1 d1 m2 d2:Nat) (ga:Option Addr) (gn gc:Nat) (Z':Nat→Prop),e=.returned (.tuple #[.agg ((⟨x.ae,x.ad,rs⟩:dP).row b1 m1 d1 b2 m2 d2).toArray,.slice ga gn gc,.int .i64 0])∧rs.Sublist x.ak∧Rd RR.aF 4 Z' w' b1 m1 d1 x.ad∧Rd RR.fT 8 Z' w' b2 m2 d2 rs∧cI w.heap.size Z Z'∧St w M Z' w' []:=by
 have Bg:=hi.len;have Nh:=hr.len;have h7:=hb.2.2.2.2.1;have h4:x.ak.length≤4000:=hb.2.2.2.2.2.1;refine enter func53 rfl ntmps53 rfl<|?_;have bd:=St.rb bJ;have st1:=bd.fr hi;have st2:=st1.fr hr;refine(fm) st2 fun b3 w1 iO dJ aW=>?_;refine(gy) aW fun b6 w2 mC eE ba=>?_;refine(bA) aP ba.b1<|(dh) Xy (pr (As.gr ba.g3) (As.gr ba.g2)) ?_;rintro _ w3 ⟨vb,rfl,hvb,s3⟩;have bs:=ba.step s3;obtain rfl:vb=true:=hvb.2 hb;refine(aZ) (fun g13=>?_) fun g13=>?_
 ·
  exact absurd g13 (by simp)
 skip
 refine(ed) (fun g21=>?_) (fun g21=>?_)
 ·
  exact ic g21
 refine(aZ) (fun g18=>?_) fun g18=>?_
 ·
  exact absurd g18 (by simp;omega)
 skip
 refine(bA) aP bs.b1<|?_;have bj:=bs;refine(dh) Ed (gK bj.e0 (As.gr bj.g3) (As.gr bj.g2) (by omega) (by omega)) ?_;rintro _ w4 ⟨f1,f2,f3,f4,f5,f6,Z1,rfl,gq,iV⟩;have bV:=St.lv bj iV gq;have JZ:=St.cH iV;have F0:=St.cH iV.p1;have fx:=bj.size;have oL:=gq.le fx;have J2:=St.fresh bV;have bT:=bV.bN (by omega);have J3:=St.fresh bT.p1;have cm:=bT.p1.bN (by omega);have ly:=(oL.trans (cI.fc (F:=fun x=>x∈aI f1) JZ) fx).trans (cI.fc (F:=fun x=>x∈aI f4) F0) fx;refine(gy) cm fun b9 w5 PI Al aM=>?_;refine(dB) fR aM fun w6 jV j0 aO=>?_;refine qd ?_;have aS:=aO.eR RR.key 39 2;refine(bM) fk aS.b5<|?_;have bC:=aS;refine(dh) aiV (BZ bC.e0 (As.gr bC.g6) h4 hs) ?_;rintro _ w7 ⟨o1,o2,o3,od,Z3,rfl,NN,qQ,n9⟩;have br:=St.lv bC n9 qQ;have ym:=St.cH n9;have ez:=bC.size;have sE:=ly.trans qQ ez;have asH:od.length=x.ak.length:=NN.length_eq;have alz:=St.fresh br;have aY:=br.bN (by omega);have AF:=sE.trans (cI.fc (F:=fun x=>x∈aI o1) ym) ez;have asI:=((As.gr aY.g0)).len;refine eC ?_;refine WC.kh (σ:=Nat × (List Rec) × (Option Addr) × Nat × Nat × (List Key) × (Nat→Prop) × (Option Addr) × Nat × Nat) (eP:=fun(i,rs,aa,nn,cc,gl,Z5,EU,B0,EV)=>[(1,.int .i64 bu),(2,.slice none 0 0),(6,.pointer (some ⟨b6,0,none⟩)),(9,.pointer (some ⟨b9,0,none⟩)),(10,.slice EU B0 EV),(30,.slice o1 o2 o3),(31,.int .i64 (o2:Int)),(32,.int .i64 (i:Int))]) (F:=fun(i,rs,aa,nn,cc,gl,Z5,EU,B0,EV)=>[As.os RR.key 39 2 EU B0 EV (gl),As.blk b9 31 ((⟨x.ae,x.ad,rs⟩:dP).row f1 f2 f3 aa nn cc),As.ro RR.fT 8 aa nn cc rs]) (I:=fun(i,rs,aa,nn,cc,gl,Z5,EU,B0,EV)=>(i≤od.length)∧(cI w.heap.size Z Z5)∧(rs.Sublist x.ak)∧(gl.length≤i)∧True) (μ:=fun(i,rs,aa,nn,cc,gl,Z5,EU,B0,EV)=>od.length - i) (Zf:=fun(i,rs,aa,nn,cc,gl,Z5,EU,B0,EV)=>Z5) (0,x.ak,f4,f5,f6,[],_,none,0,0) (aY.p3.p3.p3) Sub.t (⟨Nat.zero_le _,AF,List.Sublist.refl _,Nat.le_refl _,trivial⟩)<|?_;rintro⟨i,rs,aa,nn,cc,gl,Z5,EU,B0,EV⟩ w8 aQ ⟨Tg,nz,j4,Ou,_⟩;simp only [CA,NA] at aQ Tg nz j4 Ou ⊢;have alA:=j4.length_le;have UZ:=((As.gs aQ.g0)).len;have Df:∀r∈rs,L7 r:=fun r hr=>(hs r (j4.subset hr)).1;refine(aZ) (fun jA=>?_) fun jA=>?_
 ·
  simp at jA
  have cT:i<od.length:=by omega
  refine eC ?_;obtain⟨iz,ku,jW,aX,gk,bF,cQ,dO⟩:=Rd.at (As.gr aQ.g3) cT;obtain⟨q1,q2,q3,rfl,sB,rI⟩:=bF;have bB:=aQ.fg dO cQ;refine nx ?_;refine WP .r (PV.fO kK aX rfl rfl (by omega))<|(bA) eB (As.oS bB.g0)<|(gy) bB fun yg w9 Qh Tu bL=>?_;refine(dB) iM bL fun kE sC nj bG=>?_;refine dA ?_;have ck:=bG;refine WC.mM (σ:=Bool) [] (fun cb=>[(1,.int .i64 bu),(2,.slice none 0 0),(6,.pointer (some ⟨b6,0,none⟩)),(9,.pointer (some ⟨b9,0,none⟩)),(10,.slice EU B0 EV),(12,.pointer (some ⟨yg,0,none⟩)),(30,.slice o1 o2 o3),(31,.int .i64 (o2:Int)),(32,.int .i64 (i:Int)),(47,.bool cb)]) (fun cb=>[]) (fun cb=>True) ck ?_ ?_
  ·
   refine(bM) fk ck.b3<|?_;have cw:=ck;refine(dh) aiW (EP cw.e0 (As.gr cw.g4) (by omega) Df) ?_;rintro _ kF ⟨rfl,ve⟩;have cx:=St.lr cw ve;refine(ed) (fun Ab=>?_) (fun Ab=>?_)
   ·
    refine(kB) aq cx.b0<|(iu) (oJ (l:=[]) (k:=od[i].key) (SR.nil (fun _=>True) kF 2 _)) cx fun qf s12 cU=>?_;refine dA ?_;exact sf (_) ⟨cU,trivial⟩
   refine gM ?_;exact sf (_) ⟨cx,trivial⟩
  rintro cb kF cw _;simp only [CA,NA] at cw ⊢;refine(aZ) (fun X6=>?_) fun X6=>?_
  ·
   skip
   refine(bM) fk cw.b3<|(kB) aq cw.b0<|?_;have cx:=cw;refine(dh) acG (xm (k:=od[i].key) cx.e0 (As.gr cx.g4) (by omega)) ?_;rintro _ qf ⟨d1,d2,d3,rfl,xt⟩;have cU:=St.lr cx xt;have tm:=St.cH xt;have Y6:=cx.size;have hdl:=vy rs od[i].key;have Y7:=St.fresh cU;have ct:=cU.bN (by omega);have BW:=nz.trans (cI.fc (F:=fun x=>x∈aI d1) tm) Y6;have cN:=ct.p5.drop;refine nx ?_;refine WL.s1 cN.p4 fun tU _ ef=>?_;refine(kB) aq ef.b2<|?_;refine WL.go rfl (OX.aR (us:=od[i].key.cells) eM rfl rfl rfl rfl fun b57 Ay alB alC=>?_);have dq:=ef.eI alB alC;refine WL.ap rfl rfl dq.p5 (SR.ek (A:=fun _=>True) (x:=od[i].key) (As.gb dq.g0) trivial rfl (by simp [Key.cells,Value.oneCell']) rfl) fun a58 alD uP asJ asK ew=>?_;refine kP ?_;refine fJ (i+1,jn rs od[i].key,d1,d2,d3,_,_,a58,(B0+1),alD) ⟨ew.p1.drop.p3.drop.p3.drop,⟨by omega,BW,(CJ rs od[i].key).trans j4,by rw [List.length_append];simp;omega,trivial⟩⟩
  skip
  refine gM ?_;refine fJ (i+1,rs,aa,nn,cc,gl,_,EU,B0,EV) ⟨cw.drop.drop,⟨by omega,nz,j4,by show gl.length≤i+1;omega,trivial⟩⟩
 simp at jA
 refine(bA) aP aQ.b1<|(dB) fR aQ.p5 fun w9 BC rq bB=>?_;refine eC ?_;refine EX.iT rfl (RS.cell aP rfl bB.b0 rfl<|RS.tmp rfl<|RS.tmp rfl<|RS.nil) rfl<|?_;exact⟨rs,f1,aa,f2,f3,nn,cc,_,_,_,_,rfl,j4,(As.gr bB.g5),(As.gr bB.g3),nz,(St.wk bB.k0)⟩
end Go.Rc

