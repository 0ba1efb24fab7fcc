/- Walks over the program, part WZr. Conditions: as each theorem says. -/
import Derived.Test.YtjpagoacbadijaaGreatDoorJFacts
import Derived.Test.YtjpagoacbadijaaGreatDoorJWZl
import Derived.Test.YtjpagoacbadijaaGreatDoorJBh
set_option linter.all false
namespace Go.Rc
open Go Go.Proofs Go.Proofs.Tryz
variable {r:Rec}{rev:Int}{w:World}{D:WD}{v rn rc wb pb n1 e1 n2 e2:Nat}{ra a1 a2:Option Addr}{k:Key}{ml kA:List (Key × Value)}{Z M:Nat→Prop}{l:List Rec}{lf:Key→RL}{x x0:cI}{aa:List az}{S:SD}
set_option maxHeartbeats 400000
theorem vK{a:Option Addr}{n c:Nat}(hk:eC r.key):CR prog 92 #[.agg (r.row a n c).toArray,.int .i64 rev] w (.bool (aA r.key && (decide (r.aq<rev) && !r.bq))):=by
 refine enter func92 rfl ntmps92 rfl<|?_;have aO:=St.s0 w;refine(dr) aO fun b2 w1 b d st1=>?_;refine cB ?_;refine WC.ja (t:=4) (v:=.bool (aA r.key && (decide (r.aq<rev) && !r.bq))) st1 ?_<|?_
 ·
  refine(jJ) ak st1.b0<|?_;refine WL.c1 (u:=.bool (aA r.key)) (jk (k:=r.key) hk) (by rw [OE hk]) st1 fun w2 s2 st2=>?_;refine(cz) (fun g8=>?_) (fun g8=>?_)
  ·
   refine(bp) aK st2.b0<|(cz) (fun g14=>?_) (fun g14=>?_)
   ·
    refine(bp) di st2.b0<|?_;exact(eT) (tG (aj g8 g14)) (st2)
   exact(eT) (tG (aj g8 g14)) (st2)
  exact(eT) (tG g8) (st2)
 intro w2 st2;refine(bF) ?_;exact⟨rfl,(St.cg st2)⟩
theorem vL(b:bN w pb 76 [.pointer (some ⟨wb,0,none⟩)]) (c:bN w wb 121 (D.wc v rev ra rn rc)) (hm:KM Key.val w D.m ml) (d:(ba ml k).getD (.pointer none)=.pointer none):CR prog 91 #[k.val,.pointer (some ⟨pb,0,none⟩)] w (.tuple #[.slice none 0 0,.bool false]):=by
 refine enter func91 rfl ntmps91 rfl<|?_;have aO:=St.s0 w;refine(dr) aO fun b2 w1 f g st1=>?_;refine fZ ?_;have h:=st1.bG;refine WC.dS (m:=5) st1 mixed<|?_;refine DP .r (fun _ a=>PV.kc EB (bN.range (b.ext (St.cg a.2))) rfl rfl)<|bP ?_;refine DP .r (fun _ a=>V1 fw (bN.range (c.ext (St.cg a.2))) .r)<|(fk) ak St.g0<|(cy)<|?_;rintro w2 ⟨i,st2⟩ _;refine WP .r (PV.im cE fx fN (hm.ext (St.cg st2)) (d) rfl rfl)<|cB ?_;have j:=st2.bG;refine WC.dS (m:=11) st2 mixed<|ct ?_;refine DW.eW (t:=14) rfl (fun g14=>?_) (fun g14=>?_)
 ·
  exact ep g14
 refine(cy) ?_;rintro w3 ⟨n,e⟩ _;refine cB ?_;refine WC.fP rfl<|(sf) ?_;exact⟨rfl,(St.cg e)⟩
theorem vM{q:RL}(i:bN w pb 76 [.pointer (some ⟨wb,0,none⟩)]) (o:bN w wb 121 (D.wc v rev ra rn rc)) (hm:KM Key.val w D.m ml) (s:ba ml k=some (.pointer (some ⟨q.b,0,none⟩))) (p:bN w q.b 48 (r.row q.a q.n q.c)) (hk:eC r.key):Calls prog 91 #[k.val,.pointer (some ⟨pb,0,none⟩)] w fun e w'=>∃(a:Option Addr) (n c:Nat),e=.returned (.tuple #[.slice a n c,.bool (aA r.key && (decide (r.aq<rev) && !r.bq))])∧((aA r.key && (decide (r.aq<rev) && !r.bq))=true→a=q.a∧n=q.n∧c=q.c)∧aJ [] w w':=by
 refine enter func91 rfl ntmps91 rfl<|?_;have aO:=St.s0 w;refine(dr) aO fun b2 w1 y z st1=>?_;refine fZ ?_;have A:=st1.bG;refine WC.dS (m:=5) st1 mixed<|?_;refine DP .r (fun _ d=>PV.kc EB (bN.range (i.ext (St.cg d.2))) rfl rfl)<|bP ?_;refine DP .r (fun _ d=>V1 fw (bN.range (o.ext (St.cg d.2))) .r)<|(fk) ak St.g0<|(cy)<|?_;rintro w2 ⟨B,st2⟩ _;refine WP .r (PV.gO cE fx fN (hm.ext (St.cg st2)) (s) rfl rfl)<|cB ?_;have C:=st2.bG;refine WC.dS (m:=11) st2 mixed<|ct ?_;refine DW.eW (t:=14) rfl (fun g14=>?_) (fun g14=>?_)
 ·
  refine bP ?_;refine DP .r (fun _ d=>VA dC (bN.range (p.ext (St.cg d.2))) .r)<|DP .r (fun _ d=>PV.kc EB (bN.range (i.ext (St.cg d.2))) rfl rfl)<|ct ?_;refine DP .r (fun _ d=>PV.ld1 (j:=1) aK (bN.range (o.ext (St.cg d.2))) rfl rfl)<|(cy)<|?_;rintro w3 ⟨E,u⟩ _;refine(eZ) (vK (r:=r) hk) u fun w4 F g=>?_;refine(aP) (fun g24=>?_) fun g24=>?_
  ·
   have f:(aA r.key && (decide (r.aq<rev) && !r.bq))=true:=by first | exact g24 | simpa using g24
   refine(bp) gw (bN.range (p.ext (St.cg g)))<|(sf) ?_;exact⟨q.a,q.n,q.c,by rw [f],fun _=>⟨rfl,rfl,rfl⟩,(St.cg g)⟩
  have f:(aA r.key && (decide (r.aq<rev) && !r.bq))=false:=by first | exact g24 | simpa using g24
  refine(sf) ?_;exact⟨none,0,0,by rw [f],(fun h=>by rw [f] at h;cases h),(St.cg g)⟩
 exact ep g14
theorem AF(f:bN w pb 76 [.pointer (some ⟨wb,0,none⟩)]) (g:bN w wb 121 (D.wc v rev ra rn rc)) (hm:KM Key.val w D.m ml) (i:fL l lf ml) (j:(As.jK 48 lf l).ok Z w) (o:∀r∈l,eC r.key) (k:Key):Calls prog 91 #[k.val,.pointer (some ⟨pb,0,none⟩)] w fun e w'=>∃(a:Option Addr) (n c:Nat),e=.returned (.tuple #[.slice a n c,.bool (bD l rev k)])∧(bD l rev k=true→Rd RR.key 2 Z w' a n c (aD l k).reads)∧aJ [] w w':=by
 cases b:ay l k with
 | none=>
  refine(vL f g hm (i.no b)).mono<|?_;rintro e w' ⟨rfl,hc⟩
  have d:bD l rev k=false:=by unfold bD;rw [b];rfl
  exact⟨none,0,0,by rw [d],(fun h=>by rw [d] at h;cases h),hc⟩
 | some r=>
  obtain⟨p,q,_⟩:=j.1 k r b;obtain⟨hr,hk⟩:=aT b;refine(vM (k:=k) f g hm (i.yes b) p (o r hr)).mono<|?_;rintro e w' ⟨a,n,c,rfl,s,hc⟩
  have d:bD l rev k=(aA r.key && (decide (r.aq<rev) && !r.bq)):=by
   unfold bD
   rw [aS b,b,← hk]
   rfl
  refine⟨a,n,c,by rw [d],fun h=>?_,hc⟩;rw [d] at h;obtain⟨rfl,rfl,rfl⟩:=s h;rw [aS b];exact q.ext hc
set_option maxHeartbeats 1600000 in
theorem vN{f:FuncId}{cap:Value}(gq:St w M Z w []) (Zt:CF prog f) (OD:∀w1,aJ [] w w1→∀y:Key,Calls prog f #[y.val,cap] w1 fun e w'=>∃(a:Option Addr) (n c:Nat),e=.returned (.tuple #[.slice a n c,.bool (bD l rev y)])∧(bD l rev y=true→Rd RR.key 2 Z w' a n c (aD l y).reads)∧aJ [] w1 w') (h6:l.length≤4000) (Yy:∀r∈l,r.reads.length≤4000):Calls prog 90 #[k.val,.func (.func f) #[] #[cap]] w fun e w'=>∃(a:Option Addr) (n c:Nat),e=.returned (.slice a n c)∧St w M Z w' [As.os RR.key 39 2 a n c (aB l rev k)]:=by
 refine enter func90 rfl ntmps90 rfl<|?_;have aO:=St.rb gq;refine(dr) aO fun b2 w1 X7 E1 st1=>?_;refine(bj) ak st1.b0<|?_;refine WL.go rfl (OX.mS Zt rfl rfl rfl ((Calls.cap (OD _ (St.cg st1) k)).mono ?_));rintro _ w2 ⟨f1,f2,f3,rfl,_,s2⟩;refine⟨_,rfl,?_⟩;have st2:=st1.step s2;refine aN ?_;refine(aP) (fun Ge=>?_) fun Ge=>?_
 ·
  have W:bD l rev k=false:=by simpa using Ge
  have hv:aB l rev k=[k]:=by unfold aB;rw [if_neg (by rw [W];simp)]
  refine(bj) ak st2.b0<|?_;refine WL.go rfl (OX.aL (us:=k.cells) dc rfl rfl rfl rfl fun b31 w3 Sz Zu=>?_);have jg:=St.lE (R:=RR.key) (E:=39) (k:=2) (a:=some ⟨b31,0,none⟩) (n:=1) (c:=1) (xs:=[k]) st2 Sz.ext (OR.cV Zu (Nat.zero_le _) rfl (by simp [Key.cells,Value.oneCell']) rfl) (fun x hx=>by simp [bl] at hx;subst hx;exact Sz.ge);refine(bF) ?_;exact⟨_,_,_,rfl,by rw [hv];exact(St.wk jg.p1.drop)⟩
 have W:bD l rev k=true:=by simpa using Ge
 refine cB ?_;refine WL.mm Key.val st2 fun Nz w3 MC agh jg=>?_;refine cW ?_;refine WL.mm Key.val jg fun H3 w4 FC agi iH=>?_;refine(bj) ak iH.b2<|?_;refine WL.go rfl (OX.ins cE gx (As.gm iH.g0) rfl rfl rfl fun w5 E9 Ah=>?_);have l5:=iH.iE E9 Ah;refine ct ?_;have ks:=l5.yF (B:=As.map Key.val H3 (jB [k])) (rfl);refine(bj) ak ks.b2<|?_;refine WL.go rfl (OX.aL (us:=k.cells) dc rfl rfl rfl rfl fun TP w6 Zv Zw=>?_);have jn:=ks.dD Zv Zw;refine bP ?_;have ji:=jn;have kz:=ji.conv (B:=As.os RR.key 39 2 (some ⟨TP,0,none⟩) 1 1 [k]) (OR.cV (As.gb ji.g0) (Nat.zero_le _) rfl (by simp [Key.cells,Value.oneCell']) rfl) (fun x h=>by show x=TP;change x∈bl (some ⟨TP,0,none⟩) at h;simpa [bl] using h);refine jx ?_;have dY:=kz.Oo;refine WC.br (σ:=Nat × (List Key) × (List (Key × Value)) × (List RE) × (Option Addr) × Nat × Nat) (cT:=fun(i,L,MO,J,g,d,o)=>[(1,.func (.func f) #[] #[cap]),(2,.pointer (some ⟨b2,0,none⟩)),(7,.map (some Nz)),(8,.map (some H3)),(9,.slice g d o),(10,.int .i64 (i:Int))]) (F:=fun(i,L,MO,J,g,d,o)=>[As.os RR.key 39 2 g d o (L),As.map Key.val H3 (jB L),As.map Key.val Nz MO,As.many (J.map (RE.as 39))]) (I:=fun(i,L,MO,J,g,d,o)=>(i≤L.length)∧(pD l rev k (gg J) L i 0)∧(pC J MO)∧((J.map (·.key)).Nodup)∧True) (μ:=fun(i,L,MO,J,g,d,o)=>4001 - i) (0,[k],[],[],(some ⟨TP,0,none⟩),1,1) (dY.p3.p3.p3) Sub.t (⟨Nat.zero_le _,pD.start fun _=>rfl,pC.nil,by simp,trivial⟩)<|?_;rintro⟨i,L,MO,J,g,d,o⟩ w7 eu ⟨HX,hF,Q8,yY,_⟩;simp only [CA,NA] at eu HX hF Q8 yY ⊢;have hln:=((As.gs eu.g0)).len;have hle:=hF.le W;refine(aP) (fun Zy=>?_) fun Zy=>?_
 ·
  simp at Zy
  have xY:i<L.length:=by omega
  have YB:=hF.op W (List.getElem_mem xY);obtain⟨ri,hri,_⟩:=bK.1 YB;have TL:aD l L[i]=ri:=aS hri;have agj:=Yy ri (aT hri).1;refine cW ?_;obtain⟨jf,cx⟩:=Ow.addr (As.gs eu.g0) (ae xY);refine cB ?_;refine WP .r (PV.dM dL cx rfl rfl (by omega))<|(bj) ak (Ow.tt (As.gs eu.g0) (by omega) cx (ae xY))<|?_;refine WL.go rfl (OX.mS Zt rfl rfl rfl ((Calls.cap (OD _ (St.cg eu) L[i])).mono ?_));rintro _ w8 ⟨f4,f5,f6,rfl,Tj,s8⟩;refine⟨_,rfl,?_⟩;have cQ:=eu.step s8;have hq5:=Tj YB;rw [TL] at hq5;have df:=cQ.fr (hq5);have Wc:=((As.gr df.g0)).len;refine aN ?_;refine ct ?_;refine WC.br (σ:=Nat × (List Key) × (List (Key × Value)) × (List RE) × (Option Addr) × Nat × Nat) (cT:=fun(q,L2,X,K,g,d,o)=>[(1,.func (.func f) #[] #[cap]),(2,.pointer (some ⟨b2,0,none⟩)),(7,.map (some Nz)),(8,.map (some H3)),(9,.slice g d o),(10,.int .i64 (i:Int)),(53,.slice f4 f5 f6),(54,.int .i64 (f5:Int)),(55,.int .i64 (q:Int))]) (F:=fun(q,L2,X,K,g,d,o)=>[As.os RR.key 39 2 g d o (L2),As.map Key.val H3 (jB L2),As.map Key.val Nz X,As.many (K.map (RE.as 39))]) (I:=fun(q,L2,X,K,g,d,o)=>(q≤f5)∧(pD l rev k (gg K) L2 i q)∧(pC K X)∧((K.map (·.key)).Nodup)∧(L2[i]?=some L[i])∧True) (μ:=fun(q,L2,X,K,g,d,o)=>f5 - q) (0,L,MO,J,g,d,o) (df.p4.p4.p4.p4) Sub.t (⟨Nat.zero_le _,hF,Q8,yY,ae xY,trivial⟩)<|?_;rintro⟨q,L2,X,K,g,d,o⟩ w9 Y ⟨hq,MP,rK,uL,N,_⟩;simp only [CA,NA] at Y hq MP rK uL N ⊢;have agk:=((As.gs Y.g0)).len;have vm:=MP.le W;have Ti:i<L2.length:=(List.getElem?_eq_some_iff.1 N).1;refine(aP) (fun CS=>?_) fun CS=>?_
  ·
   simp at CS
   have uk:q<ri.reads.length:=by omega
   obtain⟨x,SA⟩:∃x,ri.reads[q]=x:=⟨_,rfl⟩
   have RM:(aD l L[i]).reads[q]?=some x:=by rw [TL,ae uk,SA]
   refine cW ?_;obtain⟨oz,Ae,xN,hU,pc,iY,iX,jG⟩:=Rd.at (As.gr Y.g4) uk;have iY:=RR.bX iY;subst iY;have gp:=Y.fg jG iX;rw [SA] at iX gp;refine nx ?_;refine WP .r (PV.dM dL hU rfl rfl (by omega))<|(bj) ak (As.ll gp.g0)<|(ft) gp fun b14 kl W3 MB iI=>?_;refine(dh) gi iI fun lB v7 nZ fy=>?_;refine(bj) ak fy.b0<|?_;refine WL.go rfl (OX.mS Zt rfl rfl rfl ((Calls.cap (OD _ (St.cg fy) x)).mono ?_));rintro _ pJ ⟨f7,f8,f9,rfl,_,s12⟩;refine⟨_,rfl,?_⟩;have gJ:=fy.step s12;refine aN ?_;refine(aP) (fun ME=>?_) fun ME=>?_
   ·
    have Ns:bD l rev x=false:=by simpa using ME
    refine jx ?_;refine dX (q+1,L2,X,K,g,d,o) ⟨gJ.drop.drop,⟨by omega,MP.skip N RM Ns,rK,uL,N,trivial⟩⟩
   have Ns:bD l rev x=true:=by simpa using ME
   refine ct ?_;obtain⟨CL,iC⟩:=Ow.addr (As.gs gJ.g2) N;have dU:=gJ.p5;obtain⟨ea,en,ec,Fa,Zz⟩:=St.OI (EK:=39) uL rK x dU;have T:=Zz;have hen:=((As.gs T.g0)).len;have Od:=MP.len x;refine WC.dx (m:=11) [] [7,9] [0,1,2,3,4,5,6,7,8,9,10] [(6,.sl 39 1 L[i].cells)] T (av.k4 M1 M2 M3 M4<|av.cons M5<|av.cons M7<|av.cons M8<|av.nil) mixed (by kernel_rfl) (by kernel_rfl) rfl<|(py) ak SV.g1<|?_
   iterate 2 refine DG.a ?_
   refine DQ .r (fun wx Zx Rx _ ur Ay=>PV.dM dL iC rfl rfl (by omega))<|DQ .r (fun wx Zx Rx _ ur Ay=>VA ak (Ow.tt (As.gs (ur.sv Ay).g3) (by omega) iC N) .r)<|?_;refine DG.side (s:=.sl 39 1 L[i].cells) rfl rfl rfl rfl rfl rfl (fun wx Zx Rx BF ur=>OX.aL (us:=L[i].cells) dc rfl rfl rfl rfl fun b wy nw hb=>⟨nw.ext.size,_,rfl,⟨b,rfl⟩,ur.dD nw hb⟩)<|?_;rintro _ ⟨b74,rfl⟩;refine(iF) (fun rJ R7x X2 O I5=>?_);simp only [CA,NA] at O;refine OX.mapEntry cE EG IB (As.gm O.g6) (Fa) rfl rfl rfl fun z75 yH s75 SB=>?_;have P:=O.p6.OG s75 SB;refine⟨s75.size,_,rfl,_,_,_,P,aG.k4<|aG.k4<|aG.cons<|aG.nil,av.k4 M2 M3 M4 M5<|av.cons M6<|av.cons M7<|av.cons M8<|av.nil,?_⟩;refine(iF) (fun v8 TB H2 Q ym=>?_);simp only [CA,NA] at Q;refine OX.wE qY rfl rfl rfl (As.gs Q.g1) (SR.cV (A:=fun _=>True) (x:=L[i]) (show bN _ b74 _ _ from Q.ok _ (.tail _ (.tail _ (.tail _ (.tail _ (.tail _ (.tail _ (.tail _ (.tail _ (.tail _ (ym _ (.head _)))))))))))) trivial rfl (by simp [Key.cells,Value.oneCell']) rfl) (by omega) (by omega) (Nat.zero_le _) fun a76 CQ xW Mf Ty Mg XA=>?_;have ic:=Q.p1.mX Ty Mf Mg;refine⟨Ty.size,_,rfl,_,_,_,ic,aG.k4<|aG.k4<|aG.cons<|aG.nil,av.k4 M2 M3 M4 M5<|av.cons M6<|av.cons M7<|av.cons M8<|av.nil,?_⟩;refine(pS) ?_;intro CK I1 fh;simp only [CM,NM,CA,NA,ky.it] at fh;refine WL.go rfl (OX.entryStore (As.gmb fh.g2) rfl rfl rfl fun Db vt vu=>?_);have fO:=fh.p2.OH vt vu;refine WL.nil (EX.np ?_);have iJ:=fO.p3.p3;have j9:=St.UA iJ;obtain⟨NB,ZA⟩:∃NB:List RE,NB=⟨x,a76,(en+1),CQ,gg K x++[L[i]]⟩::rest K x:=⟨_,rfl⟩;have kY:=j9.yF (B:=As.many (NB.map (RE.as 39))) (by rw [ZA]);have MQ:=rK.put (x:=x) (v:=.slice ea en ec) (a:=a76) (n:=en+1) (c:=CQ) (gg K x++[L[i]]);have HU:=zt (x:=x) (a:=a76) (n:=en+1) (c:=CQ) uL (gg K x++[L[i]])
   have SC:gg NB=ns (gg K) x L[i]:=by rw [ZA];exact GR
   rw [← ZA] at MQ HU;refine(bj) ak kY.b3<|?_;refine WP .r (PV.im cE gx xB (As.gm kY.g6) (xi L2 x) rfl rfl)<|(aP) (fun ZB=>?_) fun ZB=>?_
   ·
    have V:x∉L2:=by simpa using ZB
    refine WC.dx (m:=6) [] [5] [2,3,4,5,0,1] [(4,.sl 39 1 x.cells)] kY (av.k4 M0 M1 M2 M3<|av.k4 M4 M6 M7 M8<|av.nil) mixed (by kernel_rfl) (by kernel_rfl) rfl<|(py) ak SV.g3<|?_;refine DG.side (s:=.sl 39 1 x.cells) rfl rfl rfl rfl rfl rfl (fun wx Zx Rx BF ur=>OX.aL (us:=x.cells) dc rfl rfl rfl rfl fun b wy nw hb=>⟨nw.ext.size,_,rfl,⟨b,rfl⟩,ur.dD nw hb⟩)<|?_;rintro _ ⟨b86,rfl⟩;refine(iF) (fun Fh Yo My k8 uq=>?_);simp only [CA,NA] at k8;refine OX.wE qY rfl rfl rfl (As.gs k8.g5) (SR.cV (A:=fun _=>True) (x:=x) (show bN _ b86 _ _ from k8.ok _ (.tail _ (.tail _ (.tail _ (.tail _ (.tail _ (.tail _ (.tail _ (.tail _ (.tail _ (uq _ (.head _)))))))))))) trivial rfl (by simp [Key.cells,Value.oneCell']) rfl) (by omega) (by omega) (Nat.zero_le _) fun a87 ZC HO ZD s87 ZE agn=>?_;have oD:=k8.p5.mX s87 ZD ZE;refine⟨s87.size,_,rfl,_,_,_,oD,aG.k4<|aG.k4<|aG.cons<|aG.nil,av.k4 M1 M2 M3 M4<|av.k4 M5 M6 M7 M8<|av.nil,?_⟩;refine(py) ak SV.g3<|(pS)<|?_;intro H5 acj rY;simp only [CM,NM,CA,NA,ky.it] at rY;refine WL.go rfl (OX.put cE gx (As.gm rY.g7) rfl rfl rfl fun I7 Mh Mi=>?_);have lH:=rY.p7.iE Mh Mi;refine nx ?_;refine WL.nil (EX.np ?_);have ku:=lH.yF (B:=As.map Key.val H3 (jB (L2++[x]))) (by rw [xj _ V]);refine fZ ?_;refine dX (q+1,L2++[x],_,NB,a87,(d+1),ZC) ⟨ku.p1.drop.p4.drop.p4.drop.p4.drop.p3.p1.p2,⟨by omega,by rw [SC];exact MP.new N RM Ns V,MQ,HU,by rw [List.getElem?_append_left Ti];exact N,trivial⟩⟩
   have V:x∈L2:=by simpa using ZB
   refine eL ?_;refine dX (q+1,L2,_,NB,g,d,o) ⟨kY.p2.drop.p2.drop.p2.drop.p1.p3.p3,⟨by omega,by rw [SC];exact MP.nT N RM Ns V,MQ,HU,N,trivial⟩⟩
  simp at CS
  refine na ?_;refine dX (i+1,L2,X,K,g,d,o) ⟨Y.p4.drop,⟨by show i+1≤L2.length;omega,MP.next N (by rw [TL];omega) (by omega),rK,uL,trivial⟩⟩
 simp at Zy
 refine fZ ?_;have hed:=hF.UC (show L.length≤i by omega)
 have hbl:∀e∈J,e.reads.length≤140737488355328:=fun e he=>by
  have h1:=hF.len e.key
  have h2:i≤4001:=by omega
  rw [Ec yY he] at h1
  omega
 refine nx ?_;refine WL.mm Key.val eu fun NC w8 agp agq cQ=>?_;refine(bj) ak cQ.b5<|?_;refine WL.go rfl (OX.ins cE gx (As.gm cQ.g0) rfl rfl rfl fun w9 LL LM=>?_);have df:=cQ.iE LL LM;refine ct ?_;have Y:=df.yF (B:=As.map Key.val NC (jB [k])) (rfl);refine(bj) ak Y.b5<|?_;refine WL.go rfl (OX.aL (us:=k.cells) dc rfl rfl rfl rfl fun Rr kl Ml Mm=>?_);have gp:=Y.dD Ml Mm;refine bP ?_;have iI:=gp;have fy:=iI.conv (B:=As.os RR.key 39 2 (some ⟨Rr,0,none⟩) 1 1 [k]) (OR.cV (As.gb iI.g0) (Nat.zero_le _) rfl (by simp [Key.cells,Value.oneCell']) rfl) (fun x h=>by show x=Rr;change x∈bl (some ⟨Rr,0,none⟩) at h;simpa [bl] using h);refine jx ?_;have gJ:=fy.p5;have dU:=St.bkF hbl gJ;refine WC.br (σ:=Nat × (List Key) × (Option Addr) × Nat × Nat) (cT:=fun(j,U,C,u,G)=>[(7,.map (some Nz)),(17,.map (some NC)),(18,.slice C u G),(19,.int .i64 (j:Int))]) (F:=fun(j,U,C,u,G)=>[As.os RR.key 39 2 C u G (U),As.map Key.val NC (jB U)]) (I:=fun(j,U,C,u,G)=>(tT l rev k (gg J) U j 0)∧True) (μ:=fun(j,U,C,u,G)=>4001 - j) (0,[k],(some ⟨Rr,0,none⟩),1,1) (dU.p2.p2) Sub.t (⟨tT.start,trivial⟩)<|?_;rintro⟨j,U,C,u,G⟩ lB T ⟨hB,_⟩;simp only [CA,NA] at T hB ⊢;have SP:=((As.gs T.g0)).len;have agr:=hB.le W;refine(aP) (fun MJ=>?_) fun MJ=>?_
 ·
  simp at MJ
  have ZF:j<U.length:=by omega
  refine cW ?_;obtain⟨v1,v2,v3,Au,ZG⟩:=pC.read Q8 (As.gf T.g2) U[j];have O:=T.fr (ZG);have Tl:=((As.gr O.g0)).len;have hbq:=hF.len U[j];obtain⟨QX,pd⟩:=Ow.addr (As.gs O.g1) (ae ZF);refine cB ?_;refine WP .r (PV.dM dL pd rfl rfl (by omega))<|(bj) ak (Ow.tt (As.gs O.g1) (by omega) pd (ae ZF))<|?_;refine WP .r (PV.im cE EG IB (As.gm O.g6) (Au) rfl rfl)<|cW ?_;refine WC.br (σ:=Nat × (List Key) × (Option Addr) × Nat × Nat) (cT:=fun(p,H,C,u,G)=>[(7,.map (some Nz)),(17,.map (some NC)),(18,.slice C u G),(19,.int .i64 (j:Int)),(105,.slice v1 v2 v3),(106,.int .i64 (v2:Int)),(107,.int .i64 (p:Int))]) (F:=fun(p,H,C,u,G)=>[As.os RR.key 39 2 C u G (H),As.map Key.val NC (jB H)]) (I:=fun(p,H,C,u,G)=>(p≤v2)∧(tT l rev k (gg J) H j p)∧(H[j]?=some U[j])∧True) (μ:=fun(p,H,C,u,G)=>v2 - p) (0,U,C,u,G) (O.p2.p2) Sub.t (⟨Nat.zero_le _,hB,ae ZF,trivial⟩)<|?_;rintro⟨p,H,C,u,G⟩ pJ P ⟨hp,Ir,MR,_⟩;simp only [CA,NA] at P hp Ir MR ⊢;have ags:=((As.gs P.g0)).len;have acm:=Ir.le W;have hj4:j<H.length:=(List.getElem?_eq_some_iff.1 MR).1;refine(aP) (fun MS=>?_) fun MS=>?_
  ·
   simp at MS
   have uA:p<(gg J U[j]).length:=by omega
   obtain⟨x,SA⟩:∃x,(gg J U[j])[p]=x:=⟨_,rfl⟩
   have Mk:(gg J U[j])[p]?=some x:=by rw [ae uA,SA]
   refine cW ?_;obtain⟨Za,Zb,Zc,FQ,Sk,r8,BH,FR⟩:=Rd.at (As.gr P.g2) uA;have r8:=RR.bX r8;subst r8;have Q:=P.fg FR BH;rw [SA] at BH Q;refine nx ?_;refine WP .r (PV.dM dL FQ rfl rfl (by omega))<|(bj) ak (As.ll Q.g0)<|(ft) Q fun b21 rJ agu agv ic=>?_;refine(dh) gi ic fun yH Tm Tn fh=>?_;refine(bj) ak fh.b0<|?_;refine WP .r (PV.im cE gx xB (As.gm fh.g3) (xi H x) rfl rfl)<|(aP) (fun AA=>?_) fun AA=>?_
   ·
    have V:x∉H:=by simpa using AA
    refine WC.dx (m:=6) [] [5] [2,3,4,5,0,1] [(4,.sl 39 1 x.cells)] fh (av.k4 M0 M1 M3 M4<|av.k4 M5 M6 M7 M8<|av.cons M9<|av.nil) mixed (by kernel_rfl) (by kernel_rfl) rfl<|(py) ak SV.g0<|?_;refine DG.side (s:=.sl 39 1 x.cells) rfl rfl rfl rfl rfl rfl (fun wx Zx Rx BF ur=>OX.aL (us:=x.cells) dc rfl rfl rfl rfl fun b wy nw hb=>⟨nw.ext.size,_,rfl,⟨b,rfl⟩,ur.dD nw hb⟩)<|?_;rintro _ ⟨ZH,rfl⟩;refine(iF) (fun v8 Yo My fO uq=>?_);simp only [CA,NA] at fO;refine OX.wE qY rfl rfl rfl (As.gs fO.g2) (SR.cV (A:=fun _=>True) (x:=x) (show bN _ ZH _ _ from fO.ok _ (.tail _ (.tail _ (.tail _ (.tail _ (.tail _ (.tail _ (.tail _ (.tail _ (.tail _ (.tail _ (uq _ (.head _))))))))))))) trivial rfl (by simp [Key.cells,Value.oneCell']) rfl) (by omega) (by omega) (Nat.zero_le _) fun ZI SE xW SF SG SH acn=>?_;have iJ:=fO.p2.mX SG SF SH;refine⟨SG.size,_,rfl,_,_,_,iJ,aG.k4<|aG.k4<|aG.k2<|aG.nil,av.k4 M1 M2 M3 M4<|av.k4 M5 M6 M7 M8<|av.cons M9<|av.nil,?_⟩;refine(py) ak SV.g0<|(pS)<|?_;intro CK aco j9;simp only [CM,NM,CA,NA,ky.it] at j9;refine WL.go rfl (OX.put cE gx (As.gm j9.g4) rfl rfl rfl fun Db ZJ ZK=>?_);have kY:=j9.p4.iE ZJ ZK;refine nx ?_;refine WL.nil (EX.np ?_);have k8:=kY.yF (B:=As.map Key.val NC (jB (H++[x]))) (by rw [xj _ V]);refine fZ ?_;refine dX (p+1,H++[x],ZI,(u+1),SE) ⟨k8.p1.drop.p2.drop.p2.drop.p1,⟨by omega,Ir.add hed MR Mk V,by rw [List.getElem?_append_left hj4];exact MR,trivial⟩⟩
   have V:x∈H:=by simpa using AA
   refine eL ?_;refine dX (p+1,H,C,u,G) ⟨fh.drop.drop,⟨by omega,Ir.has MR Mk V,MR,trivial⟩⟩
  simp at MS
  refine na ?_;refine dX (j+1,H,C,u,G) ⟨P.p2.drop,⟨Ir.next MR (by omega),trivial⟩⟩
 simp at MJ
 have ZL:=fun {L'}=>hB.group (L':=L') W hed (show U.length≤j by omega);refine fZ ?_;have ZM:=St.fresh T;have O:=T.dZ (by omega);refine bP ?_;have P:=O;refine(cA) P4 (sa P.e0 (As.gr P.g0) (List.ne_nil_of_mem hB.mem) hB.i6 (by omega)) ?_;rintro _ pJ ⟨o1,o2,o3,L9,rfl,hsl,IX,Ff⟩;have Q:=St.lr P Ff;have hL9:=ZL hsl IX;subst hL9;refine cB ?_;have CN:St w M _ _ [As.os RR.key 39 2 o1 o2 o3 (aB l rev k)]:=(St.wk Q.k1);refine(bF) ?_;exact⟨o1,o2,o3,rfl,CN.Uz (fun _ h=>.inl (.inl h)) (Ow.z (As.gs CN.g0))⟩
theorem tc(d:St w M Z w []) (f:bN w wb 121 (D.wc v rev ra rn rc)) (hm:KM Key.val w D.m ml) (g:fL l lf ml) (h:(As.jK 48 lf l).ok Z w) (i:∀r∈l,eC r.key) (j:l.length≤4000) (o:∀r∈l,r.reads.length≤4000):Calls prog 58 #[.pointer (some ⟨wb,0,none⟩),k.val] w fun e w'=>∃(a:Option Addr) (n c:Nat),e=.returned (.slice a n c)∧St w M Z w' [As.os RR.key 39 2 a n c (aB l rev k)]:=by
 refine enter func58 rfl ntmps58 rfl<|?_;have aO:=St.rb d;refine(dr) aO fun b2 w1 z A st1=>?_;refine(dr) st1 fun b3 w2 B C st2=>?_;refine(bj) ak st2.b0<|?_;refine WP .r (PV.func (us:=[]) (vs:=[.pointer (some ⟨b2,0,none⟩)]) rfl rfl)<|?_;have b:=st2;refine(cA) VN (vN (k:=k) b.e0 VO (fun w1 h1 y=>AF (bN.ext (As.gb b.g1) h1) (f.ext (aJ.trans (St.cg b) h1)) (hm.ext (aJ.trans (St.cg b) h1)) g (As.exc h (aJ.trans (St.cg b) h1)) i y) j o) ?_;rintro _ w3 ⟨p,q,s,rfl,t⟩;have u:=St.lr b t;refine(bF) ?_;exact⟨p,q,s,rfl,(St.wk u.p1.drop.p1.drop)⟩
theorem sc{group:List Key}{o:Option Addr}{g eg:Nat}{A:Nat→Prop}(U:St w M Z w []) (V:bN w wb 121 (D.wc v rev ra rn rc)) (hm:KM Key.val w D.m ml) (W:fL l lf ml) (C:(As.jK 48 lf l).ok Z w) (z:Rd RR.key 2 A w o g eg group) (X:∀m∈group,∃r,ay l m=some r) (hb:∀i,((group.take i).flatMap fun m=>cp group m (aD l m).reads).length≤100000000):Calls prog 57 #[.pointer (some ⟨wb,0,none⟩),.slice o g eg] w fun e w'=>∃(a:Option Addr) (n c:Nat),e=.returned (.slice a n c)∧St w M Z w' [As.os RR.Ik 126 4 a n c (bU l group)]:=by
 have hlen:=z.len;have hle:=z.le;refine enter func57 rfl ntmps57 rfl<|?_;have aO:=St.rb U;have st1:=aO.fY RR.Ik 126 4;refine aN ?_;refine eL ?_;refine WC.br (σ:=Nat × (List nf) × (Option Addr) × Nat × Nat) (cT:=fun(i,acc,d,b,f)=>[(0,.pointer (some ⟨wb,0,none⟩)),(1,.slice o g eg),(5,.slice d b f),(11,.slice o g eg),(12,.int .i64 (g:Int)),(13,.int .i64 (i:Int))]) (F:=fun(i,acc,d,b,f)=>[As.os RR.Ik 126 4 d b f (acc)]) (I:=fun(i,acc,d,b,f)=>(i≤g)∧(acc=(group.take i).flatMap fun m=>cp group m (aD l m).reads)∧True) (μ:=fun(i,acc,d,b,f)=>g - i) (0,[],none,0,0) (st1) Sub.t (⟨by omega,by simp,trivial⟩)<|?_;rintro⟨i,acc,d,b,f⟩ w1 st2 ⟨hi,p,_⟩;simp only [CA,NA] at st2 hi p ⊢;refine(aP) (fun g14=>?_) fun g14=>?_
 ·
  simp at g14
  have E:i<group.length:=by omega
  refine cW ?_;obtain⟨jf,pG,mF,Y,iB,G,eK,fB⟩:=Rd.at z E;have G:=RR.bX G;subst G;refine nx ?_;refine WP .r (PV.dM dL Y rfl rfl (by omega))<|(bj) ak (aR eK (St.cg st2) (by simp))<|(ft) st2 fun b7 w2 QJ QK jg=>?_;refine(dh) gi jg fun w3 l4 mK O=>?_;refine ct ?_;obtain⟨r,hr⟩:=X _ (List.getElem_mem E);have hro:aD l group[i]=r:=aS hr;have P:=(C.1 _ _ hr).2.1;have Tj:=(C.1 _ _ hr).2.2;have Q:=O.fr (P.ext (St.cg O));have Wc:=P.len;have hN5:=Q.bG;refine WC.dS (m:=5) Q mixed<|ct ?_;refine DP .r (fun _ hC=>V1 fw (bN.range (V.ext (St.cg hC.2))) .r)<|(fk) ak St.g1<|(cy)<|?_;rintro w4 ⟨Mx,H⟩ _;refine WP .r (PV.gO cE fx fN (hm.ext (St.cg H)) (W.yes hr) rfl rfl)<|(aP) (fun g24=>?_) fun g24=>?_
  ·
   exact ep g24
  refine(bp) gw (bN.range ((C.1 _ _ hr).1.ext (St.cg H)))<|cW ?_;refine WC.br (σ:=Nat × (List nf) × (Option Addr) × Nat × Nat) (cT:=fun(j,h,d,b,f)=>[(0,.pointer (some ⟨wb,0,none⟩)),(1,.slice o g eg),(5,.slice d b f),(7,.pointer (some ⟨b7,0,none⟩)),(11,.slice o g eg),(12,.int .i64 (g:Int)),(13,.int .i64 (i:Int)),(28,.slice (lf group[i]).a (lf group[i]).n (lf group[i]).c),(29,.int .i64 ((lf group[i]).n:Int)),(30,.int .i64 (j:Int))]) (F:=fun(j,h,d,b,f)=>[As.os RR.Ik 126 4 d b f (h)]) (I:=fun(j,h,d,b,f)=>(j≤(lf group[i]).n)∧(h=acc++cp group group[i] (r.reads.take j))∧True) (μ:=fun(j,h,d,b,f)=>(lf group[i]).n - j) (0,acc,d,b,f) (H.p2) Sub.t (⟨by omega,by simp [cp],trivial⟩)<|?_;rintro⟨j,h,d,b,f⟩ w5 q ⟨hj,s,_⟩;simp only [CA,NA] at q hj s ⊢;have sj:=((As.gs q.g0)).len;have Wd:=hb i;rw [← p] at Wd;have Tg:=hW group group[i] (r.reads.take j)
  have htl:h.length≤100100000:=by rw [s,List.length_append];rw [List.length_take] at Tg;omega
  refine(aP) (fun J=>?_) fun J=>?_
  ·
   simp at J
   have K:j<r.reads.length:=by omega
   refine cW ?_;obtain⟨oz,Ae,xN,hU,pc,L,iX,jG⟩:=Rd.at (As.gr q.g1) K;have L:=RR.bX L;subst L;have R:=q.fg jG iX;refine nx ?_;refine WP .r (PV.dM dL hU rfl rfl (by omega))<|(bj) ak (As.ll R.g0)<|(ft) R fun L4 w6 x3 x4 kz=>?_;refine(dh) gi kz fun w7 v7 nZ N=>?_;refine(bj) ak N.b0<|(eZ) (jI (k:=r.reads[j]) (z.ext (St.cg N))) N fun w8 s8 B=>?_;refine(aP) (fun u=>?_) fun u=>?_
   ·
    simp at u
    have y:=gK (group:=group) (m:=group[i]) K;rw [if_neg u] at y;refine(bj) ak B.b4<|(bj) ak B.b0<|?_;refine WP .r (PV.aY (us:=(nf.mk group[i] r.reads[j]).cells) Iu rfl rfl rfl)<|?_;refine WL.go rfl (OX.aL (us:=(nf.mk group[i] r.reads[j]).cells) Bu rfl rfl rfl rfl fun b42 w9 ZN ZO=>?_);have T:=B.dD ZN ZO;refine WL.ap rfl rfl T.p3 (SR.cV (A:=fun _=>True) (x:=nf.mk group[i] r.reads[j]) (As.gb T.g0) trivial rfl (by simp [nf.cells,Value.oneCell']) rfl) fun a43 ZP kl agB agC df=>?_;refine jx ?_;refine dX (j+1,_,a43,(b+1),ZP) ⟨df.p5.p5.p2.k3,⟨by omega,by rw [y,s,List.append_assoc],trivial⟩⟩
   simp at u
   have y:=gK (group:=group) (m:=group[i]) K;rw [if_pos u] at y;refine eL ?_;refine dX (j+1,_,d,b,f) ⟨B.drop.drop,⟨by omega,by rw [y,s],trivial⟩⟩
  simp at J
  have SI:r.reads.take j=r.reads:=List.take_of_length_le (by omega);refine mo ?_;refine dX (i+1,h,d,b,f) ⟨q.p1.drop.p1.drop,⟨by omega,by rw [s,SI,p,List.take_succ_eq_append_getElem E];simp only [List.flatMap_append,List.flatMap_cons,List.flatMap_nil,List.append_nil,hro],trivial⟩⟩
 simp at g14
 have SJ:group.take i=group:=List.take_of_length_le (by omega);rw [SJ] at p;subst p;refine(bF) ?_;exact⟨_,_,_,rfl,(St.wk st2)⟩
theorem vO(hi:Rd RR.aC 4 Z w a1 n1 e1 x.ab):CR prog 132 #[.agg (x.row a1 n1 e1 a2 n2 e2).toArray,k.val] w (.int .i64 (bw x.ab k).changed):=by
 refine enter func132 rfl ntmps132 rfl<|?_;have aO:=St.s0 w;refine(dr) aO fun b2 w1 c d st1=>?_;refine(dr) st1 fun b3 w2 e g st2=>?_;refine(bj) bz st2.b1<|(bj) ak st2.b0<|(cA) IJ (nK (k:=k) (hi.ext (St.cg st2))) ?_;rintro _ w3 ⟨y,rfl,_,hy,a⟩;have b:=st2.step a;refine WP .r (PV.qq (fs:=[_,_,_]) (f:=2) (off:=3) (T:=102) underlying102 rfl rfl (show ∀w,(isAgg 3).run _ w=.ok false w from isAgg3) rfl rfl)<|(bF) ?_;exact⟨by rw [← hy],(St.cg b)⟩
theorem vP{r:Rec}(g:St w M Z w [As.map Key.val S.m ml,As.map Key.val S.q [],As.blk wb 121 (D.wc S.s rev ra rn rc),As.map Key.val D.m kA,As.jK 48 lf l]) (h:(S.FV prog aa x0).p Z w) (i:Rd RR.aC 4 Z w D.a1 D.n1 D.c1 x0.ab) (hm:aM aa x0.ab ml) (j:fL l lf kA) (y:ao aa) (z:∀k,(valOf aa x0.ab k).size≤1000) (eS:aw k=true) (n:ay l k=none):Calls prog 93 #[.pointer (some ⟨wb,0,none⟩),k.val] w fun e w'=>∃a,e=.returned (.int .i64 (aQ (valOf aa x0.ab) ⟨rev,x0.ab,l⟩ k))∧aM aa x0.ab a∧fj ml a∧St w M Z w' [As.map Key.val S.m a,As.map Key.val S.q [],As.blk wb 121 (D.wc S.s rev ra rn rc),As.map Key.val D.m kA,As.jK 48 lf l]:=by
 refine enter func93 rfl ntmps93 rfl<|?_;have aO:=g;have st1:=aO.fr i;have st2:=st1.fact (B:=As.fz (S.FV prog aa x0)) h (fun _ o=>o);refine(dr) st2 fun b3 w1 A C c=>?_;refine cB ?_;have E:=c.bG;refine WC.dS (m:=5) c mixed<|(gP) fw St.g5<|(fk) ak St.g0<|(cy)<|?_;rintro w2 ⟨F,b⟩ _;refine WP .r (PV.im cE fx fN (As.gm b.g6) (j.no n) rfl rfl)<|(bj) ak b.b0<|?_;refine WL.c1 (u:=.bool true) (cM (k:=k)) (by rw [eS]) b fun w3 G d=>?_;refine ct ?_;refine WC.te rfl<|nx ?_;have H:=d.bG;refine WC.dS (m:=5) d mixed<|(tu) bz St.g5<|(fk) ak St.g0<|(cy)<|?_;rintro w4 ⟨I,f⟩ _;refine(eZ) (vO (x:=⟨rev,x0.ab,l⟩) (k:=k) (a2:=D.a2) (n2:=D.n2) (e2:=D.c2) (As.gr f.g2)) f fun w5 J t=>?_;refine(bF) ?_;exact⟨ml,by rw [J5 eS],hm,fj.refl _,t.drop.drop.drop⟩
theorem vQ{r:Rec}(g:St w M Z w [As.map Key.val S.m ml,As.map Key.val S.q [],As.blk wb 121 (D.wc S.s rev ra rn rc),As.map Key.val D.m kA,As.jK 48 lf l]) (h:(S.FV prog aa x0).p Z w) (i:Rd RR.aC 4 Z w D.a1 D.n1 D.c1 x0.ab) (hm:aM aa x0.ab ml) (n:fL l lf kA) (t:ao aa) (y:∀k,(valOf aa x0.ab k).size≤1000) (eS:aw k=false) (c:ay l k=none):Calls prog 93 #[.pointer (some ⟨wb,0,none⟩),k.val] w fun e w'=>∃a,e=.returned (.int .i64 (aQ (valOf aa x0.ab) ⟨rev,x0.ab,l⟩ k))∧aM aa x0.ab a∧fj ml a∧St w M Z w' [As.map Key.val S.m a,As.map Key.val S.q [],As.blk wb 121 (D.wc S.s rev ra rn rc),As.map Key.val D.m kA,As.jK 48 lf l]:=by
 refine enter func93 rfl ntmps93 rfl<|?_;have aO:=g;have st1:=aO.fr i;have st2:=st1.fact (B:=As.fz (S.FV prog aa x0)) h (fun _ o=>o);refine(dr) st2 fun b3 w1 z A d=>?_;refine cB ?_;have C:=d.bG;refine WC.dS (m:=5) d mixed<|(gP) fw St.g5<|(fk) ak St.g0<|(cy)<|?_;rintro w2 ⟨E,b⟩ _;refine WP .r (PV.im cE fx fN (As.gm b.g6) (n.no c) rfl rfl)<|(bj) ak b.b0<|?_;refine WL.c1 (u:=.bool false) (cM (k:=k)) (by rw [eS]) b fun w3 F f=>?_;refine ct ?_;refine WC.fP rfl<|(aP) (fun g21=>?_) fun g21=>?_
 ·
  refine fZ ?_;refine WP .r (PV.ld1 (j:=1) aK f.b5 rfl rfl)<|(bF) ?_;exact⟨ml,by rw [J6 eS c],hm,fj.refl _,f.drop.drop.drop⟩
 exact ep g21
theorem vR(n:St w M Z w [As.map Key.val S.m ml,As.map Key.val S.q [],As.blk wb 121 (D.wc S.s rev ra rn rc),As.map Key.val D.m kA,As.jK 48 lf l]) (o:(S.FV prog aa x0).p Z w) (t:Rd RR.aC 4 Z w D.a1 D.n1 D.c1 x0.ab) (hm:aM aa x0.ab ml) (y:fL l lf kA) (A:ao aa) (C:∀k,(valOf aa x0.ab k).size≤1000) (eS:aw k=false) (a:ay l k=some r) (f:r.aq=rev):Calls prog 93 #[.pointer (some ⟨wb,0,none⟩),k.val] w fun e w'=>∃c,e=.returned (.int .i64 (aQ (valOf aa x0.ab) ⟨rev,x0.ab,l⟩ k))∧aM aa x0.ab c∧fj ml c∧St w M Z w' [As.map Key.val S.m c,As.map Key.val S.q [],As.blk wb 121 (D.wc S.s rev ra rn rc),As.map Key.val D.m kA,As.jK 48 lf l]:=by
 refine enter func93 rfl ntmps93 rfl<|?_;have aO:=n;have st1:=aO.fr t;have st2:=st1.fact (B:=As.fz (S.FV prog aa x0)) o (fun _ z=>z);refine(dr) st2 fun b3 w1 E F g=>?_;refine cB ?_;have G:=g.bG;refine WC.dS (m:=5) g mixed<|(gP) fw St.g5<|(fk) ak St.g0<|(cy)<|?_;rintro w2 ⟨H,d⟩ _;refine WP .r (PV.gO cE fx fN (As.gm d.g6) (y.yes a) rfl rfl)<|(bj) ak d.b0<|?_;refine WL.c1 (u:=.bool false) (cM (k:=k)) (by rw [eS]) d fun w3 I h=>?_;refine ct ?_;refine WC.fP rfl<|(aP) (fun g21=>?_) fun g21=>?_
 ·
  exact ep g21
 refine nx ?_;have J:=h.bG;refine WC.dS (m:=21) h mixed<|ct ?_;refine DP .r (fun _ b=>V1 aK (bN.range ((As.Bl b.2.g7).1 _ _ a).1) .r)<|cB ?_;refine DP .r (fun _ b=>PV.ld1 (j:=1) aK (bN.range (As.gb b.2.g5)) rfl rfl)<|DP .r (fun _ b=>(PV.NJ rfl rfl).cast (v':=.bool true) (congrArg Value.bool (decide_eq_true f)))<|(cy) ?_;rintro w4 ⟨K,i⟩ _;refine cW ?_;refine WC.te rfl<|(bp) aK (bN.range ((As.Bl i.g7).1 _ _ a).1)<|(bF) ?_;exact⟨ml,by rw [J7 eS a f],hm,fj.refl _,i.drop.drop.drop⟩
theorem vS(H:St w M Z w [As.map Key.val S.m ml,As.map Key.val S.q [],As.blk wb 121 (D.wc S.s rev ra rn rc),As.map Key.val D.m kA,As.jK 48 lf l]) (I:(S.FV prog aa x0).p Z w) (J:Rd RR.aC 4 Z w D.a1 D.n1 D.c1 x0.ab) (hm:aM aa x0.ab ml) (K:fL l lf kA) (L:ao aa) (N:∀k,(valOf aa x0.ab k).size≤1000) (eS:aw k=false) (b:ay l k=some r) (h:¬r.aq=rev) (hk:eU aa k):Calls prog 93 #[.pointer (some ⟨wb,0,none⟩),k.val] w fun e w'=>∃i,e=.returned (.int .i64 (aQ (valOf aa x0.ab) ⟨rev,x0.ab,l⟩ k))∧aM aa x0.ab i∧fj ml i∧St w M Z w' [As.map Key.val S.m i,As.map Key.val S.q [],As.blk wb 121 (D.wc S.s rev ra rn rc),As.map Key.val D.m kA,As.jK 48 lf l]:=by
 refine enter func93 rfl ntmps93 rfl<|?_;have aO:=H;have st1:=aO.fr J;have st2:=st1.fact (B:=As.fz (S.FV prog aa x0)) I (fun _ O=>O);refine(dr) st2 fun b3 w1 R T A=>?_;refine cB ?_;have U:=A.bG;refine WC.dS (m:=5) A mixed<|(gP) fw St.g5<|(fk) ak St.g0<|(cy)<|?_;rintro w2 ⟨V,n⟩ _;refine WP .r (PV.gO cE fx fN (As.gm n.g6) (K.yes b) rfl rfl)<|(bj) ak n.b0<|?_;refine WL.c1 (u:=.bool false) (cM (k:=k)) (by rw [eS]) n fun w3 W P=>?_;refine ct ?_;refine WC.fP rfl<|(aP) (fun g21=>?_) fun g21=>?_
 ·
  exact ep g21
 refine nx ?_;refine WC.dx (m:=21) [] [16] [0,1,2,3,4,5,6,7,8,9,10,11,12,13,14,15,16,17,18,19,20] [] P (av.k4 M0 M1 M2 M5<|av.cons M6<|av.cons M7<|av.nil) mixed (by kernel_rfl) (by kernel_rfl) rfl<|?_
 iterate 3 refine DG.a ?_
 refine DQ .r (fun o t y _ c d=>V1 aK (bN.range ((As.Bl (c.sv d).g5).1 _ _ b).1) .r)<|?_
 iterate 4 refine DG.a ?_
 refine DQ .r (fun o t y _ c d=>PV.ld1 (j:=1) aK (bN.range (As.gb (c.sv d).g3)) rfl rfl)<|DQ .r (fun o t y _ c d=>(PV.NJ rfl rfl).cast (v':=.bool false) (congrArg Value.bool (decide_eq_false h)))<|?_
 iterate 4 refine DG.a ?_
 refine(JK) q8 SV.g3<|(py) ak SV.g0<|(iF) (fun w4 X Y C MD=>?_);simp only [CA,NA] at C;have z:=C.p4.p4;refine OX.call EP rfl rfl ((MA L N hk _ _ _ _ _ z.e2 (As.gf z.g3) hm (fun _=>jX.nil _)).mono ?_);rintro _ w5 ⟨dt,rfl,E,F,G⟩;have Q:=St.lr z G;refine⟨_,rfl,G.bR.size,_,rfl,_,_,_,Q,aG.k4<|aG.k4<|aG.nil,av.k4 M2 M3 M4 M5<|av.cons M6<|av.cons M7<|av.nil,?_⟩
 iterate 3 refine DG.a ?_
 refine DQ .r (fun o t y _ c d=>V1 eV (bN.range ((As.Bl (c.sv d).g5).1 _ _ b).1) .r)<|(pS)<|?_;intro w6 xZ f;simp only [CM,NM,CA,NA,ky.it] at f;refine ct ?_;refine WL.nil (EX.np ?_);refine(aP) (fun g=>?_) fun g=>?_
 ·
  simp at g
  refine(bp) aK (bN.range ((As.Bl f.g7).1 _ _ b).1)<|(bF) ?_;exact⟨dt,by rw [Bm eS b h,if_pos g],E,F,f.p2.drop.p2.drop.p2.drop⟩
 simp at g
 refine px ?_;refine WP .r (PV.ld1 (j:=1) aK f.b5 rfl rfl)<|(bF) ?_;exact⟨dt,by rw [Bm eS b h,if_neg g],E,F,f.p2.drop.p2.drop.p2.drop⟩
theorem yA(a:St w M Z w [As.map Key.val S.m ml,As.map Key.val S.q [],As.blk wb 121 (D.wc S.s rev ra rn rc),As.map Key.val D.m kA,As.jK 48 lf l]) (b:(S.FV prog aa x0).p Z w) (c:Rd RR.aC 4 Z w D.a1 D.n1 D.c1 x0.ab) (hm:aM aa x0.ab ml) (d:fL l lf kA) (f:ao aa) (g:∀k,(valOf aa x0.ab k).size≤1000) (hk:eU aa k) (n:KR aa l):Calls prog 93 #[.pointer (some ⟨wb,0,none⟩),k.val] w fun e w'=>∃h,e=.returned (.int .i64 (aQ (valOf aa x0.ab) ⟨rev,x0.ab,l⟩ k))∧aM aa x0.ab h∧fj ml h∧St w M Z w' [As.map Key.val S.m h,As.map Key.val S.q [],As.blk wb 121 (D.wc S.s rev ra rn rc),As.map Key.val D.m kA,As.jK 48 lf l]:=by
 cases eS:aw k with
 | true=>exact vP (r:=lN) a b c hm d f g eS (n.aC eS)
 | false=>
  cases i:ay l k with
  | none=>exact vQ (r:=lN) a b c hm d f g eS i
  | some r=>
   by_cases j:r.aq=rev
   ·
    exact vR a b c hm d f g eS i j
   exact vS a b c hm d f g eS i j hk
theorem vT{c:nf}(t:St w M Z w [As.map Key.val S.m ml,As.map Key.val S.q [],As.blk wb 121 (D.wc S.s rev ra rn rc),As.map Key.val D.m kA,As.jK 48 lf l]) (u:(S.FV prog aa x0).p Z w) (y:Rd RR.aC 4 Z w D.a1 D.n1 D.c1 x0.ab) (hm:aM aa x0.ab ml) (i:fL l lf kA) (z:ao aa) (A:∀k,(valOf aa x0.ab k).size≤1000) (hk:eU aa c.read) (C:KR aa l) (d:ay l c.eP=some r):Calls prog 59 #[.pointer (some ⟨wb,0,none⟩),.agg c.cells.toArray] w fun e w'=>∃f,e=.returned (.bool (Bn (valOf aa x0.ab) ⟨rev,x0.ab,l⟩ c))∧aM aa x0.ab f∧fj ml f∧St w M Z w' [As.map Key.val S.m f,As.map Key.val S.q [],As.blk wb 121 (D.wc S.s rev ra rn rc),As.map Key.val D.m kA,As.jK 48 lf l]:=by
 refine enter func59 rfl ntmps59 rfl<|?_;have aO:=t;have st1:=aO.fr y;have st2:=st1.fact (B:=As.fz (S.FV prog aa x0)) u (fun _ E=>E);refine(dr) st2 fun b3 w1 N O F=>?_;refine cB ?_;refine WC.dx (m:=14) [] [3] [0,1,2,3,4,5,6,7,8,9,10,11,12,13] [] F (av.k4 M7 M6 M5 M2<|av.cons M1<|av.cons M0<|av.nil) mixed (by kernel_rfl) (by kernel_rfl) rfl<|?_
 iterate 2 refine DG.a ?_
 refine(JL) ak SV.g5<|(iF) (fun w2 P Q j R=>?_);simp only [CA,NA] at j;have b:=j.p7.p7.p7.p7.p7;refine OX.call VQ rfl rfl ((yA (k:=c.read) b.e5 (As.gf b.g6) (As.gr b.g7) hm i z A hk C).mono ?_);rintro _ w3 ⟨dt,rfl,G,H,n⟩;have I:=St.lr b n;refine⟨_,rfl,n.bR.size,_,rfl,_,_,_,I,aG.k4<|aG.k4<|aG.nil,av.k4 M4 M3 M2 M7<|av.cons M6<|av.cons M5<|av.nil,?_⟩
 iterate 3 refine DG.a ?_
 refine(JK) fw SV.g2<|(JL) ak SV.g5<|?_;refine DQ .r (fun J K L _ g h=>PV.gO cE fx fN (As.gm (g.sv h).g1) (i.yes d) rfl rfl)<|?_
 iterate 2 refine DG.a ?_
 refine DQ .r (fun J K L _ g h=>V1 aK (bN.range ((As.Bl (g.sv h).g0).1 _ _ d).1) .r)<|(pS)<|?_;intro w4 T o;simp only [CM,NM,CA,NA,ky.it] at o;refine bP ?_;refine WL.nil (EX.np ?_);refine(bF) ?_;exact⟨dt,by unfold Bn;rw [aS d],G,H,o.p5.drop.p5.drop.p5.drop⟩
theorem yB{Z:Nat→Prop}(b:bN w wb 121 (D.wc v rev ra rn rc)) (hm:KM Key.val w D.m ml) (c:fL l lf ml) (d:ay l k=none) (eS:aw k=true):CR prog 56 #[.pointer (some ⟨wb,0,none⟩),k.val] w (.bool true):=by
 refine enter func56 rfl ntmps56 rfl<|?_;have aO:=St.s0 w;refine(dr) aO fun b3 w1 f g st1=>?_;refine cB ?_;have i:=st1.bG;refine WC.dS (m:=5) st1 mixed<|ct ?_;refine DP .r (fun _ a=>V1 fw (bN.range (b.ext (St.cg a.2))) .r)<|(fk) ak St.g0<|(cy)<|?_;rintro w2 ⟨j,st2⟩ _;refine WP .r (PV.im cE fx fN (hm.ext (St.cg st2)) (c.no d) rfl rfl)<|cB ?_;have n:=st2.bG;refine WC.cJ (m:=15) (E:=bS [(1,fun v _=>v=.bool true)]) st2 (aU (⟨fun _ _ _ _ _ _ _ h=>h,trivial⟩)) mixed (by kernel_rfl)<|(fk) ak St.g0<|?_;refine DW.c1 (u:=.bool true) (fun o a p=>cM (k:=k)) (by rw [eS])<|?_;refine aN ?_;refine(cy) ?_;rintro w3 ⟨q,e⟩ ⟨_,_⟩;refine(bF) ?_;exact⟨rfl,(St.cg e)⟩
theorem yC{Z:Nat→Prop}(b:bN w wb 121 (D.wc v rev ra rn rc)) (hm:KM Key.val w D.m ml) (c:fL l lf ml) (d:ay l k=none) (eS:aw k=false):CR prog 56 #[.pointer (some ⟨wb,0,none⟩),k.val] w (.bool false):=by
 refine enter func56 rfl ntmps56 rfl<|?_;have aO:=St.s0 w;refine(dr) aO fun b3 w1 f g st1=>?_;refine cB ?_;have i:=st1.bG;refine WC.dS (m:=5) st1 mixed<|ct ?_;refine DP .r (fun _ a=>V1 fw (bN.range (b.ext (St.cg a.2))) .r)<|(fk) ak St.g0<|(cy)<|?_;rintro w2 ⟨j,st2⟩ _;refine WP .r (PV.im cE fx fN (hm.ext (St.cg st2)) (c.no d) rfl rfl)<|cB ?_;have n:=st2.bG;refine WC.cJ (m:=15) (E:=bS [(1,fun v _=>v=.bool false)]) st2 (aU (⟨fun _ _ _ _ _ _ _ h=>h,trivial⟩)) mixed (by kernel_rfl)<|(fk) ak St.g0<|?_;refine DW.c1 (u:=.bool false) (fun o a p=>cM (k:=k)) (by rw [eS])<|cB ?_;refine DW.eW (t:=17) rfl (fun g17=>?_) (fun g17=>?_)
 ·
  exact ep g17
 refine(cy) ?_;rintro w3 ⟨q,e⟩ ⟨_,_⟩;refine(bF) ?_;exact⟨rfl,(St.cg e)⟩
theorem yD(b:bN w wb 121 (D.wc v rev ra rn rc)) (hm:KM Key.val w D.m ml) (d:fL l lf ml) {r:Rec}(e:(As.jK 48 lf l).ok Z w) (c:ay l k=some r) (eS:aw k=false):CR prog 56 #[.pointer (some ⟨wb,0,none⟩),k.val] w (.bool (decide (r.aq=rev))):=by
 refine enter func56 rfl ntmps56 rfl<|?_;have aO:=St.s0 w;refine(dr) aO fun b3 w1 g i st1=>?_;refine cB ?_;have n:=st1.bG;refine WC.dS (m:=5) st1 mixed<|ct ?_;refine DP .r (fun _ a=>V1 fw (bN.range (b.ext (St.cg a.2))) .r)<|(fk) ak St.g0<|(cy)<|?_;rintro w2 ⟨o,st2⟩ _;refine WP .r (PV.gO cE fx fN (hm.ext (St.cg st2)) (d.yes c) rfl rfl)<|cB ?_;have p:=st2.bG;refine WC.cJ (m:=15) (E:=bS [(1,fun v _=>v=.bool false)]) st2 (aU (⟨fun _ _ _ _ _ _ _ h=>h,trivial⟩)) mixed (by kernel_rfl)<|(fk) ak St.g0<|?_;refine DW.c1 (u:=.bool false) (fun q a s=>cM (k:=k)) (by rw [eS])<|cB ?_;refine DW.eW (t:=17) rfl (fun g17=>?_) (fun g17=>?_)
 ·
  refine ct ?_;refine DP .r (fun _ a=>V1 aK (bN.range ((e.1 _ _ c).1.ext (St.cg a.2))) .r)<|cB ?_;refine DP .r (fun _ a=>PV.ld1 (j:=1) aK (bN.range (b.ext (St.cg a.2))) rfl rfl)<|(cy)<|?_;rintro w3 ⟨y,f⟩ ⟨_,_⟩;refine(bF) ?_;exact⟨rfl,(St.cg f)⟩
 exact ep g17
theorem kb{aC:List ca}(b:bN w wb 121 (D.wc v rev ra rn rc)) (hm:KM Key.val w D.m ml) (c:fL l lf ml) (d:(As.jK 48 lf l).ok Z w) (f:KR aa l):CR prog 56 #[.pointer (some ⟨wb,0,none⟩),k.val] w (.bool (aw k || aI ⟨rev,aC,l⟩ k)):=by
 cases eS:aw k with
 | true=>exact yB (Z:=Z) b hm c (f.aC eS) eS
 | false=>
  cases a:ay l k with
  | none=>
   have e:aI ⟨rev,aC,l⟩ k=false:=by unfold aI;rw [show(cI.mk rev aC l).ah=l from rfl,a];rfl
   rw [e];exact yC (Z:=Z) b hm c a eS
  | some r=>
   have e:aI ⟨rev,aC,l⟩ k=decide (r.aq=rev):=by unfold aI;rw [show(cI.mk rev aC l).ah=l from rfl,a,aS a];rfl
   rw [e];exact yD b hm c d a eS
theorem vU{r:Rec}(g:St w M Z w [As.map Key.val S.m ml,As.map Key.val S.q [],As.blk wb 121 (D.wc S.s rev ra rn rc),As.map Key.val D.m kA,As.jK 48 lf l]) (h:(S.FV prog aa x0).p Z w) (i:Rd RR.aC 4 Z w D.a1 D.n1 D.c1 x0.ab) (hm:aM aa x0.ab ml) (j:fL l lf kA) (z:ao aa) (A:∀k,(valOf aa x0.ab k).size≤1000) (n:KR aa l) (c:(aw k || aI ⟨rev,x0.ab,l⟩ k)=true):Calls prog 28 #[.pointer (some ⟨wb,0,none⟩),k.val] w fun e w'=>∃b,e=.returned (.agg (ia (fo (valOf aa x0.ab) ⟨rev,x0.ab,l⟩ k)).toArray)∧aM aa x0.ab b∧fj ml b∧St w M Z w' [As.map Key.val S.m b,As.map Key.val S.q [],As.blk wb 121 (D.wc S.s rev ra rn rc),As.map Key.val D.m kA,As.jK 48 lf l]:=by
 refine enter func28 rfl ntmps28 rfl<|?_;have aO:=g;have st1:=aO.fr i;have st2:=st1.fact (B:=As.fz (S.FV prog aa x0)) h (fun _ o=>o);refine(dr) st2 fun b3 w1 C E t=>?_;refine(ft) t fun b4 w2 F G d=>?_;refine ct ?_;have H:=d.bG;refine WC.dS (m:=5) d mixed<|(gP) fw St.g6<|(fk) ak St.g1<|(cy)<|?_;rintro w3 ⟨I,a⟩ _;refine WP .r (PV.look cE fx fN (As.gm a.g7) rfl rfl)<|(bj) ak a.b1<|?_;refine WL.c1 (u:=.bool true) (kb (aC:=x0.ab) (As.gb a.g6) (As.gm a.g7) j (As.Bl a.g8) n) (by rw [c]) a fun w4 J y=>?_;refine ct ?_;refine WC.te rfl<|(dh) q9 y fun w5 K L f=>?_;refine(jm) lW f.b0<|?_;exact⟨ml,by rw [zu c];rfl,hm,fj.refl _,f.drop.drop.drop.drop⟩
theorem vV{r:Rec}(i:St w M Z w [As.map Key.val S.m ml,As.map Key.val S.q [],As.blk wb 121 (D.wc S.s rev ra rn rc),As.map Key.val D.m kA,As.jK 48 lf l]) (j:(S.FV prog aa x0).p Z w) (n:Rd RR.aC 4 Z w D.a1 D.n1 D.c1 x0.ab) (hm:aM aa x0.ab ml) (c:fL l lf kA) (A:ao aa) (C:∀k,(valOf aa x0.ab k).size≤1000) (o:KR aa l) (d:(aw k || aI ⟨rev,x0.ab,l⟩ k)=false) (f:ay l k=none):Calls prog 28 #[.pointer (some ⟨wb,0,none⟩),k.val] w fun e w'=>∃b,e=.returned (.agg (ia (fo (valOf aa x0.ab) ⟨rev,x0.ab,l⟩ k)).toArray)∧aM aa x0.ab b∧fj ml b∧St w M Z w' [As.map Key.val S.m b,As.map Key.val S.q [],As.blk wb 121 (D.wc S.s rev ra rn rc),As.map Key.val D.m kA,As.jK 48 lf l]:=by
 refine enter func28 rfl ntmps28 rfl<|?_;have aO:=i;have st1:=aO.fr n;have st2:=st1.fact (B:=As.fz (S.FV prog aa x0)) j (fun _ t=>t);refine(dr) st2 fun b3 w1 E F y=>?_;refine(ft) y fun b4 w2 G H g=>?_;refine ct ?_;have I:=g.bG;refine WC.dS (m:=5) g mixed<|(gP) fw St.g6<|(fk) ak St.g1<|(cy)<|?_;rintro w3 ⟨J,a⟩ _;refine WP .r (PV.im cE fx fN (As.gm a.g7) (c.no f) rfl rfl)<|(bj) ak a.b1<|?_;refine WL.c1 (u:=.bool false) (kb (aC:=x0.ab) (As.gb a.g6) (As.gm a.g7) c (As.Bl a.g8) o) (by rw [d]) a fun w4 K z=>?_;refine ct ?_;refine WC.fP rfl<|(aP) (fun g19=>?_) fun g19=>?_
 ·
  refine bP ?_;refine WP .r (PV.aY (us:=[.int .i64 1,.int .i64 0,.string ⟨#[]⟩]) xA rfl rfl rfl)<|(dh) q9 z fun w5 L N h=>?_;refine(jm) lW h.b0<|?_;exact⟨ml,by rw [J8 d f];rfl,hm,fj.refl _,h.drop.drop.drop.drop⟩
 exact ep g19
theorem vW(j:St w M Z w [As.map Key.val S.m ml,As.map Key.val S.q [],As.blk wb 121 (D.wc S.s rev ra rn rc),As.map Key.val D.m kA,As.jK 48 lf l]) (n:(S.FV prog aa x0).p Z w) (o:Rd RR.aC 4 Z w D.a1 D.n1 D.c1 x0.ab) (hm:aM aa x0.ab ml) (d:fL l lf kA) (C:ao aa) (E:∀k,(valOf aa x0.ab k).size≤1000) (t:KR aa l) (f:(aw k || aI ⟨rev,x0.ab,l⟩ k)=false) (b:ay l k=some r) (y:r.bq=true):Calls prog 28 #[.pointer (some ⟨wb,0,none⟩),k.val] w fun e w'=>∃c,e=.returned (.agg (ia (fo (valOf aa x0.ab) ⟨rev,x0.ab,l⟩ k)).toArray)∧aM aa x0.ab c∧fj ml c∧St w M Z w' [As.map Key.val S.m c,As.map Key.val S.q [],As.blk wb 121 (D.wc S.s rev ra rn rc),As.map Key.val D.m kA,As.jK 48 lf l]:=by
 refine enter func28 rfl ntmps28 rfl<|?_;have aO:=j;have st1:=aO.fr o;have st2:=st1.fact (B:=As.fz (S.FV prog aa x0)) n (fun _ z=>z);refine(dr) st2 fun b3 w1 F G A=>?_;refine(ft) A fun b4 w2 H I g=>?_;refine ct ?_;have J:=g.bG;refine WC.dS (m:=5) g mixed<|(gP) fw St.g6<|(fk) ak St.g1<|(cy)<|?_;rintro w3 ⟨K,a⟩ _;refine WP .r (PV.gO cE fx fN (As.gm a.g7) (d.yes b) rfl rfl)<|(bj) ak a.b1<|?_;refine WL.c1 (u:=.bool false) (kb (aC:=x0.ab) (As.gb a.g6) (As.gm a.g7) d (As.Bl a.g8) t) (by rw [f]) a fun w4 L h=>?_;refine ct ?_;refine WC.fP rfl<|(aP) (fun g19=>?_) fun g19=>?_
 ·
  exact ep g19
 refine(bp) di (bN.range ((As.Bl h.g8).1 _ _ b).1)<|(aP) (fun g23=>?_) fun g23=>?_
 ·
  refine bP ?_;refine WP .r (PV.aY (us:=[.int .i64 3,.int .i64 0,.string ⟨#[]⟩]) xA rfl rfl rfl)<|(dh) q9 h fun w5 N O i=>?_;refine(jm) lW i.b0<|?_;exact⟨ml,by rw [Cj f b y];rfl,hm,fj.refl _,i.drop.drop.drop.drop⟩
 exact ep g23
set_option maxHeartbeats 1600000 in
theorem vX(gq:St w M Z w [As.map Key.val S.m ml,As.map Key.val S.q [],As.blk wb 121 (D.wc S.s rev ra rn rc),As.map Key.val D.m kA,As.jK 48 lf l]) (hf:(S.FV prog aa x0).p Z w) (ZQ:Rd RR.aC 4 Z w D.a1 D.n1 D.c1 x0.ab) (hm:aM aa x0.ab ml) (f:fL l lf kA) (hR:ao aa) (hS:∀k,(valOf aa x0.ab k).size≤1000) (C:KR aa l) (L:(aw k || aI ⟨rev,x0.ab,l⟩ k)=false) (g:ay l k=some r) (W:r.bq=false) (h6:l.length≤4000) (X:∀r∈l,r.reads.length≤4000):Calls prog 28 #[.pointer (some ⟨wb,0,none⟩),k.val] w fun e w'=>∃N,e=.returned (.agg (ia (fo (valOf aa x0.ab) ⟨rev,x0.ab,l⟩ k)).toArray)∧aM aa x0.ab N∧fj ml N∧St w M Z w' [As.map Key.val S.m N,As.map Key.val S.q [],As.blk wb 121 (D.wc S.s rev ra rn rc),As.map Key.val D.m kA,As.jK 48 lf l]:=by
 have Y:=GU (rev:=rev) g
 have Nu:(aB l rev k).length≤4001:=by have:=mx l rev k;omega
 have XO:=Ck X Nu
 have BN:(bU l (aB l rev k)).length≤100000000:=by have:=XO (aB l rev k).length;rw [List.take_of_length_le (Nat.le_refl _)] at this;exact this
 refine enter func28 rfl ntmps28 rfl<|?_;have aO:=gq;have st1:=aO.fr ZQ;have st2:=st1.fact (B:=As.fz (S.FV prog aa x0)) hf (fun _ hx=>hx);refine(dr) st2 fun b3 w1 E7 vh jg=>?_;refine(ft) jg fun b4 w2 E0 I3 iH=>?_;refine ct ?_;have Wn:=iH.bG;refine WC.dS (m:=5) iH mixed<|(gP) fw St.g6<|(fk) ak St.g1<|(cy)<|?_;rintro w3 ⟨Ag,b⟩ _;refine WP .r (PV.gO cE fx fN (As.gm b.g7) (f.yes g) rfl rfl)<|(bj) ak b.b1<|?_;refine WL.c1 (u:=.bool false) (kb (aC:=x0.ab) (As.gb b.g6) (As.gm b.g7) f (As.Bl b.g8) C) (by rw [L]) b fun w4 s4 O=>?_;refine ct ?_;refine WC.fP rfl<|(aP) (fun g19=>?_) fun g19=>?_
 ·
  exact ep g19
 refine(bp) di (bN.range ((As.Bl O.g8).1 _ _ g).1)<|(aP) (fun g23=>?_) fun g23=>?_
 ·
  exact ep g23
 refine(bj) ak O.b1<|?_;have i:=O;refine(cA) Vt (tc (k:=k) i.e0 (As.gb i.g6) (As.gm i.g7) f (As.Bl i.g8) C.UD h6 X) ?_;rintro _ w5 ⟨u1,u2,u3,rfl,pK⟩;have ji:=St.lr i pK;have d:=ji;refine(cA) Vs (sc d.e0 (As.gb d.g7) (As.gm d.g8) f (As.Bl d.g9) (Ow.rd (As.gs d.g0) (by omega)) Y XO) ?_;rintro _ w6 ⟨o1,E,o3,rfl,vw⟩;have dY:=St.lr d vw;have hcn:=((As.gs dY.g0)).len;refine cW ?_;refine WC.br (σ:=Nat × (List (Key × Value))) (cT:=fun(q,dt)=>[(0,.pointer (some ⟨wb,0,none⟩)),(3,.pointer (some ⟨b3,0,none⟩)),(4,.pointer (some ⟨b4,0,none⟩)),(33,.slice o1 E o3),(34,.int .i64 (E:Int)),(35,.int .i64 (q:Int))]) (F:=fun(q,dt)=>[As.map Key.val S.m dt]) (I:=fun(q,dt)=>(q≤E)∧(aM aa x0.ab dt)∧(fj ml dt)∧(∀(j:Nat) (c:nf),j<q→(bU l (aB l rev k))[j]?=some c→Bn (valOf aa x0.ab) ⟨rev,x0.ab,l⟩ c=false)∧True) (μ:=fun(q,dt)=>E - q) (0,ml) (dY.p6) Sub.t (⟨Nat.zero_le _,hm,fj.refl _,fun j c h=>by omega,trivial⟩)<|?_;rintro⟨q,dt⟩ w7 n ⟨hq,P,o,G,_⟩;simp only [CA,NA] at n hq P o G ⊢;refine(aP) (fun Q=>?_) fun Q=>?_
 ·
  simp at Q
  have CU:q<(bU l (aB l rev k)).length:=by omega
  obtain⟨c0,y⟩:∃c0,(bU l (aB l rev k))[q]?=some c0:=⟨_,ae CU⟩;obtain⟨F7,SK,_⟩:=gT.1 (List.mem_of_getElem? y);obtain⟨rm,R⟩:=Y _ F7;rw [aS R] at SK;have hkc:=(C rm (aT R).1).2.2 _ SK;refine cW ?_;obtain⟨jf,cx⟩:=Ow.addr (As.gs n.g1) y;refine nx ?_;refine WP .r (PV.dM ED cx rfl rfl (by omega))<|(bj) zG (Ow.tt (As.gs n.g1) (by omega) cx y)<|(ft) n fun b7 w8 QJ QK H=>?_;refine(dh) Ix H fun w9 l4 mK df=>?_;refine(bj) zG df.b0<|?_;have J:=df.pQ.pQ.pQ.pQ.p5;refine(cA) Vu (vT (c:=c0) J.e5 (As.gf J.g10) (As.gr J.g11) P f hR hS hkc C R) ?_;rintro _ kl ⟨gl,rfl,T,U,nH⟩;have a:=St.lr J nH;refine(aP) (fun V=>?_) fun V=>?_
  ·
   refine jx ?_
   refine dX (q+1,gl) ⟨a.p5.drop.ts.ts.ts.ts.ts.ts.p6,⟨by omega,T,o.trans U,fun j c hj hc=>by
      rcases Nat.lt_or_ge j q with h1 | h1
      ·
       exact G j c h1 hc
      have e:j=q:=by omega
      subst e;rw [y] at hc
      cases hc
      simpa using V,trivial⟩⟩
  have UR:Bn (valOf aa x0.ab) ⟨rev,x0.ab,l⟩ c0=true:=by simpa using V
  have K:=GS (x:=⟨rev,x0.ab,l⟩) L g W y G UR;refine(jJ) ak a.b5<|(bj) ak (bN.range (As.gb a.g9))<|?_;refine WP .r (PV.yR ek (p:=c0.eP) (q:=k) rfl rfl)<|(aP) (fun z=>?_) fun z=>?_
  ·
   simp at z
   rw [if_pos z] at K;refine(jJ) ak a.b5<|?_;refine WP .r (PV.aY (us:=[.int .i64 2,.int .i64 c0.read.kind,.string c0.read.text]) xA rfl rfl rfl)<|(dh) q9 a.p8 fun lB v7 nZ A=>?_;refine(jm) lW A.b0<|?_;exact⟨gl,by rw [K];rfl,T,o.trans U,A.drop.p5.drop.p5.drop.p5.drop.p5.drop.p5.drop.p5.drop⟩
  simp at z
  rw [if_neg z] at K;refine(jJ) ak a.b5<|?_;refine WP .r (PV.aY (us:=[.int .i64 3,.int .i64 c0.read.kind,.string c0.read.text]) xA rfl rfl rfl)<|(dh) q9 a.p8 fun lB CC yG A=>?_;refine(jm) lW A.b0<|?_;exact⟨gl,by rw [K];rfl,T,o.trans U,A.drop.p5.drop.p5.drop.p5.drop.p5.drop.p5.drop.p5.drop⟩
 simp at Q
 have hns:=Ed (val:=(valOf aa x0.ab)) (x:=⟨rev,x0.ab,l⟩) L g W (fun j c hj hc=>G j c (by have h1:j<(bU l (aB l rev k)).length:=hj;omega) hc);refine(dh) q9 n.p3 fun w8 Nl Nn H=>?_;refine(jm) lW H.b0<|?_;exact⟨dt,by rw [hns];rfl,P,o,H.drop.p1.drop.p1.drop.p1.drop.p1.drop.p1.drop⟩
theorem lg(a:St w M Z w [As.map Key.val S.m ml,As.map Key.val S.q [],As.blk wb 121 (D.wc S.s rev ra rn rc),As.map Key.val D.m kA,As.jK 48 lf l]) (b:(S.FV prog aa x0).p Z w) (c:Rd RR.aC 4 Z w D.a1 D.n1 D.c1 x0.ab) (hm:aM aa x0.ab ml) (d:fL l lf kA) (f:ao aa) (g:∀k,(valOf aa x0.ab k).size≤1000) (h:KR aa l) (t:l.length≤4000) (u:∀r∈l,r.reads.length≤4000):Calls prog 28 #[.pointer (some ⟨wb,0,none⟩),k.val] w fun e w'=>∃j,e=.returned (.agg (ia (fo (valOf aa x0.ab) ⟨rev,x0.ab,l⟩ k)).toArray)∧aM aa x0.ab j∧fj ml j∧St w M Z w' [As.map Key.val S.m j,As.map Key.val S.q [],As.blk wb 121 (D.wc S.s rev ra rn rc),As.map Key.val D.m kA,As.jK 48 lf l]:=by
 cases i:(aw k || aI ⟨rev,x0.ab,l⟩ k) with
 | true=>exact vU (r:=lN) a b c hm d f g h i
 | false=>
  cases n:ay l k with
  | none=>exact vV (r:=lN) a b c hm d f g h i n
  | some r=>
   cases o:r.bq with
   | true=>exact vW a b c hm d f g h i n o
   | false=>exact vX a b c hm d f g h i n o t u
set_option maxHeartbeats 1600000 in
theorem vI{ar:Option Addr}{r cr:Nat}(gq:St w M Z w []) (ht:jM prog Z w) (hu:Rd RR.fl 4 Z w ar r cr aa) (ZQ:Rd RR.aC 4 Z w a1 n1 e1 x.ab) (hr:Rd RR.e8 8 Z w a2 n2 e2 x.ah) (h6:x.ah.length≤4000) (h7:x.ab.length≤4000) (hS:pA x.ah):Calls prog 55 #[.slice ar r cr,.agg (x.row a1 n1 e1 a2 n2 e2).toArray] w fun e w'=>∃(D:WD) (S:SD) (wb:Nat) (lf:Key→RL) (ml:List (Key × Value)) (Z':Nat→Prop),e=.returned (.pointer (some ⟨wb,0,none⟩))∧fL x.ah lf ml∧dV w.heap.size Z Z'∧(S.FV prog aa x).p Z' w'∧Rd RR.aC 4 Z' w' D.a1 D.n1 D.c1 x.ab∧Rd RR.fl 4 Z' w' D.ar D.r D.cr aa∧St w M Z' w' [As.map Key.val S.m [],As.map Key.val S.q [],As.blk wb 121 (D.wc S.s x.ad none 0 0),As.map Key.val D.m ml,As.jK 48 lf x.ah]:=by
 refine enter func55 rfl ntmps55 rfl<|?_;have aO:=gq;have st1:=aO.fr hu;have st2:=st1.fr ZQ;have jg:=st2.fr hr;have iH:=jg.fact (B:=As.fz (FZ.F0 prog)) ht (fun _ z=>z);refine(dr) iH fun b3 w1 E7 vh l5=>?_;refine cB ?_;refine WC.dx (m:=7) [] [2,6] [1,2,4,5,6,0,3] [(3,.map)] l5 (av.k4 M0 M1 M2 M3<|av.cons M4<|av.nil) mixed (by kernel_rfl) (by kernel_rfl) rfl<|(py) bz SV.g0<|(iF) (fun w2 R2x RN J I8=>?_);simp only [CA,NA] at J;have f:=J;refine OX.call VK rfl rfl ((rT (x:=x) f.e0 (As.gr f.g3) (As.gr f.g2) (by omega) (by omega)).mono ?_);rintro _ w3 ⟨f1,f2,f3,f4,f5,f6,Z1,rfl,K,g⟩;have A:=St.lv f g K;have Mc:=St.dw g.p1;have Mb:=St.dw g;have n:=f.size;have Dd:=K.le n;have Ma:f5=x.ah.length:=((As.gs A.g1)).len;have agF:f2=x.ab.length:=((As.gs A.g0)).len;have kz:=A.p1.dZ (by omega);have dY:=kz.p1.dZ (by omega);have uh:=(Dd.trans (dV.nR (F:=fun x=>x∈bl f4) Mc) n).trans (dV.nR (F:=fun x=>x∈bl f1) Mb) n;refine⟨_,rfl,g.bR.size,_,rfl,_,_,_,dY,aG.k4<|aG.k2<|aG.cons<|aG.nil,av.k4 M2 M3 M4 M5<|av.cons M6<|av.nil,?_⟩;refine(py) bz SV.g0<|(iF) (fun w4 R6x RG L I6=>?_);simp only [CA,NA] at L;have C:=L;refine OX.call VL rfl rfl ((yk (x:=x) C.e0).mono ?_);rintro _ w5 ⟨d1,d2,d3,rfl,E⟩;have df:=St.lr C E;have hgv:=St.dw E;have ZR:=C.size;have c:=df;have gp:=c.freeze (B:=As.fz (SD.FV (⟨ar,a1,a2,r,cr,n1,e1,n2,e2,d2,d3,d1⟩:SD) prog aa x)) ⟨(SD.F (⟨ar,a1,a2,r,cr,n1,e1,n2,e2,d2,d3,d1⟩:SD) prog aa x).mono (fun _ h=>.inl h) ⟨(As.gr c.g9),(As.gr c.g8),(As.gr c.g7),(As.gf c.g6)⟩,.inr rfl,((As.gb c.g0)).lt,bN.range (As.gb c.g0)⟩ (fun _ z=>z);have BE:=uh.trans (dV.nR (F:=fun x=>x=d1) hgv) ZR;refine⟨_,rfl,E.bR.size,_,rfl,_,_,_,gp,aG.k4<|aG.k4<|aG.k2<|aG.nil,av.k4 M5 M6 M7 M8<|av.cons M9<|av.nil,?_⟩;refine DG.a<|?_;refine DG.side (s:=.map) rfl rfl rfl rfl rfl rfl (fun wx Zx Rx BF ur=>OX.makeMap Key.val rfl fun b wy N hb=>⟨N.ext.size,_,rfl,⟨b,rfl⟩,ur.Gs N hb⟩)<|?_;rintro _ ⟨G,rfl⟩;refine(pS) ?_;intro w6 n O;simp only [CM,NM,CA,NA,ky.it] at O;refine WP .r (PV.aY (us:=(WD.wc ⟨ar,f1,f4,r,cr,f2,f3,f5,f6,G,d1⟩ d1 x.ad none 0 0)) O8 rfl rfl rfl)<|(dr) O fun P w7 Fm HS Q=>?_;refine nx ?_;refine WL.nil (EX.np ?_);refine jx ?_;refine WP .r (PV.ld1 (j:=3) el Q.b0 rfl rfl)<|cW ?_;have R:Key→RL:=fun _=>⟨0,none,0,0⟩;have gJ:=St.Uy Q 48 R;refine WC.br (σ:=Nat × (Key→RL) × (List (Key × Value))) (cT:=fun(i,lf,ml)=>[(5,.pointer (some ⟨P,0,none⟩)),(21,.slice f4 f5 f6),(22,.int .i64 (f5:Int)),(23,.int .i64 (i:Int))]) (F:=fun(i,lf,ml)=>[As.map Key.val G ml,As.jK 48 lf (x.ah.take i)]) (I:=fun(i,lf,ml)=>(i≤x.ah.length)∧(fL (x.ah.take i) lf ml)∧True) (μ:=fun(i,lf,ml)=>x.ah.length - i) (0,R,[]) (gJ.p2) Sub.t (⟨Nat.zero_le _,fL.nil _,trivial⟩)<|?_;rintro⟨i,lf,ml⟩ w8 o ⟨hi,u,_⟩;simp only [CA,NA] at o hi u ⊢;refine(aP) (fun g24=>?_) fun g24=>?_
 ·
  simp at g24
  have H:i<x.ah.length:=by omega
  have T:∀y,ay (x.ah.take (i+1)) y=if y=x.ah[i].key then some x.ah[i] else ay (x.ah.take i) y:=fun y=>by rw [List.take_succ_eq_append_getElem H];exact zr (hS.ne H) y
  refine cW ?_;obtain⟨jf,pG,mF,cx,iB,gk,eK,fB⟩:=Rd.at (As.gr o.g7) H;obtain⟨q1,U,V,rfl,F4,F5⟩:=gk;have d:=o.fg fB eK;have W:=d.fr F4;refine nx ?_;refine WP .r (PV.dM iG cx rfl rfl (by omega))<|(bj) dC (As.ll W.g1)<|(ft) W fun X w9 QJ QK dE=>?_;refine(dh) fA dE fun kl l4 mK Y=>?_;refine bP ?_;have hN5:=Y.bG;refine WC.dS (m:=6) Y mixed<|(gP) fw St.g5<|(tu) ak St.g0<|(cy)<|?_;rintro lB ⟨Mx,ic⟩ _;refine WL.go rfl (OX.put cE fx (As.gm ic.g3) rfl rfl rfl fun pJ E8 Af=>?_);have fh:=ic.p3.iE E8 Af;refine ct ?_;have fO:=fh.p4.p2;have iJ:=St.J3 (q:=⟨X,q1,U,V⟩) fO (As.gr fO.g3) F5 T;refine cB ?_;refine dX (i+1,_,_) ⟨iJ.p2.drop.p2.drop.p1,⟨by omega,u.put (q:=⟨X,q1,U,V⟩) T,trivial⟩⟩
 simp at g24
 have hie:x.ah.take i=x.ah:=List.take_of_length_le (by omega);rw [hie] at u;have d:=o.p1.yF (B:=As.jK 48 lf x.ah) (by rw [hie]);refine(bF) ?_;exact⟨⟨ar,f1,f4,r,cr,f2,f3,f5,f6,G,d1⟩,(⟨ar,a1,a2,r,cr,n1,e1,n2,e2,d2,d3,d1⟩:SD),P,lf,ml,_,rfl,u,BE,(As.gf d.g3),(As.gr d.g6),(As.gr d.g12),d.p3.drop.p5.drop.p5.drop.p5.drop.p5.drop.p5.drop.p5.drop.p5.drop.p1.p2.p4.p4⟩
end Go.Rc

