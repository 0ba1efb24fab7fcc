/- Walks over the program, part WZr. Conditions: as each theorem says. -/
import Derived.Test.YtmpkegmkoclbhaaGreatDoorDFacts
import Derived.Test.YtmpkegmkoclbhaaGreatDoorDWZl
import Derived.Test.YtmpkegmkoclbhaaGreatDoorDBh
set_option linter.all false
namespace Go.Rc
open Go Go.Proofs Go.Proofs.Tryz
variable {r:Rec}{rev:Int}{w:World}{D:WD}{v rn rc wb pb n1 e1 n2 e2:Nat}{ra a1 a2:Option Addr}{k:Key}{ml eI:List (Key × Value)}{Z M:Nat→Prop}{l:List Rec}{lf:Key→RL}{x x0:bZ}{aa:List aH}{S:SD}
set_option maxHeartbeats 400000
theorem Au{a:Option Addr}{n c:Nat}(hk:cY r.key):CR prog 150 #[.agg (r.row a n c).toArray,.int .i64 rev] w (.bool (az r.key && (decide (r.av<rev) && !r.bq))):=by
 refine enter func150 rfl ntmps150 rfl<|?_;have aQ:=St.s0 w;refine(dy) aQ fun b2 w1 b d st1=>?_;refine cy ?_;refine WC.kR (t:=4) (v:=.bool (az r.key && (decide (r.av<rev) && !r.bq))) st1 ?_<|?_
 ·
  refine(hW) ao st1.b0<|?_;refine WL.c1 (u:=.bool (az r.key)) (fJ (k:=r.key) hk) (by rw [B3 hk]) st1 fun w2 s2 st2=>?_;refine(db) (fun g8=>?_) (fun g8=>?_)
  ·
   refine(a7) aP st2.b0<|(db) (fun g14=>?_) (fun g14=>?_)
   ·
    refine(a7) dH st2.b0<|?_;exact(gH) (tG (aj g8 g14)) (st2)
   exact(gH) (tG (aj g8 g14)) (st2)
  exact(gH) (tG g8) (st2)
 intro w2 st2;refine(bz) ?_;exact⟨rfl,(St.cg st2)⟩
theorem Av(b:bU w pb 63 [.pointer (some ⟨wb,0,none⟩)]) (c:bU w wb 74 (D.wc v rev ra rn rc)) (hm:KM Key.val w D.m ml) (d:(bF ml k).getD (.pointer none)=.pointer none):CR prog 149 #[k.val,.pointer (some ⟨pb,0,none⟩)] w (.tuple #[.slice none 0 0,.bool false]):=by
 refine enter func149 rfl ntmps149 rfl<|?_;have aQ:=St.s0 w;refine(dy) aQ fun b2 w1 f g st1=>?_;refine fL ?_;have h:=st1.bN;refine WC.dS (m:=5) st1 mixed<|?_;refine DP .r (fun _ a=>PV.mq Kq (bU.range (b.ext (St.cg a.2))) rfl rfl)<|bO ?_;refine DP .r (fun _ a=>V1 fX (bU.range (c.ext (St.cg a.2))) .r)<|(gN) ao St.g0<|(cQ)<|?_;rintro w2 ⟨i,st2⟩ _;refine WP .r (PV.jQ cZ fZ fh (hm.ext (St.cg st2)) (d) rfl rfl)<|cy ?_;have j:=st2.bN;refine WC.dS (m:=11) st2 mixed<|cq ?_;refine DW.dm (t:=14) rfl (fun g14=>?_) (fun g14=>?_)
 ·
  exact dL g14
 refine(cQ) ?_;rintro w3 ⟨n,e⟩ _;refine cy ?_;refine WC.fK rfl<|(AF) ?_;exact⟨rfl,(St.cg e)⟩
theorem Aw{q:RL}(i:bU w pb 63 [.pointer (some ⟨wb,0,none⟩)]) (o:bU w wb 74 (D.wc v rev ra rn rc)) (hm:KM Key.val w D.m ml) (s:bF ml k=some (.pointer (some ⟨q.b,0,none⟩))) (p:bU w q.b 88 (r.row q.a q.n q.c)) (hk:cY r.key):Calls prog 149 #[k.val,.pointer (some ⟨pb,0,none⟩)] w fun e w'=>∃(a:Option Addr) (n c:Nat),e=.returned (.tuple #[.slice a n c,.bool (az r.key && (decide (r.av<rev) && !r.bq))])∧((az r.key && (decide (r.av<rev) && !r.bq))=true→a=q.a∧n=q.n∧c=q.c)∧aT [] w w':=by
 refine enter func149 rfl ntmps149 rfl<|?_;have aQ:=St.s0 w;refine(dy) aQ fun b2 w1 y z st1=>?_;refine fL ?_;have A:=st1.bN;refine WC.dS (m:=5) st1 mixed<|?_;refine DP .r (fun _ d=>PV.mq Kq (bU.range (i.ext (St.cg d.2))) rfl rfl)<|bO ?_;refine DP .r (fun _ d=>V1 fX (bU.range (o.ext (St.cg d.2))) .r)<|(gN) ao St.g0<|(cQ)<|?_;rintro w2 ⟨B,st2⟩ _;refine WP .r (PV.bJ cZ fZ fh (hm.ext (St.cg st2)) (s) rfl rfl)<|cy ?_;have C:=st2.bN;refine WC.dS (m:=11) st2 mixed<|cq ?_;refine DW.dm (t:=14) rfl (fun g14=>?_) (fun g14=>?_)
 ·
  refine bO ?_;refine DP .r (fun _ d=>VA cV (bU.range (p.ext (St.cg d.2))) .r)<|DP .r (fun _ d=>PV.mq Kq (bU.range (i.ext (St.cg d.2))) rfl rfl)<|cq ?_;refine DP .r (fun _ d=>PV.ld1 (j:=1) aP (bU.range (o.ext (St.cg d.2))) rfl rfl)<|(cQ)<|?_;rintro w3 ⟨E,u⟩ _;refine(eP) (Au (r:=r) hk) u fun w4 F g=>?_;refine(aS) (fun g24=>?_) fun g24=>?_
  ·
   have f:(az r.key && (decide (r.av<rev) && !r.bq))=true:=by first | exact g24 | simpa using g24
   refine(a7) dE (bU.range (p.ext (St.cg g)))<|(AF) ?_;exact⟨q.a,q.n,q.c,by rw [f],fun _=>⟨rfl,rfl,rfl⟩,(St.cg g)⟩
  have f:(az r.key && (decide (r.av<rev) && !r.bq))=false:=by first | exact g24 | simpa using g24
  refine(AF) ?_;exact⟨none,0,0,by rw [f],(fun h=>by rw [f] at h;cases h),(St.cg g)⟩
 exact dL g14
theorem F9(f:bU w pb 63 [.pointer (some ⟨wb,0,none⟩)]) (g:bU w wb 74 (D.wc v rev ra rn rc)) (hm:KM Key.val w D.m ml) (i:dw l lf ml) (j:(As.gA 88 lf l).ok Z w) (o:∀r∈l,cY r.key) (k:Key):Calls prog 149 #[k.val,.pointer (some ⟨pb,0,none⟩)] w fun e w'=>∃(a:Option Addr) (n c:Nat),e=.returned (.tuple #[.slice a n c,.bool (bT l rev k)])∧(bT l rev k=true→Rd RR.key 2 Z w' a n c (aC l k).reads)∧aT [] w w':=by
 cases b:aA l k with
 | none=>
  refine(Av f g hm (i.no b)).mono<|?_;rintro e w' ⟨rfl,hc⟩
  have d:bT l rev k=false:=by unfold bT;rw [b];rfl
  exact⟨none,0,0,by rw [d],(fun h=>by rw [d] at h;cases h),hc⟩
 | some r=>
  obtain⟨p,q,_⟩:=j.1 k r b;obtain⟨hr,hk⟩:=aI b;refine(Aw (k:=k) f g hm (i.yes b) p (o r hr)).mono<|?_;rintro e w' ⟨a,n,c,rfl,s,hc⟩
  have d:bT l rev k=(az r.key && (decide (r.av<rev) && !r.bq)):=by
   unfold bT
   rw [aN b,b,← hk]
   rfl
  refine⟨a,n,c,by rw [d],fun h=>?_,hc⟩;rw [d] at h;obtain⟨rfl,rfl,rfl⟩:=s h;rw [aN b];exact q.ext hc
set_option maxHeartbeats 1600000 in
theorem Ax{f:FuncId}{cap:Value}(gF:St w M Z w []) (hcf:CF prog f) (VY:∀w1,aT [] w w1→∀y:Key,Calls prog f #[y.val,cap] w1 fun e w'=>∃(a:Option Addr) (n c:Nat),e=.returned (.tuple #[.slice a n c,.bool (bT l rev y)])∧(bT l rev y=true→Rd RR.key 2 Z w' a n c (aC l y).reads)∧aT [] w1 w') (h6:l.length≤4000) (U4:∀r∈l,r.reads.length≤4000):Calls prog 148 #[k.val,.func (.func f) #[] #[cap]] w fun e w'=>∃(a:Option Addr) (n c:Nat),e=.returned (.slice a n c)∧St w M Z w' [As.os RR.key 40 2 a n c (aB l rev k)]:=by
 refine enter func148 rfl ntmps148 rfl<|?_;have aQ:=St.rb gF;refine(dy) aQ fun b2 w1 TB wJ st1=>?_;refine(aZ) ao st1.b0<|?_;refine WL.go rfl (OX.na hcf rfl rfl rfl ((Calls.cap (VY _ (St.cg st1) k)).mono ?_));rintro _ w2 ⟨f1,f2,f3,rfl,_,s2⟩;refine⟨_,rfl,?_⟩;have st2:=st1.step s2;refine aY ?_;refine(aS) (fun LY=>?_) fun LY=>?_
 ·
  have W:bT l rev k=false:=by simpa using LY
  have hv:aB l rev k=[k]:=by unfold aB;rw [if_neg (by rw [W];simp)]
  refine(aZ) ao st2.b0<|?_;refine WL.go rfl (OX.aR (us:=k.cells) dx rfl rfl rfl rfl fun b31 w3 aaz aiP=>?_);have iW:=St.pY (R:=RR.key) (E:=40) (k:=2) (a:=some ⟨b31,0,none⟩) (n:=1) (c:=1) (xs:=[k]) st2 aaz.ext (OR.dc aiP (Nat.zero_le _) rfl (by simp [Key.cells,Value.oneCell']) rfl) (fun x hx=>by simp [aJ] at hx;subst hx;exact aaz.ge);refine(bz) ?_;exact⟨_,_,_,rfl,by rw [hv];exact(St.wk iW.p1.drop)⟩
 have W:bT l rev k=true:=by simpa using LY
 refine cy ?_;refine WL.mm Key.val st2 fun P4 w3 aru arv iW=>?_;refine dd ?_;refine WL.mm Key.val iW fun Oc w4 It arw hU=>?_;refine(aZ) ao hU.b2<|?_;refine WL.go rfl (OX.ins cZ gL (As.gm hU.g0) rfl rfl rfl fun w5 KI Fu=>?_);have ja:=hU.jW KI Fu;refine cq ?_;have hY:=ja.rj (B:=As.map Key.val Oc (lK [k])) (rfl);refine(aZ) ao hY.b2<|?_;refine WL.go rfl (OX.aR (us:=k.cells) dx rfl rfl rfl rfl fun b37 w6 aiQ aiR=>?_);have hh:=hY.da aiQ aiR;refine bO ?_;have iK:=hh;have iH:=iK.conv (B:=As.os RR.key 40 2 (some ⟨b37,0,none⟩) 1 1 [k]) (OR.dc (As.gb iK.g0) (Nat.zero_le _) rfl (by simp [Key.cells,Value.oneCell']) rfl) (fun x h=>by show x=b37;change x∈aJ (some ⟨b37,0,none⟩) at h;simpa [aJ] using h);refine gV ?_;have eE:=iH.OM;refine WC.br (σ:=Nat × (List Key) × (List (Key × Value)) × (List RE) × (Option Addr) × Nat × Nat) (dn:=fun(i,L,UF,J,g,d,o)=>[(1,.func (.func f) #[] #[cap]),(2,.pointer (some ⟨b2,0,none⟩)),(7,.map (some P4)),(8,.map (some Oc)),(9,.slice g d o),(10,.int .i64 (i:Int))]) (F:=fun(i,L,UF,J,g,d,o)=>[As.os RR.key 40 2 g d o (L),As.map Key.val Oc (lK L),As.map Key.val P4 UF,As.many (J.map (RE.as 40))]) (I:=fun(i,L,UF,J,g,d,o)=>(i≤L.length)∧(tt l rev k (iP J) L i 0)∧(ts J UF)∧((J.map (·.key)).Nodup)∧True) (μ:=fun(i,L,UF,J,g,d,o)=>4001 - i) (0,[k],[],[],(some ⟨b37,0,none⟩),1,1) (eE.p3.p3.p3) Sub.t (⟨Nat.zero_le _,tt.start fun _=>rfl,ts.nil,by simp,trivial⟩)<|?_;rintro⟨i,L,UF,J,g,d,o⟩ w7 dh ⟨LU,hF,Yz,yD,_⟩;simp only [CA,NA] at dh LU hF Yz yD ⊢;have hln:=((As.gs dh.g0)).len;have hle:=hF.le W;refine(aS) (fun Z0=>?_) fun Z0=>?_
 ·
  simp at Z0
  have yl:i<L.length:=by omega
  have hoi:=hF.op W (List.getElem_mem yl);obtain⟨ri,hri,_⟩:=bE.1 hoi;have U9:aC l L[i]=ri:=aN hri;have arx:=U4 ri (aI hri).1;refine dd ?_;obtain⟨gT,cW⟩:=Ow.addr (As.gs dh.g0) (ak yl);refine cy ?_;refine WP .r (PV.dU eA cW rfl rfl (by omega))<|(aZ) ao (Ow.jH (As.gs dh.g0) (by omega) cW (ak yl))<|?_;refine WL.go rfl (OX.na hcf rfl rfl rfl ((Calls.cap (VY _ (St.cg dh) L[i])).mono ?_));rintro _ w8 ⟨f4,f5,f6,rfl,IL,s8⟩;refine⟨_,rfl,?_⟩;have cX:=dh.step s8;have hq5:=IL hoi;rw [U9] at hq5;have dj:=cX.fr (hq5);have Yg:=((As.gr dj.g0)).len;refine aY ?_;refine cq ?_;refine WC.br (σ:=Nat × (List Key) × (List (Key × Value)) × (List RE) × (Option Addr) × Nat × Nat) (dn:=fun(q,L2,X,K,g,d,o)=>[(1,.func (.func f) #[] #[cap]),(2,.pointer (some ⟨b2,0,none⟩)),(7,.map (some P4)),(8,.map (some Oc)),(9,.slice g d o),(10,.int .i64 (i:Int)),(53,.slice f4 f5 f6),(54,.int .i64 (f5:Int)),(55,.int .i64 (q:Int))]) (F:=fun(q,L2,X,K,g,d,o)=>[As.os RR.key 40 2 g d o (L2),As.map Key.val Oc (lK L2),As.map Key.val P4 X,As.many (K.map (RE.as 40))]) (I:=fun(q,L2,X,K,g,d,o)=>(q≤f5)∧(tt l rev k (iP K) L2 i q)∧(ts K X)∧((K.map (·.key)).Nodup)∧(L2[i]?=some L[i])∧True) (μ:=fun(q,L2,X,K,g,d,o)=>f5 - q) (0,L,UF,J,g,d,o) (dj.p4.p4.p4.p4) Sub.t (⟨Nat.zero_le _,hF,Yz,yD,ak yl,trivial⟩)<|?_;rintro⟨q,L2,X,K,g,d,o⟩ w9 Y ⟨hq,UG,pE,tm,N,_⟩;simp only [CA,NA] at Y hq UG pE tm N ⊢;have ary:=((As.gs Y.g0)).len;have vk:=UG.le W;have Sy:i<L2.length:=(List.getElem?_eq_some_iff.1 N).1;refine(aS) (fun Iq=>?_) fun Iq=>?_
  ·
   simp at Iq
   have FE:q<ri.reads.length:=by omega
   obtain⟨x,hx0⟩:∃x,ri.reads[q]=x:=⟨_,rfl⟩
   have Y2:(aC l L[i]).reads[q]?=some x:=by rw [U9,ak FE,hx0]
   refine dd ?_;obtain⟨tw,H7,Ft,kP,vt,mE,mD,nM⟩:=Rd.at (As.gr Y.g4) FE;have mE:=RR.bd mE;subst mE;have dI:=Y.fg nM mD;rw [hx0] at mD dI;refine nx ?_;refine WP .r (PV.dU eA kP rfl rfl (by omega))<|(aZ) ao (As.lF dI.g0)<|(eZ) dI fun b14 iT Ys Oi gy=>?_;refine(cJ) hP gy fun iY qU mu dT=>?_;refine(aZ) ao dT.b0<|?_;refine WL.go rfl (OX.na hcf rfl rfl rfl ((Calls.cap (VY _ (St.cg dT) x)).mono ?_));rintro _ lx ⟨f7,f8,f9,rfl,_,s12⟩;refine⟨_,rfl,?_⟩;have ef:=dT.step s12;refine aY ?_;refine(aS) (fun ZT=>?_) fun ZT=>?_
   ·
    have UY:bT l rev x=false:=by simpa using ZT
    refine gV ?_;refine eB (q+1,L2,X,K,g,d,o) ⟨ef.drop.drop,⟨by omega,UG.skip N Y2 UY,pE,tm,N,trivial⟩⟩
   have UY:bT l rev x=true:=by simpa using ZT
   refine cq ?_;obtain⟨KQ,lO⟩:=Ow.addr (As.gs ef.g2) N;have dR:=ef.p5;obtain⟨ea,en,ec,IP,aiS⟩:=St.V8 (EK:=40) tm pE x dR;have T:=aiS;have hen:=((As.gs T.g0)).len;have VK:=UG.len x;refine WC.bL (m:=11) [] [7,9] [0,1,2,3,4,5,6,7,8,9,10] [(6,.sl 40 1 L[i].cells)] T (ai.k4 M1 M2 M3 M4<|ai.cons M5<|ai.cons M7<|ai.cons M8<|ai.nil) mixed (by kernel_rfl) (by kernel_rfl) rfl<|(lq) ao SV.g1<|?_
   iterate 2 refine DG.a ?_
   refine DQ .r (fun wx Zx Rx _ pH vI=>PV.dU eA lO rfl rfl (by omega))<|DQ .r (fun wx Zx Rx _ pH vI=>VA ao (Ow.jH (As.gs (pH.sv vI).g3) (by omega) lO N) .r)<|?_;refine DG.side (s:=.sl 40 1 L[i].cells) rfl rfl rfl rfl rfl rfl (fun wx Zx Rx qI pH=>OX.aR (us:=L[i].cells) dx rfl rfl rfl rfl fun b wy nw hb=>⟨nw.ext.size,_,rfl,⟨b,rfl⟩,pH.da nw hb⟩)<|?_;rintro _ ⟨b74,rfl⟩;refine(gh) (fun nN R7x Tz O G4=>?_);simp only [CA,NA] at O;refine OX.mapEntry cZ Ku O9 (As.gm O.g6) (IP) rfl rfl rfl fun z75 qV Zm aaB=>?_;have P:=O.p6.V6 Zm aaB;refine⟨Zm.size,_,rfl,_,_,_,P,ax.k4<|ax.k4<|ax.cons<|ax.nil,ai.k4 M2 M3 M4 M5<|ai.cons M6<|ai.cons M7<|ai.cons M8<|ai.nil,?_⟩;refine(gh) (fun pD U2 Is Q qJ=>?_);simp only [CA,NA] at Q;refine OX.jJ lN rfl rfl rfl (As.gs Q.g1) (SR.dc (A:=fun _=>True) (x:=L[i]) (show bU _ b74 _ _ from Q.ok _ (.tail _ (.tail _ (.tail _ (.tail _ (.tail _ (.tail _ (.tail _ (.tail _ (.tail _ (qJ _ (.head _)))))))))))) trivial rfl (by simp [Key.cells,Value.oneCell']) rfl) (by omega) (by omega) (Nat.zero_le _) fun a76 Ip tB Ti s76 Tj afu=>?_;have fi:=Q.p1.eO s76 Ti Tj;refine⟨s76.size,_,rfl,_,_,_,fi,ax.k4<|ax.k4<|ax.cons<|ax.nil,ai.k4 M2 M3 M4 M5<|ai.cons M6<|ai.cons M7<|ai.cons M8<|ai.nil,?_⟩;refine(jo) ?_;intro zF PN eh;simp only [CM,NM,CA,NA,hV.it] at eh;refine WL.go rfl (OX.entryStore (As.gmb eh.g2) rfl rfl rfl fun yk zG zH=>?_);have eX:=eh.p2.V7 zG zH;refine WL.nil (EX.np ?_);have dz:=eX.p3.p3;have eY:=St.acw dz;obtain⟨Va,hL3⟩:∃Va:List RE,Va=⟨x,a76,(en+1),Ip,iP K x++[L[i]]⟩::rest K x:=⟨_,rfl⟩;have kF:=eY.rj (B:=As.many (Va.map (RE.as 40))) (by rw [hL3]);have Lh:=pE.put (x:=x) (v:=.slice ea en ec) (a:=a76) (n:=en+1) (c:=Ip) (iP K x++[L[i]]);have N7:=EE (x:=x) (a:=a76) (n:=en+1) (c:=Ip) tm (iP K x++[L[i]])
   have aaC:iP Va=qj (iP K) x L[i]:=by rw [hL3];exact MG
   rw [← hL3] at Lh N7;refine(aZ) ao kF.b3<|?_;refine WP .r (PV.jQ cZ gL Cf (As.gm kF.g6) (BU L2 x) rfl rfl)<|(aS) (fun g81=>?_) fun g81=>?_
   ·
    have V:x∉L2:=by simpa using g81
    refine WC.bL (m:=6) [] [5] [2,3,4,5,0,1] [(4,.sl 40 1 x.cells)] kF (ai.k4 M0 M1 M2 M3<|ai.k4 M4 M6 M7 M8<|ai.nil) mixed (by kernel_rfl) (by kernel_rfl) rfl<|(lq) ao SV.g3<|?_;refine DG.side (s:=.sl 40 1 x.cells) rfl rfl rfl rfl rfl rfl (fun wx Zx Rx qI pH=>OX.aR (us:=x.cells) dx rfl rfl rfl rfl fun b wy nw hb=>⟨nw.ext.size,_,rfl,⟨b,rfl⟩,pH.da nw hb⟩)<|?_;rintro _ ⟨b86,rfl⟩;refine(gh) (fun FC Iu r8 mP jV=>?_);simp only [CA,NA] at mP;refine OX.jJ lN rfl rfl rfl (As.gs mP.g5) (SR.dc (A:=fun _=>True) (x:=x) (show bU _ b86 _ _ from mP.ok _ (.tail _ (.tail _ (.tail _ (.tail _ (.tail _ (.tail _ (.tail _ (.tail _ (.tail _ (jV _ (.head _)))))))))))) trivial rfl (by simp [Key.cells,Value.oneCell']) rfl) (by omega) (by omega) (Nat.zero_le _) fun a87 aiV Ii aiW s87 aiX arA=>?_;have qP:=mP.p5.eO s87 aiW aiX;refine⟨s87.size,_,rfl,_,_,_,qP,ax.k4<|ax.k4<|ax.cons<|ax.nil,ai.k4 M1 M2 M3 M4<|ai.k4 M5 M6 M7 M8<|ai.nil,?_⟩;refine(lq) ao SV.g3<|(jo)<|?_;intro K9 alJ qQ;simp only [CM,NM,CA,NA,hV.it] at qQ;refine WL.go rfl (OX.put cZ gL (As.gm qQ.g7) rfl rfl rfl fun Oe Tl Tm=>?_);have qN:=qQ.p7.jW Tl Tm;refine nx ?_;refine WL.nil (EX.np ?_);have pI:=qN.rj (B:=As.map Key.val Oc (lK (L2++[x]))) (by rw [BV _ V]);refine fL ?_;refine eB (q+1,L2++[x],_,Va,a87,(d+1),aiV) ⟨pI.p1.drop.p4.drop.p4.drop.p4.drop.p3.p1.p2,⟨by omega,by rw [aaC];exact UG.new N Y2 UY V,Lh,N7,by rw [List.getElem?_append_left Sy];exact N,trivial⟩⟩
   have V:x∈L2:=by simpa using g81
   refine ez ?_;refine eB (q+1,L2,_,Va,g,d,o) ⟨kF.p2.drop.p2.drop.p2.drop.p1.p3.p3,⟨by omega,by rw [aaC];exact UG.pL N Y2 UY V,Lh,N7,N,trivial⟩⟩
  simp at Iq
  refine kg ?_;refine eB (i+1,L2,X,K,g,d,o) ⟨Y.p4.drop,⟨by show i+1≤L2.length;omega,UG.next N (by rw [U9];omega) (by omega),pE,tm,trivial⟩⟩
 simp at Z0
 refine fL ?_;have hed:=hF.acy (show L.length≤i by omega)
 have hbl:∀e∈J,e.reads.length≤140737488355328:=fun e he=>by
  have h1:=hF.len e.key
  have h2:i≤4001:=by omega
  rw [JR yD he] at h1
  omega
 refine nx ?_;refine WL.mm Key.val dh fun Vb w8 arC arD cX=>?_;refine(aZ) ao cX.b5<|?_;refine WL.go rfl (OX.ins cZ gL (As.gm cX.g0) rfl rfl rfl fun w9 SY SZ=>?_);have dj:=cX.jW SY SZ;refine cq ?_;have Y:=dj.rj (B:=As.map Key.val Vb (lK [k])) (rfl);refine(aZ) ao Y.b5<|?_;refine WL.go rfl (OX.aR (us:=k.cells) dx rfl rfl rfl rfl fun YR iT Tq Tr=>?_);have dI:=Y.da Tq Tr;refine bO ?_;have gy:=dI;have dT:=gy.conv (B:=As.os RR.key 40 2 (some ⟨YR,0,none⟩) 1 1 [k]) (OR.dc (As.gb gy.g0) (Nat.zero_le _) rfl (by simp [Key.cells,Value.oneCell']) rfl) (fun x h=>by show x=YR;change x∈aJ (some ⟨YR,0,none⟩) at h;simpa [aJ] using h);refine gV ?_;have ef:=dT.p5;have dR:=St.bkF hbl ef;refine WC.br (σ:=Nat × (List Key) × (Option Addr) × Nat × Nat) (dn:=fun(j,U,C,u,G)=>[(7,.map (some P4)),(17,.map (some Vb)),(18,.slice C u G),(19,.int .i64 (j:Int))]) (F:=fun(j,U,C,u,G)=>[As.os RR.key 40 2 C u G (U),As.map Key.val Vb (lK U)]) (I:=fun(j,U,C,u,G)=>(xW l rev k (iP J) U j 0)∧True) (μ:=fun(j,U,C,u,G)=>4001 - j) (0,[k],(some ⟨YR,0,none⟩),1,1) (dR.p2.p2) Sub.t (⟨xW.start,trivial⟩)<|?_;rintro⟨j,U,C,u,G⟩ iY T ⟨hB,_⟩;simp only [CA,NA] at T hB ⊢;have hun:=((As.gs T.g0)).len;have arE:=hB.le W;refine(aS) (fun T6=>?_) fun T6=>?_
 ·
  simp at T6
  have hj3:j<U.length:=by omega
  refine dd ?_;obtain⟨v1,v2,v3,FN,QY⟩:=ts.read Yz (As.gf T.g2) U[j];have O:=T.fr (QY);have UU:=((As.gr O.g0)).len;have hbq:=hF.len U[j];obtain⟨Yo,sV⟩:=Ow.addr (As.gs O.g1) (ak hj3);refine cy ?_;refine WP .r (PV.dU eA sV rfl rfl (by omega))<|(aZ) ao (Ow.jH (As.gs O.g1) (by omega) sV (ak hj3))<|?_;refine WP .r (PV.jQ cZ Ku O9 (As.gm O.g6) (FN) rfl rfl)<|dd ?_;refine WC.br (σ:=Nat × (List Key) × (Option Addr) × Nat × Nat) (dn:=fun(p,H,C,u,G)=>[(7,.map (some P4)),(17,.map (some Vb)),(18,.slice C u G),(19,.int .i64 (j:Int)),(105,.slice v1 v2 v3),(106,.int .i64 (v2:Int)),(107,.int .i64 (p:Int))]) (F:=fun(p,H,C,u,G)=>[As.os RR.key 40 2 C u G (H),As.map Key.val Vb (lK H)]) (I:=fun(p,H,C,u,G)=>(p≤v2)∧(xW l rev k (iP J) H j p)∧(H[j]?=some U[j])∧True) (μ:=fun(p,H,C,u,G)=>v2 - p) (0,U,C,u,G) (O.p2.p2) Sub.t (⟨Nat.zero_le _,hB,ak hj3,trivial⟩)<|?_;rintro⟨p,H,C,u,G⟩ lx P ⟨hp,OS,UH,_⟩;simp only [CA,NA] at P hp OS UH ⊢;have arF:=((As.gs P.g0)).len;have alL:=OS.le W;have hj4:j<H.length:=(List.getElem?_eq_some_iff.1 UH).1;refine(aS) (fun UI=>?_) fun UI=>?_
  ·
   simp at UI
   have wo:p<(iP J U[j]).length:=by omega
   obtain⟨x,hx0⟩:∃x,(iP J U[j])[p]=x:=⟨_,rfl⟩
   have To:(iP J U[j])[p]?=some x:=by rw [ak wo,hx0]
   refine dd ?_;obtain⟨Zg,arH,arI,vS,alM,LD,Qh,aaD⟩:=Rd.at (As.gr P.g2) wo;have LD:=RR.bd LD;subst LD;have Q:=P.fg aaD Qh;rw [hx0] at Qh Q;refine nx ?_;refine WP .r (PV.dU eA vS rfl rfl (by omega))<|(aZ) ao (As.lF Q.g0)<|(eZ) Q fun b21 nN aiB aiC fi=>?_;refine(cJ) hP fi fun qV S1 S2 eh=>?_;refine(aZ) ao eh.b0<|?_;refine WP .r (PV.jQ cZ gL Cf (As.gm eh.g3) (BU H x) rfl rfl)<|(aS) (fun Ar=>?_) fun Ar=>?_
   ·
    have V:x∉H:=by simpa using Ar
    refine WC.bL (m:=6) [] [5] [2,3,4,5,0,1] [(4,.sl 40 1 x.cells)] eh (ai.k4 M0 M1 M3 M4<|ai.k4 M5 M6 M7 M8<|ai.cons M9<|ai.nil) mixed (by kernel_rfl) (by kernel_rfl) rfl<|(lq) ao SV.g0<|?_;refine DG.side (s:=.sl 40 1 x.cells) rfl rfl rfl rfl rfl rfl (fun wx Zx Rx qI pH=>OX.aR (us:=x.cells) dx rfl rfl rfl rfl fun b wy nw hb=>⟨nw.ext.size,_,rfl,⟨b,rfl⟩,pH.da nw hb⟩)<|?_;rintro _ ⟨aiZ,rfl⟩;refine(gh) (fun pD Iu r8 eX jV=>?_);simp only [CA,NA] at eX;refine OX.jJ lN rfl rfl rfl (As.gs eX.g2) (SR.dc (A:=fun _=>True) (x:=x) (show bU _ aiZ _ _ from eX.ok _ (.tail _ (.tail _ (.tail _ (.tail _ (.tail _ (.tail _ (.tail _ (.tail _ (.tail _ (.tail _ (jV _ (.head _))))))))))))) trivial rfl (by simp [Key.cells,Value.oneCell']) rfl) (by omega) (by omega) (Nat.zero_le _) fun ai0 aaE tB aaF aaG aaH alN=>?_;have dz:=eX.p2.eO aaG aaF aaH;refine⟨aaG.size,_,rfl,_,_,_,dz,ax.k4<|ax.k4<|ax.k2<|ax.nil,ai.k4 M1 M2 M3 M4<|ai.k4 M5 M6 M7 M8<|ai.cons M9<|ai.nil,?_⟩;refine(lq) ao SV.g0<|(jo)<|?_;intro zF alO eY;simp only [CM,NM,CA,NA,hV.it] at eY;refine WL.go rfl (OX.put cZ gL (As.gm eY.g4) rfl rfl rfl fun yk ai1 ai2=>?_);have kF:=eY.p4.jW ai1 ai2;refine nx ?_;refine WL.nil (EX.np ?_);have mP:=kF.rj (B:=As.map Key.val Vb (lK (H++[x]))) (by rw [BV _ V]);refine fL ?_;refine eB (p+1,H++[x],ai0,(u+1),aaE) ⟨mP.p1.drop.p2.drop.p2.drop.p1,⟨by omega,OS.add hed UH To V,by rw [List.getElem?_append_left hj4];exact UH,trivial⟩⟩
   have V:x∈H:=by simpa using Ar
   refine ez ?_;refine eB (p+1,H,C,u,G) ⟨eh.drop.drop,⟨by omega,OS.has UH To V,UH,trivial⟩⟩
  simp at UI
  refine kg ?_;refine eB (j+1,H,C,u,G) ⟨P.p2.drop,⟨OS.next UH (by omega),trivial⟩⟩
 simp at T6
 have ai3:=fun {L'}=>hB.group (L':=L') W hed (show U.length≤j by omega);refine fL ?_;have ai4:=St.fresh T;have O:=T.ba (by omega);refine bO ?_;have P:=O;refine(bY) WM (wg P.e0 (As.gr P.g0) (List.ne_nil_of_mem hB.mem) hB.jP (by omega)) ?_;rintro _ lx ⟨o1,o2,o3,L9,rfl,hsl,PG,nO⟩;have Q:=St.lr P nO;have hL9:=ai3 hsl PG;subst hL9;refine cy ?_;have Ij:St w M _ _ [As.os RR.key 40 2 o1 o2 o3 (aB l rev k)]:=(St.wk Q.k1);refine(bz) ?_;exact⟨o1,o2,o3,rfl,Ij.unz (fun _ h=>.inl (.inl h)) (Ow.z (As.gs Ij.g0))⟩
theorem xa(d:St w M Z w []) (f:bU w wb 74 (D.wc v rev ra rn rc)) (hm:KM Key.val w D.m ml) (g:dw l lf ml) (h:(As.gA 88 lf l).ok Z w) (i:∀r∈l,cY r.key) (j:l.length≤4000) (o:∀r∈l,r.reads.length≤4000):Calls prog 110 #[.pointer (some ⟨wb,0,none⟩),k.val] w fun e w'=>∃(a:Option Addr) (n c:Nat),e=.returned (.slice a n c)∧St w M Z w' [As.os RR.key 40 2 a n c (aB l rev k)]:=by
 refine enter func110 rfl ntmps110 rfl<|?_;have aQ:=St.rb d;refine(dy) aQ fun b2 w1 z A st1=>?_;refine(dy) st1 fun b3 w2 B C st2=>?_;refine(aZ) ao st2.b0<|?_;refine WP .r (PV.func (us:=[]) (vs:=[.pointer (some ⟨b2,0,none⟩)]) rfl rfl)<|?_;have b:=st2;refine(bY) Xy (Ax (k:=k) b.e0 Xz (fun w1 h1 y=>F9 (bU.ext (As.gb b.g1) h1) (f.ext (aT.trans (St.cg b) h1)) (hm.ext (aT.trans (St.cg b) h1)) g (As.exc h (aT.trans (St.cg b) h1)) i y) j o) ?_;rintro _ w3 ⟨p,q,s,rfl,t⟩;have u:=St.lr b t;refine(bz) ?_;exact⟨p,q,s,rfl,(St.wk u.p1.drop.p1.drop)⟩
theorem vR{group:List Key}{o:Option Addr}{g eg:Nat}{A:Nat→Prop}(U:St w M Z w []) (V:bU w wb 74 (D.wc v rev ra rn rc)) (hm:KM Key.val w D.m ml) (W:dw l lf ml) (C:(As.gA 88 lf l).ok Z w) (z:Rd RR.key 2 A w o g eg group) (X:∀m∈group,∃r,aA l m=some r) (hb:∀i,((group.take i).flatMap fun m=>cT group m (aC l m).reads).length≤100000000):Calls prog 111 #[.pointer (some ⟨wb,0,none⟩),.slice o g eg] w fun e w'=>∃(a:Option Addr) (n c:Nat),e=.returned (.slice a n c)∧St w M Z w' [As.os RR.Bu 160 4 a n c (bR l group)]:=by
 have hlen:=z.len;have hle:=z.le;refine enter func111 rfl ntmps111 rfl<|?_;have aQ:=St.rb U;have st1:=aQ.dp RR.Bu 160 4;refine aY ?_;refine ez ?_;refine WC.br (σ:=Nat × (List oa) × (Option Addr) × Nat × Nat) (dn:=fun(i,acc,d,b,f)=>[(0,.pointer (some ⟨wb,0,none⟩)),(1,.slice o g eg),(5,.slice d b f),(11,.slice o g eg),(12,.int .i64 (g:Int)),(13,.int .i64 (i:Int))]) (F:=fun(i,acc,d,b,f)=>[As.os RR.Bu 160 4 d b f (acc)]) (I:=fun(i,acc,d,b,f)=>(i≤g)∧(acc=(group.take i).flatMap fun m=>cT group m (aC l m).reads)∧True) (μ:=fun(i,acc,d,b,f)=>g - i) (0,[],none,0,0) (st1) Sub.t (⟨by omega,by simp,trivial⟩)<|?_;rintro⟨i,acc,d,b,f⟩ w1 st2 ⟨hi,p,_⟩;simp only [CA,NA] at st2 hi p ⊢;refine(aS) (fun g14=>?_) fun g14=>?_
 ·
  simp at g14
  have E:i<group.length:=by omega
  refine dd ?_;obtain⟨gT,k8,kz,Y,gU,G,eH,eV⟩:=Rd.at z E;have G:=RR.bd G;subst G;refine nx ?_;refine WP .r (PV.dU eA Y rfl rfl (by omega))<|(aZ) ao (aW eH (St.cg st2) (by simp))<|(eZ) st2 fun b7 w2 Px Py iW=>?_;refine(cJ) hP iW fun w3 jU j3 O=>?_;refine cq ?_;obtain⟨r,hr⟩:=X _ (List.getElem_mem E);have hro:aC l group[i]=r:=aN hr;have P:=(C.1 _ _ hr).2.1;have IL:=(C.1 _ _ hr).2.2;have Q:=O.fr (P.ext (St.cg O));have Yg:=P.len;have hN5:=Q.bN;refine WC.dS (m:=5) Q mixed<|cq ?_;refine DP .r (fun _ hC=>V1 fX (bU.range (V.ext (St.cg hC.2))) .r)<|(gN) ao St.g1<|(cQ)<|?_;rintro w4 ⟨vO,H⟩ _;refine WP .r (PV.bJ cZ fZ fh (hm.ext (St.cg H)) (W.yes hr) rfl rfl)<|(aS) (fun g24=>?_) fun g24=>?_
  ·
   exact dL g24
  refine(a7) dE (bU.range ((C.1 _ _ hr).1.ext (St.cg H)))<|dd ?_;refine WC.br (σ:=Nat × (List oa) × (Option Addr) × Nat × Nat) (dn:=fun(j,h,d,b,f)=>[(0,.pointer (some ⟨wb,0,none⟩)),(1,.slice o g eg),(5,.slice d b f),(7,.pointer (some ⟨b7,0,none⟩)),(11,.slice o g eg),(12,.int .i64 (g:Int)),(13,.int .i64 (i:Int)),(28,.slice (lf group[i]).a (lf group[i]).n (lf group[i]).c),(29,.int .i64 ((lf group[i]).n:Int)),(30,.int .i64 (j:Int))]) (F:=fun(j,h,d,b,f)=>[As.os RR.Bu 160 4 d b f (h)]) (I:=fun(j,h,d,b,f)=>(j≤(lf group[i]).n)∧(h=acc++cT group group[i] (r.reads.take j))∧True) (μ:=fun(j,h,d,b,f)=>(lf group[i]).n - j) (0,acc,d,b,f) (H.p2) Sub.t (⟨by omega,by simp [cT],trivial⟩)<|?_;rintro⟨j,h,d,b,f⟩ w5 q ⟨hj,s,_⟩;simp only [CA,NA] at q hj s ⊢;have qT:=((As.gs q.g0)).len;have IM:=hb i;rw [← p] at IM;have KH:=jX group group[i] (r.reads.take j)
  have htl:h.length≤100100000:=by rw [s,List.length_append];rw [List.length_take] at KH;omega
  refine(aS) (fun J=>?_) fun J=>?_
  ·
   simp at J
   have K:j<r.reads.length:=by omega
   refine dd ?_;obtain⟨tw,H7,Ft,kP,vt,L,mD,nM⟩:=Rd.at (As.gr q.g1) K;have L:=RR.bd L;subst L;have R:=q.fg nM mD;refine nx ?_;refine WP .r (PV.dU eA kP rfl rfl (by omega))<|(aZ) ao (As.lF R.g0)<|(eZ) R fun KW w6 Cz CB iH=>?_;refine(cJ) hP iH fun w7 qU mu N=>?_;refine(aZ) ao N.b0<|(eP) (r5 (k:=r.reads[j]) (z.ext (St.cg N))) N fun w8 s8 B=>?_;refine(aS) (fun u=>?_) fun u=>?_
   ·
    simp at u
    have y:=jq (group:=group) (m:=group[i]) K;rw [if_neg u] at y;refine(aZ) ao B.b4<|(aZ) ao B.b0<|?_;refine WP .r (PV.bB (us:=(oa.mk group[i] r.reads[j]).cells) O1 rfl rfl rfl)<|?_;refine WL.go rfl (OX.aR (us:=(oa.mk group[i] r.reads[j]).cells) GO rfl rfl rfl rfl fun b42 w9 ai5 ai6=>?_);have T:=B.da ai5 ai6;refine WL.ap rfl rfl T.p3 (SR.dc (A:=fun _=>True) (x:=oa.mk group[i] r.reads[j]) (As.gb T.g0) trivial rfl (by simp [oa.cells,Value.oneCell']) rfl) fun a43 ai7 iT arO arP dj=>?_;refine gV ?_;refine eB (j+1,_,a43,(b+1),ai7) ⟨dj.p5.p5.p2.k3,⟨by omega,by rw [y,s,List.append_assoc],trivial⟩⟩
   simp at u
   have y:=jq (group:=group) (m:=group[i]) K;rw [if_pos u] at y;refine ez ?_;refine eB (j+1,_,d,b,f) ⟨B.drop.drop,⟨by omega,by rw [y,s],trivial⟩⟩
  simp at J
  have aaI:r.reads.take j=r.reads:=List.take_of_length_le (by omega);refine jM ?_;refine eB (i+1,h,d,b,f) ⟨q.p1.drop.p1.drop,⟨by omega,by rw [s,aaI,p,List.take_succ_eq_append_getElem E];simp only [List.flatMap_append,List.flatMap_cons,List.flatMap_nil,List.append_nil,hro],trivial⟩⟩
 simp at g14
 have aaJ:group.take i=group:=List.take_of_length_le (by omega);rw [aaJ] at p;subst p;refine(bz) ?_;exact⟨_,_,_,rfl,(St.wk st2)⟩
theorem Ay(hi:Rd RR.aD 4 Z w a1 n1 e1 x.ab):CR prog 203 #[.agg (x.row a1 n1 e1 a2 n2 e2).toArray,k.val] w (.int .i64 (bA x.ab k).changed):=by
 refine enter func203 rfl ntmps203 rfl<|?_;have aQ:=St.s0 w;refine(dy) aQ fun b2 w1 c d st1=>?_;refine(dy) st1 fun b3 w2 e g st2=>?_;refine(aZ) aO st2.b1<|(aZ) ao st2.b0<|(bY) Sh (mg (k:=k) (hi.ext (St.cg st2))) ?_;rintro _ w3 ⟨y,rfl,_,hy,a⟩;have b:=st2.step a;refine WP .r (PV.ui (fs:=[_,_,_]) (f:=2) (off:=3) (T:=78) underlying78 rfl rfl (show ∀w,(isAgg 3).run _ w=.ok false w from isAgg3) rfl rfl)<|(bz) ?_;exact⟨by rw [← hy],(St.cg b)⟩
theorem Az{r:Rec}(g:St w M Z w [As.map Key.val S.m ml,As.map Key.val S.q [],As.blk wb 74 (D.wc S.s rev ra rn rc),As.map Key.val D.m eI,As.gA 88 lf l]) (h:(S.FV prog aa x0).p Z w) (i:Rd RR.aD 4 Z w D.a1 D.n1 D.c1 x0.ab) (hm:aU aa x0.ab ml) (j:dw l lf eI) (y:aq aa) (z:∀k,(valOf aa x0.ab k).size≤1000) (eK:aw k=true) (n:aA l k=none):Calls prog 152 #[.pointer (some ⟨wb,0,none⟩),k.val] w fun e w'=>∃a,e=.returned (.int .i64 (aV (valOf aa x0.ab) ⟨rev,x0.ab,l⟩ k))∧aU aa x0.ab a∧gi ml a∧St w M Z w' [As.map Key.val S.m a,As.map Key.val S.q [],As.blk wb 74 (D.wc S.s rev ra rn rc),As.map Key.val D.m eI,As.gA 88 lf l]:=by
 refine enter func152 rfl ntmps152 rfl<|?_;have aQ:=g;have st1:=aQ.fr i;have st2:=st1.fact (B:=As.fz (S.FV prog aa x0)) h (fun _ o=>o);refine(dy) st2 fun b3 w1 A C c=>?_;refine cy ?_;have E:=c.bN;refine WC.dS (m:=5) c mixed<|(iv) fX St.g5<|(gN) ao St.g0<|(cQ)<|?_;rintro w2 ⟨F,b⟩ _;refine WP .r (PV.jQ cZ fZ fh (As.gm b.g6) (j.no n) rfl rfl)<|(aZ) ao b.b0<|?_;refine WL.c1 (u:=.bool true) (cO (k:=k)) (by rw [eK]) b fun w3 G d=>?_;refine cq ?_;refine WC.oz rfl<|nx ?_;have H:=d.bN;refine WC.dS (m:=5) d mixed<|(tn) aO St.g5<|(gN) ao St.g0<|(cQ)<|?_;rintro w4 ⟨I,f⟩ _;refine(eP) (Ay (x:=⟨rev,x0.ab,l⟩) (k:=k) (a2:=D.a2) (n2:=D.n2) (e2:=D.c2) (As.gr f.g2)) f fun w5 J t=>?_;refine(bz) ?_;exact⟨ml,by rw [Q0 eK],hm,gi.refl _,t.drop.drop.drop⟩
theorem AA{r:Rec}(g:St w M Z w [As.map Key.val S.m ml,As.map Key.val S.q [],As.blk wb 74 (D.wc S.s rev ra rn rc),As.map Key.val D.m eI,As.gA 88 lf l]) (h:(S.FV prog aa x0).p Z w) (i:Rd RR.aD 4 Z w D.a1 D.n1 D.c1 x0.ab) (hm:aU aa x0.ab ml) (n:dw l lf eI) (t:aq aa) (y:∀k,(valOf aa x0.ab k).size≤1000) (eK:aw k=false) (c:aA l k=none):Calls prog 152 #[.pointer (some ⟨wb,0,none⟩),k.val] w fun e w'=>∃a,e=.returned (.int .i64 (aV (valOf aa x0.ab) ⟨rev,x0.ab,l⟩ k))∧aU aa x0.ab a∧gi ml a∧St w M Z w' [As.map Key.val S.m a,As.map Key.val S.q [],As.blk wb 74 (D.wc S.s rev ra rn rc),As.map Key.val D.m eI,As.gA 88 lf l]:=by
 refine enter func152 rfl ntmps152 rfl<|?_;have aQ:=g;have st1:=aQ.fr i;have st2:=st1.fact (B:=As.fz (S.FV prog aa x0)) h (fun _ o=>o);refine(dy) st2 fun b3 w1 z A d=>?_;refine cy ?_;have C:=d.bN;refine WC.dS (m:=5) d mixed<|(iv) fX St.g5<|(gN) ao St.g0<|(cQ)<|?_;rintro w2 ⟨E,b⟩ _;refine WP .r (PV.jQ cZ fZ fh (As.gm b.g6) (n.no c) rfl rfl)<|(aZ) ao b.b0<|?_;refine WL.c1 (u:=.bool false) (cO (k:=k)) (by rw [eK]) b fun w3 F f=>?_;refine cq ?_;refine WC.fK rfl<|(aS) (fun g21=>?_) fun g21=>?_
 ·
  refine fL ?_;refine WP .r (PV.ld1 (j:=1) aP f.b5 rfl rfl)<|(bz) ?_;exact⟨ml,by rw [Q1 eK c],hm,gi.refl _,f.drop.drop.drop⟩
 exact dL g21
theorem AB(n:St w M Z w [As.map Key.val S.m ml,As.map Key.val S.q [],As.blk wb 74 (D.wc S.s rev ra rn rc),As.map Key.val D.m eI,As.gA 88 lf l]) (o:(S.FV prog aa x0).p Z w) (t:Rd RR.aD 4 Z w D.a1 D.n1 D.c1 x0.ab) (hm:aU aa x0.ab ml) (y:dw l lf eI) (A:aq aa) (C:∀k,(valOf aa x0.ab k).size≤1000) (eK:aw k=false) (a:aA l k=some r) (f:r.av=rev):Calls prog 152 #[.pointer (some ⟨wb,0,none⟩),k.val] w fun e w'=>∃c,e=.returned (.int .i64 (aV (valOf aa x0.ab) ⟨rev,x0.ab,l⟩ k))∧aU aa x0.ab c∧gi ml c∧St w M Z w' [As.map Key.val S.m c,As.map Key.val S.q [],As.blk wb 74 (D.wc S.s rev ra rn rc),As.map Key.val D.m eI,As.gA 88 lf l]:=by
 refine enter func152 rfl ntmps152 rfl<|?_;have aQ:=n;have st1:=aQ.fr t;have st2:=st1.fact (B:=As.fz (S.FV prog aa x0)) o (fun _ z=>z);refine(dy) st2 fun b3 w1 E F g=>?_;refine cy ?_;have G:=g.bN;refine WC.dS (m:=5) g mixed<|(iv) fX St.g5<|(gN) ao St.g0<|(cQ)<|?_;rintro w2 ⟨H,d⟩ _;refine WP .r (PV.bJ cZ fZ fh (As.gm d.g6) (y.yes a) rfl rfl)<|(aZ) ao d.b0<|?_;refine WL.c1 (u:=.bool false) (cO (k:=k)) (by rw [eK]) d fun w3 I h=>?_;refine cq ?_;refine WC.fK rfl<|(aS) (fun g21=>?_) fun g21=>?_
 ·
  exact dL g21
 refine nx ?_;have J:=h.bN;refine WC.dS (m:=21) h mixed<|cq ?_;refine DP .r (fun _ b=>V1 aP (bU.range ((As.sG b.2.g7).1 _ _ a).1) .r)<|cy ?_;refine DP .r (fun _ b=>PV.ld1 (j:=1) aP (bU.range (As.gb b.2.g5)) rfl rfl)<|DP .r (fun _ b=>(PV.Iz rfl rfl).cast (v':=.bool true) (congrArg Value.bool (decide_eq_true f)))<|(cQ) ?_;rintro w4 ⟨K,i⟩ _;refine dd ?_;refine WC.oz rfl<|(a7) aP (bU.range ((As.sG i.g7).1 _ _ a).1)<|(bz) ?_;exact⟨ml,by rw [Q3 eK a f],hm,gi.refl _,i.drop.drop.drop⟩
theorem AD(H:St w M Z w [As.map Key.val S.m ml,As.map Key.val S.q [],As.blk wb 74 (D.wc S.s rev ra rn rc),As.map Key.val D.m eI,As.gA 88 lf l]) (I:(S.FV prog aa x0).p Z w) (J:Rd RR.aD 4 Z w D.a1 D.n1 D.c1 x0.ab) (hm:aU aa x0.ab ml) (K:dw l lf eI) (L:aq aa) (N:∀k,(valOf aa x0.ab k).size≤1000) (eK:aw k=false) (b:aA l k=some r) (h:¬r.av=rev) (hk:ep aa k):Calls prog 152 #[.pointer (some ⟨wb,0,none⟩),k.val] w fun e w'=>∃i,e=.returned (.int .i64 (aV (valOf aa x0.ab) ⟨rev,x0.ab,l⟩ k))∧aU aa x0.ab i∧gi ml i∧St w M Z w' [As.map Key.val S.m i,As.map Key.val S.q [],As.blk wb 74 (D.wc S.s rev ra rn rc),As.map Key.val D.m eI,As.gA 88 lf l]:=by
 refine enter func152 rfl ntmps152 rfl<|?_;have aQ:=H;have st1:=aQ.fr J;have st2:=st1.fact (B:=As.fz (S.FV prog aa x0)) I (fun _ O=>O);refine(dy) st2 fun b3 w1 R T A=>?_;refine cy ?_;have U:=A.bN;refine WC.dS (m:=5) A mixed<|(iv) fX St.g5<|(gN) ao St.g0<|(cQ)<|?_;rintro w2 ⟨V,n⟩ _;refine WP .r (PV.bJ cZ fZ fh (As.gm n.g6) (K.yes b) rfl rfl)<|(aZ) ao n.b0<|?_;refine WL.c1 (u:=.bool false) (cO (k:=k)) (by rw [eK]) n fun w3 W P=>?_;refine cq ?_;refine WC.fK rfl<|(aS) (fun g21=>?_) fun g21=>?_
 ·
  exact dL g21
 refine nx ?_;refine WC.bL (m:=21) [] [16] [0,1,2,3,4,5,6,7,8,9,10,11,12,13,14,15,16,17,18,19,20] [] P (ai.k4 M0 M1 M2 M5<|ai.cons M6<|ai.cons M7<|ai.nil) mixed (by kernel_rfl) (by kernel_rfl) rfl<|?_
 iterate 3 refine DG.a ?_
 refine DQ .r (fun o t y _ c d=>V1 aP (bU.range ((As.sG (c.sv d).g5).1 _ _ b).1) .r)<|?_
 iterate 4 refine DG.a ?_
 refine DQ .r (fun o t y _ c d=>PV.ld1 (j:=1) aP (bU.range (As.gb (c.sv d).g3)) rfl rfl)<|DQ .r (fun o t y _ c d=>(PV.Iz rfl rfl).cast (v':=.bool false) (congrArg Value.bool (decide_eq_false h)))<|?_
 iterate 4 refine DG.a ?_
 refine(oq) yb SV.g3<|(lq) ao SV.g0<|(gh) (fun w4 X Y C ai8=>?_);simp only [CA,NA] at C;have z:=C.p4.p4;refine OX.call GX rfl rfl ((Lb L N hk _ _ _ _ _ z.e2 (As.gf z.g3) hm (fun _=>lJ.nil _)).mono ?_);rintro _ w5 ⟨eQ,rfl,E,F,G⟩;have Q:=St.lr z G;refine⟨_,rfl,G.bX.size,_,rfl,_,_,_,Q,ax.k4<|ax.k4<|ax.nil,ai.k4 M2 M3 M4 M5<|ai.cons M6<|ai.cons M7<|ai.nil,?_⟩
 iterate 3 refine DG.a ?_
 refine DQ .r (fun o t y _ c d=>V1 fy (bU.range ((As.sG (c.sv d).g5).1 _ _ b).1) .r)<|(jo)<|?_;intro w6 qB f;simp only [CM,NM,CA,NA,hV.it] at f;refine cq ?_;refine WL.nil (EX.np ?_);refine(aS) (fun g=>?_) fun g=>?_
 ·
  simp at g
  refine(a7) aP (bU.range ((As.sG f.g7).1 _ _ b).1)<|(bz) ?_;exact⟨eQ,by rw [GH eK b h,if_pos g],E,F,f.p2.drop.p2.drop.p2.drop⟩
 simp at g
 refine kS ?_;refine WP .r (PV.ld1 (j:=1) aP f.b5 rfl rfl)<|(bz) ?_;exact⟨eQ,by rw [GH eK b h,if_neg g],E,F,f.p2.drop.p2.drop.p2.drop⟩
theorem Dy(a:St w M Z w [As.map Key.val S.m ml,As.map Key.val S.q [],As.blk wb 74 (D.wc S.s rev ra rn rc),As.map Key.val D.m eI,As.gA 88 lf l]) (b:(S.FV prog aa x0).p Z w) (c:Rd RR.aD 4 Z w D.a1 D.n1 D.c1 x0.ab) (hm:aU aa x0.ab ml) (d:dw l lf eI) (f:aq aa) (g:∀k,(valOf aa x0.ab k).size≤1000) (hk:ep aa k) (n:KR aa l):Calls prog 152 #[.pointer (some ⟨wb,0,none⟩),k.val] w fun e w'=>∃h,e=.returned (.int .i64 (aV (valOf aa x0.ab) ⟨rev,x0.ab,l⟩ k))∧aU aa x0.ab h∧gi ml h∧St w M Z w' [As.map Key.val S.m h,As.map Key.val S.q [],As.blk wb 74 (D.wc S.s rev ra rn rc),As.map Key.val D.m eI,As.gA 88 lf l]:=by
 cases eK:aw k with
 | true=>exact Az (r:=nh) a b c hm d f g eK (n.aD eK)
 | false=>
  cases i:aA l k with
  | none=>exact AA (r:=nh) a b c hm d f g eK i
  | some r=>
   by_cases j:r.av=rev
   ·
    exact AB a b c hm d f g eK i j
   exact AD a b c hm d f g eK i j hk
theorem Aa{c:oa}(t:St w M Z w [As.map Key.val S.m ml,As.map Key.val S.q [],As.blk wb 74 (D.wc S.s rev ra rn rc),As.map Key.val D.m eI,As.gA 88 lf l]) (u:(S.FV prog aa x0).p Z w) (y:Rd RR.aD 4 Z w D.a1 D.n1 D.c1 x0.ab) (hm:aU aa x0.ab ml) (i:dw l lf eI) (z:aq aa) (A:∀k,(valOf aa x0.ab k).size≤1000) (hk:ep aa c.read) (C:KR aa l) (d:aA l c.dC=some r):Calls prog 112 #[.pointer (some ⟨wb,0,none⟩),.agg c.cells.toArray] w fun e w'=>∃f,e=.returned (.bool (JS (valOf aa x0.ab) ⟨rev,x0.ab,l⟩ c))∧aU aa x0.ab f∧gi ml f∧St w M Z w' [As.map Key.val S.m f,As.map Key.val S.q [],As.blk wb 74 (D.wc S.s rev ra rn rc),As.map Key.val D.m eI,As.gA 88 lf l]:=by
 refine enter func112 rfl ntmps112 rfl<|?_;have aQ:=t;have st1:=aQ.fr y;have st2:=st1.fact (B:=As.fz (S.FV prog aa x0)) u (fun _ E=>E);refine(dy) st2 fun b3 w1 N O F=>?_;refine cy ?_;refine WC.bL (m:=14) [] [3] [0,1,2,3,4,5,6,7,8,9,10,11,12,13] [] F (ai.k4 M7 M6 M5 M2<|ai.cons M1<|ai.cons M0<|ai.nil) mixed (by kernel_rfl) (by kernel_rfl) rfl<|?_
 iterate 2 refine DG.a ?_
 refine(yF) ao SV.g5<|(gh) (fun w2 P Q j R=>?_);simp only [CA,NA] at j;have b:=j.p7.p7.p7.p7.p7;refine OX.call XC rfl rfl ((Dy (k:=c.read) b.e5 (As.gf b.g6) (As.gr b.g7) hm i z A hk C).mono ?_);rintro _ w3 ⟨eQ,rfl,G,H,n⟩;have I:=St.lr b n;refine⟨_,rfl,n.bX.size,_,rfl,_,_,_,I,ax.k4<|ax.k4<|ax.nil,ai.k4 M4 M3 M2 M7<|ai.cons M6<|ai.cons M5<|ai.nil,?_⟩
 iterate 3 refine DG.a ?_
 refine(oq) fX SV.g2<|(yF) ao SV.g5<|?_;refine DQ .r (fun J K L _ g h=>PV.bJ cZ fZ fh (As.gm (g.sv h).g1) (i.yes d) rfl rfl)<|?_
 iterate 2 refine DG.a ?_
 refine DQ .r (fun J K L _ g h=>V1 aP (bU.range ((As.sG (g.sv h).g0).1 _ _ d).1) .r)<|(jo)<|?_;intro w4 T o;simp only [CM,NM,CA,NA,hV.it] at o;refine bO ?_;refine WL.nil (EX.np ?_);refine(bz) ?_;exact⟨eQ,by unfold JS;rw [aN d],G,H,o.p5.drop.p5.drop.p5.drop⟩
theorem Dz{Z:Nat→Prop}(b:bU w wb 74 (D.wc v rev ra rn rc)) (hm:KM Key.val w D.m ml) (c:dw l lf ml) (d:aA l k=none) (eK:aw k=true):CR prog 106 #[.pointer (some ⟨wb,0,none⟩),k.val] w (.bool true):=by
 refine enter func106 rfl ntmps106 rfl<|?_;have aQ:=St.s0 w;refine(dy) aQ fun b3 w1 f g st1=>?_;refine cy ?_;have i:=st1.bN;refine WC.dS (m:=5) st1 mixed<|cq ?_;refine DP .r (fun _ a=>V1 fX (bU.range (b.ext (St.cg a.2))) .r)<|(gN) ao St.g0<|(cQ)<|?_;rintro w2 ⟨j,st2⟩ _;refine WP .r (PV.jQ cZ fZ fh (hm.ext (St.cg st2)) (c.no d) rfl rfl)<|cy ?_;have n:=st2.bN;refine WC.dB (m:=15) (E:=cB [(1,fun v _=>v=.bool true)]) st2 (bm (⟨fun _ _ _ _ _ _ _ h=>h,trivial⟩)) mixed (by kernel_rfl)<|(gN) ao St.g0<|?_;refine DW.c1 (u:=.bool true) (fun o a p=>cO (k:=k)) (by rw [eK])<|?_;refine aY ?_;refine(cQ) ?_;rintro w3 ⟨q,e⟩ ⟨_,_⟩;refine(bz) ?_;exact⟨rfl,(St.cg e)⟩
theorem DA{Z:Nat→Prop}(b:bU w wb 74 (D.wc v rev ra rn rc)) (hm:KM Key.val w D.m ml) (c:dw l lf ml) (d:aA l k=none) (eK:aw k=false):CR prog 106 #[.pointer (some ⟨wb,0,none⟩),k.val] w (.bool false):=by
 refine enter func106 rfl ntmps106 rfl<|?_;have aQ:=St.s0 w;refine(dy) aQ fun b3 w1 f g st1=>?_;refine cy ?_;have i:=st1.bN;refine WC.dS (m:=5) st1 mixed<|cq ?_;refine DP .r (fun _ a=>V1 fX (bU.range (b.ext (St.cg a.2))) .r)<|(gN) ao St.g0<|(cQ)<|?_;rintro w2 ⟨j,st2⟩ _;refine WP .r (PV.jQ cZ fZ fh (hm.ext (St.cg st2)) (c.no d) rfl rfl)<|cy ?_;have n:=st2.bN;refine WC.dB (m:=15) (E:=cB [(1,fun v _=>v=.bool false)]) st2 (bm (⟨fun _ _ _ _ _ _ _ h=>h,trivial⟩)) mixed (by kernel_rfl)<|(gN) ao St.g0<|?_;refine DW.c1 (u:=.bool false) (fun o a p=>cO (k:=k)) (by rw [eK])<|cy ?_;refine DW.dm (t:=17) rfl (fun g17=>?_) (fun g17=>?_)
 ·
  exact dL g17
 refine(cQ) ?_;rintro w3 ⟨q,e⟩ ⟨_,_⟩;refine(bz) ?_;exact⟨rfl,(St.cg e)⟩
theorem DB(b:bU w wb 74 (D.wc v rev ra rn rc)) (hm:KM Key.val w D.m ml) (d:dw l lf ml) {r:Rec}(e:(As.gA 88 lf l).ok Z w) (c:aA l k=some r) (eK:aw k=false):CR prog 106 #[.pointer (some ⟨wb,0,none⟩),k.val] w (.bool (decide (r.av=rev))):=by
 refine enter func106 rfl ntmps106 rfl<|?_;have aQ:=St.s0 w;refine(dy) aQ fun b3 w1 g i st1=>?_;refine cy ?_;have n:=st1.bN;refine WC.dS (m:=5) st1 mixed<|cq ?_;refine DP .r (fun _ a=>V1 fX (bU.range (b.ext (St.cg a.2))) .r)<|(gN) ao St.g0<|(cQ)<|?_;rintro w2 ⟨o,st2⟩ _;refine WP .r (PV.bJ cZ fZ fh (hm.ext (St.cg st2)) (d.yes c) rfl rfl)<|cy ?_;have p:=st2.bN;refine WC.dB (m:=15) (E:=cB [(1,fun v _=>v=.bool false)]) st2 (bm (⟨fun _ _ _ _ _ _ _ h=>h,trivial⟩)) mixed (by kernel_rfl)<|(gN) ao St.g0<|?_;refine DW.c1 (u:=.bool false) (fun q a s=>cO (k:=k)) (by rw [eK])<|cy ?_;refine DW.dm (t:=17) rfl (fun g17=>?_) (fun g17=>?_)
 ·
  refine cq ?_;refine DP .r (fun _ a=>V1 aP (bU.range ((e.1 _ _ c).1.ext (St.cg a.2))) .r)<|cy ?_;refine DP .r (fun _ a=>PV.ld1 (j:=1) aP (bU.range (b.ext (St.cg a.2))) rfl rfl)<|(cQ)<|?_;rintro w3 ⟨y,f⟩ ⟨_,_⟩;refine(bz) ?_;exact⟨rfl,(St.cg f)⟩
 exact dL g17
theorem FW{aD:List ct}(b:bU w wb 74 (D.wc v rev ra rn rc)) (hm:KM Key.val w D.m ml) (c:dw l lf ml) (d:(As.gA 88 lf l).ok Z w) (f:KR aa l):CR prog 106 #[.pointer (some ⟨wb,0,none⟩),k.val] w (.bool (aw k || ay ⟨rev,aD,l⟩ k)):=by
 cases eK:aw k with
 | true=>exact Dz (Z:=Z) b hm c (f.aD eK) eK
 | false=>
  cases a:aA l k with
  | none=>
   have e:ay ⟨rev,aD,l⟩ k=false:=by unfold ay;rw [show(bZ.mk rev aD l).ah=l from rfl,a];rfl
   rw [e];exact DA (Z:=Z) b hm c a eK
  | some r=>
   have e:ay ⟨rev,aD,l⟩ k=decide (r.av=rev):=by unfold ay;rw [show(bZ.mk rev aD l).ah=l from rfl,a,aN a];rfl
   rw [e];exact DB b hm c d a eK
set_option maxHeartbeats 1600000 in
theorem Ai{ar:Option Addr}{r cr:Nat}(gF:St w M Z w []) (ht:lD prog Z w) (hu:Rd RR.fb 4 Z w ar r cr aa) (Oh:Rd RR.aD 4 Z w a1 n1 e1 x.ab) (hr:Rd RR.ei 8 Z w a2 n2 e2 x.ah) (h6:x.ah.length≤4000) (h7:x.ab.length≤4000) (hS:pf x.ah):Calls prog 26 #[.slice ar r cr,.agg (x.row a1 n1 e1 a2 n2 e2).toArray] w fun e w'=>∃(D:WD) (S:SD) (wb:Nat) (lf:Key→RL) (ml:List (Key × Value)) (Z':Nat→Prop),e=.returned (.pointer (some ⟨wb,0,none⟩))∧dw x.ah lf ml∧bK w.heap.size Z Z'∧(S.FV prog aa x).p Z' w'∧Rd RR.aD 4 Z' w' D.a1 D.n1 D.c1 x.ab∧Rd RR.fb 4 Z' w' D.ar D.r D.cr aa∧St w M Z' w' [As.map Key.val S.m [],As.map Key.val S.q [],As.blk wb 74 (D.wc S.s x.ad none 0 0),As.map Key.val D.m ml,As.gA 88 lf x.ah]:=by
 refine enter func26 rfl ntmps26 rfl<|?_;have aQ:=gF;have st1:=aQ.fr hu;have st2:=st1.fr Oh;have iW:=st2.fr hr;have hU:=iW.fact (B:=As.fz (FZ.Jw prog)) ht (fun _ z=>z);refine(dy) hU fun b3 w1 H6 wK ja=>?_;refine cy ?_;refine WC.bL (m:=7) [] [2,6] [1,2,4,5,6,0,3] [(3,.map)] ja (ai.k4 M0 M1 M2 M3<|ai.cons M4<|ai.nil) mixed (by kernel_rfl) (by kernel_rfl) rfl<|(lq) aO SV.g0<|(gh) (fun w2 PW CX J tf=>?_);simp only [CA,NA] at J;have f:=J;refine OX.call adk rfl rfl ((vH (x:=x) f.e0 (As.gr f.g3) (As.gr f.g2) (by omega) (by omega)).mono ?_);rintro _ w3 ⟨f1,f2,f3,f4,f5,f6,Z1,rfl,K,g⟩;have A:=St.lv f g K;have FM:=St.bP g.p1;have FL:=St.bP g;have n:=f.size;have wt:=K.le n;have Ez:f5=x.ah.length:=((As.gs A.g1)).len;have arQ:f2=x.ab.length:=((As.gs A.g0)).len;have iH:=A.p1.ba (by omega);have eE:=iH.p1.ba (by omega);have mC:=(wt.trans (bK.dA (F:=fun x=>x∈aJ f4) FM) n).trans (bK.dA (F:=fun x=>x∈aJ f1) FL) n;refine⟨_,rfl,g.bX.size,_,rfl,_,_,_,eE,ax.k4<|ax.k2<|ax.cons<|ax.nil,ai.k4 M2 M3 M4 M5<|ai.cons M6<|ai.nil,?_⟩;refine(lq) aO SV.g0<|(gh) (fun w4 TD FQ L oS=>?_);simp only [CA,NA] at L;have C:=L;refine OX.call adI rfl rfl ((CQ (x:=x) C.e0).mono ?_);rintro _ w5 ⟨d1,d2,d3,rfl,E⟩;have dj:=St.lr C E;have hgv:=St.bP E;have ai9:=C.size;have c:=dj;have dI:=c.freeze (B:=As.fz (SD.FV (⟨ar,a1,a2,r,cr,n1,e1,n2,e2,d2,d3,d1⟩:SD) prog aa x)) ⟨(SD.F (⟨ar,a1,a2,r,cr,n1,e1,n2,e2,d2,d3,d1⟩:SD) prog aa x).mono (fun _ h=>.inl h) ⟨(As.gr c.g9),(As.gr c.g8),(As.gr c.g7),(As.gf c.g6)⟩,.inr rfl,((As.gb c.g0)).lt,bU.range (As.gb c.g0)⟩ (fun _ z=>z);have mU:=mC.trans (bK.dA (F:=fun x=>x=d1) hgv) ai9;refine⟨_,rfl,E.bX.size,_,rfl,_,_,_,dI,ax.k4<|ax.k4<|ax.k2<|ax.nil,ai.k4 M5 M6 M7 M8<|ai.cons M9<|ai.nil,?_⟩;refine DG.a<|?_;refine DG.side (s:=.map) rfl rfl rfl rfl rfl rfl (fun wx Zx Rx qI pH=>OX.makeMap Key.val rfl fun b wy N hb=>⟨N.ext.size,_,rfl,⟨b,rfl⟩,pH.Mi N hb⟩)<|?_;rintro _ ⟨G,rfl⟩;refine(jo) ?_;intro w6 n O;simp only [CM,NM,CA,NA,hV.it] at O;refine WP .r (PV.bB (us:=(WD.wc ⟨ar,f1,f4,r,cr,f2,f3,f5,f6,G,d1⟩ d1 x.ad none 0 0)) acV rfl rfl rfl)<|(dy) O fun P w7 N5 Tc Q=>?_;refine nx ?_;refine WL.nil (EX.np ?_);refine gV ?_;refine WP .r (PV.ld1 (j:=3) dD Q.b0 rfl rfl)<|dd ?_;have R:Key→RL:=fun _=>⟨0,none,0,0⟩;have ef:=St.acu Q 88 R;refine WC.br (σ:=Nat × (Key→RL) × (List (Key × Value))) (dn:=fun(i,lf,ml)=>[(5,.pointer (some ⟨P,0,none⟩)),(21,.slice f4 f5 f6),(22,.int .i64 (f5:Int)),(23,.int .i64 (i:Int))]) (F:=fun(i,lf,ml)=>[As.map Key.val G ml,As.gA 88 lf (x.ah.take i)]) (I:=fun(i,lf,ml)=>(i≤x.ah.length)∧(dw (x.ah.take i) lf ml)∧True) (μ:=fun(i,lf,ml)=>x.ah.length - i) (0,R,[]) (ef.p2) Sub.t (⟨Nat.zero_le _,dw.nil _,trivial⟩)<|?_;rintro⟨i,lf,ml⟩ w8 o ⟨hi,u,_⟩;simp only [CA,NA] at o hi u ⊢;refine(aS) (fun g24=>?_) fun g24=>?_
 ·
  simp at g24
  have H:i<x.ah.length:=by omega
  have T:∀y,aA (x.ah.take (i+1)) y=if y=x.ah[i].key then some x.ah[i] else aA (x.ah.take i) y:=fun y=>by rw [List.take_succ_eq_append_getElem H];exact EC (hS.ne H) y
  refine dd ?_;obtain⟨gT,k8,kz,cW,gU,gg,eH,eV⟩:=Rd.at (As.gr o.g7) H;obtain⟨q1,U,V,rfl,IJ,DJ⟩:=gg;have d:=o.fg eV eH;have W:=d.fr IJ;refine nx ?_;refine WP .r (PV.dU iG cW rfl rfl (by omega))<|(aZ) cV (As.lF W.g1)<|(eZ) W fun X w9 Px Py dO=>?_;refine(cJ) fY dO fun iT jU j3 Y=>?_;refine bO ?_;have hN5:=Y.bN;refine WC.dS (m:=6) Y mixed<|(iv) fX St.g5<|(tn) ao St.g0<|(cQ)<|?_;rintro iY ⟨vO,fi⟩ _;refine WL.go rfl (OX.put cZ fZ (As.gm fi.g3) rfl rfl rfl fun lx zB vy=>?_);have eh:=fi.p3.jW zB vy;refine cq ?_;have eX:=eh.p4.p2;have dz:=St.yX (q:=⟨X,q1,U,V⟩) eX (As.gr eX.g3) DJ T;refine cy ?_;refine eB (i+1,_,_) ⟨dz.p2.drop.p2.drop.p1,⟨by omega,u.put (q:=⟨X,q1,U,V⟩) T,trivial⟩⟩
 simp at g24
 have hie:x.ah.take i=x.ah:=List.take_of_length_le (by omega);rw [hie] at u;have d:=o.p1.rj (B:=As.gA 88 lf x.ah) (by rw [hie]);refine(bz) ?_;exact⟨⟨ar,f1,f4,r,cr,f2,f3,f5,f6,G,d1⟩,(⟨ar,a1,a2,r,cr,n1,e1,n2,e2,d2,d3,d1⟩:SD),P,lf,ml,_,rfl,u,mU,(As.gf d.g3),(As.gr d.g6),(As.gr d.g12),d.p3.drop.p5.drop.p5.drop.p5.drop.p5.drop.p5.drop.p5.drop.p5.drop.p1.p2.p4.p4⟩
end Go.Rc

