/- Walks over the program, part WZr. Conditions: as each theorem says. -/
import Derived.Test.YtmpkegmkoclbhaaGreatDoorMFacts
import Derived.Test.YtmpkegmkoclbhaaGreatDoorMWZl
import Derived.Test.YtmpkegmkoclbhaaGreatDoorMBh
set_option linter.all false
namespace Go.Rc
open Go Go.Proofs Go.Proofs.Tryz
variable {r:Rec}{rev:Int}{w:World}{D:WD}{v rn rc wb pb n1 e1 n2 e2:Nat}{ra a1 a2:Option Addr}{k:Key}{ml eH:List (Key × Value)}{Z M:Nat→Prop}{l:List Rec}{lf:Key→RL}{x x0:cm}{aa:List aG}{S:SD}
set_option maxHeartbeats 400000
theorem Ax{a:Option Addr}{n c:Nat}(hk:cZ r.key):CR prog 150 #[.agg (r.row a n c).toArray,.int .i64 rev] w (.bool (ax r.key && (decide (r.av<rev) && !r.bA))):=by
 refine enter func150 rfl ntmps150 rfl<|?_;have aP:=St.s0 w;refine(dy) aP fun b2 w1 b d st1=>?_;refine cj ?_;refine WC.kQ (t:=4) (v:=.bool (ax r.key && (decide (r.av<rev) && !r.bA))) st1 ?_<|?_
 ·
  refine(hW) ao st1.b0<|?_;refine WL.c1 (u:=.bool (ax r.key)) (fL (k:=r.key) hk) (by rw [B6 hk]) st1 fun w2 s2 st2=>?_;refine(dc) (fun g8=>?_) (fun g8=>?_)
  ·
   refine(a8) aN st2.b0<|(dc) (fun g14=>?_) (fun g14=>?_)
   ·
    refine(a8) dH st2.b0<|?_;exact(gG) (tG (aj g8 g14)) (st2)
   exact(gG) (tG (aj g8 g14)) (st2)
  exact(gG) (tG g8) (st2)
 intro w2 st2;refine(bw) ?_;exact⟨rfl,(St.cg st2)⟩
theorem Ay(b:bT w pb 63 [.pointer (some ⟨wb,0,none⟩)]) (c:bT w wb 74 (D.wc v rev ra rn rc)) (hm:KM Key.val w D.m ml) (d:(bD ml k).getD (.pointer none)=.pointer none):CR prog 149 #[k.val,.pointer (some ⟨pb,0,none⟩)] w (.tuple #[.slice none 0 0,.bool false]):=by
 refine enter func149 rfl ntmps149 rfl<|?_;have aP:=St.s0 w;refine(dy) aP fun b2 w1 f g st1=>?_;refine fO ?_;have h:=st1.bO;refine WC.dS (m:=5) st1 mixed<|?_;refine DP .r (fun _ a=>PV.mw Kk (bT.range (b.ext (St.cg a.2))) rfl rfl)<|bN ?_;refine DP .r (fun _ a=>V1 fX (bT.range (c.ext (St.cg a.2))) .r)<|(gM) ao St.g0<|(cQ)<|?_;rintro w2 ⟨i,st2⟩ _;refine WP .r (PV.jO da fZ fb (hm.ext (St.cg st2)) (d) rfl rfl)<|cj ?_;have j:=st2.bO;refine WC.dS (m:=11) st2 mixed<|cq ?_;refine DW.cS (t:=14) rfl (fun g14=>?_) (fun g14=>?_)
 ·
  exact dz g14
 refine(cQ) ?_;rintro w3 ⟨n,e⟩ _;refine cj ?_;refine WC.fi rfl<|(AJ) ?_;exact⟨rfl,(St.cg e)⟩
theorem Az{q:RL}(i:bT w pb 63 [.pointer (some ⟨wb,0,none⟩)]) (o:bT w wb 74 (D.wc v rev ra rn rc)) (hm:KM Key.val w D.m ml) (s:bD ml k=some (.pointer (some ⟨q.b,0,none⟩))) (p:bT w q.b 88 (r.row q.a q.n q.c)) (hk:cZ r.key):Calls prog 149 #[k.val,.pointer (some ⟨pb,0,none⟩)] w fun e w'=>∃(a:Option Addr) (n c:Nat),e=.returned (.tuple #[.slice a n c,.bool (ax r.key && (decide (r.av<rev) && !r.bA))])∧((ax r.key && (decide (r.av<rev) && !r.bA))=true→a=q.a∧n=q.n∧c=q.c)∧aS [] w w':=by
 refine enter func149 rfl ntmps149 rfl<|?_;have aP:=St.s0 w;refine(dy) aP fun b2 w1 y z st1=>?_;refine fO ?_;have A:=st1.bO;refine WC.dS (m:=5) st1 mixed<|?_;refine DP .r (fun _ d=>PV.mw Kk (bT.range (i.ext (St.cg d.2))) rfl rfl)<|bN ?_;refine DP .r (fun _ d=>V1 fX (bT.range (o.ext (St.cg d.2))) .r)<|(gM) ao St.g0<|(cQ)<|?_;rintro w2 ⟨B,st2⟩ _;refine WP .r (PV.bJ da fZ fb (hm.ext (St.cg st2)) (s) rfl rfl)<|cj ?_;have C:=st2.bO;refine WC.dS (m:=11) st2 mixed<|cq ?_;refine DW.cS (t:=14) rfl (fun g14=>?_) (fun g14=>?_)
 ·
  refine bN ?_;refine DP .r (fun _ d=>VA cV (bT.range (p.ext (St.cg d.2))) .r)<|DP .r (fun _ d=>PV.mw Kk (bT.range (i.ext (St.cg d.2))) rfl rfl)<|cq ?_;refine DP .r (fun _ d=>PV.ld1 (j:=1) aN (bT.range (o.ext (St.cg d.2))) rfl rfl)<|(cQ)<|?_;rintro w3 ⟨E,u⟩ _;refine(eN) (Ax (r:=r) hk) u fun w4 F g=>?_;refine(aT) (fun g24=>?_) fun g24=>?_
  ·
   have f:(ax r.key && (decide (r.av<rev) && !r.bA))=true:=by first | exact g24 | simpa using g24
   refine(a8) dE (bT.range (p.ext (St.cg g)))<|(AJ) ?_;exact⟨q.a,q.n,q.c,by rw [f],fun _=>⟨rfl,rfl,rfl⟩,(St.cg g)⟩
  have f:(ax r.key && (decide (r.av<rev) && !r.bA))=false:=by first | exact g24 | simpa using g24
  refine(AJ) ?_;exact⟨none,0,0,by rw [f],(fun h=>by rw [f] at h;cases h),(St.cg g)⟩
 exact dz g14
theorem F9(f:bT w pb 63 [.pointer (some ⟨wb,0,none⟩)]) (g:bT w wb 74 (D.wc v rev ra rn rc)) (hm:KM Key.val w D.m ml) (i:dw l lf ml) (j:(As.gy 88 lf l).ok Z w) (o:∀r∈l,cZ r.key) (k:Key):Calls prog 149 #[k.val,.pointer (some ⟨pb,0,none⟩)] w fun e w'=>∃(a:Option Addr) (n c:Nat),e=.returned (.tuple #[.slice a n c,.bool (bU l rev k)])∧(bU l rev k=true→Rd RR.key 2 Z w' a n c (aD l k).reads)∧aS [] w w':=by
 cases b:aA l k with
 | none=>
  refine(Ay f g hm (i.no b)).mono<|?_;rintro e w' ⟨rfl,hc⟩
  have d:bU l rev k=false:=by unfold bU;rw [b];rfl
  exact⟨none,0,0,by rw [d],(fun h=>by rw [d] at h;cases h),hc⟩
 | some r=>
  obtain⟨p,q,_⟩:=j.1 k r b;obtain⟨hr,hk⟩:=aJ b;refine(Az (k:=k) f g hm (i.yes b) p (o r hr)).mono<|?_;rintro e w' ⟨a,n,c,rfl,s,hc⟩
  have d:bU l rev k=(ax r.key && (decide (r.av<rev) && !r.bA)):=by
   unfold bU
   rw [aQ b,b,← hk]
   rfl
  refine⟨a,n,c,by rw [d],fun h=>?_,hc⟩;rw [d] at h;obtain⟨rfl,rfl,rfl⟩:=s h;rw [aQ b];exact q.ext hc
set_option maxHeartbeats 1600000 in
theorem AA{f:FuncId}{cap:Value}(gE:St w M Z w []) (hcf:CF prog f) (V9:∀w1,aS [] w w1→∀y:Key,Calls prog f #[y.val,cap] w1 fun e w'=>∃(a:Option Addr) (n c:Nat),e=.returned (.tuple #[.slice a n c,.bool (bU l rev y)])∧(bU l rev y=true→Rd RR.key 2 Z w' a n c (aD l y).reads)∧aS [] w1 w') (h6:l.length≤4000) (Vf:∀r∈l,r.reads.length≤4000):Calls prog 148 #[k.val,.func (.func f) #[] #[cap]] w fun e w'=>∃(a:Option Addr) (n c:Nat),e=.returned (.slice a n c)∧St w M Z w' [As.os RR.key 40 2 a n c (aB l rev k)]:=by
 refine enter func148 rfl ntmps148 rfl<|?_;have aP:=St.rb gE;refine(dy) aP fun b2 w1 TL wo st1=>?_;refine(aZ) ao st1.b0<|?_;refine WL.go rfl (OX.nb hcf rfl rfl rfl ((Calls.cap (V9 _ (St.cg st1) k)).mono ?_));rintro _ w2 ⟨f1,f2,f3,rfl,_,s2⟩;refine⟨_,rfl,?_⟩;have st2:=st1.step s2;refine aX ?_;refine(aT) (fun LQ=>?_) fun LQ=>?_
 ·
  have W:bU l rev k=false:=by simpa using LQ
  have hv:aB l rev k=[k]:=by unfold aB;rw [if_neg (by rw [W];simp)]
  refine(aZ) ao st2.b0<|?_;refine WL.go rfl (OX.aO (us:=k.cells) dx rfl rfl rfl rfl fun b31 w3 aaP ai7=>?_);have iV:=St.pf (R:=RR.key) (E:=40) (k:=2) (a:=some ⟨b31,0,none⟩) (n:=1) (c:=1) (xs:=[k]) st2 aaP.ext (OR.dd ai7 (Nat.zero_le _) rfl (by simp [Key.cells,Value.oneCell']) rfl) (fun x hx=>by simp [aI] at hx;subst hx;exact aaP.ge);refine(bw) ?_;exact⟨_,_,_,rfl,by rw [hv];exact(St.wk iV.p1.drop)⟩
 have W:bU l rev k=true:=by simpa using LQ
 refine cj ?_;refine WL.mm Key.val st2 fun P6 w3 ase asf iV=>?_;refine de ?_;refine WL.mm Key.val iV fun N6 w4 Iq asg iq=>?_;refine(aZ) ao iq.b2<|?_;refine WL.go rfl (OX.ins da gK (As.gm iq.g0) rfl rfl rfl fun w5 KC Fs=>?_);have i7:=iq.jU KC Fs;refine cq ?_;have iE:=i7.rz (B:=As.map Key.val N6 (lL [k])) (rfl);refine(aZ) ao iE.b2<|?_;refine WL.go rfl (OX.aO (us:=k.cells) dx rfl rfl rfl rfl fun b37 w6 ai8 ai9=>?_);have hJ:=iE.cX ai8 ai9;refine bN ?_;have iK:=hJ;have iH:=iK.conv (B:=As.os RR.key 40 2 (some ⟨b37,0,none⟩) 1 1 [k]) (OR.dd (As.gb iK.g0) (Nat.zero_le _) rfl (by simp [Key.cells,Value.oneCell']) rfl) (fun x h=>by show x=b37;change x∈aI (some ⟨b37,0,none⟩) at h;simpa [aI] using h);refine gX ?_;have eD:=iH.OJ;refine WC.bq (σ:=Nat × (List Key) × (List (Key × Value)) × (List RE) × (Option Addr) × Nat × Nat) (dn:=fun(i,L,UM,J,g,d,o)=>[(1,.func (.func f) #[] #[cap]),(2,.pointer (some ⟨b2,0,none⟩)),(7,.map (some P6)),(8,.map (some N6)),(9,.slice g d o),(10,.int .i64 (i:Int))]) (F:=fun(i,L,UM,J,g,d,o)=>[As.os RR.key 40 2 g d o (L),As.map Key.val N6 (lL L),As.map Key.val P6 UM,As.many (J.map (RE.as 40))]) (I:=fun(i,L,UM,J,g,d,o)=>(i≤L.length)∧(tw l rev k (iO J) L i 0)∧(tv J UM)∧((J.map (·.key)).Nodup)∧True) (μ:=fun(i,L,UM,J,g,d,o)=>4001 - i) (0,[k],[],[],(some ⟨b37,0,none⟩),1,1) (eD.p3.p3.p3) Sub.t (⟨Nat.zero_le _,tw.start fun _=>rfl,tv.nil,by simp,trivial⟩)<|?_;rintro⟨i,L,UM,J,g,d,o⟩ w7 di ⟨LL,hF,YH,yG,_⟩;simp only [CA,NA] at di LL hF YH yG ⊢;have hln:=((As.gs di.g0)).len;have hle:=hF.le W;refine(aT) (fun g41=>?_) fun g41=>?_
 ·
  simp at g41
  have wN:i<L.length:=by omega
  have hoi:=hF.op W (List.getElem_mem wN);obtain⟨ri,hri,_⟩:=bK.1 hoi;have Vj:aD l L[i]=ri:=aQ hri;have ash:=Vf ri (aJ hri).1;refine de ?_;obtain⟨gV,cW⟩:=Ow.addr (As.gs di.g0) (ak wN);refine cj ?_;refine WP .r (PV.dQ et cW rfl rfl (by omega))<|(aZ) ao (Ow.jI (As.gs di.g0) (by omega) cW (ak wN))<|?_;refine WL.go rfl (OX.nb hcf rfl rfl rfl ((Calls.cap (V9 _ (St.cg di) L[i])).mono ?_));rintro _ w8 ⟨f4,f5,f6,rfl,DH,s8⟩;refine⟨_,rfl,?_⟩;have cY:=di.step s8;have hq5:=DH hoi;rw [Vj] at hq5;have dm:=cY.fr (hq5);have Yp:=((As.gr dm.g0)).len;refine aX ?_;refine cq ?_;refine WC.bq (σ:=Nat × (List Key) × (List (Key × Value)) × (List RE) × (Option Addr) × Nat × Nat) (dn:=fun(q,L2,X,K,g,d,o)=>[(1,.func (.func f) #[] #[cap]),(2,.pointer (some ⟨b2,0,none⟩)),(7,.map (some P6)),(8,.map (some N6)),(9,.slice g d o),(10,.int .i64 (i:Int)),(53,.slice f4 f5 f6),(54,.int .i64 (f5:Int)),(55,.int .i64 (q:Int))]) (F:=fun(q,L2,X,K,g,d,o)=>[As.os RR.key 40 2 g d o (L2),As.map Key.val N6 (lL L2),As.map Key.val P6 X,As.many (K.map (RE.as 40))]) (I:=fun(q,L2,X,K,g,d,o)=>(q≤f5)∧(tw l rev k (iO K) L2 i q)∧(tv K X)∧((K.map (·.key)).Nodup)∧(L2[i]?=some L[i])∧True) (μ:=fun(q,L2,X,K,g,d,o)=>f5 - q) (0,L,UM,J,g,d,o) (dm.p4.p4.p4.p4) Sub.t (⟨Nat.zero_le _,hF,YH,yG,ak wN,trivial⟩)<|?_;rintro⟨q,L2,X,K,g,d,o⟩ w9 Y ⟨hq,UN,pK,tq,N,_⟩;simp only [CA,NA] at Y hq UN pK tq N ⊢;have asi:=((As.gs Y.g0)).len;have vk:=UN.le W;have SH:i<L2.length:=(List.getElem?_eq_some_iff.1 N).1;refine(aT) (fun Io=>?_) fun Io=>?_
  ·
   simp at Io
   have FC:q<ri.reads.length:=by omega
   obtain⟨x,hx0⟩:∃x,ri.reads[q]=x:=⟨_,rfl⟩
   have Zd:(aD l L[i]).reads[q]?=some x:=by rw [Vj,ak FC,hx0]
   refine de ?_;obtain⟨tA,H6,Fq,kO,vt,mI,mH,nO⟩:=Rd.at (As.gr Y.g4) FC;have mI:=RR.ba mI;subst mI;have ed:=Y.fg nO mH;rw [hx0] at mH ed;refine nx ?_;refine WP .r (PV.dQ et kO rfl rfl (by omega))<|(aZ) ao (As.lG ed.g0)<|(eW) ed fun b14 iS YB Od gx=>?_;refine(cI) hP gx fun iX re mz ew=>?_;refine(aZ) ao ew.b0<|?_;refine WL.go rfl (OX.nb hcf rfl rfl rfl ((Calls.cap (V9 _ (St.cg ew) x)).mono ?_));rintro _ ly ⟨f7,f8,f9,rfl,_,s12⟩;refine⟨_,rfl,?_⟩;have eb:=ew.step s12;refine aX ?_;refine(aT) (fun g66=>?_) fun g66=>?_
   ·
    have U8:bU l rev x=false:=by simpa using g66
    refine gX ?_;refine eC (q+1,L2,X,K,g,d,o) ⟨eb.drop.drop,⟨by omega,UN.skip N Zd U8,pK,tq,N,trivial⟩⟩
   have U8:bU l rev x=true:=by simpa using g66
   refine cq ?_;obtain⟨KJ,lP⟩:=Ow.addr (As.gs eb.g2) N;have dG:=eb.p5;obtain⟨ea,en,ec,II,aja⟩:=St.Wi (EK:=40) tq pK x dG;have T:=aja;have hen:=((As.gs T.g0)).len;have VU:=UN.len x;refine WC.bL (m:=11) [] [7,9] [0,1,2,3,4,5,6,7,8,9,10] [(6,.sl 40 1 L[i].cells)] T (ai.k4 M1 M2 M3 M4<|ai.cons M5<|ai.cons M7<|ai.cons M8<|ai.nil) mixed (by kernel_rfl) (by kernel_rfl) rfl<|(lx) ao SV.g1<|?_
   iterate 2 refine DG.a ?_
   refine DQ .r (fun wx Zx Rx _ pN wu=>PV.dQ et lP rfl rfl (by omega))<|DQ .r (fun wx Zx Rx _ pN wu=>VA ao (Ow.jI (As.gs (pN.sv wu).g3) (by omega) lP N) .r)<|?_;refine DG.side (s:=.sl 40 1 L[i].cells) rfl rfl rfl rfl rfl rfl (fun wx Zx Rx pV pN=>OX.aO (us:=L[i].cells) dx rfl rfl rfl rfl fun b wy nw hb=>⟨nw.ext.size,_,rfl,⟨b,rfl⟩,pN.cX nw hb⟩)<|?_;rintro _ ⟨b74,rfl⟩;refine(fM) (fun oo R7x Y5 O K3=>?_);simp only [CA,NA] at O;refine OX.mapEntry da Ko O8 (As.gm O.g6) (II) rfl rfl rfl fun z75 r7 Zw aaR=>?_;have P:=O.p6.Wg Zw aaR;refine⟨Zw.size,_,rfl,_,_,_,P,aw.k4<|aw.k4<|aw.cons<|aw.nil,ai.k4 M2 M3 M4 M5<|ai.cons M6<|ai.cons M7<|ai.cons M8<|ai.nil,?_⟩;refine(fM) (fun pU TD FQ Q oZ=>?_);simp only [CA,NA] at Q;refine OX.jT kX rfl rfl rfl (As.gs Q.g1) (SR.dd (A:=fun _=>True) (x:=L[i]) (show bT _ b74 _ _ from Q.ok _ (.tail _ (.tail _ (.tail _ (.tail _ (.tail _ (.tail _ (.tail _ (.tail _ (.tail _ (oZ _ (.head _)))))))))))) trivial rfl (by simp [Key.cells,Value.oneCell']) rfl) (by omega) (by omega) (Nat.zero_le _) fun a76 Im tE Tp s76 Tq afP=>?_;have fB:=Q.p1.eS s76 Tp Tq;refine⟨s76.size,_,rfl,_,_,_,fB,aw.k4<|aw.k4<|aw.cons<|aw.nil,ai.k4 M2 M3 M4 M5<|ai.cons M6<|ai.cons M7<|ai.cons M8<|ai.nil,?_⟩;refine(jm) ?_;intro zI PJ ee;simp only [CM,NM,CA,NA,hV.it] at ee;refine WL.go rfl (OX.entryStore (As.gmb ee.g2) rfl rfl rfl fun yo zJ zK=>?_);have eP:=ee.p2.Wh zJ zK;refine WL.nil (EX.np ?_);have dM:=eP.p3.p3;have fD:=St.acV dM;obtain⟨Vk,hL3⟩:∃Vk:List RE,Vk=⟨x,a76,(en+1),Im,iO K x++[L[i]]⟩::rest K x:=⟨_,rfl⟩;have kA:=fD.rz (B:=As.many (Vk.map (RE.as 40))) (by rw [hL3]);have K9:=pK.put (x:=x) (v:=.slice ea en ec) (a:=a76) (n:=en+1) (c:=Im) (iO K x++[L[i]]);have N1:=ED (x:=x) (a:=a76) (n:=en+1) (c:=Im) tq (iO K x++[L[i]])
   have aaS:iO Vk=qq (iO K) x L[i]:=by rw [hL3];exact MA
   rw [← hL3] at K9 N1;refine(aZ) ao kA.b3<|?_;refine WP .r (PV.jO da gK Ch (As.gm kA.g6) (BZ L2 x) rfl rfl)<|(aT) (fun g81=>?_) fun g81=>?_
   ·
    have V:x∉L2:=by simpa using g81
    refine WC.bL (m:=6) [] [5] [2,3,4,5,0,1] [(4,.sl 40 1 x.cells)] kA (ai.k4 M0 M1 M2 M3<|ai.k4 M4 M6 M7 M8<|ai.nil) mixed (by kernel_rfl) (by kernel_rfl) rfl<|(lx) ao SV.g3<|?_;refine DG.side (s:=.sl 40 1 x.cells) rfl rfl rfl rfl rfl rfl (fun wx Zx Rx pV pN=>OX.aO (us:=x.cells) dx rfl rfl rfl rfl fun b wy nw hb=>⟨nw.ext.size,_,rfl,⟨b,rfl⟩,pN.cX nw hb⟩)<|?_;rintro _ ⟨b86,rfl⟩;refine(fM) (fun Fz G2 qR lq jF=>?_);simp only [CA,NA] at lq;refine OX.jT kX rfl rfl rfl (As.gs lq.g5) (SR.dd (A:=fun _=>True) (x:=x) (show bT _ b86 _ _ from lq.ok _ (.tail _ (.tail _ (.tail _ (.tail _ (.tail _ (.tail _ (.tail _ (.tail _ (.tail _ (jF _ (.head _)))))))))))) trivial rfl (by simp [Key.cells,Value.oneCell']) rfl) (by omega) (by omega) (Nat.zero_le _) fun a87 ajd Ih aje s87 ajf asl=>?_;have oD:=lq.p5.eS s87 aje ajf;refine⟨s87.size,_,rfl,_,_,_,oD,aw.k4<|aw.k4<|aw.cons<|aw.nil,ai.k4 M1 M2 M3 M4<|ai.k4 M5 M6 M7 M8<|ai.nil,?_⟩;refine(lx) ao SV.g3<|(jm)<|?_;intro IL al5 oE;simp only [CM,NM,CA,NA,hV.it] at oE;refine WL.go rfl (OX.put da gK (As.gm oE.g7) rfl rfl rfl fun LP Ts Tt=>?_);have oB:=oE.p7.jU Ts Tt;refine nx ?_;refine WL.nil (EX.np ?_);have pO:=oB.rz (B:=As.map Key.val N6 (lL (L2++[x]))) (by rw [B0 _ V]);refine fO ?_;refine eC (q+1,L2++[x],_,Vk,a87,(d+1),ajd) ⟨pO.p1.drop.p4.drop.p4.drop.p4.drop.p3.p1.p2,⟨by omega,by rw [aaS];exact UN.new N Zd U8 V,K9,N1,by rw [List.getElem?_append_left SH];exact N,trivial⟩⟩
   have V:x∈L2:=by simpa using g81
   refine ez ?_;refine eC (q+1,L2,_,Vk,g,d,o) ⟨kA.p2.drop.p2.drop.p2.drop.p1.p3.p3,⟨by omega,by rw [aaS];exact UN.lV N Zd U8 V,K9,N1,N,trivial⟩⟩
  simp at Io
  refine kE ?_;refine eC (i+1,L2,X,K,g,d,o) ⟨Y.p4.drop,⟨by show i+1≤L2.length;omega,UN.next N (by rw [Vj];omega) (by omega),pK,tq,trivial⟩⟩
 simp at g41
 refine fO ?_;have hed:=hF.acX (show L.length≤i by omega)
 have hbl:∀e∈J,e.reads.length≤140737488355328:=fun e he=>by
  have h1:=hF.len e.key
  have h2:i≤4001:=by omega
  rw [JN yG he] at h1
  omega
 refine nx ?_;refine WL.mm Key.val di fun Vl w8 asn aso cY=>?_;refine(aZ) ao cY.b5<|?_;refine WL.go rfl (OX.ins da gK (As.gm cY.g0) rfl rfl rfl fun w9 S6 S7=>?_);have dm:=cY.jU S6 S7;refine cq ?_;have Y:=dm.rz (B:=As.map Key.val Vl (lL [k])) (rfl);refine(aZ) ao Y.b5<|?_;refine WL.go rfl (OX.aO (us:=k.cells) dx rfl rfl rfl rfl fun Y0 iS Tx Ty=>?_);have ed:=Y.cX Tx Ty;refine bN ?_;have gx:=ed;have ew:=gx.conv (B:=As.os RR.key 40 2 (some ⟨Y0,0,none⟩) 1 1 [k]) (OR.dd (As.gb gx.g0) (Nat.zero_le _) rfl (by simp [Key.cells,Value.oneCell']) rfl) (fun x h=>by show x=Y0;change x∈aI (some ⟨Y0,0,none⟩) at h;simpa [aI] using h);refine gX ?_;have eb:=ew.p5;have dG:=St.bkF hbl eb;refine WC.bq (σ:=Nat × (List Key) × (Option Addr) × Nat × Nat) (dn:=fun(j,U,C,u,G)=>[(7,.map (some P6)),(17,.map (some Vl)),(18,.slice C u G),(19,.int .i64 (j:Int))]) (F:=fun(j,U,C,u,G)=>[As.os RR.key 40 2 C u G (U),As.map Key.val Vl (lL U)]) (I:=fun(j,U,C,u,G)=>(x2 l rev k (iO J) U j 0)∧True) (μ:=fun(j,U,C,u,G)=>4001 - j) (0,[k],(some ⟨Y0,0,none⟩),1,1) (dG.p2.p2) Sub.t (⟨x2.start,trivial⟩)<|?_;rintro⟨j,U,C,u,G⟩ iX T ⟨hB,_⟩;simp only [CA,NA] at T hB ⊢;have hun:=((As.gs T.g0)).len;have asp:=hB.le W;refine(aT) (fun LU=>?_) fun LU=>?_
 ·
  simp at LU
  have hj3:j<U.length:=by omega
  refine de ?_;obtain⟨v1,v2,v3,FO,Q3⟩:=tv.read YH (As.gf T.g2) U[j];have O:=T.fr (Q3);have U3:=((As.gr O.g0)).len;have hbq:=hF.len U[j];obtain⟨Yx,sZ⟩:=Ow.addr (As.gs O.g1) (ak hj3);refine cj ?_;refine WP .r (PV.dQ et sZ rfl rfl (by omega))<|(aZ) ao (Ow.jI (As.gs O.g1) (by omega) sZ (ak hj3))<|?_;refine WP .r (PV.jO da Ko O8 (As.gm O.g6) (FO) rfl rfl)<|de ?_;refine WC.bq (σ:=Nat × (List Key) × (Option Addr) × Nat × Nat) (dn:=fun(p,H,C,u,G)=>[(7,.map (some P6)),(17,.map (some Vl)),(18,.slice C u G),(19,.int .i64 (j:Int)),(105,.slice v1 v2 v3),(106,.int .i64 (v2:Int)),(107,.int .i64 (p:Int))]) (F:=fun(p,H,C,u,G)=>[As.os RR.key 40 2 C u G (H),As.map Key.val Vl (lL H)]) (I:=fun(p,H,C,u,G)=>(p≤v2)∧(x2 l rev k (iO J) H j p)∧(H[j]?=some U[j])∧True) (μ:=fun(p,H,C,u,G)=>v2 - p) (0,U,C,u,G) (O.p2.p2) Sub.t (⟨Nat.zero_le _,hB,ak hj3,trivial⟩)<|?_;rintro⟨p,H,C,u,G⟩ ly P ⟨hp,OP,UO,_⟩;simp only [CA,NA] at P hp OP UO ⊢;have asq:=((As.gs P.g0)).len;have al7:=OP.le W;have hj4:j<H.length:=(List.getElem?_eq_some_iff.1 UO).1;refine(aT) (fun UP=>?_) fun UP=>?_
  ·
   simp at UP
   have wm:p<(iO J U[j]).length:=by omega
   obtain⟨x,hx0⟩:∃x,(iO J U[j])[p]=x:=⟨_,rfl⟩
   have Tv:(iO J U[j])[p]?=some x:=by rw [ak wm,hx0]
   refine de ?_;obtain⟨Zr,ass,ast,vS,al8,Lt,Qj,aaT⟩:=Rd.at (As.gr P.g2) wm;have Lt:=RR.ba Lt;subst Lt;have Q:=P.fg aaT Qj;rw [hx0] at Qj Q;refine nx ?_;refine WP .r (PV.dQ et vS rfl rfl (by omega))<|(aZ) ao (As.lG Q.g0)<|(eW) Q fun b21 oo aiU aiV fB=>?_;refine(cI) hP fB fun r7 S9 Ta ee=>?_;refine(aZ) ao ee.b0<|?_;refine WP .r (PV.jO da gK Ch (As.gm ee.g3) (BZ H x) rfl rfl)<|(aT) (fun Aw=>?_) fun Aw=>?_
   ·
    have V:x∉H:=by simpa using Aw
    refine WC.bL (m:=6) [] [5] [2,3,4,5,0,1] [(4,.sl 40 1 x.cells)] ee (ai.k4 M0 M1 M3 M4<|ai.k4 M5 M6 M7 M8<|ai.cons M9<|ai.nil) mixed (by kernel_rfl) (by kernel_rfl) rfl<|(lx) ao SV.g0<|?_;refine DG.side (s:=.sl 40 1 x.cells) rfl rfl rfl rfl rfl rfl (fun wx Zx Rx pV pN=>OX.aO (us:=x.cells) dx rfl rfl rfl rfl fun b wy nw hb=>⟨nw.ext.size,_,rfl,⟨b,rfl⟩,pN.cX nw hb⟩)<|?_;rintro _ ⟨ajh,rfl⟩;refine(fM) (fun pU G2 qR eP jF=>?_);simp only [CA,NA] at eP;refine OX.jT kX rfl rfl rfl (As.gs eP.g2) (SR.dd (A:=fun _=>True) (x:=x) (show bT _ ajh _ _ from eP.ok _ (.tail _ (.tail _ (.tail _ (.tail _ (.tail _ (.tail _ (.tail _ (.tail _ (.tail _ (.tail _ (jF _ (.head _))))))))))))) trivial rfl (by simp [Key.cells,Value.oneCell']) rfl) (by omega) (by omega) (Nat.zero_le _) fun aji aaU tE aaV aaW aaX al9=>?_;have dM:=eP.p2.eS aaW aaV aaX;refine⟨aaW.size,_,rfl,_,_,_,dM,aw.k4<|aw.k4<|aw.k2<|aw.nil,ai.k4 M1 M2 M3 M4<|ai.k4 M5 M6 M7 M8<|ai.cons M9<|ai.nil,?_⟩;refine(lx) ao SV.g0<|(jm)<|?_;intro zI ama fD;simp only [CM,NM,CA,NA,hV.it] at fD;refine WL.go rfl (OX.put da gK (As.gm fD.g4) rfl rfl rfl fun yo ajj ajk=>?_);have kA:=fD.p4.jU ajj ajk;refine nx ?_;refine WL.nil (EX.np ?_);have lq:=kA.rz (B:=As.map Key.val Vl (lL (H++[x]))) (by rw [B0 _ V]);refine fO ?_;refine eC (p+1,H++[x],aji,(u+1),aaU) ⟨lq.p1.drop.p2.drop.p2.drop.p1,⟨by omega,OP.add hed UO Tv V,by rw [List.getElem?_append_left hj4];exact UO,trivial⟩⟩
   have V:x∈H:=by simpa using Aw
   refine ez ?_;refine eC (p+1,H,C,u,G) ⟨ee.drop.drop,⟨by omega,OP.has UO Tv V,UO,trivial⟩⟩
  simp at UP
  refine kE ?_;refine eC (j+1,H,C,u,G) ⟨P.p2.drop,⟨OP.next UO (by omega),trivial⟩⟩
 simp at LU
 have ajl:=fun {L'}=>hB.group (L':=L') W hed (show U.length≤j by omega);refine fO ?_;have ajm:=St.fresh T;have O:=T.aY (by omega);refine bN ?_;have P:=O;refine(bX) W0 (we P.e0 (As.gr P.g0) (List.ne_nil_of_mem hB.mem) hB.j5 (by omega)) ?_;rintro _ ly ⟨o1,o2,o3,L9,rfl,hsl,PD,nP⟩;have Q:=St.lr P nP;have hL9:=ajl hsl PD;subst hL9;refine cj ?_;have Ii:St w M _ _ [As.os RR.key 40 2 o1 o2 o3 (aB l rev k)]:=(St.wk Q.k1);refine(bw) ?_;exact⟨o1,o2,o3,rfl,Ii.unz (fun _ h=>.inl (.inl h)) (Ow.z (As.gs Ii.g0))⟩
theorem xa(d:St w M Z w []) (f:bT w wb 74 (D.wc v rev ra rn rc)) (hm:KM Key.val w D.m ml) (g:dw l lf ml) (h:(As.gy 88 lf l).ok Z w) (i:∀r∈l,cZ r.key) (j:l.length≤4000) (o:∀r∈l,r.reads.length≤4000):Calls prog 110 #[.pointer (some ⟨wb,0,none⟩),k.val] w fun e w'=>∃(a:Option Addr) (n c:Nat),e=.returned (.slice a n c)∧St w M Z w' [As.os RR.key 40 2 a n c (aB l rev k)]:=by
 refine enter func110 rfl ntmps110 rfl<|?_;have aP:=St.rb d;refine(dy) aP fun b2 w1 z A st1=>?_;refine(dy) st1 fun b3 w2 B C st2=>?_;refine(aZ) ao st2.b0<|?_;refine WP .r (PV.func (us:=[]) (vs:=[.pointer (some ⟨b2,0,none⟩)]) rfl rfl)<|?_;have b:=st2;refine(bX) XJ (AA (k:=k) b.e0 XK (fun w1 h1 y=>F9 (bT.ext (As.gb b.g1) h1) (f.ext (aS.trans (St.cg b) h1)) (hm.ext (aS.trans (St.cg b) h1)) g (As.exc h (aS.trans (St.cg b) h1)) i y) j o) ?_;rintro _ w3 ⟨p,q,s,rfl,t⟩;have u:=St.lr b t;refine(bw) ?_;exact⟨p,q,s,rfl,(St.wk u.p1.drop.p1.drop)⟩
theorem vR{group:List Key}{o:Option Addr}{g eg:Nat}{A:Nat→Prop}(U:St w M Z w []) (V:bT w wb 74 (D.wc v rev ra rn rc)) (hm:KM Key.val w D.m ml) (W:dw l lf ml) (C:(As.gy 88 lf l).ok Z w) (z:Rd RR.key 2 A w o g eg group) (X:∀m∈group,∃r,aA l m=some r) (hb:∀i,((group.take i).flatMap fun m=>cT group m (aD l m).reads).length≤100000000):Calls prog 111 #[.pointer (some ⟨wb,0,none⟩),.slice o g eg] w fun e w'=>∃(a:Option Addr) (n c:Nat),e=.returned (.slice a n c)∧St w M Z w' [As.os RR.Bz 160 4 a n c (bR l group)]:=by
 have hlen:=z.len;have hle:=z.le;refine enter func111 rfl ntmps111 rfl<|?_;have aP:=St.rb U;have st1:=aP.dq RR.Bz 160 4;refine aX ?_;refine ez ?_;refine WC.bq (σ:=Nat × (List ob) × (Option Addr) × Nat × Nat) (dn:=fun(i,acc,d,b,f)=>[(0,.pointer (some ⟨wb,0,none⟩)),(1,.slice o g eg),(5,.slice d b f),(11,.slice o g eg),(12,.int .i64 (g:Int)),(13,.int .i64 (i:Int))]) (F:=fun(i,acc,d,b,f)=>[As.os RR.Bz 160 4 d b f (acc)]) (I:=fun(i,acc,d,b,f)=>(i≤g)∧(acc=(group.take i).flatMap fun m=>cT group m (aD l m).reads)∧True) (μ:=fun(i,acc,d,b,f)=>g - i) (0,[],none,0,0) (st1) Sub.t (⟨by omega,by simp,trivial⟩)<|?_;rintro⟨i,acc,d,b,f⟩ w1 st2 ⟨hi,p,_⟩;simp only [CA,NA] at st2 hi p ⊢;refine(aT) (fun g14=>?_) fun g14=>?_
 ·
  simp at g14
  have E:i<group.length:=by omega
  refine de ?_;obtain⟨gV,k8,ky,Y,gW,G,eG,eV⟩:=Rd.at z E;have G:=RR.ba G;subst G;refine nx ?_;refine WP .r (PV.dQ et Y rfl rfl (by omega))<|(aZ) ao (aW eG (St.cg st2) (by simp))<|(eW) st2 fun b7 w2 SB SC iV=>?_;refine(cI) hP iV fun w3 jS jZ O=>?_;refine cq ?_;obtain⟨r,hr⟩:=X _ (List.getElem_mem E);have hro:aD l group[i]=r:=aQ hr;have P:=(C.1 _ _ hr).2.1;have DH:=(C.1 _ _ hr).2.2;have Q:=O.fr (P.ext (St.cg O));have Yp:=P.len;have hN5:=Q.bO;refine WC.dS (m:=5) Q mixed<|cq ?_;refine DP .r (fun _ hC=>V1 fX (bT.range (V.ext (St.cg hC.2))) .r)<|(gM) ao St.g1<|(cQ)<|?_;rintro w4 ⟨vO,H⟩ _;refine WP .r (PV.bJ da fZ fb (hm.ext (St.cg H)) (W.yes hr) rfl rfl)<|(aT) (fun g24=>?_) fun g24=>?_
  ·
   exact dz g24
  refine(a8) dE (bT.range ((C.1 _ _ hr).1.ext (St.cg H)))<|de ?_;refine WC.bq (σ:=Nat × (List ob) × (Option Addr) × Nat × Nat) (dn:=fun(j,h,d,b,f)=>[(0,.pointer (some ⟨wb,0,none⟩)),(1,.slice o g eg),(5,.slice d b f),(7,.pointer (some ⟨b7,0,none⟩)),(11,.slice o g eg),(12,.int .i64 (g:Int)),(13,.int .i64 (i:Int)),(28,.slice (lf group[i]).a (lf group[i]).n (lf group[i]).c),(29,.int .i64 ((lf group[i]).n:Int)),(30,.int .i64 (j:Int))]) (F:=fun(j,h,d,b,f)=>[As.os RR.Bz 160 4 d b f (h)]) (I:=fun(j,h,d,b,f)=>(j≤(lf group[i]).n)∧(h=acc++cT group group[i] (r.reads.take j))∧True) (μ:=fun(j,h,d,b,f)=>(lf group[i]).n - j) (0,acc,d,b,f) (H.p2) Sub.t (⟨by omega,by simp [cT],trivial⟩)<|?_;rintro⟨j,h,d,b,f⟩ w5 q ⟨hj,s,_⟩;simp only [CA,NA] at q hj s ⊢;have qZ:=((As.gs q.g0)).len;have IH:=hb i;rw [← p] at IH;have KB:=jV group group[i] (r.reads.take j)
  have htl:h.length≤100100000:=by rw [s,List.length_append];rw [List.length_take] at KB;omega
  refine(aT) (fun J=>?_) fun J=>?_
  ·
   simp at J
   have K:j<r.reads.length:=by omega
   refine de ?_;obtain⟨tA,H6,Fq,kO,vt,L,mH,nO⟩:=Rd.at (As.gr q.g1) K;have L:=RR.ba L;subst L;have R:=q.fg nO mH;refine nx ?_;refine WP .r (PV.dQ et kO rfl rfl (by omega))<|(aZ) ao (As.lG R.g0)<|(eW) R fun PG w6 FH FJ iH=>?_;refine(cI) hP iH fun w7 re mz N=>?_;refine(aZ) ao N.b0<|(eN) (sa (k:=r.reads[j]) (z.ext (St.cg N))) N fun w8 s8 B=>?_;refine(aT) (fun u=>?_) fun u=>?_
   ·
    simp at u
    have y:=jn (group:=group) (m:=group[i]) K;rw [if_neg u] at y;refine(aZ) ao B.b4<|(aZ) ao B.b0<|?_;refine WP .r (PV.bB (us:=(ob.mk group[i] r.reads[j]).cells) O0 rfl rfl rfl)<|?_;refine WL.go rfl (OX.aO (us:=(ob.mk group[i] r.reads[j]).cells) GM rfl rfl rfl rfl fun b42 w9 ajn ajo=>?_);have T:=B.cX ajn ajo;refine WL.ap rfl rfl T.p3 (SR.dd (A:=fun _=>True) (x:=ob.mk group[i] r.reads[j]) (As.gb T.g0) trivial rfl (by simp [ob.cells,Value.oneCell']) rfl) fun a43 ajp iS asz asA dm=>?_;refine gX ?_;refine eC (j+1,_,a43,(b+1),ajp) ⟨dm.p5.p5.p2.k3,⟨by omega,by rw [y,s,List.append_assoc],trivial⟩⟩
   simp at u
   have y:=jn (group:=group) (m:=group[i]) K;rw [if_pos u] at y;refine ez ?_;refine eC (j+1,_,d,b,f) ⟨B.drop.drop,⟨by omega,by rw [y,s],trivial⟩⟩
  simp at J
  have aaY:r.reads.take j=r.reads:=List.take_of_length_le (by omega);refine jL ?_;refine eC (i+1,h,d,b,f) ⟨q.p1.drop.p1.drop,⟨by omega,by rw [s,aaY,p,List.take_succ_eq_append_getElem E];simp only [List.flatMap_append,List.flatMap_cons,List.flatMap_nil,List.append_nil,hro],trivial⟩⟩
 simp at g14
 have aaZ:group.take i=group:=List.take_of_length_le (by omega);rw [aaZ] at p;subst p;refine(bw) ?_;exact⟨_,_,_,rfl,(St.wk st2)⟩
theorem AB(hi:Rd RR.aC 4 Z w a1 n1 e1 x.ab):CR prog 203 #[.agg (x.row a1 n1 e1 a2 n2 e2).toArray,k.val] w (.int .i64 (bz x.ab k).changed):=by
 refine enter func203 rfl ntmps203 rfl<|?_;have aP:=St.s0 w;refine(dy) aP fun b2 w1 c d st1=>?_;refine(dy) st1 fun b3 w2 e g st2=>?_;refine(aZ) aM st2.b1<|(aZ) ao st2.b0<|(bX) Sm (mn (k:=k) (hi.ext (St.cg st2))) ?_;rintro _ w3 ⟨y,rfl,_,hy,a⟩;have b:=st2.step a;refine WP .r (PV.ui (fs:=[_,_,_]) (f:=2) (off:=3) (T:=78) underlying78 rfl rfl (show ∀w,(isAgg 3).run _ w=.ok false w from isAgg3) rfl rfl)<|(bw) ?_;exact⟨by rw [← hy],(St.cg b)⟩
theorem AD{r:Rec}(g:St w M Z w [As.map Key.val S.m ml,As.map Key.val S.q [],As.blk wb 74 (D.wc S.s rev ra rn rc),As.map Key.val D.m eH,As.gy 88 lf l]) (h:(S.FV prog aa x0).p Z w) (i:Rd RR.aC 4 Z w D.a1 D.n1 D.c1 x0.ab) (hm:aU aa x0.ab ml) (j:dw l lf eH) (y:aq aa) (z:∀k,(valOf aa x0.ab k).size≤1000) (eQ:ay k=true) (n:aA l k=none):Calls prog 152 #[.pointer (some ⟨wb,0,none⟩),k.val] w fun e w'=>∃a,e=.returned (.int .i64 (aV (valOf aa x0.ab) ⟨rev,x0.ab,l⟩ k))∧aU aa x0.ab a∧gh ml a∧St w M Z w' [As.map Key.val S.m a,As.map Key.val S.q [],As.blk wb 74 (D.wc S.s rev ra rn rc),As.map Key.val D.m eH,As.gy 88 lf l]:=by
 refine enter func152 rfl ntmps152 rfl<|?_;have aP:=g;have st1:=aP.fr i;have st2:=st1.fact (B:=As.fz (S.FV prog aa x0)) h (fun _ o=>o);refine(dy) st2 fun b3 w1 A C c=>?_;refine cj ?_;have E:=c.bO;refine WC.dS (m:=5) c mixed<|(iu) fX St.g5<|(gM) ao St.g0<|(cQ)<|?_;rintro w2 ⟨F,b⟩ _;refine WP .r (PV.jO da fZ fb (As.gm b.g6) (j.no n) rfl rfl)<|(aZ) ao b.b0<|?_;refine WL.c1 (u:=.bool true) (cO (k:=k)) (by rw [eQ]) b fun w3 G d=>?_;refine cq ?_;refine WC.oF rfl<|nx ?_;have H:=d.bO;refine WC.dS (m:=5) d mixed<|(tr) aM St.g5<|(gM) ao St.g0<|(cQ)<|?_;rintro w4 ⟨I,f⟩ _;refine(eN) (AB (x:=⟨rev,x0.ab,l⟩) (k:=k) (a2:=D.a2) (n2:=D.n2) (e2:=D.c2) (As.gr f.g2)) f fun w5 J t=>?_;refine(bw) ?_;exact⟨ml,by rw [Q5 eQ],hm,gh.refl _,t.drop.drop.drop⟩
theorem AE{r:Rec}(g:St w M Z w [As.map Key.val S.m ml,As.map Key.val S.q [],As.blk wb 74 (D.wc S.s rev ra rn rc),As.map Key.val D.m eH,As.gy 88 lf l]) (h:(S.FV prog aa x0).p Z w) (i:Rd RR.aC 4 Z w D.a1 D.n1 D.c1 x0.ab) (hm:aU aa x0.ab ml) (n:dw l lf eH) (t:aq aa) (y:∀k,(valOf aa x0.ab k).size≤1000) (eQ:ay k=false) (c:aA l k=none):Calls prog 152 #[.pointer (some ⟨wb,0,none⟩),k.val] w fun e w'=>∃a,e=.returned (.int .i64 (aV (valOf aa x0.ab) ⟨rev,x0.ab,l⟩ k))∧aU aa x0.ab a∧gh ml a∧St w M Z w' [As.map Key.val S.m a,As.map Key.val S.q [],As.blk wb 74 (D.wc S.s rev ra rn rc),As.map Key.val D.m eH,As.gy 88 lf l]:=by
 refine enter func152 rfl ntmps152 rfl<|?_;have aP:=g;have st1:=aP.fr i;have st2:=st1.fact (B:=As.fz (S.FV prog aa x0)) h (fun _ o=>o);refine(dy) st2 fun b3 w1 z A d=>?_;refine cj ?_;have C:=d.bO;refine WC.dS (m:=5) d mixed<|(iu) fX St.g5<|(gM) ao St.g0<|(cQ)<|?_;rintro w2 ⟨E,b⟩ _;refine WP .r (PV.jO da fZ fb (As.gm b.g6) (n.no c) rfl rfl)<|(aZ) ao b.b0<|?_;refine WL.c1 (u:=.bool false) (cO (k:=k)) (by rw [eQ]) b fun w3 F f=>?_;refine cq ?_;refine WC.fi rfl<|(aT) (fun g21=>?_) fun g21=>?_
 ·
  refine fO ?_;refine WP .r (PV.ld1 (j:=1) aN f.b5 rfl rfl)<|(bw) ?_;exact⟨ml,by rw [Q6 eQ c],hm,gh.refl _,f.drop.drop.drop⟩
 exact dz g21
theorem AF(n:St w M Z w [As.map Key.val S.m ml,As.map Key.val S.q [],As.blk wb 74 (D.wc S.s rev ra rn rc),As.map Key.val D.m eH,As.gy 88 lf l]) (o:(S.FV prog aa x0).p Z w) (t:Rd RR.aC 4 Z w D.a1 D.n1 D.c1 x0.ab) (hm:aU aa x0.ab ml) (y:dw l lf eH) (A:aq aa) (C:∀k,(valOf aa x0.ab k).size≤1000) (eQ:ay k=false) (a:aA l k=some r) (f:r.av=rev):Calls prog 152 #[.pointer (some ⟨wb,0,none⟩),k.val] w fun e w'=>∃c,e=.returned (.int .i64 (aV (valOf aa x0.ab) ⟨rev,x0.ab,l⟩ k))∧aU aa x0.ab c∧gh ml c∧St w M Z w' [As.map Key.val S.m c,As.map Key.val S.q [],As.blk wb 74 (D.wc S.s rev ra rn rc),As.map Key.val D.m eH,As.gy 88 lf l]:=by
 refine enter func152 rfl ntmps152 rfl<|?_;have aP:=n;have st1:=aP.fr t;have st2:=st1.fact (B:=As.fz (S.FV prog aa x0)) o (fun _ z=>z);refine(dy) st2 fun b3 w1 E F g=>?_;refine cj ?_;have G:=g.bO;refine WC.dS (m:=5) g mixed<|(iu) fX St.g5<|(gM) ao St.g0<|(cQ)<|?_;rintro w2 ⟨H,d⟩ _;refine WP .r (PV.bJ da fZ fb (As.gm d.g6) (y.yes a) rfl rfl)<|(aZ) ao d.b0<|?_;refine WL.c1 (u:=.bool false) (cO (k:=k)) (by rw [eQ]) d fun w3 I h=>?_;refine cq ?_;refine WC.fi rfl<|(aT) (fun g21=>?_) fun g21=>?_
 ·
  exact dz g21
 refine nx ?_;have J:=h.bO;refine WC.dS (m:=21) h mixed<|cq ?_;refine DP .r (fun _ b=>V1 aN (bT.range ((As.sL b.2.g7).1 _ _ a).1) .r)<|cj ?_;refine DP .r (fun _ b=>PV.ld1 (j:=1) aN (bT.range (As.gb b.2.g5)) rfl rfl)<|DP .r (fun _ b=>(PV.IU rfl rfl).cast (v':=.bool true) (congrArg Value.bool (decide_eq_true f)))<|(cQ) ?_;rintro w4 ⟨K,i⟩ _;refine de ?_;refine WC.oF rfl<|(a8) aN (bT.range ((As.sL i.g7).1 _ _ a).1)<|(bw) ?_;exact⟨ml,by rw [Q7 eQ a f],hm,gh.refl _,i.drop.drop.drop⟩
theorem AG(H:St w M Z w [As.map Key.val S.m ml,As.map Key.val S.q [],As.blk wb 74 (D.wc S.s rev ra rn rc),As.map Key.val D.m eH,As.gy 88 lf l]) (I:(S.FV prog aa x0).p Z w) (J:Rd RR.aC 4 Z w D.a1 D.n1 D.c1 x0.ab) (hm:aU aa x0.ab ml) (K:dw l lf eH) (L:aq aa) (N:∀k,(valOf aa x0.ab k).size≤1000) (eQ:ay k=false) (b:aA l k=some r) (h:¬r.av=rev) (hk:dX aa k):Calls prog 152 #[.pointer (some ⟨wb,0,none⟩),k.val] w fun e w'=>∃i,e=.returned (.int .i64 (aV (valOf aa x0.ab) ⟨rev,x0.ab,l⟩ k))∧aU aa x0.ab i∧gh ml i∧St w M Z w' [As.map Key.val S.m i,As.map Key.val S.q [],As.blk wb 74 (D.wc S.s rev ra rn rc),As.map Key.val D.m eH,As.gy 88 lf l]:=by
 refine enter func152 rfl ntmps152 rfl<|?_;have aP:=H;have st1:=aP.fr J;have st2:=st1.fact (B:=As.fz (S.FV prog aa x0)) I (fun _ O=>O);refine(dy) st2 fun b3 w1 R T A=>?_;refine cj ?_;have U:=A.bO;refine WC.dS (m:=5) A mixed<|(iu) fX St.g5<|(gM) ao St.g0<|(cQ)<|?_;rintro w2 ⟨V,n⟩ _;refine WP .r (PV.bJ da fZ fb (As.gm n.g6) (K.yes b) rfl rfl)<|(aZ) ao n.b0<|?_;refine WL.c1 (u:=.bool false) (cO (k:=k)) (by rw [eQ]) n fun w3 W P=>?_;refine cq ?_;refine WC.fi rfl<|(aT) (fun g21=>?_) fun g21=>?_
 ·
  exact dz g21
 refine nx ?_;refine WC.bL (m:=21) [] [16] [0,1,2,3,4,5,6,7,8,9,10,11,12,13,14,15,16,17,18,19,20] [] P (ai.k4 M0 M1 M2 M5<|ai.cons M6<|ai.cons M7<|ai.nil) mixed (by kernel_rfl) (by kernel_rfl) rfl<|?_
 iterate 3 refine DG.a ?_
 refine DQ .r (fun o t y _ c d=>V1 aN (bT.range ((As.sL (c.sv d).g5).1 _ _ b).1) .r)<|?_
 iterate 4 refine DG.a ?_
 refine DQ .r (fun o t y _ c d=>PV.ld1 (j:=1) aN (bT.range (As.gb (c.sv d).g3)) rfl rfl)<|DQ .r (fun o t y _ c d=>(PV.IU rfl rfl).cast (v':=.bool false) (congrArg Value.bool (decide_eq_false h)))<|?_
 iterate 4 refine DG.a ?_
 refine(ou) yf SV.g3<|(lx) ao SV.g0<|(fM) (fun w4 X Y C ajq=>?_);simp only [CA,NA] at C;have z:=C.p4.p4;refine OX.call GV rfl rfl ((K5 L N hk _ _ _ _ _ z.e2 (As.gf z.g3) hm (fun _=>lK.nil _)).mono ?_);rintro _ w5 ⟨eO,rfl,E,F,G⟩;have Q:=St.lr z G;refine⟨_,rfl,G.bV.size,_,rfl,_,_,_,Q,aw.k4<|aw.k4<|aw.nil,ai.k4 M2 M3 M4 M5<|ai.cons M6<|ai.cons M7<|ai.nil,?_⟩
 iterate 3 refine DG.a ?_
 refine DQ .r (fun o t y _ c d=>V1 fw (bT.range ((As.sL (c.sv d).g5).1 _ _ b).1) .r)<|(jm)<|?_;intro w6 qH f;simp only [CM,NM,CA,NA,hV.it] at f;refine cq ?_;refine WL.nil (EX.np ?_);refine(aT) (fun g=>?_) fun g=>?_
 ·
  simp at g
  refine(a8) aN (bT.range ((As.sL f.g7).1 _ _ b).1)<|(bw) ?_;exact⟨eO,by rw [GD eQ b h,if_pos g],E,F,f.p2.drop.p2.drop.p2.drop⟩
 simp at g
 refine kR ?_;refine WP .r (PV.ld1 (j:=1) aN f.b5 rfl rfl)<|(bw) ?_;exact⟨eO,by rw [GD eQ b h,if_neg g],E,F,f.p2.drop.p2.drop.p2.drop⟩
theorem Dv(a:St w M Z w [As.map Key.val S.m ml,As.map Key.val S.q [],As.blk wb 74 (D.wc S.s rev ra rn rc),As.map Key.val D.m eH,As.gy 88 lf l]) (b:(S.FV prog aa x0).p Z w) (c:Rd RR.aC 4 Z w D.a1 D.n1 D.c1 x0.ab) (hm:aU aa x0.ab ml) (d:dw l lf eH) (f:aq aa) (g:∀k,(valOf aa x0.ab k).size≤1000) (hk:dX aa k) (n:KR aa l):Calls prog 152 #[.pointer (some ⟨wb,0,none⟩),k.val] w fun e w'=>∃h,e=.returned (.int .i64 (aV (valOf aa x0.ab) ⟨rev,x0.ab,l⟩ k))∧aU aa x0.ab h∧gh ml h∧St w M Z w' [As.map Key.val S.m h,As.map Key.val S.q [],As.blk wb 74 (D.wc S.s rev ra rn rc),As.map Key.val D.m eH,As.gy 88 lf l]:=by
 cases eQ:ay k with
 | true=>exact AD (r:=nj) a b c hm d f g eQ (n.aC eQ)
 | false=>
  cases i:aA l k with
  | none=>exact AE (r:=nj) a b c hm d f g eQ i
  | some r=>
   by_cases j:r.av=rev
   ·
    exact AF a b c hm d f g eQ i j
   exact AG a b c hm d f g eQ i j hk
theorem Ae{c:ob}(t:St w M Z w [As.map Key.val S.m ml,As.map Key.val S.q [],As.blk wb 74 (D.wc S.s rev ra rn rc),As.map Key.val D.m eH,As.gy 88 lf l]) (u:(S.FV prog aa x0).p Z w) (y:Rd RR.aC 4 Z w D.a1 D.n1 D.c1 x0.ab) (hm:aU aa x0.ab ml) (i:dw l lf eH) (z:aq aa) (A:∀k,(valOf aa x0.ab k).size≤1000) (hk:dX aa c.read) (C:KR aa l) (d:aA l c.dC=some r):Calls prog 112 #[.pointer (some ⟨wb,0,none⟩),.agg c.cells.toArray] w fun e w'=>∃f,e=.returned (.bool (JO (valOf aa x0.ab) ⟨rev,x0.ab,l⟩ c))∧aU aa x0.ab f∧gh ml f∧St w M Z w' [As.map Key.val S.m f,As.map Key.val S.q [],As.blk wb 74 (D.wc S.s rev ra rn rc),As.map Key.val D.m eH,As.gy 88 lf l]:=by
 refine enter func112 rfl ntmps112 rfl<|?_;have aP:=t;have st1:=aP.fr y;have st2:=st1.fact (B:=As.fz (S.FV prog aa x0)) u (fun _ E=>E);refine(dy) st2 fun b3 w1 N O F=>?_;refine cj ?_;refine WC.bL (m:=14) [] [3] [0,1,2,3,4,5,6,7,8,9,10,11,12,13] [] F (ai.k4 M7 M6 M5 M2<|ai.cons M1<|ai.cons M0<|ai.nil) mixed (by kernel_rfl) (by kernel_rfl) rfl<|?_
 iterate 2 refine DG.a ?_
 refine(yI) ao SV.g5<|(fM) (fun w2 P Q j R=>?_);simp only [CA,NA] at j;have b:=j.p7.p7.p7.p7.p7;refine OX.call XN rfl rfl ((Dv (k:=c.read) b.e5 (As.gf b.g6) (As.gr b.g7) hm i z A hk C).mono ?_);rintro _ w3 ⟨eO,rfl,G,H,n⟩;have I:=St.lr b n;refine⟨_,rfl,n.bV.size,_,rfl,_,_,_,I,aw.k4<|aw.k4<|aw.nil,ai.k4 M4 M3 M2 M7<|ai.cons M6<|ai.cons M5<|ai.nil,?_⟩
 iterate 3 refine DG.a ?_
 refine(ou) fX SV.g2<|(yI) ao SV.g5<|?_;refine DQ .r (fun J K L _ g h=>PV.bJ da fZ fb (As.gm (g.sv h).g1) (i.yes d) rfl rfl)<|?_
 iterate 2 refine DG.a ?_
 refine DQ .r (fun J K L _ g h=>V1 aN (bT.range ((As.sL (g.sv h).g0).1 _ _ d).1) .r)<|(jm)<|?_;intro w4 T o;simp only [CM,NM,CA,NA,hV.it] at o;refine bN ?_;refine WL.nil (EX.np ?_);refine(bw) ?_;exact⟨eO,by unfold JO;rw [aQ d],G,H,o.p5.drop.p5.drop.p5.drop⟩
theorem Dw{Z:Nat→Prop}(b:bT w wb 74 (D.wc v rev ra rn rc)) (hm:KM Key.val w D.m ml) (c:dw l lf ml) (d:aA l k=none) (eQ:ay k=true):CR prog 106 #[.pointer (some ⟨wb,0,none⟩),k.val] w (.bool true):=by
 refine enter func106 rfl ntmps106 rfl<|?_;have aP:=St.s0 w;refine(dy) aP fun b3 w1 f g st1=>?_;refine cj ?_;have i:=st1.bO;refine WC.dS (m:=5) st1 mixed<|cq ?_;refine DP .r (fun _ a=>V1 fX (bT.range (b.ext (St.cg a.2))) .r)<|(gM) ao St.g0<|(cQ)<|?_;rintro w2 ⟨j,st2⟩ _;refine WP .r (PV.jO da fZ fb (hm.ext (St.cg st2)) (c.no d) rfl rfl)<|cj ?_;have n:=st2.bO;refine WC.dB (m:=15) (E:=cB [(1,fun v _=>v=.bool true)]) st2 (bm (⟨fun _ _ _ _ _ _ _ h=>h,trivial⟩)) mixed (by kernel_rfl)<|(gM) ao St.g0<|?_;refine DW.c1 (u:=.bool true) (fun o a p=>cO (k:=k)) (by rw [eQ])<|?_;refine aX ?_;refine(cQ) ?_;rintro w3 ⟨q,e⟩ ⟨_,_⟩;refine(bw) ?_;exact⟨rfl,(St.cg e)⟩
theorem Dx{Z:Nat→Prop}(b:bT w wb 74 (D.wc v rev ra rn rc)) (hm:KM Key.val w D.m ml) (c:dw l lf ml) (d:aA l k=none) (eQ:ay k=false):CR prog 106 #[.pointer (some ⟨wb,0,none⟩),k.val] w (.bool false):=by
 refine enter func106 rfl ntmps106 rfl<|?_;have aP:=St.s0 w;refine(dy) aP fun b3 w1 f g st1=>?_;refine cj ?_;have i:=st1.bO;refine WC.dS (m:=5) st1 mixed<|cq ?_;refine DP .r (fun _ a=>V1 fX (bT.range (b.ext (St.cg a.2))) .r)<|(gM) ao St.g0<|(cQ)<|?_;rintro w2 ⟨j,st2⟩ _;refine WP .r (PV.jO da fZ fb (hm.ext (St.cg st2)) (c.no d) rfl rfl)<|cj ?_;have n:=st2.bO;refine WC.dB (m:=15) (E:=cB [(1,fun v _=>v=.bool false)]) st2 (bm (⟨fun _ _ _ _ _ _ _ h=>h,trivial⟩)) mixed (by kernel_rfl)<|(gM) ao St.g0<|?_;refine DW.c1 (u:=.bool false) (fun o a p=>cO (k:=k)) (by rw [eQ])<|cj ?_;refine DW.cS (t:=17) rfl (fun g17=>?_) (fun g17=>?_)
 ·
  exact dz g17
 refine(cQ) ?_;rintro w3 ⟨q,e⟩ ⟨_,_⟩;refine(bw) ?_;exact⟨rfl,(St.cg e)⟩
theorem Dy(b:bT w wb 74 (D.wc v rev ra rn rc)) (hm:KM Key.val w D.m ml) (d:dw l lf ml) {r:Rec}(e:(As.gy 88 lf l).ok Z w) (c:aA l k=some r) (eQ:ay k=false):CR prog 106 #[.pointer (some ⟨wb,0,none⟩),k.val] w (.bool (decide (r.av=rev))):=by
 refine enter func106 rfl ntmps106 rfl<|?_;have aP:=St.s0 w;refine(dy) aP fun b3 w1 g i st1=>?_;refine cj ?_;have n:=st1.bO;refine WC.dS (m:=5) st1 mixed<|cq ?_;refine DP .r (fun _ a=>V1 fX (bT.range (b.ext (St.cg a.2))) .r)<|(gM) ao St.g0<|(cQ)<|?_;rintro w2 ⟨o,st2⟩ _;refine WP .r (PV.bJ da fZ fb (hm.ext (St.cg st2)) (d.yes c) rfl rfl)<|cj ?_;have p:=st2.bO;refine WC.dB (m:=15) (E:=cB [(1,fun v _=>v=.bool false)]) st2 (bm (⟨fun _ _ _ _ _ _ _ h=>h,trivial⟩)) mixed (by kernel_rfl)<|(gM) ao St.g0<|?_;refine DW.c1 (u:=.bool false) (fun q a s=>cO (k:=k)) (by rw [eQ])<|cj ?_;refine DW.cS (t:=17) rfl (fun g17=>?_) (fun g17=>?_)
 ·
  refine cq ?_;refine DP .r (fun _ a=>V1 aN (bT.range ((e.1 _ _ c).1.ext (St.cg a.2))) .r)<|cj ?_;refine DP .r (fun _ a=>PV.ld1 (j:=1) aN (bT.range (b.ext (St.cg a.2))) rfl rfl)<|(cQ)<|?_;rintro w3 ⟨y,f⟩ ⟨_,_⟩;refine(bw) ?_;exact⟨rfl,(St.cg f)⟩
 exact dz g17
theorem FY{aC:List cv}(b:bT w wb 74 (D.wc v rev ra rn rc)) (hm:KM Key.val w D.m ml) (c:dw l lf ml) (d:(As.gy 88 lf l).ok Z w) (f:KR aa l):CR prog 106 #[.pointer (some ⟨wb,0,none⟩),k.val] w (.bool (ay k || az ⟨rev,aC,l⟩ k)):=by
 cases eQ:ay k with
 | true=>exact Dw (Z:=Z) b hm c (f.aC eQ) eQ
 | false=>
  cases a:aA l k with
  | none=>
   have e:az ⟨rev,aC,l⟩ k=false:=by unfold az;rw [show(cm.mk rev aC l).ah=l from rfl,a];rfl
   rw [e];exact Dx (Z:=Z) b hm c a eQ
  | some r=>
   have e:az ⟨rev,aC,l⟩ k=decide (r.av=rev):=by unfold az;rw [show(cm.mk rev aC l).ah=l from rfl,a,aQ a];rfl
   rw [e];exact Dy b hm c d a eQ
set_option maxHeartbeats 1600000 in
theorem Am{ar:Option Addr}{r cr:Nat}(gE:St w M Z w []) (ht:lE prog Z w) (hu:Rd RR.eX 4 Z w ar r cr aa) (Oc:Rd RR.aC 4 Z w a1 n1 e1 x.ab) (hr:Rd RR.ei 8 Z w a2 n2 e2 x.ah) (h6:x.ah.length≤4000) (h7:x.ab.length≤4000) (hS:pT x.ah):Calls prog 26 #[.slice ar r cr,.agg (x.row a1 n1 e1 a2 n2 e2).toArray] w fun e w'=>∃(D:WD) (S:SD) (wb:Nat) (lf:Key→RL) (ml:List (Key × Value)) (Z':Nat→Prop),e=.returned (.pointer (some ⟨wb,0,none⟩))∧dw x.ah lf ml∧bH w.heap.size Z Z'∧(S.FV prog aa x).p Z' w'∧Rd RR.aC 4 Z' w' D.a1 D.n1 D.c1 x.ab∧Rd RR.eX 4 Z' w' D.ar D.r D.cr aa∧St w M Z' w' [As.map Key.val S.m [],As.map Key.val S.q [],As.blk wb 74 (D.wc S.s x.ad none 0 0),As.map Key.val D.m ml,As.gy 88 lf x.ah]:=by
 refine enter func26 rfl ntmps26 rfl<|?_;have aP:=gE;have st1:=aP.fr hu;have st2:=st1.fr Oc;have iV:=st2.fr hr;have iq:=iV.fact (B:=As.fz (FZ.Js prog)) ht (fun _ z=>z);refine(dy) iq fun b3 w1 H5 wK i7=>?_;refine cj ?_;refine WC.bL (m:=7) [] [2,6] [1,2,4,5,6,0,3] [(3,.map)] i7 (ai.k4 M0 M1 M2 M3<|ai.cons M4<|ai.nil) mixed (by kernel_rfl) (by kernel_rfl) rfl<|(lx) aM SV.g0<|(fM) (fun w2 Oa Aa J qQ=>?_);simp only [CA,NA] at J;have f:=J;refine OX.call adJ rfl rfl ((vH (x:=x) f.e0 (As.gr f.g3) (As.gr f.g2) (by omega) (by omega)).mono ?_);rintro _ w3 ⟨f1,f2,f3,f4,f5,f6,Z1,rfl,K,g⟩;have A:=St.lv f g K;have FN:=St.bP g.p1;have FM:=St.bP g;have n:=f.size;have wt:=K.le n;have Ey:f5=x.ah.length:=((As.gs A.g1)).len;have asB:f2=x.ab.length:=((As.gs A.g0)).len;have iH:=A.p1.aY (by omega);have eD:=iH.p1.aY (by omega);have mG:=(wt.trans (bH.dA (F:=fun x=>x∈aI f4) FN) n).trans (bH.dA (F:=fun x=>x∈aI f1) FM) n;refine⟨_,rfl,g.bV.size,_,rfl,_,_,_,eD,aw.k4<|aw.k2<|aw.cons<|aw.nil,ai.k4 M2 M3 M4 M5<|ai.cons M6<|ai.nil,?_⟩;refine(lx) aM SV.g0<|(fM) (fun w4 TM FU L o0=>?_);simp only [CA,NA] at L;have C:=L;refine OX.call ad6 rfl rfl ((CP (x:=x) C.e0).mono ?_);rintro _ w5 ⟨d1,d2,d3,rfl,E⟩;have dm:=St.lr C E;have hgv:=St.bP E;have ajr:=C.size;have c:=dm;have ed:=c.freeze (B:=As.fz (SD.FV (⟨ar,a1,a2,r,cr,n1,e1,n2,e2,d2,d3,d1⟩:SD) prog aa x)) ⟨(SD.F (⟨ar,a1,a2,r,cr,n1,e1,n2,e2,d2,d3,d1⟩:SD) prog aa x).mono (fun _ h=>.inl h) ⟨(As.gr c.g9),(As.gr c.g8),(As.gr c.g7),(As.gf c.g6)⟩,.inr rfl,((As.gb c.g0)).lt,bT.range (As.gb c.g0)⟩ (fun _ z=>z);have mU:=mG.trans (bH.dA (F:=fun x=>x=d1) hgv) ajr;refine⟨_,rfl,E.bV.size,_,rfl,_,_,_,ed,aw.k4<|aw.k4<|aw.k2<|aw.nil,ai.k4 M5 M6 M7 M8<|ai.cons M9<|ai.nil,?_⟩;refine DG.a<|?_;refine DG.side (s:=.map) rfl rfl rfl rfl rfl rfl (fun wx Zx Rx pV pN=>OX.makeMap Key.val rfl fun b wy N hb=>⟨N.ext.size,_,rfl,⟨b,rfl⟩,pN.Mc N hb⟩)<|?_;rintro _ ⟨G,rfl⟩;refine(jm) ?_;intro w6 n O;simp only [CM,NM,CA,NA,hV.it] at O;refine WP .r (PV.bB (us:=(WD.wc ⟨ar,f1,f4,r,cr,f2,f3,f5,f6,G,d1⟩ d1 x.ad none 0 0)) adm rfl rfl rfl)<|(dy) O fun P w7 NZ Tk Q=>?_;refine nx ?_;refine WL.nil (EX.np ?_);refine gX ?_;refine WP .r (PV.ld1 (j:=3) dD Q.b0 rfl rfl)<|de ?_;have R:Key→RL:=fun _=>⟨0,none,0,0⟩;have eb:=St.acT Q 88 R;refine WC.bq (σ:=Nat × (Key→RL) × (List (Key × Value))) (dn:=fun(i,lf,ml)=>[(5,.pointer (some ⟨P,0,none⟩)),(21,.slice f4 f5 f6),(22,.int .i64 (f5:Int)),(23,.int .i64 (i:Int))]) (F:=fun(i,lf,ml)=>[As.map Key.val G ml,As.gy 88 lf (x.ah.take i)]) (I:=fun(i,lf,ml)=>(i≤x.ah.length)∧(dw (x.ah.take i) lf ml)∧True) (μ:=fun(i,lf,ml)=>x.ah.length - i) (0,R,[]) (eb.p2) Sub.t (⟨Nat.zero_le _,dw.nil _,trivial⟩)<|?_;rintro⟨i,lf,ml⟩ w8 o ⟨hi,u,_⟩;simp only [CA,NA] at o hi u ⊢;refine(aT) (fun g24=>?_) fun g24=>?_
 ·
  simp at g24
  have H:i<x.ah.length:=by omega
  have T:∀y,aA (x.ah.take (i+1)) y=if y=x.ah[i].key then some x.ah[i] else aA (x.ah.take i) y:=fun y=>by rw [List.take_succ_eq_append_getElem H];exact EB (hS.ne H) y
  refine de ?_;obtain⟨gV,k8,ky,cW,gW,gg,eG,eV⟩:=Rd.at (As.gr o.g7) H;obtain⟨q1,U,V,rfl,IE,DF⟩:=gg;have d:=o.fg eV eG;have W:=d.fr IE;refine nx ?_;refine WP .r (PV.dQ iG cW rfl rfl (by omega))<|(aZ) cV (As.lG W.g1)<|(eW) W fun X w9 SB SC dI=>?_;refine(cI) fY dI fun iS jS jZ Y=>?_;refine bN ?_;have hN5:=Y.bO;refine WC.dS (m:=6) Y mixed<|(iu) fX St.g5<|(tr) ao St.g0<|(cQ)<|?_;rintro iX ⟨vO,fB⟩ _;refine WL.go rfl (OX.put da fZ (As.gm fB.g3) rfl rfl rfl fun ly zF vy=>?_);have ee:=fB.p3.jU zF vy;refine cq ?_;have eP:=ee.p4.p2;have dM:=St.yZ (q:=⟨X,q1,U,V⟩) eP (As.gr eP.g3) DF T;refine cj ?_;refine eC (i+1,_,_) ⟨dM.p2.drop.p2.drop.p1,⟨by omega,u.put (q:=⟨X,q1,U,V⟩) T,trivial⟩⟩
 simp at g24
 have hie:x.ah.take i=x.ah:=List.take_of_length_le (by omega);rw [hie] at u;have d:=o.p1.rz (B:=As.gy 88 lf x.ah) (by rw [hie]);refine(bw) ?_;exact⟨⟨ar,f1,f4,r,cr,f2,f3,f5,f6,G,d1⟩,(⟨ar,a1,a2,r,cr,n1,e1,n2,e2,d2,d3,d1⟩:SD),P,lf,ml,_,rfl,u,mU,(As.gf d.g3),(As.gr d.g6),(As.gr d.g12),d.p3.drop.p5.drop.p5.drop.p5.drop.p5.drop.p5.drop.p5.drop.p5.drop.p1.p2.p4.p4⟩
end Go.Rc

