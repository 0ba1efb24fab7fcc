/- Walks over the program, part WZr. Conditions: as each theorem says. -/
import Derived.Test.YtilldnlhckpbjaaGreatDoorEFacts
import Derived.Test.YtilldnlhckpbjaaGreatDoorEWYd
import Derived.Test.YtilldnlhckpbjaaGreatDoorEBh
set_option linter.all false
namespace Go.Rc
open Go Go.Proofs Go.Proofs.Tryz
variable {r:Rec}{rev:Int}{w:World}{D:WD}{v rn rc wb pb n1 e1 n2 e2:Nat}{ra a1 a2:Option Addr}{k:Key}{ml kK:List (Key × Value)}{Z M:Nat→Prop}{l:List Rec}{lf:Key→RL}{x x0:cW}{aa:List aD}{S:SD}
set_option maxHeartbeats 400000
theorem wm{a:Option Addr}{n c:Nat}(hk:eP r.key):CR prog 144 #[.agg (r.row a n c).toArray,.int .i64 rev] w (.bool (aB r.key && (decide (r.av<rev) && !r.bp))):=by
 refine enter func144 rfl ntmps144 rfl<|?_;have aR:=St.s0 w;refine(dy) aR fun b2 w1 b d st1=>?_;refine cD ?_;refine WC.jf (t:=4) (v:=.bool (aB r.key && (decide (r.av<rev) && !r.bp))) st1 ?_<|?_
 ·
  refine(jY) ak st1.b0<|?_;refine WL.c1 (u:=.bool (aB r.key)) (jr (k:=r.key) hk) (by rw [PE hk]) st1 fun w2 s2 st2=>?_;refine(cG) (fun g8=>?_) (fun g8=>?_)
  ·
   refine(bq) aL st2.b0<|(cG) (fun g14=>?_) (fun g14=>?_)
   ·
    refine(bq) dm st2.b0<|?_;exact(e8) (tG (aj g8 g14)) (st2)
   exact(e8) (tG (aj g8 g14)) (st2)
  exact(e8) (tG g8) (st2)
 intro w2 st2;refine(bF) ?_;exact⟨rfl,(St.cg st2)⟩
theorem wo(b:bM w pb 85 [.pointer (some ⟨wb,0,none⟩)]) (c:bM w wb 95 (D.wc v rev ra rn rc)) (hm:KM Key.val w D.m ml) (d:(aX ml k).getD (.pointer none)=.pointer none):CR prog 143 #[k.val,.pointer (some ⟨pb,0,none⟩)] w (.tuple #[.slice none 0 0,.bool false]):=by
 refine enter func143 rfl ntmps143 rfl<|?_;have aR:=St.s0 w;refine(dy) aR fun b2 w1 f g st1=>?_;refine fY ?_;have h:=st1.bA;refine WC.dS (m:=5) st1 mixed<|?_;refine DP .r (fun _ a=>PV.ki Fg (bM.range (b.ext (St.cg a.2))) rfl rfl)<|bJ ?_;refine DP .r (fun _ a=>V1 ib (bM.range (c.ext (St.cg a.2))) .r)<|(fe) ak St.g0<|(cx)<|?_;rintro w2 ⟨i,st2⟩ _;refine WP .r (PV.hW cB ic fP (hm.ext (St.cg st2)) (d) rfl rfl)<|cD ?_;have j:=st2.bA;refine WC.dS (m:=11) st2 mixed<|cq ?_;refine DW.eL (t:=14) rfl (fun g14=>?_) (fun g14=>?_)
 ·
  exact et g14
 refine(cx) ?_;rintro w3 ⟨n,e⟩ _;refine cD ?_;refine WC.fA rfl<|(tV) ?_;exact⟨rfl,(St.cg e)⟩
theorem wt{q:RL}(i:bM w pb 85 [.pointer (some ⟨wb,0,none⟩)]) (o:bM w wb 95 (D.wc v rev ra rn rc)) (hm:KM Key.val w D.m ml) (s:aX ml k=some (.pointer (some ⟨q.b,0,none⟩))) (p:bM w q.b 50 (r.row q.a q.n q.c)) (hk:eP r.key):Calls prog 143 #[k.val,.pointer (some ⟨pb,0,none⟩)] w fun e w'=>∃(a:Option Addr) (n c:Nat),e=.returned (.tuple #[.slice a n c,.bool (aB r.key && (decide (r.av<rev) && !r.bp))])∧((aB r.key && (decide (r.av<rev) && !r.bp))=true→a=q.a∧n=q.n∧c=q.c)∧aK [] w w':=by
 refine enter func143 rfl ntmps143 rfl<|?_;have aR:=St.s0 w;refine(dy) aR fun b2 w1 y z st1=>?_;refine fY ?_;have A:=st1.bA;refine WC.dS (m:=5) st1 mixed<|?_;refine DP .r (fun _ d=>PV.ki Fg (bM.range (i.ext (St.cg d.2))) rfl rfl)<|bJ ?_;refine DP .r (fun _ d=>V1 ib (bM.range (o.ext (St.cg d.2))) .r)<|(fe) ak St.g0<|(cx)<|?_;rintro w2 ⟨B,st2⟩ _;refine WP .r (PV.gO cB ic fP (hm.ext (St.cg st2)) (s) rfl rfl)<|cD ?_;have C:=st2.bA;refine WC.dS (m:=11) st2 mixed<|cq ?_;refine DW.eL (t:=14) rfl (fun g14=>?_) (fun g14=>?_)
 ·
  refine bJ ?_;refine DP .r (fun _ d=>VA dN (bM.range (p.ext (St.cg d.2))) .r)<|DP .r (fun _ d=>PV.ki Fg (bM.range (i.ext (St.cg d.2))) rfl rfl)<|cq ?_;refine DP .r (fun _ d=>PV.ld1 (j:=1) aL (bM.range (o.ext (St.cg d.2))) rfl rfl)<|(cx)<|?_;rintro w3 ⟨E,u⟩ _;refine(fw) (wm (r:=r) hk) u fun w4 F g=>?_;refine(aT) (fun g24=>?_) fun g24=>?_
  ·
   have f:(aB r.key && (decide (r.av<rev) && !r.bp))=true:=by first | exact g24 | simpa using g24
   refine(bq) gS (bM.range (p.ext (St.cg g)))<|(tV) ?_;exact⟨q.a,q.n,q.c,by rw [f],fun _=>⟨rfl,rfl,rfl⟩,(St.cg g)⟩
  have f:(aB r.key && (decide (r.av<rev) && !r.bp))=false:=by first | exact g24 | simpa using g24
  refine(tV) ?_;exact⟨none,0,0,by rw [f],(fun h=>by rw [f] at h;cases h),(St.cg g)⟩
 exact et g14
theorem Be(f:bM w pb 85 [.pointer (some ⟨wb,0,none⟩)]) (g:bM w wb 95 (D.wc v rev ra rn rc)) (hm:KM Key.val w D.m ml) (i:fO l lf ml) (j:(As.jO 50 lf l).ok Z w) (o:∀r∈l,eP r.key) (k:Key):Calls prog 143 #[k.val,.pointer (some ⟨pb,0,none⟩)] w fun e w'=>∃(a:Option Addr) (n c:Nat),e=.returned (.tuple #[.slice a n c,.bool (bD l rev k)])∧(bD l rev k=true→Rd RR.key 2 Z w' a n c (aF l k).reads)∧aK [] w w':=by
 cases b:az l k with
 | none=>
  refine(wo f g hm (i.no b)).mono<|?_;rintro e w' ⟨rfl,hc⟩
  have d:bD l rev k=false:=by unfold bD;rw [b];rfl
  exact⟨none,0,0,by rw [d],(fun h=>by rw [d] at h;cases h),hc⟩
 | some r=>
  obtain⟨p,q,_⟩:=j.1 k r b;obtain⟨hr,hk⟩:=aO b;refine(wt (k:=k) f g hm (i.yes b) p (o r hr)).mono<|?_;rintro e w' ⟨a,n,c,rfl,s,hc⟩
  have d:bD l rev k=(aB r.key && (decide (r.av<rev) && !r.bp)):=by
   unfold bD
   rw [aS b,b,← hk]
   rfl
  refine⟨a,n,c,by rw [d],fun h=>?_,hc⟩;rw [d] at h;obtain⟨rfl,rfl,rfl⟩:=s h;rw [aS b];exact q.ext hc
set_option maxHeartbeats 1600000 in
theorem wu{f:FuncId}{cap:Value}(gn:St w M Z w []) (hcf:CF prog f) (PD:∀w1,aK [] w w1→∀y:Key,Calls prog f #[y.val,cap] w1 fun e w'=>∃(a:Option Addr) (n c:Nat),e=.returned (.tuple #[.slice a n c,.bool (bD l rev y)])∧(bD l rev y=true→Rd RR.key 2 Z w' a n c (aF l y).reads)∧aK [] w1 w') (h6:l.length≤4000) (ZB:∀r∈l,r.reads.length≤4000):Calls prog 142 #[k.val,.func (.func f) #[] #[cap]] w fun e w'=>∃(a:Option Addr) (n c:Nat),e=.returned (.slice a n c)∧St w M Z w' [As.os RR.key 43 2 a n c (aC l rev k)]:=by
 refine enter func142 rfl ntmps142 rfl<|?_;have aR:=St.rb gn;refine(dy) aR fun b2 w1 YZ Fy st1=>?_;refine(bf) ak st1.b0<|?_;refine WL.go rfl (OX.nt hcf rfl rfl rfl ((Calls.cap (PD _ (St.cg st1) k)).mono ?_));rintro _ w2 ⟨f1,f2,f3,rfl,_,s2⟩;refine⟨_,rfl,?_⟩;have st2:=st1.step s2;refine aQ ?_;refine(aT) (fun GH=>?_) fun GH=>?_
 ·
  have W:bD l rev k=false:=by simpa using GH
  have hv:aC l rev k=[k]:=by unfold aC;rw [if_neg (by rw [W];simp)]
  refine(bf) ak st2.b0<|?_;refine WL.go rfl (OX.aM (us:=k.cells) cP rfl rfl rfl rfl fun b31 w3 Tv aaP=>?_);have iO:=St.mI (R:=RR.key) (E:=43) (k:=2) (a:=some ⟨b31,0,none⟩) (n:=1) (c:=1) (xs:=[k]) st2 Tv.ext (OR.cT aaP (Nat.zero_le _) rfl (by simp [Key.cells,Value.oneCell']) rfl) (fun x hx=>by simp [aZ] at hx;subst hx;exact Tv.ge);refine(bF) ?_;exact⟨_,_,_,rfl,by rw [hv];exact(St.wk iO.p1.drop)⟩
 have W:bD l rev k=true:=by simpa using GH
 refine cD ?_;refine WL.mm Key.val st2 fun Ox w3 Ny ahR iO=>?_;refine df ?_;refine WL.mm Key.val iO fun ID w4 F3 ahS iL=>?_;refine(bf) ak iL.b2<|?_;refine WL.go rfl (OX.ins cB fE (As.gm iL.g0) rfl rfl rfl fun w5 FB vP=>?_);have kJ:=iL.hJ FB vP;refine cq ?_;have ke:=kJ.u9 (B:=As.map Key.val ID (gQ [k])) (rfl);refine(bf) ak ke.b2<|?_;refine WL.go rfl (OX.aM (us:=k.cells) cP rfl rfl rfl rfl fun Uw w6 aaQ aaR=>?_);have iP:=ke.du aaQ aaR;refine bJ ?_;have im:=iP;have ju:=im.conv (B:=As.os RR.key 43 2 (some ⟨Uw,0,none⟩) 1 1 [k]) (OR.cT (As.gb im.g0) (Nat.zero_le _) rfl (by simp [Key.cells,Value.oneCell']) rfl) (fun x h=>by show x=Uw;change x∈aZ (some ⟨Uw,0,none⟩) at h;simpa [aZ] using h);refine jg ?_;have ek:=ju.Po;refine WC.bm (σ:=Nat × (List Key) × (List (Key × Value)) × (List RE) × (Option Addr) × Nat × Nat) (db:=fun(i,L,NU,J,g,d,o)=>[(1,.func (.func f) #[] #[cap]),(2,.pointer (some ⟨b2,0,none⟩)),(7,.map (some Ox)),(8,.map (some ID)),(9,.slice g d o),(10,.int .i64 (i:Int))]) (F:=fun(i,L,NU,J,g,d,o)=>[As.os RR.key 43 2 g d o (L),As.map Key.val ID (gQ L),As.map Key.val Ox NU,As.many (J.map (RE.as 43))]) (I:=fun(i,L,NU,J,g,d,o)=>(i≤L.length)∧(qa l rev k (gi J) L i 0)∧(pZ J NU)∧((J.map (·.key)).Nodup)∧True) (μ:=fun(i,L,NU,J,g,d,o)=>4001 - i) (0,[k],[],[],(some ⟨Uw,0,none⟩),1,1) (ek.p3.p3.p3) Sub.t (⟨Nat.zero_le _,qa.start fun _=>rfl,pZ.nil,by simp,trivial⟩)<|?_;rintro⟨i,L,NU,J,g,d,o⟩ w7 dP ⟨Iz,hF,R5,zn,_⟩;simp only [CA,NA] at dP Iz hF R5 zn ⊢;have hln:=((As.gs dP.g0)).len;have hle:=hF.le W;refine(aT) (fun g41=>?_) fun g41=>?_
 ·
  simp at g41
  have y0:i<L.length:=by omega
  have ZE:=hF.op W (List.getElem_mem y0);obtain⟨ri,hri,_⟩:=bC.1 ZE;have Oe:aF l L[i]=ri:=aS hri;have ahT:=ZB ri (aO hri).1;refine df ?_;obtain⟨jK,cF⟩:=Ow.addr (As.gs dP.g0) (ae y0);refine cD ?_;refine WP .r (PV.dO dn cF rfl rfl (by omega))<|(bf) ak (Ow.sP (As.gs dP.g0) (by omega) cF (ae y0))<|?_;refine WL.go rfl (OX.nt hcf rfl rfl rfl ((Calls.cap (PD _ (St.cg dP) L[i])).mono ?_));rintro _ w8 ⟨f4,f5,f6,rfl,T3,s8⟩;refine⟨_,rfl,?_⟩;have dp:=dP.step s8;have hq5:=T3 ZE;rw [Oe] at hq5;have cM:=dp.fr (hq5);have RJ:=((As.gr cM.g0)).len;refine aQ ?_;refine cq ?_;refine WC.bm (σ:=Nat × (List Key) × (List (Key × Value)) × (List RE) × (Option Addr) × Nat × Nat) (db:=fun(q,L2,X,K,g,d,o)=>[(1,.func (.func f) #[] #[cap]),(2,.pointer (some ⟨b2,0,none⟩)),(7,.map (some Ox)),(8,.map (some ID)),(9,.slice g d o),(10,.int .i64 (i:Int)),(53,.slice f4 f5 f6),(54,.int .i64 (f5:Int)),(55,.int .i64 (q:Int))]) (F:=fun(q,L2,X,K,g,d,o)=>[As.os RR.key 43 2 g d o (L2),As.map Key.val ID (gQ L2),As.map Key.val Ox X,As.many (K.map (RE.as 43))]) (I:=fun(q,L2,X,K,g,d,o)=>(q≤f5)∧(qa l rev k (gi K) L2 i q)∧(pZ K X)∧((K.map (·.key)).Nodup)∧(L2[i]?=some L[i])∧True) (μ:=fun(q,L2,X,K,g,d,o)=>f5 - q) (0,L,NU,J,g,d,o) (cM.p4.p4.p4.p4) Sub.t (⟨Nat.zero_le _,hF,R5,zn,ae y0,trivial⟩)<|?_;rintro⟨q,L2,X,K,g,d,o⟩ w9 Y ⟨hq,NV,sg,qN,N,_⟩;simp only [CA,NA] at Y hq NV sg qN N ⊢;have aas:=((As.gs Y.g0)).len;have td:=NV.le W;have T2:i<L2.length:=(List.getElem?_eq_some_iff.1 N).1;refine(aT) (fun Dn=>?_) fun Dn=>?_
  ·
   simp at Dn
   have ym:q<ri.reads.length:=by omega
   obtain⟨x,Tw⟩:∃x,ri.reads[q]=x:=⟨_,rfl⟩
   have SC:(aF l L[i]).reads[q]?=some x:=by rw [Oe,ae ym,Tw]
   refine df ?_;obtain⟨oV,C9,AA,gW,se,kA,kz,ly⟩:=Rd.at (As.gr Y.g4) ym;have kA:=RR.bT kA;subst kA;have fG:=Y.fg ly kz;rw [Tw] at kz fG;refine nx ?_;refine WP .r (PV.dO dn gW rfl rfl (by omega))<|(bf) ak (As.kW fG.g0)<|(fy) fG fun b14 jP R0 II hP=>?_;refine(dw) fW hP fun kF vI oh e7=>?_;refine(bf) ak e7.b0<|?_;refine WL.go rfl (OX.nt hcf rfl rfl rfl ((Calls.cap (PD _ (St.cg e7) x)).mono ?_));rintro _ pH ⟨f7,f8,f9,rfl,_,s12⟩;refine⟨_,rfl,?_⟩;have fX:=e7.step s12;refine aQ ?_;refine(aT) (fun g66=>?_) fun g66=>?_
   ·
    have Ol:bD l rev x=false:=by simpa using g66
    refine jg ?_;refine eb (q+1,L2,X,K,g,d,o) ⟨fX.drop.drop,⟨by omega,NV.skip N SC Ol,sg,qN,N,trivial⟩⟩
   have Ol:bD l rev x=true:=by simpa using g66
   refine cq ?_;obtain⟨Di,iM⟩:=Ow.addr (As.gs fX.g2) N;have ei:=fX.p5;obtain⟨ea,en,ec,FC,aaU⟩:=St.PH (EK:=43) qN sg x ei;have T:=aaU;have hen:=((As.gs T.g0)).len;have Pc:=NV.len x;refine WC.cN (m:=11) [] [7,9] [0,1,2,3,4,5,6,7,8,9,10] [(6,.sl 43 1 L[i].cells)] T (aq.k4 M1 M2 M3 M4<|aq.cons M5<|aq.cons M7<|aq.cons M8<|aq.nil) mixed (by kernel_rfl) (by kernel_rfl) rfl<|(ma) ak SV.g1<|?_
   iterate 2 refine DG.a ?_
   refine DQ .r (fun wx Zx Rx _ ob AZ=>PV.dO dn iM rfl rfl (by omega))<|DQ .r (fun wx Zx Rx _ ob AZ=>VA ak (Ow.sP (As.gs (ob.sv AZ).g3) (by omega) iM N) .r)<|?_;refine DG.side (s:=.sl 43 1 L[i].cells) rfl rfl rfl rfl rfl rfl (fun wx Zx Rx yH ob=>OX.aM (us:=L[i].cells) cP rfl rfl rfl rfl fun b wy nw hb=>⟨nw.ext.size,_,rfl,⟨b,rfl⟩,ob.du nw hb⟩)<|?_;rintro _ ⟨b74,rfl⟩;refine(gH) (fun qj R7x YU O JR=>?_);simp only [CA,NA] at O;refine OX.mapEntry cB rO BZ (As.gm O.g6) (FC) rfl rfl rfl fun z75 yl s75 Tx=>?_;have P:=O.p6.PF s75 Tx;refine⟨s75.size,_,rfl,_,_,_,P,ay.k4<|ay.k4<|ay.cons<|ay.nil,aq.k4 M2 M3 M4 M5<|aq.cons M6<|aq.cons M7<|aq.cons M8<|aq.nil,?_⟩;refine(gH) (fun vS Sq F0 Q uQ=>?_);simp only [CA,NA] at Q;refine OX.qG oK rfl rfl rfl (As.gs Q.g1) (SR.cT (A:=fun _=>True) (x:=L[i]) (show bM _ b74 _ _ from Q.ok _ (.tail _ (.tail _ (.tail _ (.tail _ (.tail _ (.tail _ (.tail _ (.tail _ (.tail _ (uQ _ (.head _)))))))))))) trivial rfl (by simp [Key.cells,Value.oneCell']) rfl) (by omega) (by omega) (Nat.zero_le _) fun a76 Dm wN MZ Uk Na Yr=>?_;have iR:=Q.p1.lT Uk MZ Na;refine⟨Uk.size,_,rfl,_,_,_,iR,ay.k4<|ay.k4<|ay.cons<|ay.nil,aq.k4 M2 M3 M4 M5<|aq.cons M6<|aq.cons M7<|aq.cons M8<|aq.nil,?_⟩;refine(nD) ?_;intro B3 JO e6;simp only [CM,NM,CA,NA,jD.it] at e6;refine WL.go rfl (OX.entryStore (As.gmb e6.g2) rfl rfl rfl fun Dh sj sk=>?_);have ff:=e6.p2.PG sj sk;refine WL.nil (EX.np ?_);have ir:=ff.p3.p3;have jq:=St.Vp ir;obtain⟨Oy,hL3⟩:∃Oy:List RE,Oy=⟨x,a76,(en+1),Dm,gi K x++[L[i]]⟩::rest K x:=⟨_,rfl⟩;have lX:=jq.u9 (B:=As.many (Oy.map (RE.as 43))) (by rw [hL3]);have NW:=sg.put (x:=x) (v:=.slice ea en ec) (a:=a76) (n:=en+1) (c:=Dm) (gi K x++[L[i]]);have Iw:=zP (x:=x) (a:=a76) (n:=en+1) (c:=Dm) qN (gi K x++[L[i]])
   have Ty:gi Oy=nO (gi K) x L[i]:=by rw [hL3];exact Hn
   rw [← hL3] at NW Iw;refine(bf) ak lX.b3<|?_;refine WP .r (PV.hW cB fE vC (As.gm lX.g6) (rp L2 x) rfl rfl)<|(aT) (fun g81=>?_) fun g81=>?_
   ·
    have V:x∉L2:=by simpa using g81
    refine WC.cN (m:=6) [] [5] [2,3,4,5,0,1] [(4,.sl 43 1 x.cells)] lX (aq.k4 M0 M1 M2 M3<|aq.k4 M4 M6 M7 M8<|aq.nil) mixed (by kernel_rfl) (by kernel_rfl) rfl<|(ma) ak SV.g3<|?_;refine DG.side (s:=.sl 43 1 x.cells) rfl rfl rfl rfl rfl rfl (fun wx Zx Rx yH ob=>OX.aM (us:=x.cells) cP rfl rfl rfl rfl fun b wy nw hb=>⟨nw.ext.size,_,rfl,⟨b,rfl⟩,ob.du nw hb⟩)<|?_;rintro _ ⟨b86,rfl⟩;refine(gH) (fun Gz SG F8 lB n9=>?_);simp only [CA,NA] at lB;refine OX.qG oK rfl rfl rfl (As.gs lB.g5) (SR.cT (A:=fun _=>True) (x:=x) (show bM _ b86 _ _ from lB.ok _ (.tail _ (.tail _ (.tail _ (.tail _ (.tail _ (.tail _ (.tail _ (.tail _ (.tail _ (n9 _ (.head _)))))))))))) trivial rfl (by simp [Key.cells,Value.oneCell']) rfl) (by omega) (by omega) (Nat.zero_le _) fun a87 aaX JH aaY s87 aaZ ahW=>?_;have qm:=lB.p5.lT s87 aaY aaZ;refine⟨s87.size,_,rfl,_,_,_,qm,ay.k4<|ay.k4<|ay.cons<|ay.nil,aq.k4 M1 M2 M3 M4<|aq.k4 M5 M6 M7 M8<|aq.nil,?_⟩;refine(ma) ak SV.g3<|(nD)<|?_;intro JS S3 o4;simp only [CM,NM,CA,NA,jD.it] at o4;refine WL.go rfl (OX.put cB fE (As.gm o4.g7) rfl rfl rfl fun Ns Nb Nc=>?_);have nf:=o4.p7.hJ Nb Nc;refine nx ?_;refine WL.nil (EX.np ?_);have nc:=nf.u9 (B:=As.map Key.val ID (gQ (L2++[x]))) (by rw [rq _ V]);refine fY ?_;refine eb (q+1,L2++[x],_,Oy,a87,(d+1),aaX) ⟨nc.p1.drop.p4.drop.p4.drop.p4.drop.p3.p1.p2,⟨by omega,by rw [Ty];exact NV.new N SC Ol V,NW,Iw,by rw [List.getElem?_append_left T2];exact N,trivial⟩⟩
   have V:x∈L2:=by simpa using g81
   refine eX ?_;refine eb (q+1,L2,_,Oy,g,d,o) ⟨lX.p2.drop.p2.drop.p2.drop.p1.p3.p3,⟨by omega,by rw [Ty];exact NV.nh N SC Ol V,NW,Iw,N,trivial⟩⟩
  simp at Dn
  refine lV ?_;refine eb (i+1,L2,X,K,g,d,o) ⟨Y.p4.drop,⟨by show i+1≤L2.length;omega,NV.next N (by rw [Oe];omega) (by omega),sg,qN,trivial⟩⟩
 simp at g41
 refine fY ?_;have hed:=hF.Vr (show L.length≤i by omega)
 have hbl:∀e∈J,e.reads.length≤140737488355328:=fun e he=>by
  have h1:=hF.len e.key
  have h2:i≤4001:=by omega
  rw [EG zn he] at h1
  omega
 refine nx ?_;refine WL.mm Key.val dP fun Oz w8 ahY ahZ dp=>?_;refine(bf) ak dp.b5<|?_;refine WL.go rfl (OX.ins cB fE (As.gm dp.g0) rfl rfl rfl fun w9 Mz MA=>?_);have cM:=dp.hJ Mz MA;refine cq ?_;have Y:=cM.u9 (B:=As.map Key.val Oz (gQ [k])) (rfl);refine(bf) ak Y.b5<|?_;refine WL.go rfl (OX.aM (us:=k.cells) cP rfl rfl rfl rfl fun Sm jP Ng Nh=>?_);have fG:=Y.du Ng Nh;refine bJ ?_;have hP:=fG;have e7:=hP.conv (B:=As.os RR.key 43 2 (some ⟨Sm,0,none⟩) 1 1 [k]) (OR.cT (As.gb hP.g0) (Nat.zero_le _) rfl (by simp [Key.cells,Value.oneCell']) rfl) (fun x h=>by show x=Sm;change x∈aZ (some ⟨Sm,0,none⟩) at h;simpa [aZ] using h);refine jg ?_;have fX:=e7.p5;have ei:=St.bkF hbl fX;refine WC.bm (σ:=Nat × (List Key) × (Option Addr) × Nat × Nat) (db:=fun(j,U,C,u,G)=>[(7,.map (some Ox)),(17,.map (some Oz)),(18,.slice C u G),(19,.int .i64 (j:Int))]) (F:=fun(j,U,C,u,G)=>[As.os RR.key 43 2 C u G (U),As.map Key.val Oz (gQ U)]) (I:=fun(j,U,C,u,G)=>(uu l rev k (gi J) U j 0)∧True) (μ:=fun(j,U,C,u,G)=>4001 - j) (0,[k],(some ⟨Sm,0,none⟩),1,1) (ei.p2.p2) Sub.t (⟨uu.start,trivial⟩)<|?_;rintro⟨j,U,C,u,G⟩ kF T ⟨hB,_⟩;simp only [CA,NA] at T hB ⊢;have UN:=((As.gs T.g0)).len;have ah0:=hB.le W;refine(aT) (fun NK=>?_) fun NK=>?_
 ·
  simp at NK
  have Ov:j<U.length:=by omega
  refine df ?_;obtain⟨v1,v2,v3,AW,aa0⟩:=pZ.read R5 (As.gf T.g2) U[j];have O:=T.fr (aa0);have T7:=((As.gr O.g0)).len;have hbq:=hF.len U[j];obtain⟨MF,mq⟩:=Ow.addr (As.gs O.g1) (ae Ov);refine cD ?_;refine WP .r (PV.dO dn mq rfl rfl (by omega))<|(bf) ak (Ow.sP (As.gs O.g1) (by omega) mq (ae Ov))<|?_;refine WP .r (PV.hW cB rO BZ (As.gm O.g6) (AW) rfl rfl)<|df ?_;refine WC.bm (σ:=Nat × (List Key) × (Option Addr) × Nat × Nat) (db:=fun(p,H,C,u,G)=>[(7,.map (some Ox)),(17,.map (some Oz)),(18,.slice C u G),(19,.int .i64 (j:Int)),(105,.slice v1 v2 v3),(106,.int .i64 (v2:Int)),(107,.int .i64 (p:Int))]) (F:=fun(p,H,C,u,G)=>[As.os RR.key 43 2 C u G (H),As.map Key.val Oz (gQ H)]) (I:=fun(p,H,C,u,G)=>(p≤v2)∧(uu l rev k (gi J) H j p)∧(H[j]?=some U[j])∧True) (μ:=fun(p,H,C,u,G)=>v2 - p) (0,U,C,u,G) (O.p2.p2) Sub.t (⟨Nat.zero_le _,hB,ae Ov,trivial⟩)<|?_;rintro⟨p,H,C,u,G⟩ pH P ⟨hp,Jd,NX,_⟩;simp only [CA,NA] at P hp Jd NX ⊢;have ah1:=((As.gs P.g0)).len;have adF:=Jd.le W;have Ut:j<H.length:=(List.getElem?_eq_some_iff.1 NX).1;refine(aT) (fun NY=>?_) fun NY=>?_
  ·
   simp at NY
   have uV:p<(gi J U[j]).length:=by omega
   obtain⟨x,Tw⟩:∃x,(gi J U[j])[p]=x:=⟨_,rfl⟩
   have Nf:(gi J U[j])[p]?=some x:=by rw [ae uV,Tw]
   refine df ?_;obtain⟨aaj,aak,aal,Gh,Ta,sM,B8,Gi⟩:=Rd.at (As.gr P.g2) uV;have sM:=RR.bT sM;subst sM;have Q:=P.fg Gi B8;rw [Tw] at B8 Q;refine nx ?_;refine WP .r (PV.dO dn Gh rfl rfl (by omega))<|(bf) ak (As.kW Q.g0)<|(fy) Q fun b21 qj ah2 ah3 iR=>?_;refine(dw) fW iR fun yl T8 T9 e6=>?_;refine(bf) ak e6.b0<|?_;refine WP .r (PV.hW cB fE vC (As.gm e6.g3) (rp H x) rfl rfl)<|(aT) (fun Bb=>?_) fun Bb=>?_
   ·
    have V:x∉H:=by simpa using Bb
    refine WC.cN (m:=6) [] [5] [2,3,4,5,0,1] [(4,.sl 43 1 x.cells)] e6 (aq.k4 M0 M1 M3 M4<|aq.k4 M5 M6 M7 M8<|aq.cons M9<|aq.nil) mixed (by kernel_rfl) (by kernel_rfl) rfl<|(ma) ak SV.g0<|?_;refine DG.side (s:=.sl 43 1 x.cells) rfl rfl rfl rfl rfl rfl (fun wx Zx Rx yH ob=>OX.aM (us:=x.cells) cP rfl rfl rfl rfl fun b wy nw hb=>⟨nw.ext.size,_,rfl,⟨b,rfl⟩,ob.du nw hb⟩)<|?_;rintro _ ⟨aa1,rfl⟩;refine(gH) (fun vS SG F8 ff n9=>?_);simp only [CA,NA] at ff;refine OX.qG oK rfl rfl rfl (As.gs ff.g2) (SR.cT (A:=fun _=>True) (x:=x) (show bM _ aa1 _ _ from ff.ok _ (.tail _ (.tail _ (.tail _ (.tail _ (.tail _ (.tail _ (.tail _ (.tail _ (.tail _ (.tail _ (n9 _ (.head _))))))))))))) trivial rfl (by simp [Key.cells,Value.oneCell']) rfl) (by omega) (by omega) (Nat.zero_le _) fun aa2 Tz wN TA TB TD adG=>?_;have ir:=ff.p2.lT TB TA TD;refine⟨TB.size,_,rfl,_,_,_,ir,ay.k4<|ay.k4<|ay.k2<|ay.nil,aq.k4 M1 M2 M3 M4<|aq.k4 M5 M6 M7 M8<|aq.cons M9<|aq.nil,?_⟩;refine(ma) ak SV.g0<|(nD)<|?_;intro B3 Ti jq;simp only [CM,NM,CA,NA,jD.it] at jq;refine WL.go rfl (OX.put cB fE (As.gm jq.g4) rfl rfl rfl fun Dh aa3 aa4=>?_);have lX:=jq.p4.hJ aa3 aa4;refine nx ?_;refine WL.nil (EX.np ?_);have lB:=lX.u9 (B:=As.map Key.val Oz (gQ (H++[x]))) (by rw [rq _ V]);refine fY ?_;refine eb (p+1,H++[x],aa2,(u+1),Tz) ⟨lB.p1.drop.p2.drop.p2.drop.p1,⟨by omega,Jd.add hed NX Nf V,by rw [List.getElem?_append_left Ut];exact NX,trivial⟩⟩
   have V:x∈H:=by simpa using Bb
   refine eX ?_;refine eb (p+1,H,C,u,G) ⟨e6.drop.drop,⟨by omega,Jd.has NX Nf V,NX,trivial⟩⟩
  simp at NY
  refine lV ?_;refine eb (j+1,H,C,u,G) ⟨P.p2.drop,⟨Jd.next NX (by omega),trivial⟩⟩
 simp at NK
 have aa5:=fun {L'}=>hB.group (L':=L') W hed (show U.length≤j by omega);refine fY ?_;have aa6:=St.fresh T;have O:=T.dZ (by omega);refine bJ ?_;have P:=O;refine(cE) Wj (sG P.e0 (As.gr P.g0) (List.ne_nil_of_mem hB.mem) hB.ie (by omega)) ?_;rintro _ pH ⟨o1,o2,o3,L9,rfl,hsl,JJ,FH⟩;have Q:=St.lr P FH;have hL9:=aa5 hsl JJ;subst hL9;refine cD ?_;have Dj:St w M _ _ [As.os RR.key 43 2 o1 o2 o3 (aC l rev k)]:=(St.wk Q.k1);refine(bF) ?_;exact⟨o1,o2,o3,rfl,Dj.Vo (fun _ h=>.inl (.inl h)) (Ow.z (As.gs Dj.g0))⟩
theorem tE(d:St w M Z w []) (f:bM w wb 95 (D.wc v rev ra rn rc)) (hm:KM Key.val w D.m ml) (g:fO l lf ml) (h:(As.jO 50 lf l).ok Z w) (i:∀r∈l,eP r.key) (j:l.length≤4000) (o:∀r∈l,r.reads.length≤4000):Calls prog 98 #[.pointer (some ⟨wb,0,none⟩),k.val] w fun e w'=>∃(a:Option Addr) (n c:Nat),e=.returned (.slice a n c)∧St w M Z w' [As.os RR.key 43 2 a n c (aC l rev k)]:=by
 refine enter func98 rfl ntmps98 rfl<|?_;have aR:=St.rb d;refine(dy) aR fun b2 w1 z A st1=>?_;refine(dy) st1 fun b3 w2 B C st2=>?_;refine(bf) ak st2.b0<|?_;refine WP .r (PV.func (us:=[]) (vs:=[.pointer (some ⟨b2,0,none⟩)]) rfl rfl)<|?_;have b:=st2;refine(cE) QV (wu (k:=k) b.e0 QW (fun w1 h1 y=>Be (bM.ext (As.gb b.g1) h1) (f.ext (aK.trans (St.cg b) h1)) (hm.ext (aK.trans (St.cg b) h1)) g (As.exc h (aK.trans (St.cg b) h1)) i y) j o) ?_;rintro _ w3 ⟨p,q,s,rfl,t⟩;have u:=St.lr b t;refine(bF) ?_;exact⟨p,q,s,rfl,(St.wk u.p1.drop.p1.drop)⟩
theorem sO{group:List Key}{o:Option Addr}{g eg:Nat}{A:Nat→Prop}(U:St w M Z w []) (V:bM w wb 95 (D.wc v rev ra rn rc)) (hm:KM Key.val w D.m ml) (W:fO l lf ml) (C:(As.jO 50 lf l).ok Z w) (z:Rd RR.key 2 A w o g eg group) (X:∀m∈group,∃r,az l m=some r) (hb:∀i,((group.take i).flatMap fun m=>ct group m (aF l m).reads).length≤100000000):Calls prog 97 #[.pointer (some ⟨wb,0,none⟩),.slice o g eg] w fun e w'=>∃(a:Option Addr) (n c:Nat),e=.returned (.slice a n c)∧St w M Z w' [As.os RR.I8 148 4 a n c (bP l group)]:=by
 have hlen:=z.len;have hle:=z.le;refine enter func97 rfl ntmps97 rfl<|?_;have aR:=St.rb U;have st1:=aR.fD RR.I8 148 4;refine aQ ?_;refine eX ?_;refine WC.bm (σ:=Nat × (List ph) × (Option Addr) × Nat × Nat) (db:=fun(i,acc,d,b,f)=>[(0,.pointer (some ⟨wb,0,none⟩)),(1,.slice o g eg),(5,.slice d b f),(11,.slice o g eg),(12,.int .i64 (g:Int)),(13,.int .i64 (i:Int))]) (F:=fun(i,acc,d,b,f)=>[As.os RR.I8 148 4 d b f (acc)]) (I:=fun(i,acc,d,b,f)=>(i≤g)∧(acc=(group.take i).flatMap fun m=>ct group m (aF l m).reads)∧True) (μ:=fun(i,acc,d,b,f)=>g - i) (0,[],none,0,0) (st1) Sub.t (⟨by omega,by simp,trivial⟩)<|?_;rintro⟨i,acc,d,b,f⟩ w1 st2 ⟨hi,p,_⟩;simp only [CA,NA] at st2 hi p ⊢;refine(aT) (fun g14=>?_) fun g14=>?_
 ·
  simp at g14
  have E:i<group.length:=by omega
  refine df ?_;obtain⟨jK,qe,nX,Y,i6,G,ft,fF⟩:=Rd.at z E;have G:=RR.bT G;subst G;refine nx ?_;refine WP .r (PV.dO dn Y rfl rfl (by omega))<|(bf) ak (aW ft (St.cg st2) (by simp))<|(fy) st2 fun b7 w2 Ry Rz iO=>?_;refine(dw) fW iO fun w3 kI nj O=>?_;refine cq ?_;obtain⟨r,hr⟩:=X _ (List.getElem_mem E);have hro:aF l group[i]=r:=aS hr;have P:=(C.1 _ _ hr).2.1;have T3:=(C.1 _ _ hr).2.2;have Q:=O.fr (P.ext (St.cg O));have RJ:=P.len;have hN5:=Q.bA;refine WC.dS (m:=5) Q mixed<|cq ?_;refine DP .r (fun _ hC=>V1 ib (bM.range (V.ext (St.cg hC.2))) .r)<|(fe) ak St.g1<|(cx)<|?_;rintro w4 ⟨IF,H⟩ _;refine WP .r (PV.gO cB ic fP (hm.ext (St.cg H)) (W.yes hr) rfl rfl)<|(aT) (fun g24=>?_) fun g24=>?_
  ·
   exact et g24
  refine(bq) gS (bM.range ((C.1 _ _ hr).1.ext (St.cg H)))<|df ?_;refine WC.bm (σ:=Nat × (List ph) × (Option Addr) × Nat × Nat) (db:=fun(j,h,d,b,f)=>[(0,.pointer (some ⟨wb,0,none⟩)),(1,.slice o g eg),(5,.slice d b f),(7,.pointer (some ⟨b7,0,none⟩)),(11,.slice o g eg),(12,.int .i64 (g:Int)),(13,.int .i64 (i:Int)),(28,.slice (lf group[i]).a (lf group[i]).n (lf group[i]).c),(29,.int .i64 ((lf group[i]).n:Int)),(30,.int .i64 (j:Int))]) (F:=fun(j,h,d,b,f)=>[As.os RR.I8 148 4 d b f (h)]) (I:=fun(j,h,d,b,f)=>(j≤(lf group[i]).n)∧(h=acc++ct group group[i] (r.reads.take j))∧True) (μ:=fun(j,h,d,b,f)=>(lf group[i]).n - j) (0,acc,d,b,f) (H.p2) Sub.t (⟨by omega,by simp [ct],trivial⟩)<|?_;rintro⟨j,h,d,b,f⟩ w5 q ⟨hj,s,_⟩;simp only [CA,NA] at q hj s ⊢;have ta:=((As.gs q.g0)).len;have Xj:=hb i;rw [← p] at Xj;have T0:=ig group group[i] (r.reads.take j)
  have htl:h.length≤100100000:=by rw [s,List.length_append];rw [List.length_take] at T0;omega
  refine(aT) (fun J=>?_) fun J=>?_
  ·
   simp at J
   have K:j<r.reads.length:=by omega
   refine df ?_;obtain⟨oV,C9,AA,gW,se,L,kz,ly⟩:=Rd.at (As.gr q.g1) K;have L:=RR.bT L;subst L;have R:=q.fg ly kz;refine nx ?_;refine WP .r (PV.dO dn gW rfl rfl (by omega))<|(bf) ak (As.kW R.g0)<|(fy) R fun MO w6 yo yp ju=>?_;refine(dw) fW ju fun w7 vI oh N=>?_;refine(bf) ak N.b0<|(fw) (jL (k:=r.reads[j]) (z.ext (St.cg N))) N fun w8 s8 B=>?_;refine(aT) (fun u=>?_) fun u=>?_
   ·
    simp at u
    have y:=gI (group:=group) (m:=group[i]) K;rw [if_neg u] at y;refine(bf) ak B.b4<|(bf) ak B.b0<|?_;refine WP .r (PV.br (us:=(ph.mk group[i] r.reads[j]).cells) Jk rfl rfl rfl)<|?_;refine WL.go rfl (OX.aM (us:=(ph.mk group[i] r.reads[j]).cells) BW rfl rfl rfl rfl fun b42 w9 aa7 aa8=>?_);have T:=B.du aa7 aa8;refine WL.ap rfl rfl T.p3 (SR.cT (A:=fun _=>True) (x:=ph.mk group[i] r.reads[j]) (As.gb T.g0) trivial rfl (by simp [ph.cells,Value.oneCell']) rfl) fun a43 aa9 jP ah9 aia cM=>?_;refine jg ?_;refine eb (j+1,_,a43,(b+1),aa9) ⟨cM.p5.p5.p2.k3,⟨by omega,by rw [y,s,List.append_assoc],trivial⟩⟩
   simp at u
   have y:=gI (group:=group) (m:=group[i]) K;rw [if_pos u] at y;refine eX ?_;refine eb (j+1,_,d,b,f) ⟨B.drop.drop,⟨by omega,by rw [y,s],trivial⟩⟩
  simp at J
  have TE:r.reads.take j=r.reads:=List.take_of_length_le (by omega);refine lU ?_;refine eb (i+1,h,d,b,f) ⟨q.p1.drop.p1.drop,⟨by omega,by rw [s,TE,p,List.take_succ_eq_append_getElem E];simp only [List.flatMap_append,List.flatMap_cons,List.flatMap_nil,List.append_nil,hro],trivial⟩⟩
 simp at g14
 have TF:group.take i=group:=List.take_of_length_le (by omega);rw [TF] at p;subst p;refine(bF) ?_;exact⟨_,_,_,rfl,(St.wk st2)⟩
theorem wv(hi:Rd RR.aA 4 Z w a1 n1 e1 x.ab):CR prog 190 #[.agg (x.row a1 n1 e1 a2 n2 e2).toArray,k.val] w (.int .i64 (bs x.ab k).changed):=by
 refine enter func190 rfl ntmps190 rfl<|?_;have aR:=St.s0 w;refine(dy) aR fun b2 w1 c d st1=>?_;refine(dy) st1 fun b3 w2 e g st2=>?_;refine(bf) bu st2.b1<|(bf) ak st2.b0<|(cE) Jr (oa (k:=k) (hi.ext (St.cg st2))) ?_;rintro _ w3 ⟨y,rfl,_,hy,a⟩;have b:=st2.step a;refine WP .r (PV.qR (fs:=[_,_,_]) (f:=2) (off:=3) (T:=80) underlying80 rfl rfl (show ∀w,(isAgg 3).run _ w=.ok false w from isAgg3) rfl rfl)<|(bF) ?_;exact⟨by rw [← hy],(St.cg b)⟩
theorem wA{r:Rec}(g:St w M Z w [As.map Key.val S.m ml,As.map Key.val S.q [],As.blk wb 95 (D.wc S.s rev ra rn rc),As.map Key.val D.m kK,As.jO 50 lf l]) (h:(S.FV prog aa x0).p Z w) (i:Rd RR.aA 4 Z w D.a1 D.n1 D.c1 x0.ab) (hm:aJ aa x0.ab ml) (j:fO l lf kK) (y:ao aa) (z:∀k,(valOf aa x0.ab k).size≤1000) (eJ:aw k=true) (n:az l k=none):Calls prog 145 #[.pointer (some ⟨wb,0,none⟩),k.val] w fun e w'=>∃a,e=.returned (.int .i64 (aP (valOf aa x0.ab) ⟨rev,x0.ab,l⟩ k))∧aJ aa x0.ab a∧fu ml a∧St w M Z w' [As.map Key.val S.m a,As.map Key.val S.q [],As.blk wb 95 (D.wc S.s rev ra rn rc),As.map Key.val D.m kK,As.jO 50 lf l]:=by
 refine enter func145 rfl ntmps145 rfl<|?_;have aR:=g;have st1:=aR.fr i;have st2:=st1.fact (B:=As.fz (S.FV prog aa x0)) h (fun _ o=>o);refine(dy) st2 fun b3 w1 A C c=>?_;refine cD ?_;have E:=c.bA;refine WC.dS (m:=5) c mixed<|(gp) ib St.g5<|(fe) ak St.g0<|(cx)<|?_;rintro w2 ⟨F,b⟩ _;refine WP .r (PV.hW cB ic fP (As.gm b.g6) (j.no n) rfl rfl)<|(bf) ak b.b0<|?_;refine WL.c1 (u:=.bool true) (cR (k:=k)) (by rw [eJ]) b fun w3 G d=>?_;refine cq ?_;refine WC.tH rfl<|nx ?_;have H:=d.bA;refine WC.dS (m:=5) d mixed<|(tW) bu St.g5<|(fe) ak St.g0<|(cx)<|?_;rintro w4 ⟨I,f⟩ _;refine(fw) (wv (x:=⟨rev,x0.ab,l⟩) (k:=k) (a2:=D.a2) (n2:=D.n2) (e2:=D.c2) (As.gr f.g2)) f fun w5 J t=>?_;refine(bF) ?_;exact⟨ml,by rw [KU eJ],hm,fu.refl _,t.drop.drop.drop⟩
theorem wB{r:Rec}(g:St w M Z w [As.map Key.val S.m ml,As.map Key.val S.q [],As.blk wb 95 (D.wc S.s rev ra rn rc),As.map Key.val D.m kK,As.jO 50 lf l]) (h:(S.FV prog aa x0).p Z w) (i:Rd RR.aA 4 Z w D.a1 D.n1 D.c1 x0.ab) (hm:aJ aa x0.ab ml) (n:fO l lf kK) (t:ao aa) (y:∀k,(valOf aa x0.ab k).size≤1000) (eJ:aw k=false) (c:az l k=none):Calls prog 145 #[.pointer (some ⟨wb,0,none⟩),k.val] w fun e w'=>∃a,e=.returned (.int .i64 (aP (valOf aa x0.ab) ⟨rev,x0.ab,l⟩ k))∧aJ aa x0.ab a∧fu ml a∧St w M Z w' [As.map Key.val S.m a,As.map Key.val S.q [],As.blk wb 95 (D.wc S.s rev ra rn rc),As.map Key.val D.m kK,As.jO 50 lf l]:=by
 refine enter func145 rfl ntmps145 rfl<|?_;have aR:=g;have st1:=aR.fr i;have st2:=st1.fact (B:=As.fz (S.FV prog aa x0)) h (fun _ o=>o);refine(dy) st2 fun b3 w1 z A d=>?_;refine cD ?_;have C:=d.bA;refine WC.dS (m:=5) d mixed<|(gp) ib St.g5<|(fe) ak St.g0<|(cx)<|?_;rintro w2 ⟨E,b⟩ _;refine WP .r (PV.hW cB ic fP (As.gm b.g6) (n.no c) rfl rfl)<|(bf) ak b.b0<|?_;refine WL.c1 (u:=.bool false) (cR (k:=k)) (by rw [eJ]) b fun w3 F f=>?_;refine cq ?_;refine WC.fA rfl<|(aT) (fun g21=>?_) fun g21=>?_
 ·
  refine fY ?_;refine WP .r (PV.ld1 (j:=1) aL f.b5 rfl rfl)<|(bF) ?_;exact⟨ml,by rw [KW eJ c],hm,fu.refl _,f.drop.drop.drop⟩
 exact et g21
theorem wC(n:St w M Z w [As.map Key.val S.m ml,As.map Key.val S.q [],As.blk wb 95 (D.wc S.s rev ra rn rc),As.map Key.val D.m kK,As.jO 50 lf l]) (o:(S.FV prog aa x0).p Z w) (t:Rd RR.aA 4 Z w D.a1 D.n1 D.c1 x0.ab) (hm:aJ aa x0.ab ml) (y:fO l lf kK) (A:ao aa) (C:∀k,(valOf aa x0.ab k).size≤1000) (eJ:aw k=false) (a:az l k=some r) (f:r.av=rev):Calls prog 145 #[.pointer (some ⟨wb,0,none⟩),k.val] w fun e w'=>∃c,e=.returned (.int .i64 (aP (valOf aa x0.ab) ⟨rev,x0.ab,l⟩ k))∧aJ aa x0.ab c∧fu ml c∧St w M Z w' [As.map Key.val S.m c,As.map Key.val S.q [],As.blk wb 95 (D.wc S.s rev ra rn rc),As.map Key.val D.m kK,As.jO 50 lf l]:=by
 refine enter func145 rfl ntmps145 rfl<|?_;have aR:=n;have st1:=aR.fr t;have st2:=st1.fact (B:=As.fz (S.FV prog aa x0)) o (fun _ z=>z);refine(dy) st2 fun b3 w1 E F g=>?_;refine cD ?_;have G:=g.bA;refine WC.dS (m:=5) g mixed<|(gp) ib St.g5<|(fe) ak St.g0<|(cx)<|?_;rintro w2 ⟨H,d⟩ _;refine WP .r (PV.gO cB ic fP (As.gm d.g6) (y.yes a) rfl rfl)<|(bf) ak d.b0<|?_;refine WL.c1 (u:=.bool false) (cR (k:=k)) (by rw [eJ]) d fun w3 I h=>?_;refine cq ?_;refine WC.fA rfl<|(aT) (fun g21=>?_) fun g21=>?_
 ·
  exact et g21
 refine nx ?_;have J:=h.bA;refine WC.dS (m:=21) h mixed<|cq ?_;refine DP .r (fun _ b=>V1 aL (bM.range ((As.BJ b.2.g7).1 _ _ a).1) .r)<|cD ?_;refine DP .r (fun _ b=>PV.ld1 (j:=1) aL (bM.range (As.gb b.2.g5)) rfl rfl)<|DP .r (fun _ b=>(PV.N0 rfl rfl).cast (v':=.bool true) (congrArg Value.bool (decide_eq_true f)))<|(cx) ?_;rintro w4 ⟨K,i⟩ _;refine df ?_;refine WC.tH rfl<|(bq) aL (bM.range ((As.BJ i.g7).1 _ _ a).1)<|(bF) ?_;exact⟨ml,by rw [KX eJ a f],hm,fu.refl _,i.drop.drop.drop⟩
theorem wD(H:St w M Z w [As.map Key.val S.m ml,As.map Key.val S.q [],As.blk wb 95 (D.wc S.s rev ra rn rc),As.map Key.val D.m kK,As.jO 50 lf l]) (I:(S.FV prog aa x0).p Z w) (J:Rd RR.aA 4 Z w D.a1 D.n1 D.c1 x0.ab) (hm:aJ aa x0.ab ml) (K:fO l lf kK) (L:ao aa) (N:∀k,(valOf aa x0.ab k).size≤1000) (eJ:aw k=false) (b:az l k=some r) (h:¬r.av=rev) (hk:eB aa k):Calls prog 145 #[.pointer (some ⟨wb,0,none⟩),k.val] w fun e w'=>∃i,e=.returned (.int .i64 (aP (valOf aa x0.ab) ⟨rev,x0.ab,l⟩ k))∧aJ aa x0.ab i∧fu ml i∧St w M Z w' [As.map Key.val S.m i,As.map Key.val S.q [],As.blk wb 95 (D.wc S.s rev ra rn rc),As.map Key.val D.m kK,As.jO 50 lf l]:=by
 refine enter func145 rfl ntmps145 rfl<|?_;have aR:=H;have st1:=aR.fr J;have st2:=st1.fact (B:=As.fz (S.FV prog aa x0)) I (fun _ O=>O);refine(dy) st2 fun b3 w1 R T A=>?_;refine cD ?_;have U:=A.bA;refine WC.dS (m:=5) A mixed<|(gp) ib St.g5<|(fe) ak St.g0<|(cx)<|?_;rintro w2 ⟨V,n⟩ _;refine WP .r (PV.gO cB ic fP (As.gm n.g6) (K.yes b) rfl rfl)<|(bf) ak n.b0<|?_;refine WL.c1 (u:=.bool false) (cR (k:=k)) (by rw [eJ]) n fun w3 W P=>?_;refine cq ?_;refine WC.fA rfl<|(aT) (fun g21=>?_) fun g21=>?_
 ·
  exact et g21
 refine nx ?_;refine WC.cN (m:=21) [] [16] [0,1,2,3,4,5,6,7,8,9,10,11,12,13,14,15,16,17,18,19,20] [] P (aq.k4 M0 M1 M2 M5<|aq.cons M6<|aq.cons M7<|aq.nil) mixed (by kernel_rfl) (by kernel_rfl) rfl<|?_
 iterate 3 refine DG.a ?_
 refine DQ .r (fun o t y _ c d=>V1 aL (bM.range ((As.BJ (c.sv d).g5).1 _ _ b).1) .r)<|?_
 iterate 4 refine DG.a ?_
 refine DQ .r (fun o t y _ c d=>PV.ld1 (j:=1) aL (bM.range (As.gb (c.sv d).g3)) rfl rfl)<|DQ .r (fun o t y _ c d=>(PV.N0 rfl rfl).cast (v':=.bool false) (congrArg Value.bool (decide_eq_false h)))<|?_
 iterate 4 refine DG.a ?_
 refine(N8) xX SV.g3<|(ma) ak SV.g0<|(gH) (fun w4 X Y C NC=>?_);simp only [CA,NA] at C;have z:=C.p4.p4;refine OX.call Fq rfl rfl ((Nw L N hk _ _ _ _ _ z.e2 (As.gf z.g3) hm (fun _=>j1.nil _)).mono ?_);rintro _ w5 ⟨dr,rfl,E,F,G⟩;have Q:=St.lr z G;refine⟨_,rfl,G.bS.size,_,rfl,_,_,_,Q,ay.k4<|ay.k4<|ay.nil,aq.k4 M2 M3 M4 M5<|aq.cons M6<|aq.cons M7<|aq.nil,?_⟩
 iterate 3 refine DG.a ?_
 refine DQ .r (fun o t y _ c d=>V1 fq (bM.range ((As.BJ (c.sv d).g5).1 _ _ b).1) .r)<|(nD)<|?_;intro w6 vT f;simp only [CM,NM,CA,NA,jD.it] at f;refine cq ?_;refine WL.nil (EX.np ?_);refine(aT) (fun g=>?_) fun g=>?_
 ·
  simp at g
  refine(bq) aL (bM.range ((As.BJ f.g7).1 _ _ b).1)<|(bF) ?_;exact⟨dr,by rw [BL eJ b h,if_pos g],E,F,f.p2.drop.p2.drop.p2.drop⟩
 simp at g
 refine pU ?_;refine WP .r (PV.ld1 (j:=1) aL f.b5 rfl rfl)<|(bF) ?_;exact⟨dr,by rw [BL eJ b h,if_neg g],E,F,f.p2.drop.p2.drop.p2.drop⟩
theorem yS(a:St w M Z w [As.map Key.val S.m ml,As.map Key.val S.q [],As.blk wb 95 (D.wc S.s rev ra rn rc),As.map Key.val D.m kK,As.jO 50 lf l]) (b:(S.FV prog aa x0).p Z w) (c:Rd RR.aA 4 Z w D.a1 D.n1 D.c1 x0.ab) (hm:aJ aa x0.ab ml) (d:fO l lf kK) (f:ao aa) (g:∀k,(valOf aa x0.ab k).size≤1000) (hk:eB aa k) (n:KR aa l):Calls prog 145 #[.pointer (some ⟨wb,0,none⟩),k.val] w fun e w'=>∃h,e=.returned (.int .i64 (aP (valOf aa x0.ab) ⟨rev,x0.ab,l⟩ k))∧aJ aa x0.ab h∧fu ml h∧St w M Z w' [As.map Key.val S.m h,As.map Key.val S.q [],As.blk wb 95 (D.wc S.s rev ra rn rc),As.map Key.val D.m kK,As.jO 50 lf l]:=by
 cases eJ:aw k with
 | true=>exact wA (r:=l8) a b c hm d f g eJ (n.aA eJ)
 | false=>
  cases i:az l k with
  | none=>exact wB (r:=l8) a b c hm d f g eJ i
  | some r=>
   by_cases j:r.av=rev
   ·
    exact wC a b c hm d f g eJ i j
   exact wD a b c hm d f g eJ i j hk
theorem wE{c:ph}(t:St w M Z w [As.map Key.val S.m ml,As.map Key.val S.q [],As.blk wb 95 (D.wc S.s rev ra rn rc),As.map Key.val D.m kK,As.jO 50 lf l]) (u:(S.FV prog aa x0).p Z w) (y:Rd RR.aA 4 Z w D.a1 D.n1 D.c1 x0.ab) (hm:aJ aa x0.ab ml) (i:fO l lf kK) (z:ao aa) (A:∀k,(valOf aa x0.ab k).size≤1000) (hk:eB aa c.read) (C:KR aa l) (d:az l c.eQ=some r):Calls prog 99 #[.pointer (some ⟨wb,0,none⟩),.agg c.cells.toArray] w fun e w'=>∃f,e=.returned (.bool (yY (valOf aa x0.ab) ⟨rev,x0.ab,l⟩ c))∧aJ aa x0.ab f∧fu ml f∧St w M Z w' [As.map Key.val S.m f,As.map Key.val S.q [],As.blk wb 95 (D.wc S.s rev ra rn rc),As.map Key.val D.m kK,As.jO 50 lf l]:=by
 refine enter func99 rfl ntmps99 rfl<|?_;have aR:=t;have st1:=aR.fr y;have st2:=st1.fact (B:=As.fz (S.FV prog aa x0)) u (fun _ E=>E);refine(dy) st2 fun b3 w1 N O F=>?_;refine cD ?_;refine WC.cN (m:=14) [] [3] [0,1,2,3,4,5,6,7,8,9,10,11,12,13] [] F (aq.k4 M7 M6 M5 M2<|aq.cons M1<|aq.cons M0<|aq.nil) mixed (by kernel_rfl) (by kernel_rfl) rfl<|?_
 iterate 2 refine DG.a ?_
 refine(G1) ak SV.g5<|(gH) (fun w2 P Q j R=>?_);simp only [CA,NA] at j;have b:=j.p7.p7.p7.p7.p7;refine OX.call QY rfl rfl ((yS (k:=c.read) b.e5 (As.gf b.g6) (As.gr b.g7) hm i z A hk C).mono ?_);rintro _ w3 ⟨dr,rfl,G,H,n⟩;have I:=St.lr b n;refine⟨_,rfl,n.bS.size,_,rfl,_,_,_,I,ay.k4<|ay.k4<|ay.nil,aq.k4 M4 M3 M2 M7<|aq.cons M6<|aq.cons M5<|aq.nil,?_⟩
 iterate 3 refine DG.a ?_
 refine(N8) ib SV.g2<|(G1) ak SV.g5<|?_;refine DQ .r (fun J K L _ g h=>PV.gO cB ic fP (As.gm (g.sv h).g1) (i.yes d) rfl rfl)<|?_
 iterate 2 refine DG.a ?_
 refine DQ .r (fun J K L _ g h=>V1 aL (bM.range ((As.BJ (g.sv h).g0).1 _ _ d).1) .r)<|(nD)<|?_;intro w4 T o;simp only [CM,NM,CA,NA,jD.it] at o;refine bJ ?_;refine WL.nil (EX.np ?_);refine(bF) ?_;exact⟨dr,by unfold yY;rw [aS d],G,H,o.p5.drop.p5.drop.p5.drop⟩
theorem yT{Z:Nat→Prop}(b:bM w wb 95 (D.wc v rev ra rn rc)) (hm:KM Key.val w D.m ml) (c:fO l lf ml) (d:az l k=none) (eJ:aw k=true):CR prog 96 #[.pointer (some ⟨wb,0,none⟩),k.val] w (.bool true):=by
 refine enter func96 rfl ntmps96 rfl<|?_;have aR:=St.s0 w;refine(dy) aR fun b3 w1 f g st1=>?_;refine cD ?_;have i:=st1.bA;refine WC.dS (m:=5) st1 mixed<|cq ?_;refine DP .r (fun _ a=>V1 ib (bM.range (b.ext (St.cg a.2))) .r)<|(fe) ak St.g0<|(cx)<|?_;rintro w2 ⟨j,st2⟩ _;refine WP .r (PV.hW cB ic fP (hm.ext (St.cg st2)) (c.no d) rfl rfl)<|cD ?_;have n:=st2.bA;refine WC.cH (m:=15) (E:=bN [(1,fun v _=>v=.bool true)]) st2 (aU (⟨fun _ _ _ _ _ _ _ h=>h,trivial⟩)) mixed (by kernel_rfl)<|(fe) ak St.g0<|?_;refine DW.c1 (u:=.bool true) (fun o a p=>cR (k:=k)) (by rw [eJ])<|?_;refine aQ ?_;refine(cx) ?_;rintro w3 ⟨q,e⟩ ⟨_,_⟩;refine(bF) ?_;exact⟨rfl,(St.cg e)⟩
theorem yU{Z:Nat→Prop}(b:bM w wb 95 (D.wc v rev ra rn rc)) (hm:KM Key.val w D.m ml) (c:fO l lf ml) (d:az l k=none) (eJ:aw k=false):CR prog 96 #[.pointer (some ⟨wb,0,none⟩),k.val] w (.bool false):=by
 refine enter func96 rfl ntmps96 rfl<|?_;have aR:=St.s0 w;refine(dy) aR fun b3 w1 f g st1=>?_;refine cD ?_;have i:=st1.bA;refine WC.dS (m:=5) st1 mixed<|cq ?_;refine DP .r (fun _ a=>V1 ib (bM.range (b.ext (St.cg a.2))) .r)<|(fe) ak St.g0<|(cx)<|?_;rintro w2 ⟨j,st2⟩ _;refine WP .r (PV.hW cB ic fP (hm.ext (St.cg st2)) (c.no d) rfl rfl)<|cD ?_;have n:=st2.bA;refine WC.cH (m:=15) (E:=bN [(1,fun v _=>v=.bool false)]) st2 (aU (⟨fun _ _ _ _ _ _ _ h=>h,trivial⟩)) mixed (by kernel_rfl)<|(fe) ak St.g0<|?_;refine DW.c1 (u:=.bool false) (fun o a p=>cR (k:=k)) (by rw [eJ])<|cD ?_;refine DW.eL (t:=17) rfl (fun g17=>?_) (fun g17=>?_)
 ·
  exact et g17
 refine(cx) ?_;rintro w3 ⟨q,e⟩ ⟨_,_⟩;refine(bF) ?_;exact⟨rfl,(St.cg e)⟩
theorem yV(b:bM w wb 95 (D.wc v rev ra rn rc)) (hm:KM Key.val w D.m ml) (d:fO l lf ml) {r:Rec}(e:(As.jO 50 lf l).ok Z w) (c:az l k=some r) (eJ:aw k=false):CR prog 96 #[.pointer (some ⟨wb,0,none⟩),k.val] w (.bool (decide (r.av=rev))):=by
 refine enter func96 rfl ntmps96 rfl<|?_;have aR:=St.s0 w;refine(dy) aR fun b3 w1 g i st1=>?_;refine cD ?_;have n:=st1.bA;refine WC.dS (m:=5) st1 mixed<|cq ?_;refine DP .r (fun _ a=>V1 ib (bM.range (b.ext (St.cg a.2))) .r)<|(fe) ak St.g0<|(cx)<|?_;rintro w2 ⟨o,st2⟩ _;refine WP .r (PV.gO cB ic fP (hm.ext (St.cg st2)) (d.yes c) rfl rfl)<|cD ?_;have p:=st2.bA;refine WC.cH (m:=15) (E:=bN [(1,fun v _=>v=.bool false)]) st2 (aU (⟨fun _ _ _ _ _ _ _ h=>h,trivial⟩)) mixed (by kernel_rfl)<|(fe) ak St.g0<|?_;refine DW.c1 (u:=.bool false) (fun q a s=>cR (k:=k)) (by rw [eJ])<|cD ?_;refine DW.eL (t:=17) rfl (fun g17=>?_) (fun g17=>?_)
 ·
  refine cq ?_;refine DP .r (fun _ a=>V1 aL (bM.range ((e.1 _ _ c).1.ext (St.cg a.2))) .r)<|cD ?_;refine DP .r (fun _ a=>PV.ld1 (j:=1) aL (bM.range (b.ext (St.cg a.2))) rfl rfl)<|(cx)<|?_;rintro w3 ⟨y,f⟩ ⟨_,_⟩;refine(bF) ?_;exact⟨rfl,(St.cg f)⟩
 exact et g17
theorem kh{aA:List cj}(b:bM w wb 95 (D.wc v rev ra rn rc)) (hm:KM Key.val w D.m ml) (c:fO l lf ml) (d:(As.jO 50 lf l).ok Z w) (f:KR aa l):CR prog 96 #[.pointer (some ⟨wb,0,none⟩),k.val] w (.bool (aw k || aI ⟨rev,aA,l⟩ k)):=by
 cases eJ:aw k with
 | true=>exact yT (Z:=Z) b hm c (f.aA eJ) eJ
 | false=>
  cases a:az l k with
  | none=>
   have e:aI ⟨rev,aA,l⟩ k=false:=by unfold aI;rw [show(cW.mk rev aA l).ah=l from rfl,a];rfl
   rw [e];exact yU (Z:=Z) b hm c a eJ
  | some r=>
   have e:aI ⟨rev,aA,l⟩ k=decide (r.av=rev):=by unfold aI;rw [show(cW.mk rev aA l).ah=l from rfl,a,aS a];rfl
   rw [e];exact yV b hm c d a eJ
theorem wF{r:Rec}(g:St w M Z w [As.map Key.val S.m ml,As.map Key.val S.q [],As.blk wb 95 (D.wc S.s rev ra rn rc),As.map Key.val D.m kK,As.jO 50 lf l]) (h:(S.FV prog aa x0).p Z w) (i:Rd RR.aA 4 Z w D.a1 D.n1 D.c1 x0.ab) (hm:aJ aa x0.ab ml) (j:fO l lf kK) (z:ao aa) (A:∀k,(valOf aa x0.ab k).size≤1000) (n:KR aa l) (c:(aw k || aI ⟨rev,x0.ab,l⟩ k)=true):Calls prog 57 #[.pointer (some ⟨wb,0,none⟩),k.val] w fun e w'=>∃b,e=.returned (.agg (lO (dx (valOf aa x0.ab) ⟨rev,x0.ab,l⟩ k)).toArray)∧aJ aa x0.ab b∧fu ml b∧St w M Z w' [As.map Key.val S.m b,As.map Key.val S.q [],As.blk wb 95 (D.wc S.s rev ra rn rc),As.map Key.val D.m kK,As.jO 50 lf l]:=by
 refine enter func57 rfl ntmps57 rfl<|?_;have aR:=g;have st1:=aR.fr i;have st2:=st1.fact (B:=As.fz (S.FV prog aa x0)) h (fun _ o=>o);refine(dy) st2 fun b3 w1 C E t=>?_;refine(fy) t fun b4 w2 F G d=>?_;refine cq ?_;have H:=d.bA;refine WC.dS (m:=5) d mixed<|(gp) ib St.g6<|(fe) ak St.g1<|(cx)<|?_;rintro w3 ⟨I,a⟩ _;refine WP .r (PV.look cB ic fP (As.gm a.g7) rfl rfl)<|(bf) ak a.b1<|?_;refine WL.c1 (u:=.bool true) (kh (aA:=x0.ab) (As.gb a.g6) (As.gm a.g7) j (As.BJ a.g8) n) (by rw [c]) a fun w4 J y=>?_;refine cq ?_;refine WC.tH rfl<|(dw) vB y fun w5 K L f=>?_;refine(jt) py f.b0<|?_;exact⟨ml,by rw [oF c];rfl,hm,fu.refl _,f.drop.drop.drop.drop⟩
theorem wG{r:Rec}(i:St w M Z w [As.map Key.val S.m ml,As.map Key.val S.q [],As.blk wb 95 (D.wc S.s rev ra rn rc),As.map Key.val D.m kK,As.jO 50 lf l]) (j:(S.FV prog aa x0).p Z w) (n:Rd RR.aA 4 Z w D.a1 D.n1 D.c1 x0.ab) (hm:aJ aa x0.ab ml) (c:fO l lf kK) (A:ao aa) (C:∀k,(valOf aa x0.ab k).size≤1000) (o:KR aa l) (d:(aw k || aI ⟨rev,x0.ab,l⟩ k)=false) (f:az l k=none):Calls prog 57 #[.pointer (some ⟨wb,0,none⟩),k.val] w fun e w'=>∃b,e=.returned (.agg (lO (dx (valOf aa x0.ab) ⟨rev,x0.ab,l⟩ k)).toArray)∧aJ aa x0.ab b∧fu ml b∧St w M Z w' [As.map Key.val S.m b,As.map Key.val S.q [],As.blk wb 95 (D.wc S.s rev ra rn rc),As.map Key.val D.m kK,As.jO 50 lf l]:=by
 refine enter func57 rfl ntmps57 rfl<|?_;have aR:=i;have st1:=aR.fr n;have st2:=st1.fact (B:=As.fz (S.FV prog aa x0)) j (fun _ t=>t);refine(dy) st2 fun b3 w1 E F y=>?_;refine(fy) y fun b4 w2 G H g=>?_;refine cq ?_;have I:=g.bA;refine WC.dS (m:=5) g mixed<|(gp) ib St.g6<|(fe) ak St.g1<|(cx)<|?_;rintro w3 ⟨J,a⟩ _;refine WP .r (PV.hW cB ic fP (As.gm a.g7) (c.no f) rfl rfl)<|(bf) ak a.b1<|?_;refine WL.c1 (u:=.bool false) (kh (aA:=x0.ab) (As.gb a.g6) (As.gm a.g7) c (As.BJ a.g8) o) (by rw [d]) a fun w4 K z=>?_;refine cq ?_;refine WC.fA rfl<|(aT) (fun g19=>?_) fun g19=>?_
 ·
  refine bJ ?_;refine WP .r (PV.br (us:=[.int .i64 1,.int .i64 0,.string ⟨#[]⟩]) CW rfl rfl rfl)<|(dw) vB z fun w5 L N h=>?_;refine(jt) py h.b0<|?_;exact⟨ml,by rw [EH d f];rfl,hm,fu.refl _,h.drop.drop.drop.drop⟩
 exact et g19
theorem wH(j:St w M Z w [As.map Key.val S.m ml,As.map Key.val S.q [],As.blk wb 95 (D.wc S.s rev ra rn rc),As.map Key.val D.m kK,As.jO 50 lf l]) (n:(S.FV prog aa x0).p Z w) (o:Rd RR.aA 4 Z w D.a1 D.n1 D.c1 x0.ab) (hm:aJ aa x0.ab ml) (d:fO l lf kK) (C:ao aa) (E:∀k,(valOf aa x0.ab k).size≤1000) (t:KR aa l) (f:(aw k || aI ⟨rev,x0.ab,l⟩ k)=false) (b:az l k=some r) (y:r.bp=true):Calls prog 57 #[.pointer (some ⟨wb,0,none⟩),k.val] w fun e w'=>∃c,e=.returned (.agg (lO (dx (valOf aa x0.ab) ⟨rev,x0.ab,l⟩ k)).toArray)∧aJ aa x0.ab c∧fu ml c∧St w M Z w' [As.map Key.val S.m c,As.map Key.val S.q [],As.blk wb 95 (D.wc S.s rev ra rn rc),As.map Key.val D.m kK,As.jO 50 lf l]:=by
 refine enter func57 rfl ntmps57 rfl<|?_;have aR:=j;have st1:=aR.fr o;have st2:=st1.fact (B:=As.fz (S.FV prog aa x0)) n (fun _ z=>z);refine(dy) st2 fun b3 w1 F G A=>?_;refine(fy) A fun b4 w2 H I g=>?_;refine cq ?_;have J:=g.bA;refine WC.dS (m:=5) g mixed<|(gp) ib St.g6<|(fe) ak St.g1<|(cx)<|?_;rintro w3 ⟨K,a⟩ _;refine WP .r (PV.gO cB ic fP (As.gm a.g7) (d.yes b) rfl rfl)<|(bf) ak a.b1<|?_;refine WL.c1 (u:=.bool false) (kh (aA:=x0.ab) (As.gb a.g6) (As.gm a.g7) d (As.BJ a.g8) t) (by rw [f]) a fun w4 L h=>?_;refine cq ?_;refine WC.fA rfl<|(aT) (fun g19=>?_) fun g19=>?_
 ·
  exact et g19
 refine(bq) dm (bM.range ((As.BJ h.g8).1 _ _ b).1)<|(aT) (fun g23=>?_) fun g23=>?_
 ·
  refine bJ ?_;refine WP .r (PV.br (us:=[.int .i64 3,.int .i64 0,.string ⟨#[]⟩]) CW rfl rfl rfl)<|(dw) vB h fun w5 N O i=>?_;refine(jt) py i.b0<|?_;exact⟨ml,by rw [uv f b y];rfl,hm,fu.refl _,i.drop.drop.drop.drop⟩
 exact et g23
set_option maxHeartbeats 1600000 in
theorem wI(gn:St w M Z w [As.map Key.val S.m ml,As.map Key.val S.q [],As.blk wb 95 (D.wc S.s rev ra rn rc),As.map Key.val D.m kK,As.jO 50 lf l]) (hf:(S.FV prog aa x0).p Z w) (hii:Rd RR.aA 4 Z w D.a1 D.n1 D.c1 x0.ab) (hm:aJ aa x0.ab ml) (f:fO l lf kK) (hR:ao aa) (hS:∀k,(valOf aa x0.ab k).size≤1000) (C:KR aa l) (L:(aw k || aI ⟨rev,x0.ab,l⟩ k)=false) (g:az l k=some r) (W:r.bp=false) (h6:l.length≤4000) (X:∀r∈l,r.reads.length≤4000):Calls prog 57 #[.pointer (some ⟨wb,0,none⟩),k.val] w fun e w'=>∃N,e=.returned (.agg (lO (dx (valOf aa x0.ab) ⟨rev,x0.ab,l⟩ k)).toArray)∧aJ aa x0.ab N∧fu ml N∧St w M Z w' [As.map Key.val S.m N,As.map Key.val S.q [],As.blk wb 95 (D.wc S.s rev ra rn rc),As.map Key.val D.m kK,As.jO 50 lf l]:=by
 have Y:=Hp (rev:=rev) g
 have On:(aC l rev k).length≤4001:=by have:=mO l rev k;omega
 have YF:=CI X On
 have Gq:(bP l (aC l rev k)).length≤100000000:=by have:=YF (aC l rev k).length;rw [List.take_of_length_le (Nat.le_refl _)] at this;exact this
 refine enter func57 rfl ntmps57 rfl<|?_;have aR:=gn;have st1:=aR.fr hii;have st2:=st1.fact (B:=As.fz (S.FV prog aa x0)) hf (fun _ hx=>hx);refine(dy) st2 fun b3 w1 DB uK iO=>?_;refine(fy) iO fun b4 w2 DA IC iL=>?_;refine cq ?_;have T5:=iL.bA;refine WC.dS (m:=5) iL mixed<|(gp) ib St.g6<|(fe) ak St.g1<|(cx)<|?_;rintro w3 ⟨yi,b⟩ _;refine WP .r (PV.gO cB ic fP (As.gm b.g7) (f.yes g) rfl rfl)<|(bf) ak b.b1<|?_;refine WL.c1 (u:=.bool false) (kh (aA:=x0.ab) (As.gb b.g6) (As.gm b.g7) f (As.BJ b.g8) C) (by rw [L]) b fun w4 s4 O=>?_;refine cq ?_;refine WC.fA rfl<|(aT) (fun g19=>?_) fun g19=>?_
 ·
  exact et g19
 refine(bq) dm (bM.range ((As.BJ O.g8).1 _ _ g).1)<|(aT) (fun g23=>?_) fun g23=>?_
 ·
  exact et g23
 refine(bf) ak O.b1<|?_;have i:=O;refine(cE) WZ (tE (k:=k) i.e0 (As.gb i.g6) (As.gm i.g7) f (As.BJ i.g8) C.Vs h6 X) ?_;rintro _ w5 ⟨u1,u2,u3,rfl,qh⟩;have im:=St.lr i qh;have d:=im;refine(cE) WY (sO d.e0 (As.gb d.g7) (As.gm d.g8) f (As.BJ d.g9) (Ow.rd (As.gs d.g0) (by omega)) Y YF) ?_;rintro _ w6 ⟨o1,E,o3,rfl,AV⟩;have ek:=St.lr d AV;have hcn:=((As.gs ek.g0)).len;refine df ?_;refine WC.bm (σ:=Nat × (List (Key × Value))) (db:=fun(q,dr)=>[(0,.pointer (some ⟨wb,0,none⟩)),(3,.pointer (some ⟨b3,0,none⟩)),(4,.pointer (some ⟨b4,0,none⟩)),(33,.slice o1 E o3),(34,.int .i64 (E:Int)),(35,.int .i64 (q:Int))]) (F:=fun(q,dr)=>[As.map Key.val S.m dr]) (I:=fun(q,dr)=>(q≤E)∧(aJ aa x0.ab dr)∧(fu ml dr)∧(∀(j:Nat) (c:ph),j<q→(bP l (aC l rev k))[j]?=some c→yY (valOf aa x0.ab) ⟨rev,x0.ab,l⟩ c=false)∧True) (μ:=fun(q,dr)=>E - q) (0,ml) (ek.p6) Sub.t (⟨Nat.zero_le _,hm,fu.refl _,fun j c h=>by omega,trivial⟩)<|?_;rintro⟨q,dr⟩ w7 n ⟨hq,P,o,G,_⟩;simp only [CA,NA] at n hq P o G ⊢;refine(aT) (fun Q=>?_) fun Q=>?_
 ·
  simp at Q
  have GI:q<(bP l (aC l rev k)).length:=by omega
  obtain⟨c0,y⟩:∃c0,(bP l (aC l rev k))[q]?=some c0:=⟨_,ae GI⟩;obtain⟨Gw,TG,_⟩:=fo.1 (List.mem_of_getElem? y);obtain⟨rm,R⟩:=Y _ Gw;rw [aS R] at TG;have hkc:=(C rm (aO R).1).2.2 _ TG;refine df ?_;obtain⟨jK,cF⟩:=Ow.addr (As.gs n.g1) y;refine nx ?_;refine WP .r (PV.dO Fi cF rfl rfl (by omega))<|(bf) zZ (Ow.sP (As.gs n.g1) (by omega) cF y)<|(fy) n fun b7 w8 Ry Rz H=>?_;refine(dw) Jn H fun w9 kI nj cM=>?_;refine(bf) zZ cM.b0<|?_;have J:=cM.qt.qt.qt.qt.p5;refine(cE) W0 (wE (c:=c0) J.e5 (As.gf J.g10) (As.gr J.g11) P f hR hS hkc C R) ?_;rintro _ jP ⟨gw,rfl,T,U,mr⟩;have a:=St.lr J mr;refine(aT) (fun V=>?_) fun V=>?_
  ·
   refine jg ?_
   refine eb (q+1,gw) ⟨a.p5.drop.tT.tT.tT.tT.tT.tT.p6,⟨by omega,T,o.trans U,fun j c hj hc=>by
      rcases Nat.lt_or_ge j q with h1 | h1
      ·
       exact G j c h1 hc
      have e:j=q:=by omega
      subst e;rw [y] at hc
      cases hc
      simpa using V,trivial⟩⟩
  have hdf:yY (valOf aa x0.ab) ⟨rev,x0.ab,l⟩ c0=true:=by simpa using V
  have K:=Ho (x:=⟨rev,x0.ab,l⟩) L g W y G hdf;refine(jY) ak a.b5<|(bf) ak (bM.range (As.gb a.g9))<|?_;refine WP .r (PV.Ce eI (p:=c0.eQ) (q:=k) rfl rfl)<|(aT) (fun z=>?_) fun z=>?_
  ·
   simp at z
   rw [if_pos z] at K;refine(jY) ak a.b5<|?_;refine WP .r (PV.br (us:=[.int .i64 2,.int .i64 c0.read.kind,.string c0.read.text]) CW rfl rfl rfl)<|(dw) vB a.p8 fun kF vI oh A=>?_;refine(jt) py A.b0<|?_;exact⟨gw,by rw [K];rfl,T,o.trans U,A.drop.p5.drop.p5.drop.p5.drop.p5.drop.p5.drop.p5.drop⟩
  simp at z
  rw [if_neg z] at K;refine(jY) ak a.b5<|?_;refine WP .r (PV.br (us:=[.int .i64 3,.int .i64 c0.read.kind,.string c0.read.text]) CW rfl rfl rfl)<|(dw) vB a.p8 fun kF C8 yX A=>?_;refine(jt) py A.b0<|?_;exact⟨gw,by rw [K];rfl,T,o.trans U,A.drop.p5.drop.p5.drop.p5.drop.p5.drop.p5.drop.p5.drop⟩
 simp at Q
 have hns:=xN (val:=(valOf aa x0.ab)) (x:=⟨rev,x0.ab,l⟩) L g W (fun j c hj hc=>G j c (by have h1:j<(bP l (aC l rev k)).length:=hj;omega) hc);refine(dw) vB n.p3 fun w8 Oh Oi H=>?_;refine(jt) py H.b0<|?_;exact⟨dr,by rw [hns];rfl,P,o,H.drop.p1.drop.p1.drop.p1.drop.p1.drop.p1.drop⟩
theorem lD(a:St w M Z w [As.map Key.val S.m ml,As.map Key.val S.q [],As.blk wb 95 (D.wc S.s rev ra rn rc),As.map Key.val D.m kK,As.jO 50 lf l]) (b:(S.FV prog aa x0).p Z w) (c:Rd RR.aA 4 Z w D.a1 D.n1 D.c1 x0.ab) (hm:aJ aa x0.ab ml) (d:fO l lf kK) (f:ao aa) (g:∀k,(valOf aa x0.ab k).size≤1000) (h:KR aa l) (t:l.length≤4000) (u:∀r∈l,r.reads.length≤4000):Calls prog 57 #[.pointer (some ⟨wb,0,none⟩),k.val] w fun e w'=>∃j,e=.returned (.agg (lO (dx (valOf aa x0.ab) ⟨rev,x0.ab,l⟩ k)).toArray)∧aJ aa x0.ab j∧fu ml j∧St w M Z w' [As.map Key.val S.m j,As.map Key.val S.q [],As.blk wb 95 (D.wc S.s rev ra rn rc),As.map Key.val D.m kK,As.jO 50 lf l]:=by
 cases i:(aw k || aI ⟨rev,x0.ab,l⟩ k) with
 | true=>exact wF (r:=l8) a b c hm d f g h i
 | false=>
  cases n:az l k with
  | none=>exact wG (r:=l8) a b c hm d f g h i n
  | some r=>
   cases o:r.bp with
   | true=>exact wH a b c hm d f g h i n o
   | false=>exact wI a b c hm d f g h i n o t u
set_option maxHeartbeats 1600000 in
theorem wi{ar:Option Addr}{r cr:Nat}(gn:St w M Z w []) (ht:jM prog Z w) (hu:Rd RR.eF 4 Z w ar r cr aa) (hii:Rd RR.aA 4 Z w a1 n1 e1 x.ab) (hr:Rd RR.fl 8 Z w a2 n2 e2 x.ah) (h6:x.ah.length≤4000) (h7:x.ab.length≤4000) (hS:pX x.ah):Calls prog 40 #[.slice ar r cr,.agg (x.row a1 n1 e1 a2 n2 e2).toArray] w fun e w'=>∃(D:WD) (S:SD) (wb:Nat) (lf:Key→RL) (ml:List (Key × Value)) (Z':Nat→Prop),e=.returned (.pointer (some ⟨wb,0,none⟩))∧fO x.ah lf ml∧dU w.heap.size Z Z'∧(S.FV prog aa x).p Z' w'∧Rd RR.aA 4 Z' w' D.a1 D.n1 D.c1 x.ab∧Rd RR.eF 4 Z' w' D.ar D.r D.cr aa∧St w M Z' w' [As.map Key.val S.m [],As.map Key.val S.q [],As.blk wb 95 (D.wc S.s x.ad none 0 0),As.map Key.val D.m ml,As.jO 50 lf x.ah]:=by
 refine enter func40 rfl ntmps40 rfl<|?_;have aR:=gn;have st1:=aR.fr hu;have st2:=st1.fr hii;have iO:=st2.fr hr;have iL:=iO.fact (B:=As.fz (FZ.Ej prog)) ht (fun _ z=>z);refine(dy) iL fun b3 w1 DB uK kJ=>?_;refine cD ?_;refine WC.cN (m:=7) [] [2,6] [1,2,4,5,6,0,3] [(3,.map)] kJ (aq.k4 M0 M1 M2 M3<|aq.cons M4<|aq.nil) mixed (by kernel_rfl) (by kernel_rfl) rfl<|(ma) bu SV.g0<|(gH) (fun w2 Zd Nu J F6=>?_);simp only [CA,NA] at J;have f:=J;refine OX.call Wh rfl rfl ((su (x:=x) f.e0 (As.gr f.g3) (As.gr f.g2) (by omega) (by omega)).mono ?_);rintro _ w3 ⟨f1,f2,f3,f4,f5,f6,Z1,rfl,K,g⟩;have A:=St.lv f g K;have MT:=St.dC g.p1;have MS:=St.dC g;have n:=f.size;have DF:=K.le n;have JL:f5=x.ah.length:=((As.gs A.g1)).len;have aie:f2=x.ab.length:=((As.gs A.g0)).len;have ju:=A.p1.dZ (by omega);have ek:=ju.p1.dZ (by omega);have uM:=(DF.trans (dU.nA (F:=fun x=>x∈aZ f4) MT) n).trans (dU.nA (F:=fun x=>x∈aZ f1) MS) n;refine⟨_,rfl,g.bS.size,_,rfl,_,_,_,ek,ay.k4<|ay.k2<|ay.cons<|ay.nil,aq.k4 M2 M3 M4 M5<|aq.cons M6<|aq.nil,?_⟩;refine(ma) bu SV.g0<|(gH) (fun w4 Y2 Nq L F4=>?_);simp only [CA,NA] at L;have C:=L;refine OX.call WJ rfl rfl ((yF (x:=x) C.e0).mono ?_);rintro _ w5 ⟨d1,d2,d3,rfl,E⟩;have cM:=St.lr C E;have hgv:=St.dC E;have abb:=C.size;have c:=cM;have fG:=c.freeze (B:=As.fz (SD.FV (⟨ar,a1,a2,r,cr,n1,e1,n2,e2,d2,d3,d1⟩:SD) prog aa x)) ⟨(SD.F (⟨ar,a1,a2,r,cr,n1,e1,n2,e2,d2,d3,d1⟩:SD) prog aa x).mono (fun _ h=>.inl h) ⟨(As.gr c.g9),(As.gr c.g8),(As.gr c.g7),(As.gf c.g6)⟩,.inr rfl,((As.gb c.g0)).lt,bM.range (As.gb c.g0)⟩ (fun _ z=>z);have MY:=uM.trans (dU.nA (F:=fun x=>x=d1) hgv) abb;refine⟨_,rfl,E.bS.size,_,rfl,_,_,_,fG,ay.k4<|ay.k4<|ay.k2<|ay.nil,aq.k4 M5 M6 M7 M8<|aq.cons M9<|aq.nil,?_⟩;refine DG.a<|?_;refine DG.side (s:=.map) rfl rfl rfl rfl rfl rfl (fun wx Zx Rx yH ob=>OX.makeMap Key.val rfl fun b wy N hb=>⟨N.ext.size,_,rfl,⟨b,rfl⟩,ob.D7 N hb⟩)<|?_;rintro _ ⟨G,rfl⟩;refine(nD) ?_;intro w6 n O;simp only [CM,NM,CA,NA,jD.it] at O;refine WP .r (PV.br (us:=(WD.wc ⟨ar,f1,f4,r,cr,f2,f3,f5,f6,G,d1⟩ d1 x.ad none 0 0)) VV rfl rfl rfl)<|(dy) O fun P w7 Iu MN Q=>?_;refine nx ?_;refine WL.nil (EX.np ?_);refine jg ?_;refine WP .r (PV.ld1 (j:=3) fb Q.b0 rfl rfl)<|df ?_;have R:Key→RL:=fun _=>⟨0,none,0,0⟩;have fX:=St.Vn Q 50 R;refine WC.bm (σ:=Nat × (Key→RL) × (List (Key × Value))) (db:=fun(i,lf,ml)=>[(5,.pointer (some ⟨P,0,none⟩)),(21,.slice f4 f5 f6),(22,.int .i64 (f5:Int)),(23,.int .i64 (i:Int))]) (F:=fun(i,lf,ml)=>[As.map Key.val G ml,As.jO 50 lf (x.ah.take i)]) (I:=fun(i,lf,ml)=>(i≤x.ah.length)∧(fO (x.ah.take i) lf ml)∧True) (μ:=fun(i,lf,ml)=>x.ah.length - i) (0,R,[]) (fX.p2) Sub.t (⟨Nat.zero_le _,fO.nil _,trivial⟩)<|?_;rintro⟨i,lf,ml⟩ w8 o ⟨hi,u,_⟩;simp only [CA,NA] at o hi u ⊢;refine(aT) (fun g24=>?_) fun g24=>?_
 ·
  simp at g24
  have H:i<x.ah.length:=by omega
  have T:∀y,az (x.ah.take (i+1)) y=if y=x.ah[i].key then some x.ah[i] else az (x.ah.take i) y:=fun y=>by rw [List.take_succ_eq_append_getElem H];exact zN (hS.ne H) y
  refine df ?_;obtain⟨jK,qe,nX,cF,i6,gU,ft,fF⟩:=Rd.at (As.gr o.g7) H;obtain⟨q1,U,V,rfl,JB,Ii⟩:=gU;have d:=o.fg fF ft;have W:=d.fr JB;refine nx ?_;refine WP .r (PV.dO jk cF rfl rfl (by omega))<|(bf) dN (As.kW W.g1)<|(fy) W fun X w9 Ry Rz dT=>?_;refine(dw) gk dT fun jP kI nj Y=>?_;refine bJ ?_;have hN5:=Y.bA;refine WC.dS (m:=6) Y mixed<|(gp) ib St.g5<|(tW) ak St.g0<|(cx)<|?_;rintro kF ⟨IF,iR⟩ _;refine WL.go rfl (OX.put cB ic (As.gm iR.g3) rfl rfl rfl fun pH AB vO=>?_);have e6:=iR.p3.hJ AB vO;refine cq ?_;have ff:=e6.p4.p2;have ir:=St.KS (q:=⟨X,q1,U,V⟩) ff (As.gr ff.g3) Ii T;refine cD ?_;refine eb (i+1,_,_) ⟨ir.p2.drop.p2.drop.p1,⟨by omega,u.put (q:=⟨X,q1,U,V⟩) T,trivial⟩⟩
 simp at g24
 have hie:x.ah.take i=x.ah:=List.take_of_length_le (by omega);rw [hie] at u;have d:=o.p1.u9 (B:=As.jO 50 lf x.ah) (by rw [hie]);refine(bF) ?_;exact⟨⟨ar,f1,f4,r,cr,f2,f3,f5,f6,G,d1⟩,(⟨ar,a1,a2,r,cr,n1,e1,n2,e2,d2,d3,d1⟩:SD),P,lf,ml,_,rfl,u,MY,(As.gf d.g3),(As.gr d.g6),(As.gr d.g12),d.p3.drop.p5.drop.p5.drop.p5.drop.p5.drop.p5.drop.p5.drop.p5.drop.p1.p2.p4.p4⟩
end Go.Rc

