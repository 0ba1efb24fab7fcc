/- Walks over the program, part WZr. Conditions: as each theorem says. -/
import Derived.Test.YtilldnlhckpbjaaGreatDoorQFacts
import Derived.Test.YtilldnlhckpbjaaGreatDoorQWYd
import Derived.Test.YtilldnlhckpbjaaGreatDoorQBg
set_option linter.all false
namespace Go.Rc
open Go Go.Proofs Go.Proofs.Tryz
variable {r:Rec}{rev:Int}{w:World}{D:WD}{v rn rc wb pb n1 e1 n2 e2:Nat}{ra a1 a2:Option Addr}{k:Key}{ml dq:List (Key × Value)}{Z M:Nat→Prop}{l:List Rec}{lf:Key→RL}{x x0:cB}{aa:List aG}{S:SD}
set_option maxHeartbeats 400000
theorem vZ{a:Option Addr}{n c:Nat}(hk:cx r.key):CR prog 144 #[.agg (r.row a n c).toArray,.int .i64 rev] w (.bool (ax r.key && (decide (r.aq<rev) && !r.bV))):=by
 refine enter func144 rfl ntmps144 rfl<|?_;have aO:=St.s0 w;refine(dx) aO fun b2 w1 b d st1=>?_;refine cw ?_;refine WC.jJ (t:=4) (v:=.bool (ax r.key && (decide (r.aq<rev) && !r.bV))) st1 ?_<|?_
 ·
  refine(ko) ak st1.b0<|?_;refine WL.c1 (u:=.bool (ax r.key)) (dY (k:=r.key) hk) (by rw [xA hk]) st1 fun w2 s2 st2=>?_;refine(cO) (fun g8=>?_) (fun g8=>?_)
  ·
   refine(bp) aP st2.b0<|(cO) (fun g14=>?_) (fun g14=>?_)
   ·
    refine(bp) dd st2.b0<|?_;exact(fF) (tG (aj g8 g14)) (st2)
   exact(fF) (tG (aj g8 g14)) (st2)
  exact(fF) (tG g8) (st2)
 intro w2 st2;refine(bB) ?_;exact⟨rfl,(St.cg st2)⟩
theorem v7(b:bJ w pb 85 [.pointer (some ⟨wb,0,none⟩)]) (c:bJ w wb 95 (D.wc v rev ra rn rc)) (hm:KM Key.val w D.m ml) (d:(bq ml k).getD (.pointer none)=.pointer none):CR prog 143 #[k.val,.pointer (some ⟨pb,0,none⟩)] w (.tuple #[.slice none 0 0,.bool false]):=by
 refine enter func143 rfl ntmps143 rfl<|?_;have aO:=St.s0 w;refine(dx) aO fun b2 w1 f g st1=>?_;refine fj ?_;have h:=st1.bL;refine WC.dS (m:=5) st1 mixed<|?_;refine DP .r (fun _ a=>PV.ky Ey (bJ.range (b.ext (St.cg a.2))) rfl rfl)<|bM ?_;refine DP .r (fun _ a=>V1 ey (bJ.range (c.ext (St.cg a.2))) .r)<|(gy) ak St.g0<|(cM)<|?_;rintro w2 ⟨i,st2⟩ _;refine WP .r (PV.j6 cE eA dF (hm.ext (St.cg st2)) (d) rfl rfl)<|cw ?_;have j:=st2.bL;refine WC.dS (m:=11) st2 mixed<|cv ?_;refine DW.ct (t:=14) rfl (fun g14=>?_) (fun g14=>?_)
 ·
  exact cL g14
 refine(cM) ?_;rintro w3 ⟨n,e⟩ _;refine cw ?_;refine WC.ef rfl<|(wv) ?_;exact⟨rfl,(St.cg e)⟩
theorem v8{q:RL}(i:bJ w pb 85 [.pointer (some ⟨wb,0,none⟩)]) (o:bJ w wb 95 (D.wc v rev ra rn rc)) (hm:KM Key.val w D.m ml) (s:bq ml k=some (.pointer (some ⟨q.b,0,none⟩))) (p:bJ w q.b 50 (r.row q.a q.n q.c)) (hk:cx r.key):Calls prog 143 #[k.val,.pointer (some ⟨pb,0,none⟩)] w fun e w'=>∃(a:Option Addr) (n c:Nat),e=.returned (.tuple #[.slice a n c,.bool (ax r.key && (decide (r.aq<rev) && !r.bV))])∧((ax r.key && (decide (r.aq<rev) && !r.bV))=true→a=q.a∧n=q.n∧c=q.c)∧aQ [] w w':=by
 refine enter func143 rfl ntmps143 rfl<|?_;have aO:=St.s0 w;refine(dx) aO fun b2 w1 y z st1=>?_;refine fj ?_;have A:=st1.bL;refine WC.dS (m:=5) st1 mixed<|?_;refine DP .r (fun _ d=>PV.ky Ey (bJ.range (i.ext (St.cg d.2))) rfl rfl)<|bM ?_;refine DP .r (fun _ d=>V1 ey (bJ.range (o.ext (St.cg d.2))) .r)<|(gy) ak St.g0<|(cM)<|?_;rintro w2 ⟨B,st2⟩ _;refine WP .r (PV.bF cE eA dF (hm.ext (St.cg st2)) (s) rfl rfl)<|cw ?_;have C:=st2.bL;refine WC.dS (m:=11) st2 mixed<|cv ?_;refine DW.ct (t:=14) rfl (fun g14=>?_) (fun g14=>?_)
 ·
  refine bM ?_;refine DP .r (fun _ d=>VA fI (bJ.range (p.ext (St.cg d.2))) .r)<|DP .r (fun _ d=>PV.ky Ey (bJ.range (i.ext (St.cg d.2))) rfl rfl)<|cv ?_;refine DP .r (fun _ d=>PV.ld1 (j:=1) aP (bJ.range (o.ext (St.cg d.2))) rfl rfl)<|(cM)<|?_;rintro w3 ⟨E,u⟩ _;refine(eY) (vZ (r:=r) hk) u fun w4 F g=>?_;refine(aX) (fun g24=>?_) fun g24=>?_
  ·
   have f:(ax r.key && (decide (r.aq<rev) && !r.bV))=true:=by first | exact g24 | simpa using g24
   refine(bp) fG (bJ.range (p.ext (St.cg g)))<|(wv) ?_;exact⟨q.a,q.n,q.c,by rw [f],fun _=>⟨rfl,rfl,rfl⟩,(St.cg g)⟩
  have f:(ax r.key && (decide (r.aq<rev) && !r.bV))=false:=by first | exact g24 | simpa using g24
  refine(wv) ?_;exact⟨none,0,0,by rw [f],(fun h=>by rw [f] at h;cases h),(St.cg g)⟩
 exact cL g14
theorem AB(f:bJ w pb 85 [.pointer (some ⟨wb,0,none⟩)]) (g:bJ w wb 95 (D.wc v rev ra rn rc)) (hm:KM Key.val w D.m ml) (i:cQ l lf ml) (j:(As.eR 50 lf l).ok Z w) (o:∀r∈l,cx r.key) (k:Key):Calls prog 143 #[k.val,.pointer (some ⟨pb,0,none⟩)] w fun e w'=>∃(a:Option Addr) (n c:Nat),e=.returned (.tuple #[.slice a n c,.bool (bU l rev k)])∧(bU l rev k=true→Rd RR.key 2 Z w' a n c (aF l k).reads)∧aQ [] w w':=by
 cases b:ay l k with
 | none=>
  refine(v7 f g hm (i.no b)).mono<|?_;rintro e w' ⟨rfl,hc⟩
  have d:bU l rev k=false:=by unfold bU;rw [b];rfl
  exact⟨none,0,0,by rw [d],(fun h=>by rw [d] at h;cases h),hc⟩
 | some r=>
  obtain⟨p,q,_⟩:=j.1 k r b;obtain⟨hr,hk⟩:=aH b;refine(v8 (k:=k) f g hm (i.yes b) p (o r hr)).mono<|?_;rintro e w' ⟨a,n,c,rfl,s,hc⟩
  have d:bU l rev k=(ax r.key && (decide (r.aq<rev) && !r.bV)):=by
   unfold bU
   rw [aK b,b,← hk]
   rfl
  refine⟨a,n,c,by rw [d],fun h=>?_,hc⟩;rw [d] at h;obtain⟨rfl,rfl,rfl⟩:=s h;rw [aK b];exact q.ext hc
set_option maxHeartbeats 1600000 in
theorem wa{f:FuncId}{cap:Value}(gJ:St w M Z w []) (ZB:CF prog f) (ZC:∀w1,aQ [] w w1→∀y:Key,Calls prog f #[y.val,cap] w1 fun e w'=>∃(a:Option Addr) (n c:Nat),e=.returned (.tuple #[.slice a n c,.bool (bU l rev y)])∧(bU l rev y=true→Rd RR.key 2 Z w' a n c (aF l y).reads)∧aQ [] w1 w') (h6:l.length≤4000) (NB:∀r∈l,r.reads.length≤4000):Calls prog 142 #[k.val,.func (.func f) #[] #[cap]] w fun e w'=>∃(a:Option Addr) (n c:Nat),e=.returned (.slice a n c)∧St w M Z w' [As.os RR.key 43 2 a n c (aB l rev k)]:=by
 refine enter func142 rfl ntmps142 rfl<|?_;have aO:=St.rb gJ;refine(dx) aO fun b2 w1 Td CC st1=>?_;refine(bP) ak st1.b0<|?_;refine WL.go rfl (OX.kG ZB rfl rfl rfl ((Calls.cap (ZC _ (St.cg st1) k)).mono ?_));rintro _ w2 ⟨f1,f2,f3,rfl,_,s2⟩;refine⟨_,rfl,?_⟩;have st2:=st1.step s2;refine aT ?_;refine(aX) (fun F5=>?_) fun F5=>?_
 ·
  have W:bU l rev k=false:=by simpa using F5
  have hv:aB l rev k=[k]:=by unfold aB;rw [if_neg (by rw [W];simp)]
  refine(bP) ak st2.b0<|?_;refine WL.go rfl (OX.aS (us:=k.cells) du rfl rfl rfl rfl fun b31 w3 Sn ZD=>?_);have lN:=St.qu (R:=RR.key) (E:=43) (k:=2) (a:=some ⟨b31,0,none⟩) (n:=1) (c:=1) (xs:=[k]) st2 Sn.ext (OR.dr ZD (Nat.zero_le _) rfl (by simp [Key.cells,Value.oneCell']) rfl) (fun x hx=>by simp [bA] at hx;subst hx;exact Sn.ge);refine(bB) ?_;exact⟨_,_,_,rfl,by rw [hv];exact(St.wk lN.p1.drop)⟩
 have W:bU l rev k=true:=by simpa using F5
 refine cw ?_;refine WL.mm Key.val st2 fun NH w3 ahc ahd lN=>?_;refine dp ?_;refine WL.mm Key.val lN fun H6 w4 CP ahe jl=>?_;refine(bP) ak jl.b2<|?_;refine WL.go rfl (OX.ins cE kh (As.gm jl.g0) rfl rfl rfl fun w5 E9 vo=>?_);have ki:=jl.iu E9 vo;refine cv ?_;have jr:=ki.sr (B:=As.map Key.val H6 (gQ [k])) (rfl);refine(bP) ak jr.b2<|?_;refine WL.go rfl (OX.aS (us:=k.cells) du rfl rfl rfl rfl fun Tu w6 ZE ZF=>?_);have ku:=jr.df ZE ZF;refine bM ?_;have im:=ku;have jZ:=im.conv (B:=As.os RR.key 43 2 (some ⟨Tu,0,none⟩) 1 1 [k]) (OR.dr (As.gb im.g0) (Nat.zero_le _) rfl (by simp [Key.cells,Value.oneCell']) rfl) (fun x h=>by show x=Tu;change x∈bA (some ⟨Tu,0,none⟩) at h;simpa [bA] using h);refine gW ?_;have fw:=jZ.IB;refine WC.bj (σ:=Nat × (List Key) × (List (Key × Value)) × (List RE) × (Option Addr) × Nat × Nat) (db:=fun(i,L,MX,J,g,d,o)=>[(1,.func (.func f) #[] #[cap]),(2,.pointer (some ⟨b2,0,none⟩)),(7,.map (some NH)),(8,.map (some H6)),(9,.slice g d o),(10,.int .i64 (i:Int))]) (F:=fun(i,L,MX,J,g,d,o)=>[As.os RR.key 43 2 g d o (L),As.map Key.val H6 (gQ L),As.map Key.val NH MX,As.many (J.map (RE.as 43))]) (I:=fun(i,L,MX,J,g,d,o)=>(i≤L.length)∧(pK l rev k (gi J) L i 0)∧(pJ J MX)∧((J.map (·.key)).Nodup)∧True) (μ:=fun(i,L,MX,J,g,d,o)=>4001 - i) (0,[k],[],[],(some ⟨Tu,0,none⟩),1,1) (fw.p3.p3.p3) Sub.t (⟨Nat.zero_le _,pK.start fun _=>rfl,pJ.nil,by simp,trivial⟩)<|?_;rintro⟨i,L,MX,J,g,d,o⟩ w7 eC ⟨Tg,hF,ZG,BO,_⟩;simp only [CA,NA] at eC Tg hF ZG BO ⊢;have hln:=((As.gs eC.g0)).len;have hle:=hF.le W;refine(aX) (fun ZH=>?_) fun ZH=>?_
 ·
  simp at ZH
  have x5:i<L.length:=by omega
  have hoi:=hF.op W (List.getElem_mem x5);obtain⟨ri,hri,_⟩:=bw.1 hoi;have ZI:aF l L[i]=ri:=aK hri;have ahf:=NB ri (aH hri).1;refine dp ?_;obtain⟨jj,eB⟩:=Ow.addr (As.gs eC.g0) (ah x5);refine cw ?_;refine WP .r (PV.dR ez eB rfl rfl (by omega))<|(bP) ak (Ow.kl (As.gs eC.g0) (by omega) eB (ah x5))<|?_;refine WL.go rfl (OX.kG ZB rfl rfl rfl ((Calls.cap (ZC _ (St.cg eC) L[i])).mono ?_));rintro _ w8 ⟨f4,f5,f6,rfl,Ig,s8⟩;refine⟨_,rfl,?_⟩;have eQ:=eC.step s8;have hq5:=Ig hoi;rw [ZI] at hq5;have dG:=eQ.fr (hq5);have Zs:=((As.gr dG.g0)).len;refine aT ?_;refine cv ?_;refine WC.bj (σ:=Nat × (List Key) × (List (Key × Value)) × (List RE) × (Option Addr) × Nat × Nat) (db:=fun(q,L2,X,K,g,d,o)=>[(1,.func (.func f) #[] #[cap]),(2,.pointer (some ⟨b2,0,none⟩)),(7,.map (some NH)),(8,.map (some H6)),(9,.slice g d o),(10,.int .i64 (i:Int)),(53,.slice f4 f5 f6),(54,.int .i64 (f5:Int)),(55,.int .i64 (q:Int))]) (F:=fun(q,L2,X,K,g,d,o)=>[As.os RR.key 43 2 g d o (L2),As.map Key.val H6 (gQ L2),As.map Key.val NH X,As.many (K.map (RE.as 43))]) (I:=fun(q,L2,X,K,g,d,o)=>(q≤f5)∧(pK l rev k (gi K) L2 i q)∧(pJ K X)∧((K.map (·.key)).Nodup)∧(L2[i]?=some L[i])∧True) (μ:=fun(q,L2,X,K,g,d,o)=>f5 - q) (0,L,MX,J,g,d,o) (dG.p4.p4.p4.p4) Sub.t (⟨Nat.zero_le _,hF,ZG,BO,ah x5,trivial⟩)<|?_;rintro⟨q,L2,X,K,g,d,o⟩ w9 Y ⟨hq,MY,mJ,pE,N,_⟩;simp only [CA,NA] at Y hq MY mJ pE N ⊢;have Zt:=((As.gs Y.g0)).len;have pP:=MY.le W;have Nt:i<L2.length:=(List.getElem?_eq_some_iff.1 N).1;refine(aX) (fun Ia=>?_) fun Ia=>?_
  ·
   simp at Ia
   have Ak:q<ri.reads.length:=by omega
   obtain⟨x,Sp⟩:∃x,ri.reads[q]=x:=⟨_,rfl⟩
   have Ri:(aF l L[i]).reads[q]?=some x:=by rw [ZI,ah Ak,Sp]
   refine dp ?_;obtain⟨rM,Fo,Fp,iJ,yk,lh,pz,nP⟩:=Rd.at (As.gr Y.g4) Ak;have lh:=RR.bt lh;subst lh;have dQ:=Y.fg nP pz;rw [Sp] at pz dQ;refine nx ?_;refine WP .r (PV.dR ez iJ rfl rfl (by omega))<|(bP) ak (As.nS dQ.g0)<|(gx) dQ fun b14 lI Rz Ft gI=>?_;refine(dZ) gk gI fun mH Bt wu e4=>?_;refine(bP) ak e4.b0<|?_;refine WL.go rfl (OX.kG ZB rfl rfl rfl ((Calls.cap (ZC _ (St.cg e4) x)).mono ?_));rintro _ pS ⟨f7,f8,f9,rfl,_,s12⟩;refine⟨_,rfl,?_⟩;have fh:=e4.step s12;refine aT ?_;refine(aX) (fun ZJ=>?_) fun ZJ=>?_
   ·
    have Tv:bU l rev x=false:=by simpa using ZJ
    refine gW ?_;refine fx (q+1,L2,X,K,g,d,o) ⟨fh.drop.drop,⟨by omega,MY.skip N Ri Tv,mJ,pE,N,trivial⟩⟩
   have Tv:bU l rev x=true:=by simpa using ZJ
   refine cv ?_;obtain⟨Fg,iG⟩:=Ow.addr (As.gs fh.g2) N;have eD:=fh.p5;obtain⟨ea,en,ec,HN,ZK⟩:=St.OK (EK:=43) pE mJ x eD;have T:=ZK;have hen:=((As.gs T.g0)).len;have Oi:=MY.len x;refine WC.cu (m:=11) [] [7,9] [0,1,2,3,4,5,6,7,8,9,10] [(6,.sl 43 1 L[i].cells)] T (av.k4 M1 M2 M3 M4<|av.cons M5<|av.cons M7<|av.cons M8<|av.nil) mixed (by kernel_rfl) (by kernel_rfl) rfl<|(mQ) ak SV.g1<|?_
   iterate 2 refine DG.a ?_
   refine DQ .r (fun wx Zx Rx _ mM uq=>PV.dR ez iG rfl rfl (by omega))<|DQ .r (fun wx Zx Rx _ mM uq=>VA ak (Ow.kl (As.gs (mM.sv uq).g3) (by omega) iG N) .r)<|?_;refine DG.side (s:=.sl 43 1 L[i].cells) rfl rfl rfl rfl rfl rfl (fun wx Zx Rx su mM=>OX.aS (us:=L[i].cells) du rfl rfl rfl rfl fun b wy nw hb=>⟨nw.ext.size,_,rfl,⟨b,rfl⟩,mM.df nw hb⟩)<|?_;rintro _ ⟨XT,rfl⟩;refine(gK) (fun rO R7x W1 O Jg=>?_);simp only [CA,NA] at O;refine OX.mapEntry cE rl Bq (As.gm O.g6) (HN) rfl rfl rfl fun z75 x2 RD Sq=>?_;have P:=O.p6.OI RD Sq;refine⟨RD.size,_,rfl,_,_,_,P,aC.k4<|aC.k4<|aC.cons<|aC.nil,av.k4 M2 M3 M4 M5<|av.cons M6<|av.cons M7<|av.cons M8<|av.nil,?_⟩;refine(gK) (fun x3 Nw CO Q pw=>?_);simp only [CA,NA] at Q;refine OX.mX nG rfl rfl rfl (As.gs Q.g1) (SR.dr (A:=fun _=>True) (x:=L[i]) (show bJ _ XT _ _ from Q.ok _ (.tail _ (.tail _ (.tail _ (.tail _ (.tail _ (.tail _ (.tail _ (.tail _ (.tail _ (pw _ (.head _)))))))))))) trivial rfl (by simp [Key.cells,Value.oneCell']) rfl) (by omega) (by omega) (Nat.zero_le _) fun a76 MZ vq ZL s76 ZM ahh=>?_;have ic:=Q.p1.gN s76 ZL ZM;refine⟨s76.size,_,rfl,_,_,_,ic,aC.k4<|aC.k4<|aC.cons<|aC.nil,av.k4 M2 M3 M4 M5<|av.cons M6<|av.cons M7<|av.cons M8<|av.nil,?_⟩;refine(ly) ?_;intro Bu Rh eb;simp only [CM,NM,CA,NA,iK.it] at eb;refine WL.go rfl (OX.entryStore (As.gmb eb.g2) rfl rfl rfl fun CL An Ao=>?_);have e7:=eb.p2.OJ An Ao;refine WL.nil (EX.np ?_);have gS:=e7.p3.p3;have j2:=St.Ui gS;obtain⟨NI,ZN⟩:∃NI:List RE,NI=⟨x,a76,(en+1),MZ,gi K x++[L[i]]⟩::rest K x:=⟨_,rfl⟩;have oE:=j2.sr (B:=As.many (NI.map (RE.as 43))) (by rw [ZN]);have FK:=mJ.put (x:=x) (v:=.slice ea en ec) (a:=a76) (n:=en+1) (c:=MZ) (gi K x++[L[i]]);have Na:=zA (x:=x) (a:=a76) (n:=en+1) (c:=MZ) pE (gi K x++[L[i]])
   have Sr:gi NI=nv (gi K) x L[i]:=by rw [ZN];exact GL
   rw [← ZN] at FK Na;refine(bP) ak oE.b3<|?_;refine WP .r (PV.j6 cE kh Hg (As.gm oE.g6) (qS L2 x) rfl rfl)<|(aX) (fun ZO=>?_) fun ZO=>?_
   ·
    have V:x∉L2:=by simpa using ZO
    refine WC.cu (m:=6) [] [5] [2,3,4,5,0,1] [(4,.sl 43 1 x.cells)] oE (av.k4 M0 M1 M2 M3<|av.k4 M4 M6 M7 M8<|av.nil) mixed (by kernel_rfl) (by kernel_rfl) rfl<|(mQ) ak SV.g3<|?_;refine DG.side (s:=.sl 43 1 x.cells) rfl rfl rfl rfl rfl rfl (fun wx Zx Rx su mM=>OX.aS (us:=x.cells) du rfl rfl rfl rfl fun b wy nw hb=>⟨nw.ext.size,_,rfl,⟨b,rfl⟩,mM.df nw hb⟩)<|?_;rintro _ ⟨b86,rfl⟩;refine(gK) (fun Ff My Ax oF mg=>?_);simp only [CA,NA] at oF;refine OX.mX nG rfl rfl rfl (As.gs oF.g5) (SR.dr (A:=fun _=>True) (x:=x) (show bJ _ b86 _ _ from oF.ok _ (.tail _ (.tail _ (.tail _ (.tail _ (.tail _ (.tail _ (.tail _ (.tail _ (.tail _ (mg _ (.head _)))))))))))) trivial rfl (by simp [Key.cells,Value.oneCell']) rfl) (by omega) (by omega) (Nat.zero_le _) fun a87 ZP HT ZQ s87 ZR ahj=>?_;have ta:=oF.p5.gN s87 ZQ ZR;refine⟨s87.size,_,rfl,_,_,_,ta,aC.k4<|aC.k4<|aC.cons<|aC.nil,av.k4 M1 M2 M3 M4<|av.k4 M5 M6 M7 M8<|av.nil,?_⟩;refine(mQ) ak SV.g3<|(ly)<|?_;intro Ji acJ rZ;simp only [CM,NM,CA,NA,iK.it] at rZ;refine WL.go rfl (OX.put cE kh (As.gm rZ.g7) rfl rfl rfl fun Nx ZS ZT=>?_);have nQ:=rZ.p7.iu ZS ZT;refine nx ?_;refine WL.nil (EX.np ?_);have vX:=nQ.sr (B:=As.map Key.val H6 (gQ (L2++[x]))) (by rw [qT _ V]);refine fj ?_;refine fx (q+1,L2++[x],_,NI,a87,(d+1),ZP) ⟨vX.p1.drop.p4.drop.p4.drop.p4.drop.p3.p1.p2,⟨by omega,by rw [Sr];exact MY.new N Ri Tv V,FK,Na,by rw [List.getElem?_append_left Nt];exact N,trivial⟩⟩
   have V:x∈L2:=by simpa using ZO
   refine fb ?_;refine fx (q+1,L2,_,NI,g,d,o) ⟨oE.p2.drop.p2.drop.p2.drop.p1.p3.p3,⟨by omega,by rw [Sr];exact MY.mO N Ri Tv V,FK,Na,N,trivial⟩⟩
  simp at Ia
  refine iM ?_;refine fx (i+1,L2,X,K,g,d,o) ⟨Y.p4.drop,⟨by show i+1≤L2.length;omega,MY.next N (by rw [ZI];omega) (by omega),mJ,pE,trivial⟩⟩
 simp at ZH
 refine fj ?_;have hed:=hF.Uk (show L.length≤i by omega)
 have hbl:∀e∈J,e.reads.length≤140737488355328:=fun e he=>by
  have h1:=hF.len e.key
  have h2:i≤4001:=by omega
  rw [DU BO he] at h1
  omega
 refine nx ?_;refine WL.mm Key.val eC fun NJ w8 ahl ahm eQ=>?_;refine(bP) ak eQ.b5<|?_;refine WL.go rfl (OX.ins cE kh (As.gm eQ.g0) rfl rfl rfl fun w9 LY LZ=>?_);have dG:=eQ.iu LY LZ;refine cv ?_;have Y:=dG.sr (B:=As.map Key.val NJ (gQ [k])) (rfl);refine(bP) ak Y.b5<|?_;refine WL.go rfl (OX.aS (us:=k.cells) du rfl rfl rfl rfl fun Q5 lI Mf Mg=>?_);have dQ:=Y.df Mf Mg;refine bM ?_;have gI:=dQ;have e4:=gI.conv (B:=As.os RR.key 43 2 (some ⟨Q5,0,none⟩) 1 1 [k]) (OR.dr (As.gb gI.g0) (Nat.zero_le _) rfl (by simp [Key.cells,Value.oneCell']) rfl) (fun x h=>by show x=Q5;change x∈bA (some ⟨Q5,0,none⟩) at h;simpa [bA] using h);refine gW ?_;have fh:=e4.p5;have eD:=St.bkF hbl fh;refine WC.bj (σ:=Nat × (List Key) × (Option Addr) × Nat × Nat) (db:=fun(j,U,C,u,G)=>[(7,.map (some NH)),(17,.map (some NJ)),(18,.slice C u G),(19,.int .i64 (j:Int))]) (F:=fun(j,U,C,u,G)=>[As.os RR.key 43 2 C u G (U),As.map Key.val NJ (gQ U)]) (I:=fun(j,U,C,u,G)=>(tS l rev k (gi J) U j 0)∧True) (μ:=fun(j,U,C,u,G)=>4001 - j) (0,[k],(some ⟨Q5,0,none⟩),1,1) (eD.p2.p2) Sub.t (⟨tS.start,trivial⟩)<|?_;rintro⟨j,U,C,u,G⟩ mH T ⟨hB,_⟩;simp only [CA,NA] at T hB ⊢;have TE:=((As.gs T.g0)).len;have ahn:=hB.le W;refine(aX) (fun MP=>?_) fun MP=>?_
 ·
  simp at MP
  have ZU:j<U.length:=by omega
  refine dp ?_;obtain⟨v1,v2,v3,ZW,Kg⟩:=pJ.read ZG (As.gf T.g2) U[j];have O:=T.fr (Kg);have S8:=((As.gr O.g0)).len;have hbq:=hF.len U[j];obtain⟨QW,pn⟩:=Ow.addr (As.gs O.g1) (ah ZU);refine cw ?_;refine WP .r (PV.dR ez pn rfl rfl (by omega))<|(bP) ak (Ow.kl (As.gs O.g1) (by omega) pn (ah ZU))<|?_;refine WP .r (PV.j6 cE rl Bq (As.gm O.g6) (ZW) rfl rfl)<|dp ?_;refine WC.bj (σ:=Nat × (List Key) × (Option Addr) × Nat × Nat) (db:=fun(p,H,C,u,G)=>[(7,.map (some NH)),(17,.map (some NJ)),(18,.slice C u G),(19,.int .i64 (j:Int)),(105,.slice v1 v2 v3),(106,.int .i64 (v2:Int)),(107,.int .i64 (p:Int))]) (F:=fun(p,H,C,u,G)=>[As.os RR.key 43 2 C u G (H),As.map Key.val NJ (gQ H)]) (I:=fun(p,H,C,u,G)=>(p≤v2)∧(tS l rev k (gi J) H j p)∧(H[j]?=some U[j])∧True) (μ:=fun(p,H,C,u,G)=>v2 - p) (0,U,C,u,G) (O.p2.p2) Sub.t (⟨Nat.zero_le _,hB,ah ZU,trivial⟩)<|?_;rintro⟨p,H,C,u,G⟩ pS P ⟨hp,Ss,Nb,_⟩;simp only [CA,NA] at P hp Ss Nb ⊢;have aho:=((As.gs P.g0)).len;have acL:=Ss.le W;have hj4:j<H.length:=(List.getElem?_eq_some_iff.1 Nb).1;refine(aX) (fun Nc=>?_) fun Nc=>?_
  ·
   simp at Nc
   have sn:p<(gi J U[j]).length:=by omega
   obtain⟨x,Sp⟩:∃x,(gi J U[j])[p]=x:=⟨_,rfl⟩
   have Me:(gi J U[j])[p]?=some x:=by rw [ah sn,Sp]
   refine dp ?_;obtain⟨XD,ahq,ahr,Bv,acM,FQ,Jx,Su⟩:=Rd.at (As.gr P.g2) sn;have FQ:=RR.bt FQ;subst FQ;have Q:=P.fg Su Jx;rw [Sp] at Jx Q;refine nx ?_;refine WP .r (PV.dR ez Bv rfl rfl (by omega))<|(bP) ak (As.nS Q.g0)<|(gx) Q fun b21 rO ahs aht ic=>?_;refine(dZ) gk ic fun x2 Wd We eb=>?_;refine(bP) ak eb.b0<|?_;refine WP .r (PV.j6 cE kh Hg (As.gm eb.g3) (qS H x) rfl rfl)<|(aX) (fun Aq=>?_) fun Aq=>?_
   ·
    have V:x∉H:=by simpa using Aq
    refine WC.cu (m:=6) [] [5] [2,3,4,5,0,1] [(4,.sl 43 1 x.cells)] eb (av.k4 M0 M1 M3 M4<|av.k4 M5 M6 M7 M8<|av.cons M9<|av.nil) mixed (by kernel_rfl) (by kernel_rfl) rfl<|(mQ) ak SV.g0<|?_;refine DG.side (s:=.sl 43 1 x.cells) rfl rfl rfl rfl rfl rfl (fun wx Zx Rx su mM=>OX.aS (us:=x.cells) du rfl rfl rfl rfl fun b wy nw hb=>⟨nw.ext.size,_,rfl,⟨b,rfl⟩,mM.df nw hb⟩)<|?_;rintro _ ⟨ZX,rfl⟩;refine(gK) (fun x3 My Ax e7 mg=>?_);simp only [CA,NA] at e7;refine OX.mX nG rfl rfl rfl (As.gs e7.g2) (SR.dr (A:=fun _=>True) (x:=x) (show bJ _ ZX _ _ from e7.ok _ (.tail _ (.tail _ (.tail _ (.tail _ (.tail _ (.tail _ (.tail _ (.tail _ (.tail _ (.tail _ (mg _ (.head _))))))))))))) trivial rfl (by simp [Key.cells,Value.oneCell']) rfl) (by omega) (by omega) (Nat.zero_le _) fun ZY Sv vq Sw Sx Sy acN=>?_;have gS:=e7.p2.gN Sx Sw Sy;refine⟨Sx.size,_,rfl,_,_,_,gS,aC.k4<|aC.k4<|aC.k2<|aC.nil,av.k4 M1 M2 M3 M4<|av.k4 M5 M6 M7 M8<|av.cons M9<|av.nil,?_⟩;refine(mQ) ak SV.g0<|(ly)<|?_;intro Bu acO j2;simp only [CM,NM,CA,NA,iK.it] at j2;refine WL.go rfl (OX.put cE kh (As.gm j2.g4) rfl rfl rfl fun CL ZZ Z0=>?_);have oE:=j2.p4.iu ZZ Z0;refine nx ?_;refine WL.nil (EX.np ?_);have oF:=oE.sr (B:=As.map Key.val NJ (gQ (H++[x]))) (by rw [qT _ V]);refine fj ?_;refine fx (p+1,H++[x],ZY,(u+1),Sv) ⟨oF.p1.drop.p2.drop.p2.drop.p1,⟨by omega,Ss.add hed Nb Me V,by rw [List.getElem?_append_left hj4];exact Nb,trivial⟩⟩
   have V:x∈H:=by simpa using Aq
   refine fb ?_;refine fx (p+1,H,C,u,G) ⟨eb.drop.drop,⟨by omega,Ss.has Nb Me V,Nb,trivial⟩⟩
  simp at Nc
  refine iM ?_;refine fx (j+1,H,C,u,G) ⟨P.p2.drop,⟨Ss.next Nb (by omega),trivial⟩⟩
 simp at MP
 have Z3:=fun {L'}=>hB.group (L':=L') W hed (show U.length≤j by omega);refine fj ?_;have Z7:=St.fresh T;have O:=T.eX (by omega);refine bM ?_;have P:=O;refine(cJ) Pp (r6 P.e0 (As.gr P.g0) (List.ne_nil_of_mem hB.mem) hB.jq (by omega)) ?_;rintro _ pS ⟨o1,o2,o3,L9,rfl,hsl,L6,um⟩;have Q:=St.lr P um;have hL9:=Z3 hsl L6;subst hL9;refine cw ?_;have HY:St w M _ _ [As.os RR.key 43 2 o1 o2 o3 (aB l rev k)]:=(St.wk Q.k1);refine(bB) ?_;exact⟨o1,o2,o3,rfl,HY.Uh (fun _ h=>.inl (.inl h)) (Ow.z (As.gs HY.g0))⟩
theorem tg(d:St w M Z w []) (f:bJ w wb 95 (D.wc v rev ra rn rc)) (hm:KM Key.val w D.m ml) (g:cQ l lf ml) (h:(As.eR 50 lf l).ok Z w) (i:∀r∈l,cx r.key) (j:l.length≤4000) (o:∀r∈l,r.reads.length≤4000):Calls prog 98 #[.pointer (some ⟨wb,0,none⟩),k.val] w fun e w'=>∃(a:Option Addr) (n c:Nat),e=.returned (.slice a n c)∧St w M Z w' [As.os RR.key 43 2 a n c (aB l rev k)]:=by
 refine enter func98 rfl ntmps98 rfl<|?_;have aO:=St.rb d;refine(dx) aO fun b2 w1 z A st1=>?_;refine(dx) st1 fun b3 w2 B C st2=>?_;refine(bP) ak st2.b0<|?_;refine WP .r (PV.func (us:=[]) (vs:=[.pointer (some ⟨b2,0,none⟩)]) rfl rfl)<|?_;have b:=st2;refine(cJ) P5 (wa (k:=k) b.e0 P6 (fun w1 h1 y=>AB (bJ.ext (As.gb b.g1) h1) (f.ext (aQ.trans (St.cg b) h1)) (hm.ext (aQ.trans (St.cg b) h1)) g (As.Uf h (aQ.trans (St.cg b) h1)) i y) j o) ?_;rintro _ w3 ⟨p,q,s,rfl,t⟩;have u:=St.lr b t;refine(bB) ?_;exact⟨p,q,s,rfl,(St.wk u.p1.drop.p1.drop)⟩
theorem r9{group:List Key}{o:Option Addr}{g eg:Nat}{A:Nat→Prop}(U:St w M Z w []) (V:bJ w wb 95 (D.wc v rev ra rn rc)) (hm:KM Key.val w D.m ml) (W:cQ l lf ml) (C:(As.eR 50 lf l).ok Z w) (z:Rd RR.key 2 A w o g eg group) (X:∀m∈group,∃r,ay l m=some r) (hb:∀i,((group.take i).flatMap fun m=>cN group m (aF l m).reads).length≤100000000):Calls prog 97 #[.pointer (some ⟨wb,0,none⟩),.slice o g eg] w fun e w'=>∃(a:Option Addr) (n c:Nat),e=.returned (.slice a n c)∧St w M Z w' [As.os RR.BV 148 4 a n c (cj l group)]:=by
 have hlen:=z.len;have hle:=z.le;refine enter func97 rfl ntmps97 rfl<|?_;have aO:=St.rb U;have st1:=aO.fV RR.BV 148 4;refine aT ?_;refine fb ?_;refine WC.bj (σ:=Nat × (List oU) × (Option Addr) × Nat × Nat) (db:=fun(i,acc,d,b,f)=>[(0,.pointer (some ⟨wb,0,none⟩)),(1,.slice o g eg),(5,.slice d b f),(11,.slice o g eg),(12,.int .i64 (g:Int)),(13,.int .i64 (i:Int))]) (F:=fun(i,acc,d,b,f)=>[As.os RR.BV 148 4 d b f (acc)]) (I:=fun(i,acc,d,b,f)=>(i≤g)∧(acc=(group.take i).flatMap fun m=>cN group m (aF l m).reads)∧True) (μ:=fun(i,acc,d,b,f)=>g - i) (0,[],none,0,0) (st1) Sub.t (⟨by omega,by simp,trivial⟩)<|?_;rintro⟨i,acc,d,b,f⟩ w1 st2 ⟨hi,p,_⟩;simp only [CA,NA] at st2 hi p ⊢;refine(aX) (fun g14=>?_) fun g14=>?_
 ·
  simp at g14
  have E:i<group.length:=by omega
  refine dp ?_;obtain⟨jj,sJ,sK,Y,ma,G,iH,iI⟩:=Rd.at z E;have G:=RR.bt G;subst G;refine nx ?_;refine WP .r (PV.dR ez Y rfl rfl (by omega))<|(bP) ak (aV iH (St.cg st2) (by simp))<|(gx) st2 fun b7 w2 nw7 hb7 lN=>?_;refine(dZ) gk lN fun w3 nT rH O=>?_;refine cv ?_;obtain⟨r,hr⟩:=X _ (List.getElem_mem E);have hro:aF l group[i]=r:=aK hr;have P:=(C.1 _ _ hr).2.1;have Ig:=(C.1 _ _ hr).2.2;have Q:=O.fr (P.ext (St.cg O));have Zs:=P.len;have hN5:=Q.bL;refine WC.dS (m:=5) Q mixed<|cv ?_;refine DP .r (fun _ hC=>V1 ey (bJ.range (V.ext (St.cg hC.2))) .r)<|(gy) ak St.g1<|(cM)<|?_;rintro w4 ⟨FD,H⟩ _;refine WP .r (PV.bF cE eA dF (hm.ext (St.cg H)) (W.yes hr) rfl rfl)<|(aX) (fun g24=>?_) fun g24=>?_
  ·
   exact cL g24
  refine(bp) fG (bJ.range ((C.1 _ _ hr).1.ext (St.cg H)))<|dp ?_;refine WC.bj (σ:=Nat × (List oU) × (Option Addr) × Nat × Nat) (db:=fun(j,h,d,b,f)=>[(0,.pointer (some ⟨wb,0,none⟩)),(1,.slice o g eg),(5,.slice d b f),(7,.pointer (some ⟨b7,0,none⟩)),(11,.slice o g eg),(12,.int .i64 (g:Int)),(13,.int .i64 (i:Int)),(28,.slice (lf group[i]).a (lf group[i]).n (lf group[i]).c),(29,.int .i64 ((lf group[i]).n:Int)),(30,.int .i64 (j:Int))]) (F:=fun(j,h,d,b,f)=>[As.os RR.BV 148 4 d b f (h)]) (I:=fun(j,h,d,b,f)=>(j≤(lf group[i]).n)∧(h=acc++cN group group[i] (r.reads.take j))∧True) (μ:=fun(j,h,d,b,f)=>(lf group[i]).n - j) (0,acc,d,b,f) (H.p2) Sub.t (⟨by omega,by simp [cN],trivial⟩)<|?_;rintro⟨j,h,d,b,f⟩ w5 q ⟨hj,s,_⟩;simp only [CA,NA] at q hj s ⊢;have vl:=((As.gs q.g0)).len;have hbi:=hb i;rw [← p] at hbi;have htk:=jO group group[i] (r.reads.take j)
  have htl:h.length≤100100000:=by rw [s,List.length_append];rw [List.length_take] at htk;omega
  refine(aX) (fun J=>?_) fun J=>?_
  ·
   simp at J
   have K:j<r.reads.length:=by omega
   refine dp ?_;obtain⟨rM,Fo,Fp,iJ,yk,L,pz,nP⟩:=Rd.at (As.gr q.g1) K;have L:=RR.bt L;subst L;have R:=q.fg nP pz;refine nx ?_;refine WP .r (PV.dR ez iJ rfl rfl (by omega))<|(bP) ak (As.nS R.g0)<|(gx) R fun Ta w6 H3 H4 jZ=>?_;refine(dZ) gk jZ fun w7 Bt wu N=>?_;refine(bP) ak N.b0<|(eY) (oB (k:=r.reads[j]) (z.ext (St.cg N))) N fun w8 s8 B=>?_;refine(aX) (fun u=>?_) fun u=>?_
   ·
    simp at u
    have y:=lX (group:=group) (m:=group[i]) K;rw [if_neg u] at y;refine(bP) ak B.b4<|(bP) ak B.b0<|?_;refine WP .r (PV.br (us:=(oU.mk group[i] r.reads[j]).cells) Pa rfl rfl rfl)<|?_;refine WL.go rfl (OX.aS (us:=(oU.mk group[i] r.reads[j]).cells) Hb rfl rfl rfl rfl fun b42 w9 Z8 aaa=>?_);have T:=B.df Z8 aaa;refine WL.ap rfl rfl T.p3 (SR.dr (A:=fun _=>True) (x:=oU.mk group[i] r.reads[j]) (As.gb T.g0) trivial rfl (by simp [oU.cells,Value.oneCell']) rfl) fun a43 aab lI ahz ahA dG=>?_;refine gW ?_;refine fx (j+1,_,a43,(b+1),aab) ⟨dG.p5.p5.p2.k3,⟨by omega,by rw [y,s,List.append_assoc],trivial⟩⟩
   simp at u
   have y:=lX (group:=group) (m:=group[i]) K;rw [if_pos u] at y;refine fb ?_;refine fx (j+1,_,d,b,f) ⟨B.drop.drop,⟨by omega,by rw [y,s],trivial⟩⟩
  simp at J
  have Sz:r.reads.take j=r.reads:=List.take_of_length_le (by omega);refine kL ?_;refine fx (i+1,h,d,b,f) ⟨q.p1.drop.p1.drop,⟨by omega,by rw [s,Sz,p,List.take_succ_eq_append_getElem E];simp only [List.flatMap_append,List.flatMap_cons,List.flatMap_nil,List.append_nil,hro],trivial⟩⟩
 simp at g14
 have SA:group.take i=group:=List.take_of_length_le (by omega);rw [SA] at p;subst p;refine(bB) ?_;exact⟨_,_,_,rfl,(St.wk st2)⟩
theorem we(hi:Rd RR.aD 4 Z w a1 n1 e1 x.ab):CR prog 190 #[.agg (x.row a1 n1 e1 a2 n2 e2).toArray,k.val] w (.int .i64 (bf x.ab k).changed):=by
 refine enter func190 rfl ntmps190 rfl<|?_;have aO:=St.s0 w;refine(dx) aO fun b2 w1 c d st1=>?_;refine(dx) st1 fun b3 w2 e g st2=>?_;refine(bP) cc st2.b1<|(bP) ak st2.b0<|(cJ) EN (j1 (k:=k) (hi.ext (St.cg st2))) ?_;rintro _ w3 ⟨y,rfl,_,hy,a⟩;have b:=st2.step a;refine WP .r (PV.uK (fs:=[_,_,_]) (f:=2) (off:=3) (T:=80) underlying80 rfl rfl (show ∀w,(isAgg 3).run _ w=.ok false w from isAgg3) rfl rfl)<|(bB) ?_;exact⟨by rw [← hy],(St.cg b)⟩
theorem wg{r:Rec}(g:St w M Z w [As.map Key.val S.m ml,As.map Key.val S.q [],As.blk wb 95 (D.wc S.s rev ra rn rc),As.map Key.val D.m dq,As.eR 50 lf l]) (h:(S.FV prog aa x0).p Z w) (i:Rd RR.aD 4 Z w D.a1 D.n1 D.c1 x0.ab) (hm:aJ aa x0.ab ml) (j:cQ l lf dq) (y:ao aa) (z:∀k,(valOf aa x0.ab k).size≤1000) (dw:aw k=true) (n:ay l k=none):Calls prog 145 #[.pointer (some ⟨wb,0,none⟩),k.val] w fun e w'=>∃a,e=.returned (.int .i64 (aZ (valOf aa x0.ab) ⟨rev,x0.ab,l⟩ k))∧aJ aa x0.ab a∧eE ml a∧St w M Z w' [As.map Key.val S.m a,As.map Key.val S.q [],As.blk wb 95 (D.wc S.s rev ra rn rc),As.map Key.val D.m dq,As.eR 50 lf l]:=by
 refine enter func145 rfl ntmps145 rfl<|?_;have aO:=g;have st1:=aO.fr i;have st2:=st1.fact (B:=As.fz (S.FV prog aa x0)) h (fun _ o=>o);refine(dx) st2 fun b3 w1 A C c=>?_;refine cw ?_;have E:=c.bL;refine WC.dS (m:=5) c mixed<|(gX) ey St.g5<|(gy) ak St.g0<|(cM)<|?_;rintro w2 ⟨F,b⟩ _;refine WP .r (PV.j6 cE eA dF (As.gm b.g6) (j.no n) rfl rfl)<|(bP) ak b.b0<|?_;refine WL.c1 (u:=.bool true) (bX (k:=k)) (by rw [dw]) b fun w3 G d=>?_;refine cv ?_;refine WC.lP rfl<|nx ?_;have H:=d.bL;refine WC.dS (m:=5) d mixed<|(y9) cc St.g5<|(gy) ak St.g0<|(cM)<|?_;rintro w4 ⟨I,f⟩ _;refine(eY) (we (x:=⟨rev,x0.ab,l⟩) (k:=k) (a2:=D.a2) (n2:=D.n2) (e2:=D.c2) (As.gr f.g2)) f fun w5 J t=>?_;refine(bB) ?_;exact⟨ml,by rw [Ki dw],hm,eE.refl _,t.drop.drop.drop⟩
theorem wi{r:Rec}(g:St w M Z w [As.map Key.val S.m ml,As.map Key.val S.q [],As.blk wb 95 (D.wc S.s rev ra rn rc),As.map Key.val D.m dq,As.eR 50 lf l]) (h:(S.FV prog aa x0).p Z w) (i:Rd RR.aD 4 Z w D.a1 D.n1 D.c1 x0.ab) (hm:aJ aa x0.ab ml) (n:cQ l lf dq) (t:ao aa) (y:∀k,(valOf aa x0.ab k).size≤1000) (dw:aw k=false) (c:ay l k=none):Calls prog 145 #[.pointer (some ⟨wb,0,none⟩),k.val] w fun e w'=>∃a,e=.returned (.int .i64 (aZ (valOf aa x0.ab) ⟨rev,x0.ab,l⟩ k))∧aJ aa x0.ab a∧eE ml a∧St w M Z w' [As.map Key.val S.m a,As.map Key.val S.q [],As.blk wb 95 (D.wc S.s rev ra rn rc),As.map Key.val D.m dq,As.eR 50 lf l]:=by
 refine enter func145 rfl ntmps145 rfl<|?_;have aO:=g;have st1:=aO.fr i;have st2:=st1.fact (B:=As.fz (S.FV prog aa x0)) h (fun _ o=>o);refine(dx) st2 fun b3 w1 z A d=>?_;refine cw ?_;have C:=d.bL;refine WC.dS (m:=5) d mixed<|(gX) ey St.g5<|(gy) ak St.g0<|(cM)<|?_;rintro w2 ⟨E,b⟩ _;refine WP .r (PV.j6 cE eA dF (As.gm b.g6) (n.no c) rfl rfl)<|(bP) ak b.b0<|?_;refine WL.c1 (u:=.bool false) (bX (k:=k)) (by rw [dw]) b fun w3 F f=>?_;refine cv ?_;refine WC.ef rfl<|(aX) (fun g21=>?_) fun g21=>?_
 ·
  refine fj ?_;refine WP .r (PV.ld1 (j:=1) aP f.b5 rfl rfl)<|(bB) ?_;exact⟨ml,by rw [Kj dw c],hm,eE.refl _,f.drop.drop.drop⟩
 exact cL g21
theorem wm(n:St w M Z w [As.map Key.val S.m ml,As.map Key.val S.q [],As.blk wb 95 (D.wc S.s rev ra rn rc),As.map Key.val D.m dq,As.eR 50 lf l]) (o:(S.FV prog aa x0).p Z w) (t:Rd RR.aD 4 Z w D.a1 D.n1 D.c1 x0.ab) (hm:aJ aa x0.ab ml) (y:cQ l lf dq) (A:ao aa) (C:∀k,(valOf aa x0.ab k).size≤1000) (dw:aw k=false) (a:ay l k=some r) (f:r.aq=rev):Calls prog 145 #[.pointer (some ⟨wb,0,none⟩),k.val] w fun e w'=>∃c,e=.returned (.int .i64 (aZ (valOf aa x0.ab) ⟨rev,x0.ab,l⟩ k))∧aJ aa x0.ab c∧eE ml c∧St w M Z w' [As.map Key.val S.m c,As.map Key.val S.q [],As.blk wb 95 (D.wc S.s rev ra rn rc),As.map Key.val D.m dq,As.eR 50 lf l]:=by
 refine enter func145 rfl ntmps145 rfl<|?_;have aO:=n;have st1:=aO.fr t;have st2:=st1.fact (B:=As.fz (S.FV prog aa x0)) o (fun _ z=>z);refine(dx) st2 fun b3 w1 E F g=>?_;refine cw ?_;have G:=g.bL;refine WC.dS (m:=5) g mixed<|(gX) ey St.g5<|(gy) ak St.g0<|(cM)<|?_;rintro w2 ⟨H,d⟩ _;refine WP .r (PV.bF cE eA dF (As.gm d.g6) (y.yes a) rfl rfl)<|(bP) ak d.b0<|?_;refine WL.c1 (u:=.bool false) (bX (k:=k)) (by rw [dw]) d fun w3 I h=>?_;refine cv ?_;refine WC.ef rfl<|(aX) (fun g21=>?_) fun g21=>?_
 ·
  exact cL g21
 refine nx ?_;have J:=h.bL;refine WC.dS (m:=21) h mixed<|cv ?_;refine DP .r (fun _ b=>V1 aP (bJ.range ((As.o7 b.2.g7).1 _ _ a).1) .r)<|cw ?_;refine DP .r (fun _ b=>PV.ld1 (j:=1) aP (bJ.range (As.gb b.2.g5)) rfl rfl)<|DP .r (fun _ b=>(PV.Im rfl rfl).cast (v':=.bool true) (congrArg Value.bool (decide_eq_true f)))<|(cM) ?_;rintro w4 ⟨K,i⟩ _;refine dp ?_;refine WC.lP rfl<|(bp) aP (bJ.range ((As.o7 i.g7).1 _ _ a).1)<|(bB) ?_;exact⟨ml,by rw [Kk dw a f],hm,eE.refl _,i.drop.drop.drop⟩
theorem wo(H:St w M Z w [As.map Key.val S.m ml,As.map Key.val S.q [],As.blk wb 95 (D.wc S.s rev ra rn rc),As.map Key.val D.m dq,As.eR 50 lf l]) (I:(S.FV prog aa x0).p Z w) (J:Rd RR.aD 4 Z w D.a1 D.n1 D.c1 x0.ab) (hm:aJ aa x0.ab ml) (K:cQ l lf dq) (L:ao aa) (N:∀k,(valOf aa x0.ab k).size≤1000) (dw:aw k=false) (b:ay l k=some r) (h:¬r.aq=rev) (hk:dU aa k):Calls prog 145 #[.pointer (some ⟨wb,0,none⟩),k.val] w fun e w'=>∃i,e=.returned (.int .i64 (aZ (valOf aa x0.ab) ⟨rev,x0.ab,l⟩ k))∧aJ aa x0.ab i∧eE ml i∧St w M Z w' [As.map Key.val S.m i,As.map Key.val S.q [],As.blk wb 95 (D.wc S.s rev ra rn rc),As.map Key.val D.m dq,As.eR 50 lf l]:=by
 refine enter func145 rfl ntmps145 rfl<|?_;have aO:=H;have st1:=aO.fr J;have st2:=st1.fact (B:=As.fz (S.FV prog aa x0)) I (fun _ O=>O);refine(dx) st2 fun b3 w1 R T A=>?_;refine cw ?_;have U:=A.bL;refine WC.dS (m:=5) A mixed<|(gX) ey St.g5<|(gy) ak St.g0<|(cM)<|?_;rintro w2 ⟨V,n⟩ _;refine WP .r (PV.bF cE eA dF (As.gm n.g6) (K.yes b) rfl rfl)<|(bP) ak n.b0<|?_;refine WL.c1 (u:=.bool false) (bX (k:=k)) (by rw [dw]) n fun w3 W P=>?_;refine cv ?_;refine WC.ef rfl<|(aX) (fun g21=>?_) fun g21=>?_
 ·
  exact cL g21
 refine nx ?_;refine WC.cu (m:=21) [] [16] [0,1,2,3,4,5,6,7,8,9,10,11,12,13,14,15,16,17,18,19,20] [] P (av.k4 M0 M1 M2 M5<|av.cons M6<|av.cons M7<|av.nil) mixed (by kernel_rfl) (by kernel_rfl) rfl<|?_
 iterate 3 refine DG.a ?_
 refine DQ .r (fun o t y _ c d=>V1 aP (bJ.range ((As.o7 (c.sv d).g5).1 _ _ b).1) .r)<|?_
 iterate 4 refine DG.a ?_
 refine DQ .r (fun o t y _ c d=>PV.ld1 (j:=1) aP (bJ.range (As.gb (c.sv d).g3)) rfl rfl)<|DQ .r (fun o t y _ c d=>(PV.Im rfl rfl).cast (v':=.bool false) (congrArg Value.bool (decide_eq_false h)))<|?_
 iterate 4 refine DG.a ?_
 refine(yM) ud SV.g3<|(mQ) ak SV.g0<|(gK) (fun w4 X Y C aac=>?_);simp only [CA,NA] at C;have z:=C.p4.p4;refine OX.call Br rfl rfl ((Fq L N hk _ _ _ _ _ z.e2 (As.gf z.g3) hm (fun _=>jz.nil _)).mono ?_);rintro _ w5 ⟨dj,rfl,E,F,G⟩;have Q:=St.lr z G;refine⟨_,rfl,G.cq.size,_,rfl,_,_,_,Q,aC.k4<|aC.k4<|aC.nil,av.k4 M2 M3 M4 M5<|av.cons M6<|av.cons M7<|av.nil,?_⟩
 iterate 3 refine DG.a ?_
 refine DQ .r (fun o t y _ c d=>V1 ff (bJ.range ((As.o7 (c.sv d).g5).1 _ _ b).1) .r)<|(ly)<|?_;intro w6 vt f;simp only [CM,NM,CA,NA,iK.it] at f;refine cv ?_;refine WL.nil (EX.np ?_);refine(aX) (fun g=>?_) fun g=>?_
 ·
  simp at g
  refine(bp) aP (bJ.range ((As.o7 f.g7).1 _ _ b).1)<|(bB) ?_;exact⟨dj,by rw [Bg dw b h,if_pos g],E,F,f.p2.drop.p2.drop.p2.drop⟩
 simp at g
 refine lW ?_;refine WP .r (PV.ld1 (j:=1) aP f.b5 rfl rfl)<|(bB) ?_;exact⟨dj,by rw [Bg dw b h,if_neg g],E,F,f.p2.drop.p2.drop.p2.drop⟩
theorem yI(a:St w M Z w [As.map Key.val S.m ml,As.map Key.val S.q [],As.blk wb 95 (D.wc S.s rev ra rn rc),As.map Key.val D.m dq,As.eR 50 lf l]) (b:(S.FV prog aa x0).p Z w) (c:Rd RR.aD 4 Z w D.a1 D.n1 D.c1 x0.ab) (hm:aJ aa x0.ab ml) (d:cQ l lf dq) (f:ao aa) (g:∀k,(valOf aa x0.ab k).size≤1000) (hk:dU aa k) (n:KR aa l):Calls prog 145 #[.pointer (some ⟨wb,0,none⟩),k.val] w fun e w'=>∃h,e=.returned (.int .i64 (aZ (valOf aa x0.ab) ⟨rev,x0.ab,l⟩ k))∧aJ aa x0.ab h∧eE ml h∧St w M Z w' [As.map Key.val S.m h,As.map Key.val S.q [],As.blk wb 95 (D.wc S.s rev ra rn rc),As.map Key.val D.m dq,As.eR 50 lf l]:=by
 cases dw:aw k with
 | true=>exact wg (r:=na) a b c hm d f g dw (n.aD dw)
 | false=>
  cases i:ay l k with
  | none=>exact wi (r:=na) a b c hm d f g dw i
  | some r=>
   by_cases j:r.aq=rev
   ·
    exact wm a b c hm d f g dw i j
   exact wo a b c hm d f g dw i j hk
theorem vN{c:oU}(t:St w M Z w [As.map Key.val S.m ml,As.map Key.val S.q [],As.blk wb 95 (D.wc S.s rev ra rn rc),As.map Key.val D.m dq,As.eR 50 lf l]) (u:(S.FV prog aa x0).p Z w) (y:Rd RR.aD 4 Z w D.a1 D.n1 D.c1 x0.ab) (hm:aJ aa x0.ab ml) (i:cQ l lf dq) (z:ao aa) (A:∀k,(valOf aa x0.ab k).size≤1000) (hk:dU aa c.read) (C:KR aa l) (d:ay l c.fm=some r):Calls prog 99 #[.pointer (some ⟨wb,0,none⟩),.agg c.cells.toArray] w fun e w'=>∃f,e=.returned (.bool (DV (valOf aa x0.ab) ⟨rev,x0.ab,l⟩ c))∧aJ aa x0.ab f∧eE ml f∧St w M Z w' [As.map Key.val S.m f,As.map Key.val S.q [],As.blk wb 95 (D.wc S.s rev ra rn rc),As.map Key.val D.m dq,As.eR 50 lf l]:=by
 refine enter func99 rfl ntmps99 rfl<|?_;have aO:=t;have st1:=aO.fr y;have st2:=st1.fact (B:=As.fz (S.FV prog aa x0)) u (fun _ E=>E);refine(dx) st2 fun b3 w1 N O F=>?_;refine cw ?_;refine WC.cu (m:=14) [] [3] [0,1,2,3,4,5,6,7,8,9,10,11,12,13] [] F (av.k4 M7 M6 M5 M2<|av.cons M1<|av.cons M0<|av.nil) mixed (by kernel_rfl) (by kernel_rfl) rfl<|?_
 iterate 2 refine DG.a ?_
 refine(AR) ak SV.g5<|(gK) (fun w2 P Q j R=>?_);simp only [CA,NA] at j;have b:=j.p7.p7.p7.p7.p7;refine OX.call P8 rfl rfl ((yI (k:=c.read) b.e5 (As.gf b.g6) (As.gr b.g7) hm i z A hk C).mono ?_);rintro _ w3 ⟨dj,rfl,G,H,n⟩;have I:=St.lr b n;refine⟨_,rfl,n.cq.size,_,rfl,_,_,_,I,aC.k4<|aC.k4<|aC.nil,av.k4 M4 M3 M2 M7<|av.cons M6<|av.cons M5<|av.nil,?_⟩
 iterate 3 refine DG.a ?_
 refine(yM) ey SV.g2<|(AR) ak SV.g5<|?_;refine DQ .r (fun J K L _ g h=>PV.bF cE eA dF (As.gm (g.sv h).g1) (i.yes d) rfl rfl)<|?_
 iterate 2 refine DG.a ?_
 refine DQ .r (fun J K L _ g h=>V1 aP (bJ.range ((As.o7 (g.sv h).g0).1 _ _ d).1) .r)<|(ly)<|?_;intro w4 T o;simp only [CM,NM,CA,NA,iK.it] at o;refine bM ?_;refine WL.nil (EX.np ?_);refine(bB) ?_;exact⟨dj,by unfold DV;rw [aK d],G,H,o.p5.drop.p5.drop.p5.drop⟩
theorem yJ{Z:Nat→Prop}(b:bJ w wb 95 (D.wc v rev ra rn rc)) (hm:KM Key.val w D.m ml) (c:cQ l lf ml) (d:ay l k=none) (dw:aw k=true):CR prog 96 #[.pointer (some ⟨wb,0,none⟩),k.val] w (.bool true):=by
 refine enter func96 rfl ntmps96 rfl<|?_;have aO:=St.s0 w;refine(dx) aO fun b3 w1 f g st1=>?_;refine cw ?_;have i:=st1.bL;refine WC.dS (m:=5) st1 mixed<|cv ?_;refine DP .r (fun _ a=>V1 ey (bJ.range (b.ext (St.cg a.2))) .r)<|(gy) ak St.g0<|(cM)<|?_;rintro w2 ⟨j,st2⟩ _;refine WP .r (PV.j6 cE eA dF (hm.ext (St.cg st2)) (c.no d) rfl rfl)<|cw ?_;have n:=st2.bL;refine WC.dh (m:=15) (E:=cA [(1,fun v _=>v=.bool true)]) st2 (bz (⟨fun _ _ _ _ _ _ _ h=>h,trivial⟩)) mixed (by kernel_rfl)<|(gy) ak St.g0<|?_;refine DW.c1 (u:=.bool true) (fun o a p=>bX (k:=k)) (by rw [dw])<|?_;refine aT ?_;refine(cM) ?_;rintro w3 ⟨q,e⟩ ⟨_,_⟩;refine(bB) ?_;exact⟨rfl,(St.cg e)⟩
theorem yK{Z:Nat→Prop}(b:bJ w wb 95 (D.wc v rev ra rn rc)) (hm:KM Key.val w D.m ml) (c:cQ l lf ml) (d:ay l k=none) (dw:aw k=false):CR prog 96 #[.pointer (some ⟨wb,0,none⟩),k.val] w (.bool false):=by
 refine enter func96 rfl ntmps96 rfl<|?_;have aO:=St.s0 w;refine(dx) aO fun b3 w1 f g st1=>?_;refine cw ?_;have i:=st1.bL;refine WC.dS (m:=5) st1 mixed<|cv ?_;refine DP .r (fun _ a=>V1 ey (bJ.range (b.ext (St.cg a.2))) .r)<|(gy) ak St.g0<|(cM)<|?_;rintro w2 ⟨j,st2⟩ _;refine WP .r (PV.j6 cE eA dF (hm.ext (St.cg st2)) (c.no d) rfl rfl)<|cw ?_;have n:=st2.bL;refine WC.dh (m:=15) (E:=cA [(1,fun v _=>v=.bool false)]) st2 (bz (⟨fun _ _ _ _ _ _ _ h=>h,trivial⟩)) mixed (by kernel_rfl)<|(gy) ak St.g0<|?_;refine DW.c1 (u:=.bool false) (fun o a p=>bX (k:=k)) (by rw [dw])<|cw ?_;refine DW.ct (t:=17) rfl (fun g17=>?_) (fun g17=>?_)
 ·
  exact cL g17
 refine(cM) ?_;rintro w3 ⟨q,e⟩ ⟨_,_⟩;refine(bB) ?_;exact⟨rfl,(St.cg e)⟩
theorem yL(b:bJ w wb 95 (D.wc v rev ra rn rc)) (hm:KM Key.val w D.m ml) (d:cQ l lf ml) {r:Rec}(e:(As.eR 50 lf l).ok Z w) (c:ay l k=some r) (dw:aw k=false):CR prog 96 #[.pointer (some ⟨wb,0,none⟩),k.val] w (.bool (decide (r.aq=rev))):=by
 refine enter func96 rfl ntmps96 rfl<|?_;have aO:=St.s0 w;refine(dx) aO fun b3 w1 g i st1=>?_;refine cw ?_;have n:=st1.bL;refine WC.dS (m:=5) st1 mixed<|cv ?_;refine DP .r (fun _ a=>V1 ey (bJ.range (b.ext (St.cg a.2))) .r)<|(gy) ak St.g0<|(cM)<|?_;rintro w2 ⟨o,st2⟩ _;refine WP .r (PV.bF cE eA dF (hm.ext (St.cg st2)) (d.yes c) rfl rfl)<|cw ?_;have p:=st2.bL;refine WC.dh (m:=15) (E:=cA [(1,fun v _=>v=.bool false)]) st2 (bz (⟨fun _ _ _ _ _ _ _ h=>h,trivial⟩)) mixed (by kernel_rfl)<|(gy) ak St.g0<|?_;refine DW.c1 (u:=.bool false) (fun q a s=>bX (k:=k)) (by rw [dw])<|cw ?_;refine DW.ct (t:=17) rfl (fun g17=>?_) (fun g17=>?_)
 ·
  refine cv ?_;refine DP .r (fun _ a=>V1 aP (bJ.range ((e.1 _ _ c).1.ext (St.cg a.2))) .r)<|cw ?_;refine DP .r (fun _ a=>PV.ld1 (j:=1) aP (bJ.range (b.ext (St.cg a.2))) rfl rfl)<|(cM)<|?_;rintro w3 ⟨y,f⟩ ⟨_,_⟩;refine(bB) ?_;exact⟨rfl,(St.cg f)⟩
 exact cL g17
theorem Av{aD:List bW}(b:bJ w wb 95 (D.wc v rev ra rn rc)) (hm:KM Key.val w D.m ml) (c:cQ l lf ml) (d:(As.eR 50 lf l).ok Z w) (f:KR aa l):CR prog 96 #[.pointer (some ⟨wb,0,none⟩),k.val] w (.bool (aw k || az ⟨rev,aD,l⟩ k)):=by
 cases dw:aw k with
 | true=>exact yJ (Z:=Z) b hm c (f.aD dw) dw
 | false=>
  cases a:ay l k with
  | none=>
   have e:az ⟨rev,aD,l⟩ k=false:=by unfold az;rw [show(cB.mk rev aD l).ai=l from rfl,a];rfl
   rw [e];exact yK (Z:=Z) b hm c a dw
  | some r=>
   have e:az ⟨rev,aD,l⟩ k=decide (r.aq=rev):=by unfold az;rw [show(cB.mk rev aD l).ai=l from rfl,a,aK a];rfl
   rw [e];exact yL b hm c d a dw
set_option maxHeartbeats 1600000 in
theorem vV{ar:Option Addr}{r cr:Nat}(gJ:St w M Z w []) (ht:j5 prog Z w) (hu:Rd RR.dM 4 Z w ar r cr aa) (Ie:Rd RR.aD 4 Z w a1 n1 e1 x.ab) (hr:Rd RR.iV 8 Z w a2 n2 e2 x.ai) (h6:x.ai.length≤4000) (h7:x.ab.length≤4000) (hS:mR x.ai):Calls prog 40 #[.slice ar r cr,.agg (x.row a1 n1 e1 a2 n2 e2).toArray] w fun e w'=>∃(D:WD) (S:SD) (wb:Nat) (lf:Key→RL) (ml:List (Key × Value)) (Z':Nat→Prop),e=.returned (.pointer (some ⟨wb,0,none⟩))∧cQ x.ai lf ml∧fE w.heap.size Z Z'∧(S.FV prog aa x).p Z' w'∧Rd RR.aD 4 Z' w' D.a1 D.n1 D.c1 x.ab∧Rd RR.dM 4 Z' w' D.ar D.r D.cr aa∧St w M Z' w' [As.map Key.val S.m [],As.map Key.val S.q [],As.blk wb 95 (D.wc S.s x.ad none 0 0),As.map Key.val D.m ml,As.eR 50 lf x.ai]:=by
 refine enter func40 rfl ntmps40 rfl<|?_;have aO:=gJ;have st1:=aO.fr hu;have st2:=st1.fr Ie;have lN:=st2.fr hr;have jl:=lN.fact (B:=As.fz (FZ.Iy prog)) ht (fun _ z=>z);refine(dx) jl fun b3 w1 Nu CY ki=>?_;refine cw ?_;refine WC.cu (m:=7) [] [2,6] [1,2,4,5,6,0,3] [(3,.map)] ki (av.k4 M0 M1 M2 M3<|av.cons M4<|av.nil) mixed (by kernel_rfl) (by kernel_rfl) rfl<|(mQ) cc SV.g0<|(gK) (fun w2 R2x Sk J Jv=>?_);simp only [CA,NA] at J;have f:=J;refine OX.call U6 rfl rfl ((rS (x:=x) f.e0 (As.gr f.g3) (As.gr f.g2) (by omega) (by omega)).mono ?_);rintro _ w3 ⟨f1,f2,f3,f4,f5,f6,Z1,rfl,K,g⟩;have A:=St.lv f g K;have hgr:=St.gV g.p1;have hgi:=St.gV g;have n:=f.size;have MM:=K.le n;have Bf:f5=x.ai.length:=((As.gs A.g1)).len;have ahD:f2=x.ab.length:=((As.gs A.g0)).len;have jZ:=A.p1.eX (by omega);have fw:=jZ.p1.eX (by omega);have YC:=(MM.trans (fE.wt (F:=fun x=>x∈bA f4) hgr) n).trans (fE.wt (F:=fun x=>x∈bA f1) hgi) n;refine⟨_,rfl,g.cq.size,_,rfl,_,_,_,fw,aC.k4<|aC.k2<|aC.cons<|aC.nil,av.k4 M2 M3 M4 M5<|av.cons M6<|av.nil,?_⟩;refine(mQ) cc SV.g0<|(gK) (fun w4 W9 Mr L Fl=>?_);simp only [CA,NA] at L;have C:=L;refine OX.call Vs rfl rfl ((ye (x:=x) C.e0).mono ?_);rintro _ w5 ⟨d1,d2,d3,rfl,E⟩;have dG:=St.lr C E;have Tl:=St.gV E;have aad:=C.size;have c:=dG;have dQ:=c.freeze (B:=As.fz (SD.FV (⟨ar,a1,a2,r,cr,n1,e1,n2,e2,d2,d3,d1⟩:SD) prog aa x)) ⟨(SD.F (⟨ar,a1,a2,r,cr,n1,e1,n2,e2,d2,d3,d1⟩:SD) prog aa x).mono (fun _ h=>.inl h) ⟨(As.gr c.g9),(As.gr c.g8),(As.gr c.g7),(As.gf c.g6)⟩,.inr rfl,((As.gb c.g0)).lt,bJ.range (As.gb c.g0)⟩ (fun _ z=>z);have sw:=YC.trans (fE.wt (F:=fun x=>x=d1) Tl) aad;refine⟨_,rfl,E.cq.size,_,rfl,_,_,_,dQ,aC.k4<|aC.k4<|aC.k2<|aC.nil,av.k4 M5 M6 M7 M8<|av.cons M9<|av.nil,?_⟩;refine DG.a<|?_;refine DG.side (s:=.map) rfl rfl rfl rfl rfl rfl (fun wx Zx Rx su mM=>OX.makeMap Key.val rfl fun b wy N hb=>⟨N.ext.size,_,rfl,⟨b,rfl⟩,mM.Gi N hb⟩)<|?_;rintro _ ⟨G,rfl⟩;refine(ly) ?_;intro w6 n O;simp only [CM,NM,CA,NA,iK.it] at O;refine WP .r (PV.br (us:=(WD.wc ⟨ar,f1,f4,r,cr,f2,f3,f5,f6,G,d1⟩ d1 x.ad none 0 0)) UE rfl rfl rfl)<|(dx) O fun P w7 YI YJ Q=>?_;refine nx ?_;refine WL.nil (EX.np ?_);refine gW ?_;refine WP .r (PV.ld1 (j:=3) kg Q.b0 rfl rfl)<|dp ?_;have R:Key→RL:=fun _=>⟨0,none,0,0⟩;have fh:=St.Ug Q 50 R;refine WC.bj (σ:=Nat × (Key→RL) × (List (Key × Value))) (db:=fun(i,lf,ml)=>[(5,.pointer (some ⟨P,0,none⟩)),(21,.slice f4 f5 f6),(22,.int .i64 (f5:Int)),(23,.int .i64 (i:Int))]) (F:=fun(i,lf,ml)=>[As.map Key.val G ml,As.eR 50 lf (x.ai.take i)]) (I:=fun(i,lf,ml)=>(i≤x.ai.length)∧(cQ (x.ai.take i) lf ml)∧True) (μ:=fun(i,lf,ml)=>x.ai.length - i) (0,R,[]) (fh.p2) Sub.t (⟨Nat.zero_le _,cQ.nil _,trivial⟩)<|?_;rintro⟨i,lf,ml⟩ w8 o ⟨hi,u,_⟩;simp only [CA,NA] at o hi u ⊢;refine(aX) (fun g24=>?_) fun g24=>?_
 ·
  simp at g24
  have H:i<x.ai.length:=by omega
  have T:∀y,ay (x.ai.take (i+1)) y=if y=x.ai[i].key then some x.ai[i] else ay (x.ai.take i) y:=fun y=>by rw [List.take_succ_eq_append_getElem H];exact zy (hS.ne H) y
  refine dp ?_;obtain⟨jj,sJ,sK,eB,ma,jB,iH,iI⟩:=Rd.at (As.gr o.g7) H;obtain⟨q1,U,V,rfl,S5,QH⟩:=jB;have d:=o.fg iI iH;have W:=d.fr S5;refine nx ?_;refine WP .r (PV.dR lM eB rfl rfl (by omega))<|(bP) fI (As.nS W.g1)<|(gx) W fun X w9 nw7 hb7 gn=>?_;refine(dZ) mF gn fun lI nT rH Y=>?_;refine bM ?_;have hN5:=Y.bL;refine WC.dS (m:=6) Y mixed<|(gX) ey St.g5<|(y9) ak St.g0<|(cM)<|?_;rintro mH ⟨FD,ic⟩ _;refine WL.go rfl (OX.put cE eA (As.gm ic.g3) rfl rfl rfl fun pS vm rK=>?_);have eb:=ic.p3.iu vm rK;refine cv ?_;have e7:=eb.p4.p2;have gS:=St.uU (q:=⟨X,q1,U,V⟩) e7 (As.gr e7.g3) QH T;refine cw ?_;refine fx (i+1,_,_) ⟨gS.p2.drop.p2.drop.p1,⟨by omega,u.put (q:=⟨X,q1,U,V⟩) T,trivial⟩⟩
 simp at g24
 have hie:x.ai.take i=x.ai:=List.take_of_length_le (by omega);rw [hie] at u;have d:=o.p1.sr (B:=As.eR 50 lf x.ai) (by rw [hie]);refine(bB) ?_;exact⟨⟨ar,f1,f4,r,cr,f2,f3,f5,f6,G,d1⟩,(⟨ar,a1,a2,r,cr,n1,e1,n2,e2,d2,d3,d1⟩:SD),P,lf,ml,_,rfl,u,sw,(As.gf d.g3),(As.gr d.g6),(As.gr d.g12),d.p3.drop.p5.drop.p5.drop.p5.drop.p5.drop.p5.drop.p5.drop.p5.drop.p1.p2.p4.p4⟩
end Go.Rc

