/- Walks over the program, part WZr. Conditions: as each theorem says. -/
import Derived.Test.YtfamnpoplgkkcaaGreatDoorOFacts
import Derived.Test.YtfamnpoplgkkcaaGreatDoorOWZl
import Derived.Test.YtfamnpoplgkkcaaGreatDoorOBh
set_option linter.all false
namespace Go.Rc
open Go Go.Proofs Go.Proofs.Tryz
variable {r:Rec}{rev:Int}{w:World}{D:WD}{v rn rc wb pb n1 e1 n2 e2:Nat}{ra a1 a2:Option Addr}{k:Key}{ml eK:List (Key × Value)}{Z M:Nat→Prop}{l:List Rec}{lf:Key→RL}{x x0:cy}{aa:List aG}{S:SD}
set_option maxHeartbeats 400000
theorem Aq{a:Option Addr}{n c:Nat}(hk:cX r.key):CR prog 160 #[.agg (r.row a n c).toArray,.int .i64 rev] w (.bool (ax r.key && (decide (r.av<rev) && !r.bu))):=by
 refine enter func160 rfl ntmps160 rfl<|?_;have aO:=St.s0 w;refine(dq) aO fun b2 w1 b d st1=>?_;refine cj ?_;refine WC.kQ (t:=4) (v:=.bool (ax r.key && (decide (r.av<rev) && !r.bu))) st1 ?_<|?_
 ·
  refine(gX) ao st1.b0<|?_;refine WL.c1 (u:=.bool (ax r.key)) (fJ (k:=r.key) hk) (by rw [BR hk]) st1 fun w2 s2 st2=>?_;refine(dc) (fun g8=>?_) (fun g8=>?_)
  ·
   refine(aZ) aN st2.b0<|(dc) (fun g14=>?_) (fun g14=>?_)
   ·
    refine(aZ) dG st2.b0<|?_;exact(gz) (tG (aj g8 g14)) (st2)
   exact(gz) (tG (aj g8 g14)) (st2)
  exact(gz) (tG g8) (st2)
 intro w2 st2;refine(bs) ?_;exact⟨rfl,(St.cg st2)⟩
theorem Ar(b:bQ w pb 75 [.pointer (some ⟨wb,0,none⟩)]) (c:bQ w wb 86 (D.wc v rev ra rn rc)) (hm:KM Key.val w D.m ml) (d:(bC ml k).getD (.pointer none)=.pointer none):CR prog 159 #[k.val,.pointer (some ⟨pb,0,none⟩)] w (.tuple #[.slice none 0 0,.bool false]):=by
 refine enter func159 rfl ntmps159 rfl<|?_;have aO:=St.s0 w;refine(dq) aO fun b2 w1 f g st1=>?_;refine fO ?_;have h:=st1.bL;refine WC.dS (m:=5) st1 mixed<|?_;refine DP .r (fun _ a=>PV.mf J6 (bQ.range (b.ext (St.cg a.2))) rfl rfl)<|bK ?_;refine DP .r (fun _ a=>V1 fT (bQ.range (c.ext (St.cg a.2))) .r)<|(gI) ao St.g0<|(cP)<|?_;rintro w2 ⟨i,st2⟩ _;refine WP .r (PV.jK cZ fU fi (hm.ext (St.cg st2)) (d) rfl rfl)<|cj ?_;have j:=st2.bL;refine WC.dS (m:=11) st2 mixed<|bY ?_;refine DW.cI (t:=14) rfl (fun g14=>?_) (fun g14=>?_)
 ·
  exact dm g14
 refine(cP) ?_;rintro w3 ⟨n,e⟩ _;refine cj ?_;refine WC.eA rfl<|(yE) ?_;exact⟨rfl,(St.cg e)⟩
theorem Au{q:RL}(i:bQ w pb 75 [.pointer (some ⟨wb,0,none⟩)]) (o:bQ w wb 86 (D.wc v rev ra rn rc)) (hm:KM Key.val w D.m ml) (s:bC ml k=some (.pointer (some ⟨q.b,0,none⟩))) (p:bQ w q.b 47 (r.row q.a q.n q.c)) (hk:cX r.key):Calls prog 159 #[k.val,.pointer (some ⟨pb,0,none⟩)] w fun e w'=>∃(a:Option Addr) (n c:Nat),e=.returned (.tuple #[.slice a n c,.bool (ax r.key && (decide (r.av<rev) && !r.bu))])∧((ax r.key && (decide (r.av<rev) && !r.bu))=true→a=q.a∧n=q.n∧c=q.c)∧aS [] w w':=by
 refine enter func159 rfl ntmps159 rfl<|?_;have aO:=St.s0 w;refine(dq) aO fun b2 w1 y z st1=>?_;refine fO ?_;have A:=st1.bL;refine WC.dS (m:=5) st1 mixed<|?_;refine DP .r (fun _ d=>PV.mf J6 (bQ.range (i.ext (St.cg d.2))) rfl rfl)<|bK ?_;refine DP .r (fun _ d=>V1 fT (bQ.range (o.ext (St.cg d.2))) .r)<|(gI) ao St.g0<|(cP)<|?_;rintro w2 ⟨B,st2⟩ _;refine WP .r (PV.bG cZ fU fi (hm.ext (St.cg st2)) (s) rfl rfl)<|cj ?_;have C:=st2.bL;refine WC.dS (m:=11) st2 mixed<|bY ?_;refine DW.cI (t:=14) rfl (fun g14=>?_) (fun g14=>?_)
 ·
  refine bK ?_;refine DP .r (fun _ d=>VA cU (bQ.range (p.ext (St.cg d.2))) .r)<|DP .r (fun _ d=>PV.mf J6 (bQ.range (i.ext (St.cg d.2))) rfl rfl)<|bY ?_;refine DP .r (fun _ d=>PV.ld1 (j:=1) aN (bQ.range (o.ext (St.cg d.2))) rfl rfl)<|(cP)<|?_;rintro w3 ⟨E,u⟩ _;refine(eS) (Aq (r:=r) hk) u fun w4 F g=>?_;refine(aR) (fun g24=>?_) fun g24=>?_
  ·
   have f:(ax r.key && (decide (r.av<rev) && !r.bu))=true:=by first | exact g24 | simpa using g24
   refine(aZ) dC (bQ.range (p.ext (St.cg g)))<|(yE) ?_;exact⟨q.a,q.n,q.c,by rw [f],fun _=>⟨rfl,rfl,rfl⟩,(St.cg g)⟩
  have f:(ax r.key && (decide (r.av<rev) && !r.bu))=false:=by first | exact g24 | simpa using g24
  refine(yE) ?_;exact⟨none,0,0,by rw [f],(fun h=>by rw [f] at h;cases h),(St.cg g)⟩
 exact dm g14
theorem FR(f:bQ w pb 75 [.pointer (some ⟨wb,0,none⟩)]) (g:bQ w wb 86 (D.wc v rev ra rn rc)) (hm:KM Key.val w D.m ml) (i:dy l lf ml) (j:(As.gq 47 lf l).ok Z w) (o:∀r∈l,cX r.key) (k:Key):Calls prog 159 #[k.val,.pointer (some ⟨pb,0,none⟩)] w fun e w'=>∃(a:Option Addr) (n c:Nat),e=.returned (.tuple #[.slice a n c,.bool (bU l rev k)])∧(bU l rev k=true→Rd RR.key 2 Z w' a n c (aC l k).reads)∧aS [] w w':=by
 cases b:az l k with
 | none=>
  refine(Ar f g hm (i.no b)).mono<|?_;rintro e w' ⟨rfl,hc⟩
  have d:bU l rev k=false:=by unfold bU;rw [b];rfl
  exact⟨none,0,0,by rw [d],(fun h=>by rw [d] at h;cases h),hc⟩
 | some r=>
  obtain⟨p,q,_⟩:=j.1 k r b;obtain⟨hr,hk⟩:=aK b;refine(Au (k:=k) f g hm (i.yes b) p (o r hr)).mono<|?_;rintro e w' ⟨a,n,c,rfl,s,hc⟩
  have d:bU l rev k=(ax r.key && (decide (r.av<rev) && !r.bu)):=by
   unfold bU
   rw [aQ b,b,← hk]
   rfl
  refine⟨a,n,c,by rw [d],fun h=>?_,hc⟩;rw [d] at h;obtain⟨rfl,rfl,rfl⟩:=s h;rw [aQ b];exact q.ext hc
set_option maxHeartbeats 1600000 in
theorem Av{f:FuncId}{cap:Value}(gk:St w M Z w []) (hcf:CF prog f) (VH:∀w1,aS [] w w1→∀y:Key,Calls prog f #[y.val,cap] w1 fun e w'=>∃(a:Option Addr) (n c:Nat),e=.returned (.tuple #[.slice a n c,.bool (bU l rev y)])∧(bU l rev y=true→Rd RR.key 2 Z w' a n c (aC l y).reads)∧aS [] w1 w') (h6:l.length≤4000) (UK:∀r∈l,r.reads.length≤4000):Calls prog 158 #[k.val,.func (.func f) #[] #[cap]] w fun e w'=>∃(a:Option Addr) (n c:Nat),e=.returned (.slice a n c)∧St w M Z w' [As.os RR.key 41 2 a n c (aB l rev k)]:=by
 refine enter func158 rfl ntmps158 rfl<|?_;have aO:=St.rb gk;refine(dq) aO fun b2 w1 Tj wD st1=>?_;refine(aY) ao st1.b0<|?_;refine WL.go rfl (OX.mT hcf rfl rfl rfl ((Calls.cap (VH _ (St.cg st1) k)).mono ?_));rintro _ w2 ⟨f1,f2,f3,rfl,_,s2⟩;refine⟨_,rfl,?_⟩;have st2:=st1.step s2;refine aX ?_;refine(aR) (fun Ic=>?_) fun Ic=>?_
 ·
  have W:bU l rev k=false:=by simpa using Ic
  have hv:aB l rev k=[k]:=by unfold aB;rw [if_neg (by rw [W];simp)]
  refine(aY) ao st2.b0<|?_;refine WL.go rfl (OX.aP (us:=k.cells) dz rfl rfl rfl rfl fun b31 w3 aaA aip=>?_);have iT:=St.pU (R:=RR.key) (E:=41) (k:=2) (a:=some ⟨b31,0,none⟩) (n:=1) (c:=1) (xs:=[k]) st2 aaA.ext (OR.dd aip (Nat.zero_le _) rfl (by simp [Key.cells,Value.oneCell']) rfl) (fun x hx=>by simp [aI] at hx;subst hx;exact aaA.ge);refine(bs) ?_;exact⟨_,_,_,rfl,by rw [hv];exact(St.wk iT.p1.drop)⟩
 have W:bU l rev k=true:=by simpa using Ic
 refine cj ?_;refine WL.mm Key.val st2 fun PY w3 aqN aqO iT=>?_;refine db ?_;refine WL.mm Key.val iT fun N5 w4 H9 aqP ik=>?_;refine(aY) ao ik.b2<|?_;refine WL.go rfl (OX.ins cZ gE (As.gm ik.g0) rfl rfl rfl fun w5 Kv Fe=>?_);have iY:=ik.jS Kv Fe;refine bY ?_;have iC:=iY.rp (B:=As.map Key.val N5 (lI [k])) (rfl);refine(aY) ao iC.b2<|?_;refine WL.go rfl (OX.aP (us:=k.cells) dz rfl rfl rfl rfl fun b37 w6 aiq air=>?_);have gW:=iC.de aiq air;refine bK ?_;have iH:=gW;have iE:=iH.conv (B:=As.os RR.key 41 2 (some ⟨b37,0,none⟩) 1 1 [k]) (OR.dd (As.gb iH.g0) (Nat.zero_le _) rfl (by simp [Key.cells,Value.oneCell']) rfl) (fun x h=>by show x=b37;change x∈aI (some ⟨b37,0,none⟩) at h;simpa [aI] using h);refine gL ?_;have eD:=iE.OB;refine WC.bd (σ:=Nat × (List Key) × (List (Key × Value)) × (List RE) × (Option Addr) × Nat × Nat) (dj:=fun(i,L,Uj,J,g,d,o)=>[(1,.func (.func f) #[] #[cap]),(2,.pointer (some ⟨b2,0,none⟩)),(7,.map (some PY)),(8,.map (some N5)),(9,.slice g d o),(10,.int .i64 (i:Int))]) (F:=fun(i,L,Uj,J,g,d,o)=>[As.os RR.key 41 2 g d o (L),As.map Key.val N5 (lI L),As.map Key.val PY Uj,As.many (J.map (RE.as 41))]) (I:=fun(i,L,Uj,J,g,d,o)=>(i≤L.length)∧(tv l rev k (iK J) L i 0)∧(tu J Uj)∧((J.map (·.key)).Nodup)∧True) (μ:=fun(i,L,Uj,J,g,d,o)=>4001 - i) (0,[k],[],[],(some ⟨b37,0,none⟩),1,1) (eD.p3.p3.p3) Sub.t (⟨Nat.zero_le _,tv.start fun _=>rfl,tu.nil,by simp,trivial⟩)<|?_;rintro⟨i,L,Uj,J,g,d,o⟩ w7 dh ⟨H0,hF,Yp,yB,_⟩;simp only [CA,NA] at dh H0 hF Yp yB ⊢;have hln:=((As.gs dh.g0)).len;have hle:=hF.le W;refine(aR) (fun g41=>?_) fun g41=>?_
 ·
  simp at g41
  have rY:i<L.length:=by omega
  have hoi:=hF.op W (List.getElem_mem rY);obtain⟨ri,hri,_⟩:=bS.1 hoi;have UQ:aC l L[i]=ri:=aQ hri;have aqQ:=UK ri (aK hri).1;refine db ?_;obtain⟨gH,cR⟩:=Ow.addr (As.gs dh.g0) (ak rY);refine cj ?_;refine WP .r (PV.dI ek cR rfl rfl (by omega))<|(aY) ao (Ow.jD (As.gs dh.g0) (by omega) cR (ak rY))<|?_;refine WL.go rfl (OX.mT hcf rfl rfl rfl ((Calls.cap (VH _ (St.cg dh) L[i])).mono ?_));rintro _ w8 ⟨f4,f5,f6,rfl,It,s8⟩;refine⟨_,rfl,?_⟩;have cW:=dh.step s8;have hq5:=It hoi;rw [UQ] at hq5;have di:=cW.fr (hq5);have X5:=((As.gr di.g0)).len;refine aX ?_;refine bY ?_;refine WC.bd (σ:=Nat × (List Key) × (List (Key × Value)) × (List RE) × (Option Addr) × Nat × Nat) (dj:=fun(q,L2,X,K,g,d,o)=>[(1,.func (.func f) #[] #[cap]),(2,.pointer (some ⟨b2,0,none⟩)),(7,.map (some PY)),(8,.map (some N5)),(9,.slice g d o),(10,.int .i64 (i:Int)),(53,.slice f4 f5 f6),(54,.int .i64 (f5:Int)),(55,.int .i64 (q:Int))]) (F:=fun(q,L2,X,K,g,d,o)=>[As.os RR.key 41 2 g d o (L2),As.map Key.val N5 (lI L2),As.map Key.val PY X,As.many (K.map (RE.as 41))]) (I:=fun(q,L2,X,K,g,d,o)=>(q≤f5)∧(tv l rev k (iK K) L2 i q)∧(tu K X)∧((K.map (·.key)).Nodup)∧(L2[i]?=some L[i])∧True) (μ:=fun(q,L2,X,K,g,d,o)=>f5 - q) (0,L,Uj,J,g,d,o) (di.p4.p4.p4.p4) Sub.t (⟨Nat.zero_le _,hF,Yp,yB,ak rY,trivial⟩)<|?_;rintro⟨q,L2,X,K,g,d,o⟩ w9 Y ⟨hq,Uk,py,wm,N,_⟩;simp only [CA,NA] at Y hq Uk py wm N ⊢;have aqR:=((As.gs Y.g0)).len;have vl:=Uk.le W;have Uy:i<L2.length:=(List.getElem?_eq_some_iff.1 N).1;refine(aR) (fun H6=>?_) fun H6=>?_
  ·
   simp at H6
   have AK:q<ri.reads.length:=by omega
   obtain⟨x,LD⟩:∃x,ri.reads[q]=x:=⟨_,rfl⟩
   have YU:(aC l L[i]).reads[q]?=some x:=by rw [UQ,ak AK,LD]
   refine db ?_;obtain⟨rW,Fc,Cl,jP,sY,kO,kN,lK⟩:=Rd.at (As.gr Y.g4) AK;have kO:=RR.a8 kO;subst kO;have eb:=Y.fg lK kN;rw [LD] at kN eb;refine nx ?_;refine WP .r (PV.dI ek jP rfl rfl (by omega))<|(aY) ao (As.kH eb.g0)<|(eN) eb fun b14 iN Yj Oc fX=>?_;refine(cF) gQ fX fun iV qV mi eu=>?_;refine(aY) ao eu.b0<|?_;refine WL.go rfl (OX.mT hcf rfl rfl rfl ((Calls.cap (VH _ (St.cg eu) x)).mono ?_));rintro _ k9 ⟨f7,f8,f9,rfl,_,s12⟩;refine⟨_,rfl,?_⟩;have dZ:=eu.step s12;refine aX ?_;refine(aR) (fun PU=>?_) fun PU=>?_
   ·
    have UD:bU l rev x=false:=by simpa using PU
    refine gL ?_;refine ef (q+1,L2,X,K,g,d,o) ⟨dZ.drop.drop,⟨by omega,Uk.skip N YU UD,py,wm,N,trivial⟩⟩
   have UD:bU l rev x=true:=by simpa using PU
   refine bY ?_;obtain⟨HX,ks⟩:=Ow.addr (As.gs dZ.g2) N;have dE:=dZ.p5;obtain⟨ea,en,ec,Iv,ais⟩:=St.VR (EK:=41) wm py x dE;have T:=ais;have hen:=((As.gs T.g0)).len;have Vr:=Uk.len x;refine WC.bN (m:=11) [] [7,9] [0,1,2,3,4,5,6,7,8,9,10] [(6,.sl 41 1 L[i].cells)] T (ai.k4 M1 M2 M3 M4<|ai.cons M5<|ai.cons M7<|ai.cons M8<|ai.nil) mixed (by kernel_rfl) (by kernel_rfl) rfl<|(lx) ao SV.g1<|?_
   iterate 2 refine DG.a ?_
   refine DQ .r (fun wx Zx Rx _ pB yk=>PV.dI ek ks rfl rfl (by omega))<|DQ .r (fun wx Zx Rx _ pB yk=>VA ao (Ow.jD (As.gs (pB.sv yk).g3) (by omega) ks N) .r)<|?_;refine DG.side (s:=.sl 41 1 L[i].cells) rfl rfl rfl rfl rfl rfl (fun wx Zx Rx qW pB=>OX.aP (us:=L[i].cells) dz rfl rfl rfl rfl fun b wy nw hb=>⟨nw.ext.size,_,rfl,⟨b,rfl⟩,pB.de nw hb⟩)<|?_;rintro _ ⟨b74,rfl⟩;refine(fV) (fun mM R7x YN O KP=>?_);simp only [CA,NA] at O;refine OX.mapEntry cZ Kb O1 (As.gm O.g6) (Iv) rfl rfl rfl fun z75 pH Zc aaB=>?_;have P:=O.p6.VP Zc aaB;refine⟨Zc.size,_,rfl,_,_,_,P,aw.k4<|aw.k4<|aw.cons<|aw.nil,ai.k4 M2 M3 M4 M5<|ai.cons M6<|ai.cons M7<|ai.cons M8<|ai.nil,?_⟩;refine(fV) (fun og UI H8 Q qK=>?_);simp only [CA,NA] at Q;refine OX.jR l5 rfl rfl rfl (As.gs Q.g1) (SR.dd (A:=fun _=>True) (x:=L[i]) (show bQ _ b74 _ _ from Q.ok _ (.tail _ (.tail _ (.tail _ (.tail _ (.tail _ (.tail _ (.tail _ (.tail _ (.tail _ (qK _ (.head _)))))))))))) trivial rfl (by simp [Key.cells,Value.oneCell']) rfl) (by omega) (by omega) (Nat.zero_le _) fun a76 H5 sZ S2 s76 S3 afh=>?_;have fc:=Q.p1.eV s76 S2 S3;refine⟨s76.size,_,rfl,_,_,_,fc,aw.k4<|aw.k4<|aw.cons<|aw.nil,ai.k4 M2 M3 M4 M5<|ai.cons M6<|ai.cons M7<|ai.cons M8<|ai.nil,?_⟩;refine(jv) ?_;intro yg PF ez;simp only [CM,NM,CA,NA,hI.it] at ez;refine WL.go rfl (OX.entryStore (As.gmb ez.g2) rfl rfl rfl fun yh zF zG=>?_);have fj:=ez.p2.VQ zF zG;refine WL.nil (EX.np ?_);have dM:=fj.p3.p3;have fD:=St.acx dM;obtain⟨UR,hL3⟩:∃UR:List RE,UR=⟨x,a76,(en+1),H5,iK K x++[L[i]]⟩::rest K x:=⟨_,rfl⟩;have lL:=fD.rp (B:=As.many (UR.map (RE.as 41))) (by rw [hL3]);have KY:=py.put (x:=x) (v:=.slice ea en ec) (a:=a76) (n:=en+1) (c:=H5) (iK K x++[L[i]]);have N0:=Et (x:=x) (a:=a76) (n:=en+1) (c:=H5) wm (iK K x++[L[i]])
   have aaC:iK UR=qh (iK K) x L[i]:=by rw [hL3];exact Ms
   rw [← hL3] at KY N0;refine(aY) ao lL.b3<|?_;refine WP .r (PV.jK cZ gE B7 (As.gm lL.g6) (BM L2 x) rfl rfl)<|(aR) (fun g81=>?_) fun g81=>?_
   ·
    have V:x∉L2:=by simpa using g81
    refine WC.bN (m:=6) [] [5] [2,3,4,5,0,1] [(4,.sl 41 1 x.cells)] lL (ai.k4 M0 M1 M2 M3<|ai.k4 M4 M6 M7 M8<|ai.nil) mixed (by kernel_rfl) (by kernel_rfl) rfl<|(lx) ao SV.g3<|?_;refine DG.side (s:=.sl 41 1 x.cells) rfl rfl rfl rfl rfl rfl (fun wx Zx Rx qW pB=>OX.aP (us:=x.cells) dz rfl rfl rfl rfl fun b wy nw hb=>⟨nw.ext.size,_,rfl,⟨b,rfl⟩,pB.de nw hb⟩)<|?_;rintro _ ⟨b86,rfl⟩;refine(fV) (fun GK Ia r9 mG jQ=>?_);simp only [CA,NA] at mG;refine OX.jR l5 rfl rfl rfl (As.gs mG.g5) (SR.dd (A:=fun _=>True) (x:=x) (show bQ _ b86 _ _ from mG.ok _ (.tail _ (.tail _ (.tail _ (.tail _ (.tail _ (.tail _ (.tail _ (.tail _ (.tail _ (jQ _ (.head _)))))))))))) trivial rfl (by simp [Key.cells,Value.oneCell']) rfl) (by omega) (by omega) (Nat.zero_le _) fun a87 aiv Ix aiw s87 aix aqT=>?_;have qQ:=mG.p5.eV s87 aiw aix;refine⟨s87.size,_,rfl,_,_,_,qQ,aw.k4<|aw.k4<|aw.cons<|aw.nil,ai.k4 M1 M2 M3 M4<|ai.k4 M5 M6 M7 M8<|ai.nil,?_⟩;refine(lx) ao SV.g3<|(jv)<|?_;intro KQ ak9 qR;simp only [CM,NM,CA,NA,hI.it] at qR;refine WL.go rfl (OX.put cZ gE (As.gm qR.g7) rfl rfl rfl fun N8 S5 S6=>?_);have mF:=qR.p7.jS S5 S6;refine nx ?_;refine WL.nil (EX.np ?_);have pC:=mF.rp (B:=As.map Key.val N5 (lI (L2++[x]))) (by rw [BN _ V]);refine fO ?_;refine ef (q+1,L2++[x],_,UR,a87,(d+1),aiv) ⟨pC.p1.drop.p4.drop.p4.drop.p4.drop.p3.p1.p2,⟨by omega,by rw [aaC];exact Uk.new N YU UD V,KY,N0,by rw [List.getElem?_append_left Uy];exact N,trivial⟩⟩
   have V:x∈L2:=by simpa using g81
   refine ed ?_;refine ef (q+1,L2,_,UR,g,d,o) ⟨lL.p2.drop.p2.drop.p2.drop.p1.p3.p3,⟨by omega,by rw [aaC];exact Uk.qY N YU UD V,KY,N0,N,trivial⟩⟩
  simp at H6
  refine jT ?_;refine ef (i+1,L2,X,K,g,d,o) ⟨Y.p4.drop,⟨by show i+1≤L2.length;omega,Uk.next N (by rw [UQ];omega) (by omega),py,wm,trivial⟩⟩
 simp at g41
 refine fO ?_;have hed:=hF.acz (show L.length≤i by omega)
 have hbl:∀e∈J,e.reads.length≤140737488355328:=fun e he=>by
  have h1:=hF.len e.key
  have h2:i≤4001:=by omega
  rw [JC yB he] at h1
  omega
 refine nx ?_;refine WL.mm Key.val dh fun US w8 aqV aqW cW=>?_;refine(aY) ao cW.b5<|?_;refine WL.go rfl (OX.ins cZ gE (As.gm cW.g0) rfl rfl rfl fun w9 SE SF=>?_);have di:=cW.jS SE SF;refine bY ?_;have Y:=di.rp (B:=As.map Key.val US (lI [k])) (rfl);refine(aY) ao Y.b5<|?_;refine WL.go rfl (OX.aP (us:=k.cells) dz rfl rfl rfl rfl fun YH iN S9 Ta=>?_);have eb:=Y.de S9 Ta;refine bK ?_;have fX:=eb;have eu:=fX.conv (B:=As.os RR.key 41 2 (some ⟨YH,0,none⟩) 1 1 [k]) (OR.dd (As.gb fX.g0) (Nat.zero_le _) rfl (by simp [Key.cells,Value.oneCell']) rfl) (fun x h=>by show x=YH;change x∈aI (some ⟨YH,0,none⟩) at h;simpa [aI] using h);refine gL ?_;have dZ:=eu.p5;have dE:=St.bkF hbl dZ;refine WC.bd (σ:=Nat × (List Key) × (Option Addr) × Nat × Nat) (dj:=fun(j,U,C,u,G)=>[(7,.map (some PY)),(17,.map (some US)),(18,.slice C u G),(19,.int .i64 (j:Int))]) (F:=fun(j,U,C,u,G)=>[As.os RR.key 41 2 C u G (U),As.map Key.val US (lI U)]) (I:=fun(j,U,C,u,G)=>(xT l rev k (iK J) U j 0)∧True) (μ:=fun(j,U,C,u,G)=>4001 - j) (0,[k],(some ⟨YH,0,none⟩),1,1) (dE.p2.p2) Sub.t (⟨xT.start,trivial⟩)<|?_;rintro⟨j,U,C,u,G⟩ iV T ⟨hB,_⟩;simp only [CA,NA] at T hB ⊢;have hun:=((As.gs T.g0)).len;have aqX:=hB.le W;refine(aR) (fun TL=>?_) fun TL=>?_
 ·
  simp at TL
  have hj3:j<U.length:=by omega
  refine db ?_;obtain⟨v1,v2,v3,Fv,QV⟩:=tu.read Yp (As.gf T.g2) U[j];have O:=T.fr (QV);have UA:=((As.gr O.g0)).len;have hbq:=hF.len U[j];obtain⟨Yf,ta⟩:=Ow.addr (As.gs O.g1) (ak hj3);refine cj ?_;refine WP .r (PV.dI ek ta rfl rfl (by omega))<|(aY) ao (Ow.jD (As.gs O.g1) (by omega) ta (ak hj3))<|?_;refine WP .r (PV.jK cZ Kb O1 (As.gm O.g6) (Fv) rfl rfl)<|db ?_;refine WC.bd (σ:=Nat × (List Key) × (Option Addr) × Nat × Nat) (dj:=fun(p,H,C,u,G)=>[(7,.map (some PY)),(17,.map (some US)),(18,.slice C u G),(19,.int .i64 (j:Int)),(105,.slice v1 v2 v3),(106,.int .i64 (v2:Int)),(107,.int .i64 (p:Int))]) (F:=fun(p,H,C,u,G)=>[As.os RR.key 41 2 C u G (H),As.map Key.val US (lI H)]) (I:=fun(p,H,C,u,G)=>(p≤v2)∧(xT l rev k (iK J) H j p)∧(H[j]?=some U[j])∧True) (μ:=fun(p,H,C,u,G)=>v2 - p) (0,U,C,u,G) (O.p2.p2) Sub.t (⟨Nat.zero_le _,hB,ak hj3,trivial⟩)<|?_;rintro⟨p,H,C,u,G⟩ k9 P ⟨hp,OG,Ul,_⟩;simp only [CA,NA] at P hp OG Ul ⊢;have aqY:=((As.gs P.g0)).len;have alb:=OG.le W;have hj4:j<H.length:=(List.getElem?_eq_some_iff.1 Ul).1;refine(aR) (fun Um=>?_) fun Um=>?_
  ·
   simp at Um
   have we:p<(iK J U[j]).length:=by omega
   obtain⟨x,LD⟩:∃x,(iK J U[j])[p]=x:=⟨_,rfl⟩
   have S8:(iK J U[j])[p]?=some x:=by rw [ak we,LD]
   refine db ?_;obtain⟨Y6,aq0,aq1,vP,alc,Li,Qb,aaD⟩:=Rd.at (As.gr P.g2) we;have Li:=RR.a8 Li;subst Li;have Q:=P.fg aaD Qb;rw [LD] at Qb Q;refine nx ?_;refine WP .r (PV.dI ek vP rfl rfl (by omega))<|(aY) ao (As.kH Q.g0)<|(eN) Q fun b21 mM ZR ZS fc=>?_;refine(cF) gQ fc fun pH Pw Px ez=>?_;refine(aY) ao ez.b0<|?_;refine WP .r (PV.jK cZ gE B7 (As.gm ez.g3) (BM H x) rfl rfl)<|(aR) (fun tF=>?_) fun tF=>?_
   ·
    have V:x∉H:=by simpa using tF
    refine WC.bN (m:=6) [] [5] [2,3,4,5,0,1] [(4,.sl 41 1 x.cells)] ez (ai.k4 M0 M1 M3 M4<|ai.k4 M5 M6 M7 M8<|ai.cons M9<|ai.nil) mixed (by kernel_rfl) (by kernel_rfl) rfl<|(lx) ao SV.g0<|?_;refine DG.side (s:=.sl 41 1 x.cells) rfl rfl rfl rfl rfl rfl (fun wx Zx Rx qW pB=>OX.aP (us:=x.cells) dz rfl rfl rfl rfl fun b wy nw hb=>⟨nw.ext.size,_,rfl,⟨b,rfl⟩,pB.de nw hb⟩)<|?_;rintro _ ⟨aiz,rfl⟩;refine(fV) (fun og Ia r9 fj jQ=>?_);simp only [CA,NA] at fj;refine OX.jR l5 rfl rfl rfl (As.gs fj.g2) (SR.dd (A:=fun _=>True) (x:=x) (show bQ _ aiz _ _ from fj.ok _ (.tail _ (.tail _ (.tail _ (.tail _ (.tail _ (.tail _ (.tail _ (.tail _ (.tail _ (.tail _ (jQ _ (.head _))))))))))))) trivial rfl (by simp [Key.cells,Value.oneCell']) rfl) (by omega) (by omega) (Nat.zero_le _) fun aiA aaE sZ aaF aaG aaH ald=>?_;have dM:=fj.p2.eV aaG aaF aaH;refine⟨aaG.size,_,rfl,_,_,_,dM,aw.k4<|aw.k4<|aw.k2<|aw.nil,ai.k4 M1 M2 M3 M4<|ai.k4 M5 M6 M7 M8<|ai.cons M9<|ai.nil,?_⟩;refine(lx) ao SV.g0<|(jv)<|?_;intro yg ale fD;simp only [CM,NM,CA,NA,hI.it] at fD;refine WL.go rfl (OX.put cZ gE (As.gm fD.g4) rfl rfl rfl fun yh aiB aiC=>?_);have lL:=fD.p4.jS aiB aiC;refine nx ?_;refine WL.nil (EX.np ?_);have mG:=lL.rp (B:=As.map Key.val US (lI (H++[x]))) (by rw [BN _ V]);refine fO ?_;refine ef (p+1,H++[x],aiA,(u+1),aaE) ⟨mG.p1.drop.p2.drop.p2.drop.p1,⟨by omega,OG.add hed Ul S8 V,by rw [List.getElem?_append_left hj4];exact Ul,trivial⟩⟩
   have V:x∈H:=by simpa using tF
   refine ed ?_;refine ef (p+1,H,C,u,G) ⟨ez.drop.drop,⟨by omega,OG.has Ul S8 V,Ul,trivial⟩⟩
  simp at Um
  refine jT ?_;refine ef (j+1,H,C,u,G) ⟨P.p2.drop,⟨OG.next Ul (by omega),trivial⟩⟩
 simp at TL
 have aiD:=fun {L'}=>hB.group (L':=L') W hed (show U.length≤j by omega);refine fO ?_;have aiE:=St.fresh T;have O:=T.ba (by omega);refine bK ?_;have P:=O;refine(bX) Wp (v8 P.e0 (As.gr P.g0) (List.ne_nil_of_mem hB.mem) hB.j0 (by omega)) ?_;rintro _ k9 ⟨o1,o2,o3,L9,rfl,hsl,Py,nH⟩;have Q:=St.lr P nH;have hL9:=aiD hsl Py;subst hL9;refine cj ?_;have HY:St w M _ _ [As.os RR.key 41 2 o1 o2 o3 (aB l rev k)]:=(St.wk Q.k1);refine(bs) ?_;exact⟨o1,o2,o3,rfl,HY.unz (fun _ h=>.inl (.inl h)) (Ow.z (As.gs HY.g0))⟩
theorem wU(d:St w M Z w []) (f:bQ w wb 86 (D.wc v rev ra rn rc)) (hm:KM Key.val w D.m ml) (g:dy l lf ml) (h:(As.gq 47 lf l).ok Z w) (i:∀r∈l,cX r.key) (j:l.length≤4000) (o:∀r∈l,r.reads.length≤4000):Calls prog 122 #[.pointer (some ⟨wb,0,none⟩),k.val] w fun e w'=>∃(a:Option Addr) (n c:Nat),e=.returned (.slice a n c)∧St w M Z w' [As.os RR.key 41 2 a n c (aB l rev k)]:=by
 refine enter func122 rfl ntmps122 rfl<|?_;have aO:=St.rb d;refine(dq) aO fun b2 w1 z A st1=>?_;refine(dq) st1 fun b3 w2 B C st2=>?_;refine(aY) ao st2.b0<|?_;refine WP .r (PV.func (us:=[]) (vs:=[.pointer (some ⟨b2,0,none⟩)]) rfl rfl)<|?_;have b:=st2;refine(bX) Xs (Av (k:=k) b.e0 Xt (fun w1 h1 y=>FR (bQ.ext (As.gb b.g1) h1) (f.ext (aS.trans (St.cg b) h1)) (hm.ext (aS.trans (St.cg b) h1)) g (As.exc h (aS.trans (St.cg b) h1)) i y) j o) ?_;rintro _ w3 ⟨p,q,s,rfl,t⟩;have u:=St.lr b t;refine(bs) ?_;exact⟨p,q,s,rfl,(St.wk u.p1.drop.p1.drop)⟩
theorem vO{group:List Key}{o:Option Addr}{g eg:Nat}{A:Nat→Prop}(U:St w M Z w []) (V:bQ w wb 86 (D.wc v rev ra rn rc)) (hm:KM Key.val w D.m ml) (W:dy l lf ml) (C:(As.gq 47 lf l).ok Z w) (z:Rd RR.key 2 A w o g eg group) (X:∀m∈group,∃r,az l m=some r) (hb:∀i,((group.take i).flatMap fun m=>cY group m (aC l m).reads).length≤100000000):Calls prog 123 #[.pointer (some ⟨wb,0,none⟩),.slice o g eg] w fun e w'=>∃(a:Option Addr) (n c:Nat),e=.returned (.slice a n c)∧St w M Z w' [As.os RR.Ds 167 4 a n c (bT l group)]:=by
 have hlen:=z.len;have hle:=z.le;refine enter func123 rfl ntmps123 rfl<|?_;have aO:=St.rb U;have st1:=aO.dp RR.Ds 167 4;refine aX ?_;refine ed ?_;refine WC.bd (σ:=Nat × (List od) × (Option Addr) × Nat × Nat) (dj:=fun(i,acc,d,b,f)=>[(0,.pointer (some ⟨wb,0,none⟩)),(1,.slice o g eg),(5,.slice d b f),(11,.slice o g eg),(12,.int .i64 (g:Int)),(13,.int .i64 (i:Int))]) (F:=fun(i,acc,d,b,f)=>[As.os RR.Ds 167 4 d b f (acc)]) (I:=fun(i,acc,d,b,f)=>(i≤g)∧(acc=(group.take i).flatMap fun m=>cY group m (aC l m).reads)∧True) (μ:=fun(i,acc,d,b,f)=>g - i) (0,[],none,0,0) (st1) Sub.t (⟨by omega,by simp,trivial⟩)<|?_;rintro⟨i,acc,d,b,f⟩ w1 st2 ⟨hi,p,_⟩;simp only [CA,NA] at st2 hi p ⊢;refine(aR) (fun g14=>?_) fun g14=>?_
 ·
  simp at g14
  have E:i<group.length:=by omega
  refine db ?_;obtain⟨gH,kz,jY,Y,gG,G,et,eI⟩:=Rd.at z E;have G:=RR.a8 G;subst G;refine nx ?_;refine WP .r (PV.dI ek Y rfl rfl (by omega))<|(aY) ao (aW et (St.cg st2) (by simp))<|(eN) st2 fun b7 w2 Pn Po iT=>?_;refine(cF) gQ iT fun w3 jO jZ O=>?_;refine bY ?_;obtain⟨r,hr⟩:=X _ (List.getElem_mem E);have hro:aC l group[i]=r:=aQ hr;have P:=(C.1 _ _ hr).2.1;have It:=(C.1 _ _ hr).2.2;have Q:=O.fr (P.ext (St.cg O));have X5:=P.len;have hN5:=Q.bL;refine WC.dS (m:=5) Q mixed<|bY ?_;refine DP .r (fun _ hC=>V1 fT (bQ.range (V.ext (St.cg hC.2))) .r)<|(gI) ao St.g1<|(cP)<|?_;rintro w4 ⟨vM,H⟩ _;refine WP .r (PV.bG cZ fU fi (hm.ext (St.cg H)) (W.yes hr) rfl rfl)<|(aR) (fun g24=>?_) fun g24=>?_
  ·
   exact dm g24
  refine(aZ) dC (bQ.range ((C.1 _ _ hr).1.ext (St.cg H)))<|db ?_;refine WC.bd (σ:=Nat × (List od) × (Option Addr) × Nat × Nat) (dj:=fun(j,h,d,b,f)=>[(0,.pointer (some ⟨wb,0,none⟩)),(1,.slice o g eg),(5,.slice d b f),(7,.pointer (some ⟨b7,0,none⟩)),(11,.slice o g eg),(12,.int .i64 (g:Int)),(13,.int .i64 (i:Int)),(28,.slice (lf group[i]).a (lf group[i]).n (lf group[i]).c),(29,.int .i64 ((lf group[i]).n:Int)),(30,.int .i64 (j:Int))]) (F:=fun(j,h,d,b,f)=>[As.os RR.Ds 167 4 d b f (h)]) (I:=fun(j,h,d,b,f)=>(j≤(lf group[i]).n)∧(h=acc++cY group group[i] (r.reads.take j))∧True) (μ:=fun(j,h,d,b,f)=>(lf group[i]).n - j) (0,acc,d,b,f) (H.p2) Sub.t (⟨by omega,by simp [cY],trivial⟩)<|?_;rintro⟨j,h,d,b,f⟩ w5 q ⟨hj,s,_⟩;simp only [CA,NA] at q hj s ⊢;have qU:=((As.gs q.g0)).len;have Iu:=hb i;rw [← p] at Iu;have Kt:=jU group group[i] (r.reads.take j)
  have htl:h.length≤100100000:=by rw [s,List.length_append];rw [List.length_take] at Kt;omega
  refine(aR) (fun J=>?_) fun J=>?_
  ·
   simp at J
   have K:j<r.reads.length:=by omega
   refine db ?_;obtain⟨rW,Fc,Cl,jP,sY,L,kN,lK⟩:=Rd.at (As.gr q.g1) K;have L:=RR.a8 L;subst L;have R:=q.fg lK kN;refine nx ?_;refine WP .r (PV.dI ek jP rfl rfl (by omega))<|(aY) ao (As.kH R.g0)<|(eN) R fun PC w6 Fo Fp iE=>?_;refine(cF) gQ iE fun w7 qV mi N=>?_;refine(aY) ao N.b0<|(eS) (r6 (k:=r.reads[j]) (z.ext (St.cg N))) N fun w8 s8 B=>?_;refine(aR) (fun u=>?_) fun u=>?_
   ·
    simp at u
    have y:=jk (group:=group) (m:=group[i]) K;rw [if_neg u] at y;refine(aY) ao B.b4<|(aY) ao B.b0<|?_;refine WP .r (PV.bz (us:=(od.mk group[i] r.reads[j]).cells) OQ rfl rfl rfl)<|?_;refine WL.go rfl (OX.aP (us:=(od.mk group[i] r.reads[j]).cells) Gx rfl rfl rfl rfl fun b42 w9 aiF aiG=>?_);have T:=B.de aiF aiG;refine WL.ap rfl rfl T.p3 (SR.dd (A:=fun _=>True) (x:=od.mk group[i] r.reads[j]) (As.gb T.g0) trivial rfl (by simp [od.cells,Value.oneCell']) rfl) fun a43 aiH iN aq7 aq8 di=>?_;refine gL ?_;refine ef (j+1,_,a43,(b+1),aiH) ⟨di.p5.p5.p2.k3,⟨by omega,by rw [y,s,List.append_assoc],trivial⟩⟩
   simp at u
   have y:=jk (group:=group) (m:=group[i]) K;rw [if_pos u] at y;refine ed ?_;refine ef (j+1,_,d,b,f) ⟨B.drop.drop,⟨by omega,by rw [y,s],trivial⟩⟩
  simp at J
  have aaI:r.reads.take j=r.reads:=List.take_of_length_le (by omega);refine ju ?_;refine ef (i+1,h,d,b,f) ⟨q.p1.drop.p1.drop,⟨by omega,by rw [s,aaI,p,List.take_succ_eq_append_getElem E];simp only [List.flatMap_append,List.flatMap_cons,List.flatMap_nil,List.append_nil,hro],trivial⟩⟩
 simp at g14
 have aaJ:group.take i=group:=List.take_of_length_le (by omega);rw [aaJ] at p;subst p;refine(bs) ?_;exact⟨_,_,_,rfl,(St.wk st2)⟩
theorem Aw(hi:Rd RR.aD 4 Z w a1 n1 e1 x.ab):CR prog 215 #[.agg (x.row a1 n1 e1 a2 n2 e2).toArray,k.val] w (.int .i64 (bw x.ab k).changed):=by
 refine enter func215 rfl ntmps215 rfl<|?_;have aO:=St.s0 w;refine(dq) aO fun b2 w1 d e st1=>?_;refine(dq) st1 fun b3 w2 g h st2=>?_;refine(aY) aL st2.b1<|(aY) ao st2.b0<|(bX) R6 (ma (k:=k) (hi.ext (St.cg st2))) ?_;rintro _ w3 ⟨y,rfl,_,a,b⟩;have c:=st2.step b;refine WP .r (PV.um (fs:=[_,_,_]) (f:=2) (off:=3) (T:=88) underlying88 rfl rfl (show ∀w,(isAgg 3).run _ w=.ok false w from isAgg3) rfl rfl)<|(bs) ?_;exact⟨by rw [← a],(St.cg c)⟩
theorem Ax{r:Rec}(g:St w M Z w [As.map Key.val S.m ml,As.map Key.val S.q [],As.blk wb 86 (D.wc S.s rev ra rn rc),As.map Key.val D.m eK,As.gq 47 lf l]) (h:(S.FV prog aa x0).p Z w) (i:Rd RR.aD 4 Z w D.a1 D.n1 D.c1 x0.ab) (hm:aU aa x0.ab ml) (j:dy l lf eK) (y:aq aa) (z:∀k,(valOf aa x0.ab k).size≤1000) (eJ:ay k=true) (n:az l k=none):Calls prog 162 #[.pointer (some ⟨wb,0,none⟩),k.val] w fun e w'=>∃a,e=.returned (.int .i64 (aV (valOf aa x0.ab) ⟨rev,x0.ab,l⟩ k))∧aU aa x0.ab a∧fW ml a∧St w M Z w' [As.map Key.val S.m a,As.map Key.val S.q [],As.blk wb 86 (D.wc S.s rev ra rn rc),As.map Key.val D.m eK,As.gq 47 lf l]:=by
 refine enter func162 rfl ntmps162 rfl<|?_;have aO:=g;have st1:=aO.fr i;have st2:=st1.fact (B:=As.fz (S.FV prog aa x0)) h (fun _ o=>o);refine(dq) st2 fun b3 w1 A C c=>?_;refine cj ?_;have E:=c.bL;refine WC.dS (m:=5) c mixed<|(il) fT St.g5<|(gI) ao St.g0<|(cP)<|?_;rintro w2 ⟨F,b⟩ _;refine WP .r (PV.jK cZ fU fi (As.gm b.g6) (j.no n) rfl rfl)<|(aY) ao b.b0<|?_;refine WL.c1 (u:=.bool true) (cM (k:=k)) (by rw [eJ]) b fun w3 G d=>?_;refine bY ?_;refine WC.oo rfl<|nx ?_;have H:=d.bL;refine WC.dS (m:=5) d mixed<|(tr) aL St.g5<|(gI) ao St.g0<|(cP)<|?_;rintro w4 ⟨I,f⟩ _;refine(eS) (Aw (x:=⟨rev,x0.ab,l⟩) (k:=k) (a2:=D.a2) (n2:=D.n2) (e2:=D.c2) (As.gr f.g2)) f fun w5 J t=>?_;refine(bs) ?_;exact⟨ml,by rw [QX eJ],hm,fW.refl _,t.drop.drop.drop⟩
theorem Ay{r:Rec}(g:St w M Z w [As.map Key.val S.m ml,As.map Key.val S.q [],As.blk wb 86 (D.wc S.s rev ra rn rc),As.map Key.val D.m eK,As.gq 47 lf l]) (h:(S.FV prog aa x0).p Z w) (i:Rd RR.aD 4 Z w D.a1 D.n1 D.c1 x0.ab) (hm:aU aa x0.ab ml) (n:dy l lf eK) (t:aq aa) (y:∀k,(valOf aa x0.ab k).size≤1000) (eJ:ay k=false) (c:az l k=none):Calls prog 162 #[.pointer (some ⟨wb,0,none⟩),k.val] w fun e w'=>∃a,e=.returned (.int .i64 (aV (valOf aa x0.ab) ⟨rev,x0.ab,l⟩ k))∧aU aa x0.ab a∧fW ml a∧St w M Z w' [As.map Key.val S.m a,As.map Key.val S.q [],As.blk wb 86 (D.wc S.s rev ra rn rc),As.map Key.val D.m eK,As.gq 47 lf l]:=by
 refine enter func162 rfl ntmps162 rfl<|?_;have aO:=g;have st1:=aO.fr i;have st2:=st1.fact (B:=As.fz (S.FV prog aa x0)) h (fun _ o=>o);refine(dq) st2 fun b3 w1 z A d=>?_;refine cj ?_;have C:=d.bL;refine WC.dS (m:=5) d mixed<|(il) fT St.g5<|(gI) ao St.g0<|(cP)<|?_;rintro w2 ⟨E,b⟩ _;refine WP .r (PV.jK cZ fU fi (As.gm b.g6) (n.no c) rfl rfl)<|(aY) ao b.b0<|?_;refine WL.c1 (u:=.bool false) (cM (k:=k)) (by rw [eJ]) b fun w3 F f=>?_;refine bY ?_;refine WC.eA rfl<|(aR) (fun g21=>?_) fun g21=>?_
 ·
  refine fO ?_;refine WP .r (PV.ld1 (j:=1) aN f.b5 rfl rfl)<|(bs) ?_;exact⟨ml,by rw [QY eJ c],hm,fW.refl _,f.drop.drop.drop⟩
 exact dm g21
theorem Az(n:St w M Z w [As.map Key.val S.m ml,As.map Key.val S.q [],As.blk wb 86 (D.wc S.s rev ra rn rc),As.map Key.val D.m eK,As.gq 47 lf l]) (o:(S.FV prog aa x0).p Z w) (t:Rd RR.aD 4 Z w D.a1 D.n1 D.c1 x0.ab) (hm:aU aa x0.ab ml) (y:dy l lf eK) (A:aq aa) (C:∀k,(valOf aa x0.ab k).size≤1000) (eJ:ay k=false) (a:az l k=some r) (f:r.av=rev):Calls prog 162 #[.pointer (some ⟨wb,0,none⟩),k.val] w fun e w'=>∃c,e=.returned (.int .i64 (aV (valOf aa x0.ab) ⟨rev,x0.ab,l⟩ k))∧aU aa x0.ab c∧fW ml c∧St w M Z w' [As.map Key.val S.m c,As.map Key.val S.q [],As.blk wb 86 (D.wc S.s rev ra rn rc),As.map Key.val D.m eK,As.gq 47 lf l]:=by
 refine enter func162 rfl ntmps162 rfl<|?_;have aO:=n;have st1:=aO.fr t;have st2:=st1.fact (B:=As.fz (S.FV prog aa x0)) o (fun _ z=>z);refine(dq) st2 fun b3 w1 E F g=>?_;refine cj ?_;have G:=g.bL;refine WC.dS (m:=5) g mixed<|(il) fT St.g5<|(gI) ao St.g0<|(cP)<|?_;rintro w2 ⟨H,d⟩ _;refine WP .r (PV.bG cZ fU fi (As.gm d.g6) (y.yes a) rfl rfl)<|(aY) ao d.b0<|?_;refine WL.c1 (u:=.bool false) (cM (k:=k)) (by rw [eJ]) d fun w3 I h=>?_;refine bY ?_;refine WC.eA rfl<|(aR) (fun g21=>?_) fun g21=>?_
 ·
  exact dm g21
 refine nx ?_;have J:=h.bL;refine WC.dS (m:=21) h mixed<|bY ?_;refine DP .r (fun _ b=>V1 aN (bQ.range ((As.sH b.2.g7).1 _ _ a).1) .r)<|cj ?_;refine DP .r (fun _ b=>PV.ld1 (j:=1) aN (bQ.range (As.gb b.2.g5)) rfl rfl)<|DP .r (fun _ b=>(PV.ID rfl rfl).cast (v':=.bool true) (congrArg Value.bool (decide_eq_true f)))<|(cP) ?_;rintro w4 ⟨K,i⟩ _;refine db ?_;refine WC.oo rfl<|(aZ) aN (bQ.range ((As.sH i.g7).1 _ _ a).1)<|(bs) ?_;exact⟨ml,by rw [QZ eJ a f],hm,fW.refl _,i.drop.drop.drop⟩
theorem AA(H:St w M Z w [As.map Key.val S.m ml,As.map Key.val S.q [],As.blk wb 86 (D.wc S.s rev ra rn rc),As.map Key.val D.m eK,As.gq 47 lf l]) (I:(S.FV prog aa x0).p Z w) (J:Rd RR.aD 4 Z w D.a1 D.n1 D.c1 x0.ab) (hm:aU aa x0.ab ml) (K:dy l lf eK) (L:aq aa) (N:∀k,(valOf aa x0.ab k).size≤1000) (eJ:ay k=false) (b:az l k=some r) (h:¬r.av=rev) (hk:eG aa k):Calls prog 162 #[.pointer (some ⟨wb,0,none⟩),k.val] w fun e w'=>∃i,e=.returned (.int .i64 (aV (valOf aa x0.ab) ⟨rev,x0.ab,l⟩ k))∧aU aa x0.ab i∧fW ml i∧St w M Z w' [As.map Key.val S.m i,As.map Key.val S.q [],As.blk wb 86 (D.wc S.s rev ra rn rc),As.map Key.val D.m eK,As.gq 47 lf l]:=by
 refine enter func162 rfl ntmps162 rfl<|?_;have aO:=H;have st1:=aO.fr J;have st2:=st1.fact (B:=As.fz (S.FV prog aa x0)) I (fun _ O=>O);refine(dq) st2 fun b3 w1 R T A=>?_;refine cj ?_;have U:=A.bL;refine WC.dS (m:=5) A mixed<|(il) fT St.g5<|(gI) ao St.g0<|(cP)<|?_;rintro w2 ⟨V,n⟩ _;refine WP .r (PV.bG cZ fU fi (As.gm n.g6) (K.yes b) rfl rfl)<|(aY) ao n.b0<|?_;refine WL.c1 (u:=.bool false) (cM (k:=k)) (by rw [eJ]) n fun w3 W P=>?_;refine bY ?_;refine WC.eA rfl<|(aR) (fun g21=>?_) fun g21=>?_
 ·
  exact dm g21
 refine nx ?_;refine WC.bN (m:=21) [] [16] [0,1,2,3,4,5,6,7,8,9,10,11,12,13,14,15,16,17,18,19,20] [] P (ai.k4 M0 M1 M2 M5<|ai.cons M6<|ai.cons M7<|ai.nil) mixed (by kernel_rfl) (by kernel_rfl) rfl<|?_
 iterate 3 refine DG.a ?_
 refine DQ .r (fun o t y _ c d=>V1 aN (bQ.range ((As.sH (c.sv d).g5).1 _ _ b).1) .r)<|?_
 iterate 4 refine DG.a ?_
 refine DQ .r (fun o t y _ c d=>PV.ld1 (j:=1) aN (bQ.range (As.gb (c.sv d).g3)) rfl rfl)<|DQ .r (fun o t y _ c d=>(PV.ID rfl rfl).cast (v':=.bool false) (congrArg Value.bool (decide_eq_false h)))<|?_
 iterate 4 refine DG.a ?_
 refine(oc) x7 SV.g3<|(lx) ao SV.g0<|(fV) (fun w4 X Y C aiI=>?_);simp only [CA,NA] at C;have z:=C.p4.p4;refine OX.call GF rfl rfl ((KT L N hk _ _ _ _ _ z.e2 (As.gf z.g3) hm (fun _=>lH.nil _)).mono ?_);rintro _ w5 ⟨eO,rfl,E,F,G⟩;have Q:=St.lr z G;refine⟨_,rfl,G.bV.size,_,rfl,_,_,_,Q,aw.k4<|aw.k4<|aw.nil,ai.k4 M2 M3 M4 M5<|ai.cons M6<|ai.cons M7<|ai.nil,?_⟩
 iterate 3 refine DG.a ?_
 refine DQ .r (fun o t y _ c d=>V1 fh (bQ.range ((As.sH (c.sv d).g5).1 _ _ b).1) .r)<|(jv)<|?_;intro w6 qD f;simp only [CM,NM,CA,NA,hI.it] at f;refine bY ?_;refine WL.nil (EX.np ?_);refine(aR) (fun g=>?_) fun g=>?_
 ·
  simp at g
  refine(aZ) aN (bQ.range ((As.sH f.g7).1 _ _ b).1)<|(bs) ?_;exact⟨eO,by rw [Gp eJ b h,if_pos g],E,F,f.p2.drop.p2.drop.p2.drop⟩
 simp at g
 refine kI ?_;refine WP .r (PV.ld1 (j:=1) aN f.b5 rfl rfl)<|(bs) ?_;exact⟨eO,by rw [Gp eJ b h,if_neg g],E,F,f.p2.drop.p2.drop.p2.drop⟩
theorem Dm(a:St w M Z w [As.map Key.val S.m ml,As.map Key.val S.q [],As.blk wb 86 (D.wc S.s rev ra rn rc),As.map Key.val D.m eK,As.gq 47 lf l]) (b:(S.FV prog aa x0).p Z w) (c:Rd RR.aD 4 Z w D.a1 D.n1 D.c1 x0.ab) (hm:aU aa x0.ab ml) (d:dy l lf eK) (f:aq aa) (g:∀k,(valOf aa x0.ab k).size≤1000) (hk:eG aa k) (n:KR aa l):Calls prog 162 #[.pointer (some ⟨wb,0,none⟩),k.val] w fun e w'=>∃h,e=.returned (.int .i64 (aV (valOf aa x0.ab) ⟨rev,x0.ab,l⟩ k))∧aU aa x0.ab h∧fW ml h∧St w M Z w' [As.map Key.val S.m h,As.map Key.val S.q [],As.blk wb 86 (D.wc S.s rev ra rn rc),As.map Key.val D.m eK,As.gq 47 lf l]:=by
 cases eJ:ay k with
 | true=>exact Ax (r:=mW) a b c hm d f g eJ (n.aD eJ)
 | false=>
  cases i:az l k with
  | none=>exact Ay (r:=mW) a b c hm d f g eJ i
  | some r=>
   by_cases j:r.av=rev
   ·
    exact Az a b c hm d f g eJ i j
   exact AA a b c hm d f g eJ i j hk
theorem zZ{c:od}(t:St w M Z w [As.map Key.val S.m ml,As.map Key.val S.q [],As.blk wb 86 (D.wc S.s rev ra rn rc),As.map Key.val D.m eK,As.gq 47 lf l]) (u:(S.FV prog aa x0).p Z w) (y:Rd RR.aD 4 Z w D.a1 D.n1 D.c1 x0.ab) (hm:aU aa x0.ab ml) (i:dy l lf eK) (z:aq aa) (A:∀k,(valOf aa x0.ab k).size≤1000) (hk:eG aa c.read) (C:KR aa l) (d:az l c.dP=some r):Calls prog 124 #[.pointer (some ⟨wb,0,none⟩),.agg c.cells.toArray] w fun e w'=>∃f,e=.returned (.bool (JD (valOf aa x0.ab) ⟨rev,x0.ab,l⟩ c))∧aU aa x0.ab f∧fW ml f∧St w M Z w' [As.map Key.val S.m f,As.map Key.val S.q [],As.blk wb 86 (D.wc S.s rev ra rn rc),As.map Key.val D.m eK,As.gq 47 lf l]:=by
 refine enter func124 rfl ntmps124 rfl<|?_;have aO:=t;have st1:=aO.fr y;have st2:=st1.fact (B:=As.fz (S.FV prog aa x0)) u (fun _ E=>E);refine(dq) st2 fun b3 w1 N O F=>?_;refine cj ?_;refine WC.bN (m:=14) [] [3] [0,1,2,3,4,5,6,7,8,9,10,11,12,13] [] F (ai.k4 M7 M6 M5 M2<|ai.cons M1<|ai.cons M0<|ai.nil) mixed (by kernel_rfl) (by kernel_rfl) rfl<|?_
 iterate 2 refine DG.a ?_
 refine(yF) ao SV.g5<|(fV) (fun w2 P Q j R=>?_);simp only [CA,NA] at j;have b:=j.p7.p7.p7.p7.p7;refine OX.call Xw rfl rfl ((Dm (k:=c.read) b.e5 (As.gf b.g6) (As.gr b.g7) hm i z A hk C).mono ?_);rintro _ w3 ⟨eO,rfl,G,H,n⟩;have I:=St.lr b n;refine⟨_,rfl,n.bV.size,_,rfl,_,_,_,I,aw.k4<|aw.k4<|aw.nil,ai.k4 M4 M3 M2 M7<|ai.cons M6<|ai.cons M5<|ai.nil,?_⟩
 iterate 3 refine DG.a ?_
 refine(oc) fT SV.g2<|(yF) ao SV.g5<|?_;refine DQ .r (fun J K L _ g h=>PV.bG cZ fU fi (As.gm (g.sv h).g1) (i.yes d) rfl rfl)<|?_
 iterate 2 refine DG.a ?_
 refine DQ .r (fun J K L _ g h=>V1 aN (bQ.range ((As.sH (g.sv h).g0).1 _ _ d).1) .r)<|(jv)<|?_;intro w4 T o;simp only [CM,NM,CA,NA,hI.it] at o;refine bK ?_;refine WL.nil (EX.np ?_);refine(bs) ?_;exact⟨eO,by unfold JD;rw [aQ d],G,H,o.p5.drop.p5.drop.p5.drop⟩
theorem Dn{Z:Nat→Prop}(b:bQ w wb 86 (D.wc v rev ra rn rc)) (hm:KM Key.val w D.m ml) (c:dy l lf ml) (d:az l k=none) (eJ:ay k=true):CR prog 118 #[.pointer (some ⟨wb,0,none⟩),k.val] w (.bool true):=by
 refine enter func118 rfl ntmps118 rfl<|?_;have aO:=St.s0 w;refine(dq) aO fun b3 w1 f g st1=>?_;refine cj ?_;have i:=st1.bL;refine WC.dS (m:=5) st1 mixed<|bY ?_;refine DP .r (fun _ a=>V1 fT (bQ.range (b.ext (St.cg a.2))) .r)<|(gI) ao St.g0<|(cP)<|?_;rintro w2 ⟨j,st2⟩ _;refine WP .r (PV.jK cZ fU fi (hm.ext (St.cg st2)) (c.no d) rfl rfl)<|cj ?_;have n:=st2.bL;refine WC.dB (m:=15) (E:=cA [(1,fun v _=>v=.bool true)]) st2 (bj (⟨fun _ _ _ _ _ _ _ h=>h,trivial⟩)) mixed (by kernel_rfl)<|(gI) ao St.g0<|?_;refine DW.c1 (u:=.bool true) (fun o a p=>cM (k:=k)) (by rw [eJ])<|?_;refine aX ?_;refine(cP) ?_;rintro w3 ⟨q,e⟩ ⟨_,_⟩;refine(bs) ?_;exact⟨rfl,(St.cg e)⟩
theorem Dp{Z:Nat→Prop}(b:bQ w wb 86 (D.wc v rev ra rn rc)) (hm:KM Key.val w D.m ml) (c:dy l lf ml) (d:az l k=none) (eJ:ay k=false):CR prog 118 #[.pointer (some ⟨wb,0,none⟩),k.val] w (.bool false):=by
 refine enter func118 rfl ntmps118 rfl<|?_;have aO:=St.s0 w;refine(dq) aO fun b3 w1 f g st1=>?_;refine cj ?_;have i:=st1.bL;refine WC.dS (m:=5) st1 mixed<|bY ?_;refine DP .r (fun _ a=>V1 fT (bQ.range (b.ext (St.cg a.2))) .r)<|(gI) ao St.g0<|(cP)<|?_;rintro w2 ⟨j,st2⟩ _;refine WP .r (PV.jK cZ fU fi (hm.ext (St.cg st2)) (c.no d) rfl rfl)<|cj ?_;have n:=st2.bL;refine WC.dB (m:=15) (E:=cA [(1,fun v _=>v=.bool false)]) st2 (bj (⟨fun _ _ _ _ _ _ _ h=>h,trivial⟩)) mixed (by kernel_rfl)<|(gI) ao St.g0<|?_;refine DW.c1 (u:=.bool false) (fun o a p=>cM (k:=k)) (by rw [eJ])<|cj ?_;refine DW.cI (t:=17) rfl (fun g17=>?_) (fun g17=>?_)
 ·
  exact dm g17
 refine(cP) ?_;rintro w3 ⟨q,e⟩ ⟨_,_⟩;refine(bs) ?_;exact⟨rfl,(St.cg e)⟩
theorem Dq(b:bQ w wb 86 (D.wc v rev ra rn rc)) (hm:KM Key.val w D.m ml) (d:dy l lf ml) {r:Rec}(e:(As.gq 47 lf l).ok Z w) (c:az l k=some r) (eJ:ay k=false):CR prog 118 #[.pointer (some ⟨wb,0,none⟩),k.val] w (.bool (decide (r.av=rev))):=by
 refine enter func118 rfl ntmps118 rfl<|?_;have aO:=St.s0 w;refine(dq) aO fun b3 w1 g i st1=>?_;refine cj ?_;have n:=st1.bL;refine WC.dS (m:=5) st1 mixed<|bY ?_;refine DP .r (fun _ a=>V1 fT (bQ.range (b.ext (St.cg a.2))) .r)<|(gI) ao St.g0<|(cP)<|?_;rintro w2 ⟨o,st2⟩ _;refine WP .r (PV.bG cZ fU fi (hm.ext (St.cg st2)) (d.yes c) rfl rfl)<|cj ?_;have p:=st2.bL;refine WC.dB (m:=15) (E:=cA [(1,fun v _=>v=.bool false)]) st2 (bj (⟨fun _ _ _ _ _ _ _ h=>h,trivial⟩)) mixed (by kernel_rfl)<|(gI) ao St.g0<|?_;refine DW.c1 (u:=.bool false) (fun q a s=>cM (k:=k)) (by rw [eJ])<|cj ?_;refine DW.cI (t:=17) rfl (fun g17=>?_) (fun g17=>?_)
 ·
  refine bY ?_;refine DP .r (fun _ a=>V1 aN (bQ.range ((e.1 _ _ c).1.ext (St.cg a.2))) .r)<|cj ?_;refine DP .r (fun _ a=>PV.ld1 (j:=1) aN (bQ.range (b.ext (St.cg a.2))) rfl rfl)<|(cP)<|?_;rintro w3 ⟨y,f⟩ ⟨_,_⟩;refine(bs) ?_;exact⟨rfl,(St.cg f)⟩
 exact dm g17
theorem FC{aD:List cv}(b:bQ w wb 86 (D.wc v rev ra rn rc)) (hm:KM Key.val w D.m ml) (c:dy l lf ml) (d:(As.gq 47 lf l).ok Z w) (f:KR aa l):CR prog 118 #[.pointer (some ⟨wb,0,none⟩),k.val] w (.bool (ay k || aA ⟨rev,aD,l⟩ k)):=by
 cases eJ:ay k with
 | true=>exact Dn (Z:=Z) b hm c (f.aD eJ) eJ
 | false=>
  cases a:az l k with
  | none=>
   have e:aA ⟨rev,aD,l⟩ k=false:=by unfold aA;rw [show(cy.mk rev aD l).ah=l from rfl,a];rfl
   rw [e];exact Dp (Z:=Z) b hm c a eJ
  | some r=>
   have e:aA ⟨rev,aD,l⟩ k=decide (r.av=rev):=by unfold aA;rw [show(cy.mk rev aD l).ah=l from rfl,a,aQ a];rfl
   rw [e];exact Dq b hm c d a eJ
set_option maxHeartbeats 1600000 in
theorem Ah{ar:Option Addr}{r cr:Nat}(gk:St w M Z w []) (ht:lq prog Z w) (hu:Rd RR.eT 4 Z w ar r cr aa) (Ob:Rd RR.aD 4 Z w a1 n1 e1 x.ab) (hr:Rd RR.dV 8 Z w a2 n2 e2 x.ah) (h6:x.ah.length≤4000) (h7:x.ab.length≤4000) (hS:pG x.ah):Calls prog 32 #[.slice ar r cr,.agg (x.row a1 n1 e1 a2 n2 e2).toArray] w fun e w'=>∃(D:WD) (S:SD) (wb:Nat) (lf:Key→RL) (ml:List (Key × Value)) (Z':Nat→Prop),e=.returned (.pointer (some ⟨wb,0,none⟩))∧dy x.ah lf ml∧bH w.heap.size Z Z'∧(S.FV prog aa x).p Z' w'∧Rd RR.aD 4 Z' w' D.a1 D.n1 D.c1 x.ab∧Rd RR.eT 4 Z' w' D.ar D.r D.cr aa∧St w M Z' w' [As.map Key.val S.m [],As.map Key.val S.q [],As.blk wb 86 (D.wc S.s x.ad none 0 0),As.map Key.val D.m ml,As.gq 47 lf x.ah]:=by
 refine enter func32 rfl ntmps32 rfl<|?_;have aO:=gk;have st1:=aO.fr hu;have st2:=st1.fr Ob;have iT:=st2.fr hr;have ik:=iT.fact (B:=As.fz (FZ.Ij prog)) ht (fun _ z=>z);refine(dq) ik fun b3 w1 HO wE iY=>?_;refine cj ?_;refine WC.bN (m:=7) [] [2,6] [1,2,4,5,6,0,3] [(3,.map)] iY (ai.k4 M0 M1 M2 M3<|ai.cons M4<|ai.nil) mixed (by kernel_rfl) (by kernel_rfl) rfl<|(lx) aL SV.g0<|(fV) (fun w2 PK CL J tj=>?_);simp only [CA,NA] at J;have f:=J;refine OX.call ade rfl rfl ((vG (x:=x) f.e0 (As.gr f.g3) (As.gr f.g2) (by omega) (by omega)).mono ?_);rintro _ w3 ⟨f1,f2,f3,f4,f5,f6,Z1,rfl,K,g⟩;have A:=St.lv f g K;have Fu:=St.bM g.p1;have Ft:=St.bM g;have n:=f.size;have wg:=K.le n;have Eo:f5=x.ah.length:=((As.gs A.g1)).len;have aq9:f2=x.ab.length:=((As.gs A.g0)).len;have iE:=A.p1.ba (by omega);have eD:=iE.p1.ba (by omega);have mx:=(wg.trans (bH.dA (F:=fun x=>x∈aI f4) Fu) n).trans (bH.dA (F:=fun x=>x∈aI f1) Ft) n;refine⟨_,rfl,g.bV.size,_,rfl,_,_,_,eD,aw.k4<|aw.k2<|aw.cons<|aw.nil,ai.k4 M2 M3 M4 M5<|ai.cons M6<|ai.nil,?_⟩;refine(lx) aL SV.g0<|(fV) (fun w4 Tk Fy L oK=>?_);simp only [CA,NA] at L;have C:=L;refine OX.call adF rfl rfl ((CE (x:=x) C.e0).mono ?_);rintro _ w5 ⟨d1,d2,d3,rfl,E⟩;have di:=St.lr C E;have hgv:=St.bM E;have aiJ:=C.size;have c:=di;have eb:=c.freeze (B:=As.fz (SD.FV (⟨ar,a1,a2,r,cr,n1,e1,n2,e2,d2,d3,d1⟩:SD) prog aa x)) ⟨(SD.F (⟨ar,a1,a2,r,cr,n1,e1,n2,e2,d2,d3,d1⟩:SD) prog aa x).mono (fun _ h=>.inl h) ⟨(As.gr c.g9),(As.gr c.g8),(As.gr c.g7),(As.gf c.g6)⟩,.inr rfl,((As.gb c.g0)).lt,bQ.range (As.gb c.g0)⟩ (fun _ z=>z);have mN:=mx.trans (bH.dA (F:=fun x=>x=d1) hgv) aiJ;refine⟨_,rfl,E.bV.size,_,rfl,_,_,_,eb,aw.k4<|aw.k4<|aw.k2<|aw.nil,ai.k4 M5 M6 M7 M8<|ai.cons M9<|ai.nil,?_⟩;refine DG.a<|?_;refine DG.side (s:=.map) rfl rfl rfl rfl rfl rfl (fun wx Zx Rx qW pB=>OX.makeMap Key.val rfl fun b wy N hb=>⟨N.ext.size,_,rfl,⟨b,rfl⟩,pB.LZ N hb⟩)<|?_;rintro _ ⟨G,rfl⟩;refine(jv) ?_;intro w6 n O;simp only [CM,NM,CA,NA,hI.it] at O;refine WP .r (PV.bz (us:=(WD.wc ⟨ar,f1,f4,r,cr,f2,f3,f5,f6,G,d1⟩ d1 x.ad none 0 0)) acQ rfl rfl rfl)<|(dq) O fun P w7 NY SX Q=>?_;refine nx ?_;refine WL.nil (EX.np ?_);refine gL ?_;refine WP .r (PV.ld1 (j:=3) dt Q.b0 rfl rfl)<|db ?_;have R:Key→RL:=fun _=>⟨0,none,0,0⟩;have dZ:=St.acv Q 47 R;refine WC.bd (σ:=Nat × (Key→RL) × (List (Key × Value))) (dj:=fun(i,lf,ml)=>[(5,.pointer (some ⟨P,0,none⟩)),(21,.slice f4 f5 f6),(22,.int .i64 (f5:Int)),(23,.int .i64 (i:Int))]) (F:=fun(i,lf,ml)=>[As.map Key.val G ml,As.gq 47 lf (x.ah.take i)]) (I:=fun(i,lf,ml)=>(i≤x.ah.length)∧(dy (x.ah.take i) lf ml)∧True) (μ:=fun(i,lf,ml)=>x.ah.length - i) (0,R,[]) (dZ.p2) Sub.t (⟨Nat.zero_le _,dy.nil _,trivial⟩)<|?_;rintro⟨i,lf,ml⟩ w8 o ⟨hi,u,_⟩;simp only [CA,NA] at o hi u ⊢;refine(aR) (fun g24=>?_) fun g24=>?_
 ·
  simp at g24
  have H:i<x.ah.length:=by omega
  have T:∀y,az (x.ah.take (i+1)) y=if y=x.ah[i].key then some x.ah[i] else az (x.ah.take i) y:=fun y=>by rw [List.take_succ_eq_append_getElem H];exact Er (hS.ne H) y
  refine db ?_;obtain⟨gH,kz,jY,cR,gG,eZ,et,eI⟩:=Rd.at (As.gr o.g7) H;obtain⟨q1,U,V,rfl,GI,Ci⟩:=eZ;have d:=o.fg eI et;have W:=d.fr GI;refine nx ?_;refine WP .r (PV.dI ij cR rfl rfl (by omega))<|(aY) cU (As.kH W.g1)<|(eN) W fun X w9 Pn Po dL=>?_;refine(cF) fI dL fun iN jO jZ Y=>?_;refine bK ?_;have hN5:=Y.bL;refine WC.dS (m:=6) Y mixed<|(il) fT St.g5<|(tr) ao St.g0<|(cP)<|?_;rintro iV ⟨vM,fc⟩ _;refine WL.go rfl (OX.put cZ fU (As.gm fc.g3) rfl rfl rfl fun k9 zB vx=>?_);have ez:=fc.p3.jS zB vx;refine bY ?_;have fj:=ez.p4.p2;have dM:=St.yX (q:=⟨X,q1,U,V⟩) fj (As.gr fj.g3) Ci T;refine cj ?_;refine ef (i+1,_,_) ⟨dM.p2.drop.p2.drop.p1,⟨by omega,u.put (q:=⟨X,q1,U,V⟩) T,trivial⟩⟩
 simp at g24
 have hie:x.ah.take i=x.ah:=List.take_of_length_le (by omega);rw [hie] at u;have d:=o.p1.rp (B:=As.gq 47 lf x.ah) (by rw [hie]);refine(bs) ?_;exact⟨⟨ar,f1,f4,r,cr,f2,f3,f5,f6,G,d1⟩,(⟨ar,a1,a2,r,cr,n1,e1,n2,e2,d2,d3,d1⟩:SD),P,lf,ml,_,rfl,u,mN,(As.gf d.g3),(As.gr d.g6),(As.gr d.g12),d.p3.drop.p5.drop.p5.drop.p5.drop.p5.drop.p5.drop.p5.drop.p5.drop.p1.p2.p4.p4⟩
end Go.Rc

