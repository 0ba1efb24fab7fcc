/- Walks over the program, part WZr. Conditions: as each theorem says. -/
import Derived.Test.YtfamnpoplgkkcaaGreatDoorSFacts
import Derived.Test.YtfamnpoplgkkcaaGreatDoorSWZl
import Derived.Test.YtfamnpoplgkkcaaGreatDoorSBh
set_option linter.all false
namespace Go.Rc
open Go Go.Proofs Go.Proofs.Tryz
variable {r:Rec}{rev:Int}{w:World}{D:WD}{v rn rc wb pb n1 e1 n2 e2:Nat}{ra a1 a2:Option Addr}{k:Key}{ml eL:List (Key × Value)}{Z M:Nat→Prop}{l:List Rec}{lf:Key→RL}{x x0:cz}{aa:List aG}{S:SD}
set_option maxHeartbeats 400000
theorem AB{a:Option Addr}{n c:Nat}(hk:cY r.key):CR prog 160 #[.agg (r.row a n c).toArray,.int .i64 rev] w (.bool (ax r.key && (decide (r.av<rev) && !r.bp))):=by
 refine enter func160 rfl ntmps160 rfl<|?_;have aQ:=St.s0 w;refine(dz) aQ fun b2 w1 b d st1=>?_;refine ck ?_;refine WC.kf (t:=4) (v:=.bool (ax r.key && (decide (r.av<rev) && !r.bp))) st1 ?_<|?_
 ·
  refine(ia) ao st1.b0<|?_;refine WL.c1 (u:=.bool (ax r.key)) (fF (k:=r.key) hk) (by rw [B5 hk]) st1 fun w2 s2 st2=>?_;refine(de) (fun g8=>?_) (fun g8=>?_)
  ·
   refine(aZ) aO st2.b0<|(de) (fun g14=>?_) (fun g14=>?_)
   ·
    refine(aZ) dA st2.b0<|?_;exact(gu) (tG (aj g8 g14)) (st2)
   exact(gu) (tG (aj g8 g14)) (st2)
  exact(gu) (tG g8) (st2)
 intro w2 st2;refine(bA) ?_;exact⟨rfl,(St.cg st2)⟩
theorem AD(b:bR w pb 75 [.pointer (some ⟨wb,0,none⟩)]) (c:bR w wb 86 (D.wc v rev ra rn rc)) (hm:KM Key.val w D.m ml) (d:(bE ml k).getD (.pointer none)=.pointer none):CR prog 159 #[k.val,.pointer (some ⟨pb,0,none⟩)] w (.tuple #[.slice none 0 0,.bool false]):=by
 refine enter func159 rfl ntmps159 rfl<|?_;have aQ:=St.s0 w;refine(dz) aQ fun b2 w1 f g st1=>?_;refine fH ?_;have h:=st1.bQ;refine WC.dS (m:=5) st1 mixed<|?_;refine DP .r (fun _ a=>PV.mn Kt (bR.range (b.ext (St.cg a.2))) rfl rfl)<|bO ?_;refine DP .r (fun _ a=>V1 fT (bR.range (c.ext (St.cg a.2))) .r)<|(gU) ao St.g0<|(cS)<|?_;rintro w2 ⟨i,st2⟩ _;refine WP .r (PV.jJ db fU ff (hm.ext (St.cg st2)) (d) rfl rfl)<|ck ?_;have j:=st2.bQ;refine WC.dS (m:=11) st2 mixed<|cm ?_;refine DW.cq (t:=14) rfl (fun g14=>?_) (fun g14=>?_)
 ·
  exact dr g14
 refine(cS) ?_;rintro w3 ⟨n,e⟩ _;refine ck ?_;refine WC.fX rfl<|(yP) ?_;exact⟨rfl,(St.cg e)⟩
theorem AE{q:RL}(i:bR w pb 75 [.pointer (some ⟨wb,0,none⟩)]) (o:bR w wb 86 (D.wc v rev ra rn rc)) (hm:KM Key.val w D.m ml) (s:bE ml k=some (.pointer (some ⟨q.b,0,none⟩))) (p:bR w q.b 47 (r.row q.a q.n q.c)) (hk:cY r.key):Calls prog 159 #[k.val,.pointer (some ⟨pb,0,none⟩)] w fun e w'=>∃(a:Option Addr) (n c:Nat),e=.returned (.tuple #[.slice a n c,.bool (ax r.key && (decide (r.av<rev) && !r.bp))])∧((ax r.key && (decide (r.av<rev) && !r.bp))=true→a=q.a∧n=q.n∧c=q.c)∧aU [] w w':=by
 refine enter func159 rfl ntmps159 rfl<|?_;have aQ:=St.s0 w;refine(dz) aQ fun b2 w1 y z st1=>?_;refine fH ?_;have A:=st1.bQ;refine WC.dS (m:=5) st1 mixed<|?_;refine DP .r (fun _ d=>PV.mn Kt (bR.range (i.ext (St.cg d.2))) rfl rfl)<|bO ?_;refine DP .r (fun _ d=>V1 fT (bR.range (o.ext (St.cg d.2))) .r)<|(gU) ao St.g0<|(cS)<|?_;rintro w2 ⟨B,st2⟩ _;refine WP .r (PV.bH db fU ff (hm.ext (St.cg st2)) (s) rfl rfl)<|ck ?_;have C:=st2.bQ;refine WC.dS (m:=11) st2 mixed<|cm ?_;refine DW.cq (t:=14) rfl (fun g14=>?_) (fun g14=>?_)
 ·
  refine bO ?_;refine DP .r (fun _ d=>VA dh (bR.range (p.ext (St.cg d.2))) .r)<|DP .r (fun _ d=>PV.mn Kt (bR.range (i.ext (St.cg d.2))) rfl rfl)<|cm ?_;refine DP .r (fun _ d=>PV.ld1 (j:=1) aO (bR.range (o.ext (St.cg d.2))) rfl rfl)<|(cS)<|?_;rintro w3 ⟨E,u⟩ _;refine(eV) (AB (r:=r) hk) u fun w4 F g=>?_;refine(aS) (fun g24=>?_) fun g24=>?_
  ·
   have f:(ax r.key && (decide (r.av<rev) && !r.bp))=true:=by first | exact g24 | simpa using g24
   refine(aZ) dK (bR.range (p.ext (St.cg g)))<|(yP) ?_;exact⟨q.a,q.n,q.c,by rw [f],fun _=>⟨rfl,rfl,rfl⟩,(St.cg g)⟩
  have f:(ax r.key && (decide (r.av<rev) && !r.bp))=false:=by first | exact g24 | simpa using g24
  refine(yP) ?_;exact⟨none,0,0,by rw [f],(fun h=>by rw [f] at h;cases h),(St.cg g)⟩
 exact dr g14
theorem Gg(f:bR w pb 75 [.pointer (some ⟨wb,0,none⟩)]) (g:bR w wb 86 (D.wc v rev ra rn rc)) (hm:KM Key.val w D.m ml) (i:dy l lf ml) (j:(As.gw 47 lf l).ok Z w) (o:∀r∈l,cY r.key) (k:Key):Calls prog 159 #[k.val,.pointer (some ⟨pb,0,none⟩)] w fun e w'=>∃(a:Option Addr) (n c:Nat),e=.returned (.tuple #[.slice a n c,.bool (bV l rev k)])∧(bV l rev k=true→Rd RR.key 2 Z w' a n c (aC l k).reads)∧aU [] w w':=by
 cases b:aB l k with
 | none=>
  refine(AD f g hm (i.no b)).mono<|?_;rintro e w' ⟨rfl,hc⟩
  have d:bV l rev k=false:=by unfold bV;rw [b];rfl
  exact⟨none,0,0,by rw [d],(fun h=>by rw [d] at h;cases h),hc⟩
 | some r=>
  obtain⟨p,q,_⟩:=j.1 k r b;obtain⟨hr,hk⟩:=aL b;refine(AE (k:=k) f g hm (i.yes b) p (o r hr)).mono<|?_;rintro e w' ⟨a,n,c,rfl,s,hc⟩
  have d:bV l rev k=(ax r.key && (decide (r.av<rev) && !r.bp)):=by
   unfold bV
   rw [aK b,b,← hk]
   rfl
  refine⟨a,n,c,by rw [d],fun h=>?_,hc⟩;rw [d] at h;obtain⟨rfl,rfl,rfl⟩:=s h;rw [aK b];exact q.ext hc
set_option maxHeartbeats 1600000 in
theorem AF{f:FuncId}{cap:Value}(gp:St w M Z w []) (hcf:CF prog f) (V8:∀w1,aU [] w w1→∀y:Key,Calls prog f #[y.val,cap] w1 fun e w'=>∃(a:Option Addr) (n c:Nat),e=.returned (.tuple #[.slice a n c,.bool (bV l rev y)])∧(bV l rev y=true→Rd RR.key 2 Z w' a n c (aC l y).reads)∧aU [] w1 w') (h6:l.length≤4000) (Vb:∀r∈l,r.reads.length≤4000):Calls prog 158 #[k.val,.func (.func f) #[] #[cap]] w fun e w'=>∃(a:Option Addr) (n c:Nat),e=.returned (.slice a n c)∧St w M Z w' [As.os RR.key 41 2 a n c (aA l rev k)]:=by
 refine enter func158 rfl ntmps158 rfl<|?_;have aQ:=St.rb gp;refine(dz) aQ fun b2 w1 TH wN st1=>?_;refine(aX) ao st1.b0<|?_;refine WL.go rfl (OX.mY hcf rfl rfl rfl ((Calls.cap (V8 _ (St.cg st1) k)).mono ?_));rintro _ w2 ⟨f1,f2,f3,rfl,_,s2⟩;refine⟨_,rfl,?_⟩;have st2:=st1.step s2;refine aW ?_;refine(aS) (fun Mi=>?_) fun Mi=>?_
 ·
  have W:bV l rev k=false:=by simpa using Mi
  have hv:aA l rev k=[k]:=by unfold aA;rw [if_neg (by rw [W];simp)]
  refine(aX) ao st2.b0<|?_;refine WL.go rfl (OX.aP (us:=k.cells) dt rfl rfl rfl rfl fun b31 w3 aaY ai2=>?_);have ir:=St.qe (R:=RR.key) (E:=41) (k:=2) (a:=some ⟨b31,0,none⟩) (n:=1) (c:=1) (xs:=[k]) st2 aaY.ext (OR.dc ai2 (Nat.zero_le _) rfl (by simp [Key.cells,Value.oneCell']) rfl) (fun x hx=>by simp [aJ] at hx;subst hx;exact aaY.ge);refine(bA) ?_;exact⟨_,_,_,rfl,by rw [hv];exact(St.wk ir.p1.drop)⟩
 have W:bV l rev k=true:=by simpa using Mi
 refine ck ?_;refine WL.mm Key.val st2 fun Qj w3 arD arE ir=>?_;refine dd ?_;refine WL.mm Key.val ir fun OB w4 Iz arF hJ=>?_;refine(aX) ao hJ.b2<|?_;refine WL.go rfl (OX.ins db gG (As.gm hJ.g0) rfl rfl rfl fun w5 KX Fv=>?_);have iY:=hJ.jQ KX Fv;refine cm ?_;have hM:=iY.rH (B:=As.map Key.val OB (lM [k])) (rfl);refine(aX) ao hM.b2<|?_;refine WL.go rfl (OX.aP (us:=k.cells) dt rfl rfl rfl rfl fun b37 w6 ai3 ai4=>?_);have hh:=hM.cZ ai3 ai4;refine bO ?_;have iI:=hh;have iF:=iI.conv (B:=As.os RR.key 41 2 (some ⟨b37,0,none⟩) 1 1 [k]) (OR.dc (As.gb iI.g0) (Nat.zero_le _) rfl (by simp [Key.cells,Value.oneCell']) rfl) (fun x h=>by show x=b37;change x∈aJ (some ⟨b37,0,none⟩) at h;simpa [aJ] using h);refine gK ?_;have eE:=iF.O4;refine WC.bm (σ:=Nat × (List Key) × (List (Key × Value)) × (List RE) × (Option Addr) × Nat × Nat) (dn:=fun(i,L,UH,J,g,d,o)=>[(1,.func (.func f) #[] #[cap]),(2,.pointer (some ⟨b2,0,none⟩)),(7,.map (some Qj)),(8,.map (some OB)),(9,.slice g d o),(10,.int .i64 (i:Int))]) (F:=fun(i,L,UH,J,g,d,o)=>[As.os RR.key 41 2 g d o (L),As.map Key.val OB (lM L),As.map Key.val Qj UH,As.many (J.map (RE.as 41))]) (I:=fun(i,L,UH,J,g,d,o)=>(i≤L.length)∧(tB l rev k (iM J) L i 0)∧(tA J UH)∧((J.map (·.key)).Nodup)∧True) (μ:=fun(i,L,UH,J,g,d,o)=>4001 - i) (0,[k],[],[],(some ⟨b37,0,none⟩),1,1) (eE.p3.p3.p3) Sub.t (⟨Nat.zero_le _,tB.start fun _=>rfl,tA.nil,by simp,trivial⟩)<|?_;rintro⟨i,L,UH,J,g,d,o⟩ w7 di ⟨Is,hF,YU,yM,_⟩;simp only [CA,NA] at di Is hF YU yM ⊢;have hln:=((As.gs di.g0)).len;have hle:=hF.le W;refine(aS) (fun g41=>?_) fun g41=>?_
 ·
  simp at g41
  have qM:i<L.length:=by omega
  have hoi:=hF.op W (List.getElem_mem qM);obtain⟨ri,hri,_⟩:=bK.1 hoi;have Vg:aC l L[i]=ri:=aK hri;have arG:=Vb ri (aL hri).1;refine dd ?_;obtain⟨gJ,cR⟩:=Ow.addr (As.gs di.g0) (ak qM);refine ck ?_;refine WP .r (PV.dV ey cR rfl rfl (by omega))<|(aX) ao (Ow.jD (As.gs di.g0) (by omega) cR (ak qM))<|?_;refine WL.go rfl (OX.mY hcf rfl rfl rfl ((Calls.cap (V8 _ (St.cg di) L[i])).mono ?_));rintro _ w8 ⟨f4,f5,f6,rfl,IU,s8⟩;refine⟨_,rfl,?_⟩;have cX:=di.step s8;have hq5:=IU hoi;rw [Vg] at hq5;have dm:=cX.fr (hq5);have Yx:=((As.gr dm.g0)).len;refine aW ?_;refine cm ?_;refine WC.bm (σ:=Nat × (List Key) × (List (Key × Value)) × (List RE) × (Option Addr) × Nat × Nat) (dn:=fun(q,L2,X,K,g,d,o)=>[(1,.func (.func f) #[] #[cap]),(2,.pointer (some ⟨b2,0,none⟩)),(7,.map (some Qj)),(8,.map (some OB)),(9,.slice g d o),(10,.int .i64 (i:Int)),(53,.slice f4 f5 f6),(54,.int .i64 (f5:Int)),(55,.int .i64 (q:Int))]) (F:=fun(q,L2,X,K,g,d,o)=>[As.os RR.key 41 2 g d o (L2),As.map Key.val OB (lM L2),As.map Key.val Qj X,As.many (K.map (RE.as 41))]) (I:=fun(q,L2,X,K,g,d,o)=>(q≤f5)∧(tB l rev k (iM K) L2 i q)∧(tA K X)∧((K.map (·.key)).Nodup)∧(L2[i]?=some L[i])∧True) (μ:=fun(q,L2,X,K,g,d,o)=>f5 - q) (0,L,UH,J,g,d,o) (dm.p4.p4.p4.p4) Sub.t (⟨Nat.zero_le _,hF,YU,yM,ak qM,trivial⟩)<|?_;rintro⟨q,L2,X,K,g,d,o⟩ w9 Y ⟨hq,UI,pJ,wE,N,_⟩;simp only [CA,NA] at Y hq UI pJ wE N ⊢;have arH:=((As.gs Y.g0)).len;have vx:=UI.le W;have UY:i<L2.length:=(List.getElem?_eq_some_iff.1 N).1;refine(aS) (fun Iw=>?_) fun Iw=>?_
  ·
   simp at Iw
   have FJ:q<ri.reads.length:=by omega
   obtain⟨x,Md⟩:∃x,ri.reads[q]=x:=⟨_,rfl⟩
   have Zr:(aC l L[i]).reads[q]?=some x:=by rw [Vg,ak FJ,Md]
   refine dd ?_;obtain⟨tH,Ic,Fu,kQ,vC,mE,mD,nK⟩:=Rd.at (As.gr Y.g4) FJ;have mE:=RR.ba mE;subst mE;have ed:=Y.fg nK mD;rw [Md] at mD ed;refine nx ?_;refine WP .r (PV.dV ey kQ rfl rfl (by omega))<|(aX) ao (As.kT ed.g0)<|(eT) ed fun b14 iP YN OI fJ=>?_;refine(cI) gR fJ fun iW ry mu ep=>?_;refine(aX) ao ep.b0<|?_;refine WL.go rfl (OX.mY hcf rfl rfl rfl ((Calls.cap (V8 _ (St.cg ep) x)).mono ?_));rintro _ lB ⟨f7,f8,f9,rfl,_,s12⟩;refine⟨_,rfl,?_⟩;have eb:=ep.step s12;refine aW ?_;refine(aS) (fun g66=>?_) fun g66=>?_
   ·
    have U3:bV l rev x=false:=by simpa using g66
    refine gK ?_;refine ez (q+1,L2,X,K,g,d,o) ⟨eb.drop.drop,⟨by omega,UI.skip N Zr U3,pJ,wE,N,trivial⟩⟩
   have U3:bV l rev x=true:=by simpa using g66
   refine cm ?_;obtain⟨Ip,kz⟩:=Ow.addr (As.gs eb.g2) N;have dH:=eb.p5;obtain⟨ea,en,ec,IW,ai5⟩:=St.Wi (EK:=41) wE pJ x dH;have T:=ai5;have hen:=((As.gs T.g0)).len;have VS:=UI.len x;refine WC.bM (m:=11) [] [7,9] [0,1,2,3,4,5,6,7,8,9,10] [(6,.sl 41 1 L[i].cells)] T (ai.k4 M1 M2 M3 M4<|ai.cons M5<|ai.cons M7<|ai.cons M8<|ai.nil) mixed (by kernel_rfl) (by kernel_rfl) rfl<|(kW) ao SV.g1<|?_
   iterate 2 refine DG.a ?_
   refine DQ .r (fun wx Zx Rx _ oA yw=>PV.dV ey kz rfl rfl (by omega))<|DQ .r (fun wx Zx Rx _ oA yw=>VA ao (Ow.jD (As.gs (oA.sv yw).g3) (by omega) kz N) .r)<|?_;refine DG.side (s:=.sl 41 1 L[i].cells) rfl rfl rfl rfl rfl rfl (fun wx Zx Rx qS oA=>OX.aP (us:=L[i].cells) dt rfl rfl rfl rfl fun b wy nw hb=>⟨nw.ext.size,_,rfl,⟨b,rfl⟩,oA.cZ nw hb⟩)<|?_;rintro _ ⟨b74,rfl⟩;refine(fL) (fun oh R7x Zl O Lj=>?_);simp only [CA,NA] at O;refine OX.mapEntry db Ky Pv (As.gm O.g6) (IW) rfl rfl rfl fun z75 sg ZH aaZ=>?_;have P:=O.p6.Wg ZH aaZ;refine⟨ZH.size,_,rfl,_,_,_,P,aw.k4<|aw.k4<|aw.cons<|aw.nil,ai.k4 M2 M3 M4 M5<|ai.cons M6<|ai.cons M7<|ai.cons M8<|ai.nil,?_⟩;refine(fL) (fun pR U7 Iy Q qT=>?_);simp only [CA,NA] at Q;refine OX.jO mb rfl rfl rfl (As.gs Q.g1) (SR.dc (A:=fun _=>True) (x:=L[i]) (show bR _ b74 _ _ from Q.ok _ (.tail _ (.tail _ (.tail _ (.tail _ (.tail _ (.tail _ (.tail _ (.tail _ (.tail _ (qT _ (.head _)))))))))))) trivial rfl (by simp [Key.cells,Value.oneCell']) rfl) (by omega) (by omega) (Nat.zero_le _) fun a76 Iv tL Tq s76 Tr afC=>?_;have fh:=Q.p1.eU s76 Tq Tr;refine⟨s76.size,_,rfl,_,_,_,fh,aw.k4<|aw.k4<|aw.cons<|aw.nil,ai.k4 M2 M3 M4 M5<|ai.cons M6<|ai.cons M7<|ai.cons M8<|ai.nil,?_⟩;refine(jm) ?_;intro zN P5 dQ;simp only [CM,NM,CA,NA,hK.it] at dQ;refine WL.go rfl (OX.entryStore (As.gmb dQ.g2) rfl rfl rfl fun yt zO zP=>?_);have eZ:=dQ.p2.Wh zO zP;refine WL.nil (EX.np ?_);have dB:=eZ.p3.p3;have eK:=St.acV dB;obtain⟨Vi,hL3⟩:∃Vi:List RE,Vi=⟨x,a76,(en+1),Iv,iM K x++[L[i]]⟩::rest K x:=⟨_,rfl⟩;have kH:=eK.rH (B:=As.many (Vi.map (RE.as 41))) (by rw [hL3]);have Lq:=pJ.put (x:=x) (v:=.slice ea en ec) (a:=a76) (n:=en+1) (c:=Iv) (iM K x++[L[i]]);have Ov:=EL (x:=x) (a:=a76) (n:=en+1) (c:=Iv) wE (iM K x++[L[i]])
   have aa0:iM Vi=qq (iM K) x L[i]:=by rw [hL3];exact MV
   rw [← hL3] at Lq Ov;refine(aX) ao kH.b3<|?_;refine WP .r (PV.jJ db gG Cl (As.gm kH.g6) (BZ L2 x) rfl rfl)<|(aS) (fun Vh=>?_) fun Vh=>?_
   ·
    have V:x∉L2:=by simpa using Vh
    refine WC.bM (m:=6) [] [5] [2,3,4,5,0,1] [(4,.sl 41 1 x.cells)] kH (ai.k4 M0 M1 M2 M3<|ai.k4 M4 M6 M7 M8<|ai.nil) mixed (by kernel_rfl) (by kernel_rfl) rfl<|(kW) ao SV.g3<|?_;refine DG.side (s:=.sl 41 1 x.cells) rfl rfl rfl rfl rfl rfl (fun wx Zx Rx qS oA=>OX.aP (us:=x.cells) dt rfl rfl rfl rfl fun b wy nw hb=>⟨nw.ext.size,_,rfl,⟨b,rfl⟩,oA.cZ nw hb⟩)<|?_;rintro _ ⟨b86,rfl⟩;refine(fL) (fun FE IA sr lP jM=>?_);simp only [CA,NA] at lP;refine OX.jO mb rfl rfl rfl (As.gs lP.g5) (SR.dc (A:=fun _=>True) (x:=x) (show bR _ b86 _ _ from lP.ok _ (.tail _ (.tail _ (.tail _ (.tail _ (.tail _ (.tail _ (.tail _ (.tail _ (.tail _ (jM _ (.head _)))))))))))) trivial rfl (by simp [Key.cells,Value.oneCell']) rfl) (by omega) (by omega) (Nat.zero_le _) fun a87 ai7 Io ai8 s87 ai9 arJ=>?_;have oB:=lP.p5.eU s87 ai8 ai9;refine⟨s87.size,_,rfl,_,_,_,oB,aw.k4<|aw.k4<|aw.cons<|aw.nil,ai.k4 M1 M2 M3 M4<|ai.k4 M5 M6 M7 M8<|ai.nil,?_⟩;refine(kW) ao SV.g3<|(jm)<|?_;intro IZ alS nT;simp only [CM,NM,CA,NA,hK.it] at nT;refine WL.go rfl (OX.put db gG (As.gm nT.g7) rfl rfl rfl fun Mh Tt Tu=>?_);have nS:=nT.p7.jQ Tt Tu;refine nx ?_;refine WL.nil (EX.np ?_);have pM:=nS.rH (B:=As.map Key.val OB (lM (L2++[x]))) (by rw [B0 _ V]);refine fH ?_;refine ez (q+1,L2++[x],_,Vi,a87,(d+1),ai7) ⟨pM.p1.drop.p4.drop.p4.drop.p4.drop.p3.p1.p2,⟨by omega,by rw [aa0];exact UI.new N Zr U3 V,Lq,Ov,by rw [List.getElem?_append_left UY];exact N,trivial⟩⟩
   have V:x∈L2:=by simpa using Vh
   refine eD ?_;refine ez (q+1,L2,_,Vi,g,d,o) ⟨kH.p2.drop.p2.drop.p2.drop.p1.p3.p3,⟨by omega,by rw [aa0];exact UI.rA N Zr U3 V,Lq,Ov,N,trivial⟩⟩
  simp at Iw
  refine kg ?_;refine ez (i+1,L2,X,K,g,d,o) ⟨Y.p4.drop,⟨by show i+1≤L2.length;omega,UI.next N (by rw [Vg];omega) (by omega),pJ,wE,trivial⟩⟩
 simp at g41
 refine fH ?_;have hed:=hF.acX (show L.length≤i by omega)
 have hbl:∀e∈J,e.reads.length≤140737488355328:=fun e he=>by
  have h1:=hF.len e.key
  have h2:i≤4001:=by omega
  rw [JU yM he] at h1
  omega
 refine nx ?_;refine WL.mm Key.val di fun Vj w8 arL arM cX=>?_;refine(aX) ao cX.b5<|?_;refine WL.go rfl (OX.ins db gG (As.gm cX.g0) rfl rfl rfl fun w9 S7 S8=>?_);have dm:=cX.jQ S7 S8;refine cm ?_;have Y:=dm.rH (B:=As.map Key.val Vj (lM [k])) (rfl);refine(aX) ao Y.b5<|?_;refine WL.go rfl (OX.aP (us:=k.cells) dt rfl rfl rfl rfl fun Zd iP Tx Ty=>?_);have ed:=Y.cZ Tx Ty;refine bO ?_;have fJ:=ed;have ep:=fJ.conv (B:=As.os RR.key 41 2 (some ⟨Zd,0,none⟩) 1 1 [k]) (OR.dc (As.gb fJ.g0) (Nat.zero_le _) rfl (by simp [Key.cells,Value.oneCell']) rfl) (fun x h=>by show x=Zd;change x∈aJ (some ⟨Zd,0,none⟩) at h;simpa [aJ] using h);refine gK ?_;have eb:=ep.p5;have dH:=St.bkF hbl eb;refine WC.bm (σ:=Nat × (List Key) × (Option Addr) × Nat × Nat) (dn:=fun(j,U,C,u,G)=>[(7,.map (some Qj)),(17,.map (some Vj)),(18,.slice C u G),(19,.int .i64 (j:Int))]) (F:=fun(j,U,C,u,G)=>[As.os RR.key 41 2 C u G (U),As.map Key.val Vj (lM U)]) (I:=fun(j,U,C,u,G)=>(x5 l rev k (iM J) U j 0)∧True) (μ:=fun(j,U,C,u,G)=>4001 - j) (0,[k],(some ⟨Zd,0,none⟩),1,1) (dH.p2.p2) Sub.t (⟨x5.start,trivial⟩)<|?_;rintro⟨j,U,C,u,G⟩ iW T ⟨hB,_⟩;simp only [CA,NA] at T hB ⊢;have hun:=((As.gs T.g0)).len;have arN:=hB.le W;refine(aS) (fun Ub=>?_) fun Ub=>?_
 ·
  simp at Ub
  have hj3:j<U.length:=by omega
  refine dd ?_;obtain⟨v1,v2,v3,FR,Rg⟩:=tA.read YU (As.gf T.g2) U[j];have O:=T.fr (Rg);have U0:=((As.gr O.g0)).len;have hbq:=hF.len U[j];obtain⟨YH,tg⟩:=Ow.addr (As.gs O.g1) (ak hj3);refine ck ?_;refine WP .r (PV.dV ey tg rfl rfl (by omega))<|(aX) ao (Ow.jD (As.gs O.g1) (by omega) tg (ak hj3))<|?_;refine WP .r (PV.jJ db Ky Pv (As.gm O.g6) (FR) rfl rfl)<|dd ?_;refine WC.bm (σ:=Nat × (List Key) × (Option Addr) × Nat × Nat) (dn:=fun(p,H,C,u,G)=>[(7,.map (some Qj)),(17,.map (some Vj)),(18,.slice C u G),(19,.int .i64 (j:Int)),(105,.slice v1 v2 v3),(106,.int .i64 (v2:Int)),(107,.int .i64 (p:Int))]) (F:=fun(p,H,C,u,G)=>[As.os RR.key 41 2 C u G (H),As.map Key.val Vj (lM H)]) (I:=fun(p,H,C,u,G)=>(p≤v2)∧(x5 l rev k (iM J) H j p)∧(H[j]?=some U[j])∧True) (μ:=fun(p,H,C,u,G)=>v2 - p) (0,U,C,u,G) (O.p2.p2) Sub.t (⟨Nat.zero_le _,hB,ak hj3,trivial⟩)<|?_;rintro⟨p,H,C,u,G⟩ lB P ⟨hp,Pa,UJ,_⟩;simp only [CA,NA] at P hp Pa UJ ⊢;have arO:=((As.gs P.g0)).len;have alU:=Pa.le W;have hj4:j<H.length:=(List.getElem?_eq_some_iff.1 UJ).1;refine(aS) (fun UK=>?_) fun UK=>?_
  ·
   simp at UK
   have wB:p<(iM J U[j]).length:=by omega
   obtain⟨x,Md⟩:∃x,(iM J U[j])[p]=x:=⟨_,rfl⟩
   have Tw:(iM J U[j])[p]?=some x:=by rw [ak wB,Md]
   refine dd ?_;obtain⟨ZC,arQ,arR,vX,alV,LN,Qw,aa1⟩:=Rd.at (As.gr P.g2) wB;have LN:=RR.ba LN;subst LN;have Q:=P.fg aa1 Qw;rw [Md] at Qw Q;refine nx ?_;refine WP .r (PV.dV ey vX rfl rfl (by omega))<|(aX) ao (As.kT Q.g0)<|(eT) Q fun b21 oh aiP aiQ fh=>?_;refine(cI) gR fh fun sg PZ P0 dQ=>?_;refine(aX) ao dQ.b0<|?_;refine WP .r (PV.jJ db gG Cl (As.gm dQ.g3) (BZ H x) rfl rfl)<|(aS) (fun AA=>?_) fun AA=>?_
   ·
    have V:x∉H:=by simpa using AA
    refine WC.bM (m:=6) [] [5] [2,3,4,5,0,1] [(4,.sl 41 1 x.cells)] dQ (ai.k4 M0 M1 M3 M4<|ai.k4 M5 M6 M7 M8<|ai.cons M9<|ai.nil) mixed (by kernel_rfl) (by kernel_rfl) rfl<|(kW) ao SV.g0<|?_;refine DG.side (s:=.sl 41 1 x.cells) rfl rfl rfl rfl rfl rfl (fun wx Zx Rx qS oA=>OX.aP (us:=x.cells) dt rfl rfl rfl rfl fun b wy nw hb=>⟨nw.ext.size,_,rfl,⟨b,rfl⟩,oA.cZ nw hb⟩)<|?_;rintro _ ⟨ajb,rfl⟩;refine(fL) (fun pR IA sr eZ jM=>?_);simp only [CA,NA] at eZ;refine OX.jO mb rfl rfl rfl (As.gs eZ.g2) (SR.dc (A:=fun _=>True) (x:=x) (show bR _ ajb _ _ from eZ.ok _ (.tail _ (.tail _ (.tail _ (.tail _ (.tail _ (.tail _ (.tail _ (.tail _ (.tail _ (.tail _ (jM _ (.head _))))))))))))) trivial rfl (by simp [Key.cells,Value.oneCell']) rfl) (by omega) (by omega) (Nat.zero_le _) fun ajc aa2 tL aa3 aa4 aa5 alW=>?_;have dB:=eZ.p2.eU aa4 aa3 aa5;refine⟨aa4.size,_,rfl,_,_,_,dB,aw.k4<|aw.k4<|aw.k2<|aw.nil,ai.k4 M1 M2 M3 M4<|ai.k4 M5 M6 M7 M8<|ai.cons M9<|ai.nil,?_⟩;refine(kW) ao SV.g0<|(jm)<|?_;intro zN alX eK;simp only [CM,NM,CA,NA,hK.it] at eK;refine WL.go rfl (OX.put db gG (As.gm eK.g4) rfl rfl rfl fun yt ajd aje=>?_);have kH:=eK.p4.jQ ajd aje;refine nx ?_;refine WL.nil (EX.np ?_);have lP:=kH.rH (B:=As.map Key.val Vj (lM (H++[x]))) (by rw [B0 _ V]);refine fH ?_;refine ez (p+1,H++[x],ajc,(u+1),aa2) ⟨lP.p1.drop.p2.drop.p2.drop.p1,⟨by omega,Pa.add hed UJ Tw V,by rw [List.getElem?_append_left hj4];exact UJ,trivial⟩⟩
   have V:x∈H:=by simpa using AA
   refine eD ?_;refine ez (p+1,H,C,u,G) ⟨dQ.drop.drop,⟨by omega,Pa.has UJ Tw V,UJ,trivial⟩⟩
  simp at UK
  refine kg ?_;refine ez (j+1,H,C,u,G) ⟨P.p2.drop,⟨Pa.next UJ (by omega),trivial⟩⟩
 simp at Ub
 have ajf:=fun {L'}=>hB.group (L':=L') W hed (show U.length≤j by omega);refine fH ?_;have ajg:=St.fresh T;have O:=T.a8 (by omega);refine bO ?_;have P:=O;refine(bY) W2 (wv P.e0 (As.gr P.g0) (List.ne_nil_of_mem hB.mem) hB.j3 (by omega)) ?_;rintro _ lB ⟨o1,o2,o3,L9,rfl,hsl,P1,kR⟩;have Q:=St.lr P kR;have hL9:=ajf hsl P1;subst hL9;refine ck ?_;have Iq:St w M _ _ [As.os RR.key 41 2 o1 o2 o3 (aA l rev k)]:=(St.wk Q.k1);refine(bA) ?_;exact⟨o1,o2,o3,rfl,Iq.unz (fun _ h=>.inl (.inl h)) (Ow.z (As.gs Iq.g0))⟩
theorem xf(d:St w M Z w []) (f:bR w wb 86 (D.wc v rev ra rn rc)) (hm:KM Key.val w D.m ml) (g:dy l lf ml) (h:(As.gw 47 lf l).ok Z w) (i:∀r∈l,cY r.key) (j:l.length≤4000) (o:∀r∈l,r.reads.length≤4000):Calls prog 122 #[.pointer (some ⟨wb,0,none⟩),k.val] w fun e w'=>∃(a:Option Addr) (n c:Nat),e=.returned (.slice a n c)∧St w M Z w' [As.os RR.key 41 2 a n c (aA l rev k)]:=by
 refine enter func122 rfl ntmps122 rfl<|?_;have aQ:=St.rb d;refine(dz) aQ fun b2 w1 z A st1=>?_;refine(dz) st1 fun b3 w2 B C st2=>?_;refine(aX) ao st2.b0<|?_;refine WP .r (PV.func (us:=[]) (vs:=[.pointer (some ⟨b2,0,none⟩)]) rfl rfl)<|?_;have b:=st2;refine(bY) XT (AF (k:=k) b.e0 XU (fun w1 h1 y=>Gg (bR.ext (As.gb b.g1) h1) (f.ext (aU.trans (St.cg b) h1)) (hm.ext (aU.trans (St.cg b) h1)) g (As.exc h (aU.trans (St.cg b) h1)) i y) j o) ?_;rintro _ w3 ⟨p,q,s,rfl,t⟩;have u:=St.lr b t;refine(bA) ?_;exact⟨p,q,s,rfl,(St.wk u.p1.drop.p1.drop)⟩
theorem vW{group:List Key}{o:Option Addr}{g eg:Nat}{A:Nat→Prop}(U:St w M Z w []) (V:bR w wb 86 (D.wc v rev ra rn rc)) (hm:KM Key.val w D.m ml) (W:dy l lf ml) (C:(As.gw 47 lf l).ok Z w) (z:Rd RR.key 2 A w o g eg group) (X:∀m∈group,∃r,aB l m=some r) (hb:∀i,((group.take i).flatMap fun m=>da group m (aC l m).reads).length≤100000000):Calls prog 123 #[.pointer (some ⟨wb,0,none⟩),.slice o g eg] w fun e w'=>∃(a:Option Addr) (n c:Nat),e=.returned (.slice a n c)∧St w M Z w' [As.os RR.DK 167 4 a n c (bB l group)]:=by
 have hlen:=z.len;have hle:=z.le;refine enter func123 rfl ntmps123 rfl<|?_;have aQ:=St.rb U;have st1:=aQ.dp RR.DK 167 4;refine aW ?_;refine eD ?_;refine WC.bm (σ:=Nat × (List oq) × (Option Addr) × Nat × Nat) (dn:=fun(i,acc,d,b,f)=>[(0,.pointer (some ⟨wb,0,none⟩)),(1,.slice o g eg),(5,.slice d b f),(11,.slice o g eg),(12,.int .i64 (g:Int)),(13,.int .i64 (i:Int))]) (F:=fun(i,acc,d,b,f)=>[As.os RR.DK 167 4 d b f (acc)]) (I:=fun(i,acc,d,b,f)=>(i≤g)∧(acc=(group.take i).flatMap fun m=>da group m (aC l m).reads)∧True) (μ:=fun(i,acc,d,b,f)=>g - i) (0,[],none,0,0) (st1) Sub.t (⟨by omega,by simp,trivial⟩)<|?_;rintro⟨i,acc,d,b,f⟩ w1 st2 ⟨hi,p,_⟩;simp only [CA,NA] at st2 hi p ⊢;refine(aS) (fun g14=>?_) fun g14=>?_
 ·
  simp at g14
  have E:i<group.length:=by omega
  refine dd ?_;obtain⟨gJ,kF,jV,Y,gI,G,ek,eJ⟩:=Rd.at z E;have G:=RR.ba G;subst G;refine nx ?_;refine WP .r (PV.dV ey Y rfl rfl (by omega))<|(aX) ao (a7 ek (St.cg st2) (by simp))<|(eT) st2 fun b7 w2 SF SG ir=>?_;refine(cI) gR ir fun w3 jW ka O=>?_;refine cm ?_;obtain⟨r,hr⟩:=X _ (List.getElem_mem E);have hro:aC l group[i]=r:=aK hr;have P:=(C.1 _ _ hr).2.1;have IU:=(C.1 _ _ hr).2.2;have Q:=O.fr (P.ext (St.cg O));have Yx:=P.len;have hN5:=Q.bQ;refine WC.dS (m:=5) Q mixed<|cm ?_;refine DP .r (fun _ hC=>V1 fT (bR.range (V.ext (St.cg hC.2))) .r)<|(gU) ao St.g1<|(cS)<|?_;rintro w4 ⟨vU,H⟩ _;refine WP .r (PV.bH db fU ff (hm.ext (St.cg H)) (W.yes hr) rfl rfl)<|(aS) (fun g24=>?_) fun g24=>?_
  ·
   exact dr g24
  refine(aZ) dK (bR.range ((C.1 _ _ hr).1.ext (St.cg H)))<|dd ?_;refine WC.bm (σ:=Nat × (List oq) × (Option Addr) × Nat × Nat) (dn:=fun(j,h,d,b,f)=>[(0,.pointer (some ⟨wb,0,none⟩)),(1,.slice o g eg),(5,.slice d b f),(7,.pointer (some ⟨b7,0,none⟩)),(11,.slice o g eg),(12,.int .i64 (g:Int)),(13,.int .i64 (i:Int)),(28,.slice (lf group[i]).a (lf group[i]).n (lf group[i]).c),(29,.int .i64 ((lf group[i]).n:Int)),(30,.int .i64 (j:Int))]) (F:=fun(j,h,d,b,f)=>[As.os RR.DK 167 4 d b f (h)]) (I:=fun(j,h,d,b,f)=>(j≤(lf group[i]).n)∧(h=acc++da group group[i] (r.reads.take j))∧True) (μ:=fun(j,h,d,b,f)=>(lf group[i]).n - j) (0,acc,d,b,f) (H.p2) Sub.t (⟨by omega,by simp [da],trivial⟩)<|?_;rintro⟨j,h,d,b,f⟩ w5 q ⟨hj,s,_⟩;simp only [CA,NA] at q hj s ⊢;have ru:=((As.gs q.g0)).len;have IV:=hb i;rw [← p] at IV;have KT:=jR group group[i] (r.reads.take j)
  have htl:h.length≤100100000:=by rw [s,List.length_append];rw [List.length_take] at KT;omega
  refine(aS) (fun J=>?_) fun J=>?_
  ·
   simp at J
   have K:j<r.reads.length:=by omega
   refine dd ?_;obtain⟨tH,Ic,Fu,kQ,vC,L,mD,nK⟩:=Rd.at (As.gr q.g1) K;have L:=RR.ba L;subst L;have R:=q.fg nK mD;refine nx ?_;refine WP .r (PV.dV ey kQ rfl rfl (by omega))<|(aX) ao (As.kT R.g0)<|(eT) R fun K6 w6 FL FM iF=>?_;refine(cI) gR iF fun w7 ry mu N=>?_;refine(aX) ao N.b0<|(eV) (sk (k:=r.reads[j]) (z.ext (St.cg N))) N fun w8 s8 B=>?_;refine(aS) (fun u=>?_) fun u=>?_
   ·
    simp at u
    have y:=jn (group:=group) (m:=group[i]) K;rw [if_neg u] at y;refine(aX) ao B.b4<|(aX) ao B.b0<|?_;refine WP .r (PV.bC (us:=(oq.mk group[i] r.reads[j]).cells) Pj rfl rfl rfl)<|?_;refine WL.go rfl (OX.aP (us:=(oq.mk group[i] r.reads[j]).cells) GX rfl rfl rfl rfl fun b42 w9 ajh aji=>?_);have T:=B.cZ ajh aji;refine WL.ap rfl rfl T.p3 (SR.dc (A:=fun _=>True) (x:=oq.mk group[i] r.reads[j]) (As.gb T.g0) trivial rfl (by simp [oq.cells,Value.oneCell']) rfl) fun a43 ajj iP arX arY dm=>?_;refine gK ?_;refine ez (j+1,_,a43,(b+1),ajj) ⟨dm.p5.p5.p2.k3,⟨by omega,by rw [y,s,List.append_assoc],trivial⟩⟩
   simp at u
   have y:=jn (group:=group) (m:=group[i]) K;rw [if_pos u] at y;refine eD ?_;refine ez (j+1,_,d,b,f) ⟨B.drop.drop,⟨by omega,by rw [y,s],trivial⟩⟩
  simp at J
  have aa6:r.reads.take j=r.reads:=List.take_of_length_le (by omega);refine i7 ?_;refine ez (i+1,h,d,b,f) ⟨q.p1.drop.p1.drop,⟨by omega,by rw [s,aa6,p,List.take_succ_eq_append_getElem E];simp only [List.flatMap_append,List.flatMap_cons,List.flatMap_nil,List.append_nil,hro],trivial⟩⟩
 simp at g14
 have aa7:group.take i=group:=List.take_of_length_le (by omega);rw [aa7] at p;subst p;refine(bA) ?_;exact⟨_,_,_,rfl,(St.wk st2)⟩
theorem AG(hi:Rd RR.aD 4 Z w a1 n1 e1 x.ab):CR prog 215 #[.agg (x.row a1 n1 e1 a2 n2 e2).toArray,k.val] w (.int .i64 (bw x.ab k).changed):=by
 refine enter func215 rfl ntmps215 rfl<|?_;have aQ:=St.s0 w;refine(dz) aQ fun b2 w1 d e st1=>?_;refine(dz) st1 fun b3 w2 g h st2=>?_;refine(aX) aN st2.b1<|(aX) ao st2.b0<|(bY) Ss (mh (k:=k) (hi.ext (St.cg st2))) ?_;rintro _ w3 ⟨y,rfl,_,a,b⟩;have c:=st2.step b;refine WP .r (PV.uv (fs:=[_,_,_]) (f:=2) (off:=3) (T:=88) underlying88 rfl rfl (show ∀w,(isAgg 3).run _ w=.ok false w from isAgg3) rfl rfl)<|(bA) ?_;exact⟨by rw [← a],(St.cg c)⟩
theorem AH{r:Rec}(g:St w M Z w [As.map Key.val S.m ml,As.map Key.val S.q [],As.blk wb 86 (D.wc S.s rev ra rn rc),As.map Key.val D.m eL,As.gw 47 lf l]) (h:(S.FV prog aa x0).p Z w) (i:Rd RR.aD 4 Z w D.a1 D.n1 D.c1 x0.ab) (hm:aV aa x0.ab ml) (j:dy l lf eL) (y:aq aa) (z:∀k,(valOf aa x0.ab k).size≤1000) (eS:ay k=true) (n:aB l k=none):Calls prog 162 #[.pointer (some ⟨wb,0,none⟩),k.val] w fun e w'=>∃a,e=.returned (.int .i64 (aR (valOf aa x0.ab) ⟨rev,x0.ab,l⟩ k))∧aV aa x0.ab a∧fW ml a∧St w M Z w' [As.map Key.val S.m a,As.map Key.val S.q [],As.blk wb 86 (D.wc S.s rev ra rn rc),As.map Key.val D.m eL,As.gw 47 lf l]:=by
 refine enter func162 rfl ntmps162 rfl<|?_;have aQ:=g;have st1:=aQ.fr i;have st2:=st1.fact (B:=As.fz (S.FV prog aa x0)) h (fun _ o=>o);refine(dz) st2 fun b3 w1 A C c=>?_;refine ck ?_;have E:=c.bQ;refine WC.dS (m:=5) c mixed<|(iD) fT St.g5<|(gU) ao St.g0<|(cS)<|?_;rintro w2 ⟨F,b⟩ _;refine WP .r (PV.jJ db fU ff (As.gm b.g6) (j.no n) rfl rfl)<|(aX) ao b.b0<|?_;refine WL.c1 (u:=.bool true) (cN (k:=k)) (by rw [eS]) b fun w3 G d=>?_;refine cm ?_;refine WC.oD rfl<|nx ?_;have H:=d.bQ;refine WC.dS (m:=5) d mixed<|(tv) aN St.g5<|(gU) ao St.g0<|(cS)<|?_;rintro w4 ⟨I,f⟩ _;refine(eV) (AG (x:=⟨rev,x0.ab,l⟩) (k:=k) (a2:=D.a2) (n2:=D.n2) (e2:=D.c2) (As.gr f.g2)) f fun w5 J t=>?_;refine(bA) ?_;exact⟨ml,by rw [Ri eS],hm,fW.refl _,t.drop.drop.drop⟩
theorem AJ{r:Rec}(g:St w M Z w [As.map Key.val S.m ml,As.map Key.val S.q [],As.blk wb 86 (D.wc S.s rev ra rn rc),As.map Key.val D.m eL,As.gw 47 lf l]) (h:(S.FV prog aa x0).p Z w) (i:Rd RR.aD 4 Z w D.a1 D.n1 D.c1 x0.ab) (hm:aV aa x0.ab ml) (n:dy l lf eL) (t:aq aa) (y:∀k,(valOf aa x0.ab k).size≤1000) (eS:ay k=false) (c:aB l k=none):Calls prog 162 #[.pointer (some ⟨wb,0,none⟩),k.val] w fun e w'=>∃a,e=.returned (.int .i64 (aR (valOf aa x0.ab) ⟨rev,x0.ab,l⟩ k))∧aV aa x0.ab a∧fW ml a∧St w M Z w' [As.map Key.val S.m a,As.map Key.val S.q [],As.blk wb 86 (D.wc S.s rev ra rn rc),As.map Key.val D.m eL,As.gw 47 lf l]:=by
 refine enter func162 rfl ntmps162 rfl<|?_;have aQ:=g;have st1:=aQ.fr i;have st2:=st1.fact (B:=As.fz (S.FV prog aa x0)) h (fun _ o=>o);refine(dz) st2 fun b3 w1 z A d=>?_;refine ck ?_;have C:=d.bQ;refine WC.dS (m:=5) d mixed<|(iD) fT St.g5<|(gU) ao St.g0<|(cS)<|?_;rintro w2 ⟨E,b⟩ _;refine WP .r (PV.jJ db fU ff (As.gm b.g6) (n.no c) rfl rfl)<|(aX) ao b.b0<|?_;refine WL.c1 (u:=.bool false) (cN (k:=k)) (by rw [eS]) b fun w3 F f=>?_;refine cm ?_;refine WC.fX rfl<|(aS) (fun g21=>?_) fun g21=>?_
 ·
  refine fH ?_;refine WP .r (PV.ld1 (j:=1) aO f.b5 rfl rfl)<|(bA) ?_;exact⟨ml,by rw [Rj eS c],hm,fW.refl _,f.drop.drop.drop⟩
 exact dr g21
theorem AK(n:St w M Z w [As.map Key.val S.m ml,As.map Key.val S.q [],As.blk wb 86 (D.wc S.s rev ra rn rc),As.map Key.val D.m eL,As.gw 47 lf l]) (o:(S.FV prog aa x0).p Z w) (t:Rd RR.aD 4 Z w D.a1 D.n1 D.c1 x0.ab) (hm:aV aa x0.ab ml) (y:dy l lf eL) (A:aq aa) (C:∀k,(valOf aa x0.ab k).size≤1000) (eS:ay k=false) (a:aB l k=some r) (f:r.av=rev):Calls prog 162 #[.pointer (some ⟨wb,0,none⟩),k.val] w fun e w'=>∃c,e=.returned (.int .i64 (aR (valOf aa x0.ab) ⟨rev,x0.ab,l⟩ k))∧aV aa x0.ab c∧fW ml c∧St w M Z w' [As.map Key.val S.m c,As.map Key.val S.q [],As.blk wb 86 (D.wc S.s rev ra rn rc),As.map Key.val D.m eL,As.gw 47 lf l]:=by
 refine enter func162 rfl ntmps162 rfl<|?_;have aQ:=n;have st1:=aQ.fr t;have st2:=st1.fact (B:=As.fz (S.FV prog aa x0)) o (fun _ z=>z);refine(dz) st2 fun b3 w1 E F g=>?_;refine ck ?_;have G:=g.bQ;refine WC.dS (m:=5) g mixed<|(iD) fT St.g5<|(gU) ao St.g0<|(cS)<|?_;rintro w2 ⟨H,d⟩ _;refine WP .r (PV.bH db fU ff (As.gm d.g6) (y.yes a) rfl rfl)<|(aX) ao d.b0<|?_;refine WL.c1 (u:=.bool false) (cN (k:=k)) (by rw [eS]) d fun w3 I h=>?_;refine cm ?_;refine WC.fX rfl<|(aS) (fun g21=>?_) fun g21=>?_
 ·
  exact dr g21
 refine nx ?_;have J:=h.bQ;refine WC.dS (m:=21) h mixed<|cm ?_;refine DP .r (fun _ b=>V1 aO (bR.range ((As.sS b.2.g7).1 _ _ a).1) .r)<|ck ?_;refine DP .r (fun _ b=>PV.ld1 (j:=1) aO (bR.range (As.gb b.2.g5)) rfl rfl)<|DP .r (fun _ b=>(PV.OT rfl rfl).cast (v':=.bool true) (congrArg Value.bool (decide_eq_true f)))<|(cS) ?_;rintro w4 ⟨K,i⟩ _;refine dd ?_;refine WC.oD rfl<|(aZ) aO (bR.range ((As.sS i.g7).1 _ _ a).1)<|(bA) ?_;exact⟨ml,by rw [Rk eS a f],hm,fW.refl _,i.drop.drop.drop⟩
theorem AL(H:St w M Z w [As.map Key.val S.m ml,As.map Key.val S.q [],As.blk wb 86 (D.wc S.s rev ra rn rc),As.map Key.val D.m eL,As.gw 47 lf l]) (I:(S.FV prog aa x0).p Z w) (J:Rd RR.aD 4 Z w D.a1 D.n1 D.c1 x0.ab) (hm:aV aa x0.ab ml) (K:dy l lf eL) (L:aq aa) (N:∀k,(valOf aa x0.ab k).size≤1000) (eS:ay k=false) (b:aB l k=some r) (h:¬r.av=rev) (hk:eA aa k):Calls prog 162 #[.pointer (some ⟨wb,0,none⟩),k.val] w fun e w'=>∃i,e=.returned (.int .i64 (aR (valOf aa x0.ab) ⟨rev,x0.ab,l⟩ k))∧aV aa x0.ab i∧fW ml i∧St w M Z w' [As.map Key.val S.m i,As.map Key.val S.q [],As.blk wb 86 (D.wc S.s rev ra rn rc),As.map Key.val D.m eL,As.gw 47 lf l]:=by
 refine enter func162 rfl ntmps162 rfl<|?_;have aQ:=H;have st1:=aQ.fr J;have st2:=st1.fact (B:=As.fz (S.FV prog aa x0)) I (fun _ O=>O);refine(dz) st2 fun b3 w1 R T A=>?_;refine ck ?_;have U:=A.bQ;refine WC.dS (m:=5) A mixed<|(iD) fT St.g5<|(gU) ao St.g0<|(cS)<|?_;rintro w2 ⟨V,n⟩ _;refine WP .r (PV.bH db fU ff (As.gm n.g6) (K.yes b) rfl rfl)<|(aX) ao n.b0<|?_;refine WL.c1 (u:=.bool false) (cN (k:=k)) (by rw [eS]) n fun w3 W P=>?_;refine cm ?_;refine WC.fX rfl<|(aS) (fun g21=>?_) fun g21=>?_
 ·
  exact dr g21
 refine nx ?_;refine WC.bM (m:=21) [] [16] [0,1,2,3,4,5,6,7,8,9,10,11,12,13,14,15,16,17,18,19,20] [] P (ai.k4 M0 M1 M2 M5<|ai.cons M6<|ai.cons M7<|ai.nil) mixed (by kernel_rfl) (by kernel_rfl) rfl<|?_
 iterate 3 refine DG.a ?_
 refine DQ .r (fun o t y _ c d=>V1 aO (bR.range ((As.sS (c.sv d).g5).1 _ _ b).1) .r)<|?_
 iterate 4 refine DG.a ?_
 refine DQ .r (fun o t y _ c d=>PV.ld1 (j:=1) aO (bR.range (As.gb (c.sv d).g3)) rfl rfl)<|DQ .r (fun o t y _ c d=>(PV.OT rfl rfl).cast (v':=.bool false) (congrArg Value.bool (decide_eq_false h)))<|?_
 iterate 4 refine DG.a ?_
 refine(oo) yj SV.g3<|(kW) ao SV.g0<|(fL) (fun w4 X Y C ajk=>?_);simp only [CA,NA] at C;have z:=C.p4.p4;refine OX.call G4 rfl rfl ((Ll L N hk _ _ _ _ _ z.e2 (As.gf z.g3) hm (fun _=>lL.nil _)).mono ?_);rintro _ w5 ⟨eO,rfl,E,F,G⟩;have Q:=St.lr z G;refine⟨_,rfl,G.bW.size,_,rfl,_,_,_,Q,aw.k4<|aw.k4<|aw.nil,ai.k4 M2 M3 M4 M5<|ai.cons M6<|ai.cons M7<|ai.nil,?_⟩
 iterate 3 refine DG.a ?_
 refine DQ .r (fun o t y _ c d=>V1 e7 (bR.range ((As.sS (c.sv d).g5).1 _ _ b).1) .r)<|(jm)<|?_;intro w6 tM f;simp only [CM,NM,CA,NA,hK.it] at f;refine cm ?_;refine WL.nil (EX.np ?_);refine(aS) (fun g=>?_) fun g=>?_
 ·
  simp at g
  refine(aZ) aO (bR.range ((As.sS f.g7).1 _ _ b).1)<|(bA) ?_;exact⟨eO,by rw [GM eS b h,if_pos g],E,F,f.p2.drop.p2.drop.p2.drop⟩
 simp at g
 refine kU ?_;refine WP .r (PV.ld1 (j:=1) aO f.b5 rfl rfl)<|(bA) ?_;exact⟨eO,by rw [GM eS b h,if_neg g],E,F,f.p2.drop.p2.drop.p2.drop⟩
theorem DE(a:St w M Z w [As.map Key.val S.m ml,As.map Key.val S.q [],As.blk wb 86 (D.wc S.s rev ra rn rc),As.map Key.val D.m eL,As.gw 47 lf l]) (b:(S.FV prog aa x0).p Z w) (c:Rd RR.aD 4 Z w D.a1 D.n1 D.c1 x0.ab) (hm:aV aa x0.ab ml) (d:dy l lf eL) (f:aq aa) (g:∀k,(valOf aa x0.ab k).size≤1000) (hk:eA aa k) (n:KR aa l):Calls prog 162 #[.pointer (some ⟨wb,0,none⟩),k.val] w fun e w'=>∃h,e=.returned (.int .i64 (aR (valOf aa x0.ab) ⟨rev,x0.ab,l⟩ k))∧aV aa x0.ab h∧fW ml h∧St w M Z w' [As.map Key.val S.m h,As.map Key.val S.q [],As.blk wb 86 (D.wc S.s rev ra rn rc),As.map Key.val D.m eL,As.gw 47 lf l]:=by
 cases eS:ay k with
 | true=>exact AH (r:=nb) a b c hm d f g eS (n.aD eS)
 | false=>
  cases i:aB l k with
  | none=>exact AJ (r:=nb) a b c hm d f g eS i
  | some r=>
   by_cases j:r.av=rev
   ·
    exact AK a b c hm d f g eS i j
   exact AL a b c hm d f g eS i j hk
theorem Ai{c:oq}(t:St w M Z w [As.map Key.val S.m ml,As.map Key.val S.q [],As.blk wb 86 (D.wc S.s rev ra rn rc),As.map Key.val D.m eL,As.gw 47 lf l]) (u:(S.FV prog aa x0).p Z w) (y:Rd RR.aD 4 Z w D.a1 D.n1 D.c1 x0.ab) (hm:aV aa x0.ab ml) (i:dy l lf eL) (z:aq aa) (A:∀k,(valOf aa x0.ab k).size≤1000) (hk:eA aa c.read) (C:KR aa l) (d:aB l c.dE=some r):Calls prog 124 #[.pointer (some ⟨wb,0,none⟩),.agg c.cells.toArray] w fun e w'=>∃f,e=.returned (.bool (AX (valOf aa x0.ab) ⟨rev,x0.ab,l⟩ c))∧aV aa x0.ab f∧fW ml f∧St w M Z w' [As.map Key.val S.m f,As.map Key.val S.q [],As.blk wb 86 (D.wc S.s rev ra rn rc),As.map Key.val D.m eL,As.gw 47 lf l]:=by
 refine enter func124 rfl ntmps124 rfl<|?_;have aQ:=t;have st1:=aQ.fr y;have st2:=st1.fact (B:=As.fz (S.FV prog aa x0)) u (fun _ E=>E);refine(dz) st2 fun b3 w1 N O F=>?_;refine ck ?_;refine WC.bM (m:=14) [] [3] [0,1,2,3,4,5,6,7,8,9,10,11,12,13] [] F (ai.k4 M7 M6 M5 M2<|ai.cons M1<|ai.cons M0<|ai.nil) mixed (by kernel_rfl) (by kernel_rfl) rfl<|?_
 iterate 2 refine DG.a ?_
 refine(yR) ao SV.g5<|(fL) (fun w2 P Q j R=>?_);simp only [CA,NA] at j;have b:=j.p7.p7.p7.p7.p7;refine OX.call XX rfl rfl ((DE (k:=c.read) b.e5 (As.gf b.g6) (As.gr b.g7) hm i z A hk C).mono ?_);rintro _ w3 ⟨eO,rfl,G,H,n⟩;have I:=St.lr b n;refine⟨_,rfl,n.bW.size,_,rfl,_,_,_,I,aw.k4<|aw.k4<|aw.nil,ai.k4 M4 M3 M2 M7<|ai.cons M6<|ai.cons M5<|ai.nil,?_⟩
 iterate 3 refine DG.a ?_
 refine(oo) fT SV.g2<|(yR) ao SV.g5<|?_;refine DQ .r (fun J K L _ g h=>PV.bH db fU ff (As.gm (g.sv h).g1) (i.yes d) rfl rfl)<|?_
 iterate 2 refine DG.a ?_
 refine DQ .r (fun J K L _ g h=>V1 aO (bR.range ((As.sS (g.sv h).g0).1 _ _ d).1) .r)<|(jm)<|?_;intro w4 T o;simp only [CM,NM,CA,NA,hK.it] at o;refine bO ?_;refine WL.nil (EX.np ?_);refine(bA) ?_;exact⟨eO,by unfold AX;rw [aK d],G,H,o.p5.drop.p5.drop.p5.drop⟩
theorem DF{Z:Nat→Prop}(b:bR w wb 86 (D.wc v rev ra rn rc)) (hm:KM Key.val w D.m ml) (c:dy l lf ml) (d:aB l k=none) (eS:ay k=true):CR prog 118 #[.pointer (some ⟨wb,0,none⟩),k.val] w (.bool true):=by
 refine enter func118 rfl ntmps118 rfl<|?_;have aQ:=St.s0 w;refine(dz) aQ fun b3 w1 f g st1=>?_;refine ck ?_;have i:=st1.bQ;refine WC.dS (m:=5) st1 mixed<|cm ?_;refine DP .r (fun _ a=>V1 fT (bR.range (b.ext (St.cg a.2))) .r)<|(gU) ao St.g0<|(cS)<|?_;rintro w2 ⟨j,st2⟩ _;refine WP .r (PV.jJ db fU ff (hm.ext (St.cg st2)) (c.no d) rfl rfl)<|ck ?_;have n:=st2.bQ;refine WC.dD (m:=15) (E:=cF [(1,fun v _=>v=.bool true)]) st2 (bj (⟨fun _ _ _ _ _ _ _ h=>h,trivial⟩)) mixed (by kernel_rfl)<|(gU) ao St.g0<|?_;refine DW.c1 (u:=.bool true) (fun o a p=>cN (k:=k)) (by rw [eS])<|?_;refine aW ?_;refine(cS) ?_;rintro w3 ⟨q,e⟩ ⟨_,_⟩;refine(bA) ?_;exact⟨rfl,(St.cg e)⟩
theorem DH{Z:Nat→Prop}(b:bR w wb 86 (D.wc v rev ra rn rc)) (hm:KM Key.val w D.m ml) (c:dy l lf ml) (d:aB l k=none) (eS:ay k=false):CR prog 118 #[.pointer (some ⟨wb,0,none⟩),k.val] w (.bool false):=by
 refine enter func118 rfl ntmps118 rfl<|?_;have aQ:=St.s0 w;refine(dz) aQ fun b3 w1 f g st1=>?_;refine ck ?_;have i:=st1.bQ;refine WC.dS (m:=5) st1 mixed<|cm ?_;refine DP .r (fun _ a=>V1 fT (bR.range (b.ext (St.cg a.2))) .r)<|(gU) ao St.g0<|(cS)<|?_;rintro w2 ⟨j,st2⟩ _;refine WP .r (PV.jJ db fU ff (hm.ext (St.cg st2)) (c.no d) rfl rfl)<|ck ?_;have n:=st2.bQ;refine WC.dD (m:=15) (E:=cF [(1,fun v _=>v=.bool false)]) st2 (bj (⟨fun _ _ _ _ _ _ _ h=>h,trivial⟩)) mixed (by kernel_rfl)<|(gU) ao St.g0<|?_;refine DW.c1 (u:=.bool false) (fun o a p=>cN (k:=k)) (by rw [eS])<|ck ?_;refine DW.cq (t:=17) rfl (fun g17=>?_) (fun g17=>?_)
 ·
  exact dr g17
 refine(cS) ?_;rintro w3 ⟨q,e⟩ ⟨_,_⟩;refine(bA) ?_;exact⟨rfl,(St.cg e)⟩
theorem DI(b:bR w wb 86 (D.wc v rev ra rn rc)) (hm:KM Key.val w D.m ml) (d:dy l lf ml) {r:Rec}(e:(As.gw 47 lf l).ok Z w) (c:aB l k=some r) (eS:ay k=false):CR prog 118 #[.pointer (some ⟨wb,0,none⟩),k.val] w (.bool (decide (r.av=rev))):=by
 refine enter func118 rfl ntmps118 rfl<|?_;have aQ:=St.s0 w;refine(dz) aQ fun b3 w1 g i st1=>?_;refine ck ?_;have n:=st1.bQ;refine WC.dS (m:=5) st1 mixed<|cm ?_;refine DP .r (fun _ a=>V1 fT (bR.range (b.ext (St.cg a.2))) .r)<|(gU) ao St.g0<|(cS)<|?_;rintro w2 ⟨o,st2⟩ _;refine WP .r (PV.bH db fU ff (hm.ext (St.cg st2)) (d.yes c) rfl rfl)<|ck ?_;have p:=st2.bQ;refine WC.dD (m:=15) (E:=cF [(1,fun v _=>v=.bool false)]) st2 (bj (⟨fun _ _ _ _ _ _ _ h=>h,trivial⟩)) mixed (by kernel_rfl)<|(gU) ao St.g0<|?_;refine DW.c1 (u:=.bool false) (fun q a s=>cN (k:=k)) (by rw [eS])<|ck ?_;refine DW.cq (t:=17) rfl (fun g17=>?_) (fun g17=>?_)
 ·
  refine cm ?_;refine DP .r (fun _ a=>V1 aO (bR.range ((e.1 _ _ c).1.ext (St.cg a.2))) .r)<|ck ?_;refine DP .r (fun _ a=>PV.ld1 (j:=1) aO (bR.range (b.ext (St.cg a.2))) rfl rfl)<|(cS)<|?_;rintro w3 ⟨y,f⟩ ⟨_,_⟩;refine(bA) ?_;exact⟨rfl,(St.cg f)⟩
 exact dr g17
theorem F1{aD:List cB}(b:bR w wb 86 (D.wc v rev ra rn rc)) (hm:KM Key.val w D.m ml) (c:dy l lf ml) (d:(As.gw 47 lf l).ok Z w) (f:KR aa l):CR prog 118 #[.pointer (some ⟨wb,0,none⟩),k.val] w (.bool (ay k || az ⟨rev,aD,l⟩ k)):=by
 cases eS:ay k with
 | true=>exact DF (Z:=Z) b hm c (f.aD eS) eS
 | false=>
  cases a:aB l k with
  | none=>
   have e:az ⟨rev,aD,l⟩ k=false:=by unfold az;rw [show(cz.mk rev aD l).ah=l from rfl,a];rfl
   rw [e];exact DH (Z:=Z) b hm c a eS
  | some r=>
   have e:az ⟨rev,aD,l⟩ k=decide (r.av=rev):=by unfold az;rw [show(cz.mk rev aD l).ah=l from rfl,a,aK a];rfl
   rw [e];exact DI b hm c d a eS
set_option maxHeartbeats 1600000 in
theorem Aq{ar:Option Addr}{r cr:Nat}(gp:St w M Z w []) (ht:lA prog Z w) (hu:Rd RR.eG 4 Z w ar r cr aa) (OH:Rd RR.aD 4 Z w a1 n1 e1 x.ab) (hr:Rd RR.ew 8 Z w a2 n2 e2 x.ah) (h6:x.ah.length≤4000) (h7:x.ab.length≤4000) (hS:pQ x.ah):Calls prog 32 #[.slice ar r cr,.agg (x.row a1 n1 e1 a2 n2 e2).toArray] w fun e w'=>∃(D:WD) (S:SD) (wb:Nat) (lf:Key→RL) (ml:List (Key × Value)) (Z':Nat→Prop),e=.returned (.pointer (some ⟨wb,0,none⟩))∧dy x.ah lf ml∧bJ w.heap.size Z Z'∧(S.FV prog aa x).p Z' w'∧Rd RR.aD 4 Z' w' D.a1 D.n1 D.c1 x.ab∧Rd RR.eG 4 Z' w' D.ar D.r D.cr aa∧St w M Z' w' [As.map Key.val S.m [],As.map Key.val S.q [],As.blk wb 86 (D.wc S.s x.ad none 0 0),As.map Key.val D.m ml,As.gw 47 lf x.ah]:=by
 refine enter func32 rfl ntmps32 rfl<|?_;have aQ:=gp;have st1:=aQ.fr hu;have st2:=st1.fr OH;have ir:=st2.fr hr;have hJ:=ir.fact (B:=As.fz (FZ.IH prog)) ht (fun _ z=>z);refine(dz) hJ fun b3 w1 Ib wO iY=>?_;refine ck ?_;refine WC.bM (m:=7) [] [2,6] [1,2,4,5,6,0,3] [(3,.map)] iY (ai.k4 M0 M1 M2 M3<|ai.cons M4<|ai.nil) mixed (by kernel_rfl) (by kernel_rfl) rfl<|(kW) aN SV.g0<|(fL) (fun w2 OE Ae J qW=>?_);simp only [CA,NA] at J;have f:=J;refine OX.call adE rfl rfl ((vO (x:=x) f.e0 (As.gr f.g3) (As.gr f.g2) (by omega) (by omega)).mono ?_);rintro _ w3 ⟨f1,f2,f3,f4,f5,f6,Z1,rfl,K,g⟩;have A:=St.lv f g K;have FQ:=St.bN g.p1;have AZ:=St.bN g;have n:=f.size;have wC:=K.le n;have EE:f5=x.ah.length:=((As.gs A.g1)).len;have arZ:f2=x.ab.length:=((As.gs A.g0)).len;have iF:=A.p1.a8 (by omega);have eE:=iF.p1.a8 (by omega);have mC:=(wC.trans (bJ.dC (F:=fun x=>x∈aJ f4) FQ) n).trans (bJ.dC (F:=fun x=>x∈aJ f1) AZ) n;refine⟨_,rfl,g.bW.size,_,rfl,_,_,_,eE,aw.k4<|aw.k2<|aw.cons<|aw.nil,ai.k4 M2 M3 M4 M5<|ai.cons M6<|ai.nil,?_⟩;refine(kW) aN SV.g0<|(fL) (fun w4 TJ FX L oT=>?_);simp only [CA,NA] at L;have C:=L;refine OX.call ad4 rfl rfl ((CW (x:=x) C.e0).mono ?_);rintro _ w5 ⟨d1,d2,d3,rfl,E⟩;have dm:=St.lr C E;have hgv:=St.bN E;have ajl:=C.size;have c:=dm;have ed:=c.freeze (B:=As.fz (SD.FV (⟨ar,a1,a2,r,cr,n1,e1,n2,e2,d2,d3,d1⟩:SD) prog aa x)) ⟨(SD.F (⟨ar,a1,a2,r,cr,n1,e1,n2,e2,d2,d3,d1⟩:SD) prog aa x).mono (fun _ h=>.inl h) ⟨(As.gr c.g9),(As.gr c.g8),(As.gr c.g7),(As.gf c.g6)⟩,.inr rfl,((As.gb c.g0)).lt,bR.range (As.gb c.g0)⟩ (fun _ z=>z);have mS:=mC.trans (bJ.dC (F:=fun x=>x=d1) hgv) ajl;refine⟨_,rfl,E.bW.size,_,rfl,_,_,_,ed,aw.k4<|aw.k4<|aw.k2<|aw.nil,ai.k4 M5 M6 M7 M8<|ai.cons M9<|ai.nil,?_⟩;refine DG.a<|?_;refine DG.side (s:=.map) rfl rfl rfl rfl rfl rfl (fun wx Zx Rx qS oA=>OX.makeMap Key.val rfl fun b wy N hb=>⟨N.ext.size,_,rfl,⟨b,rfl⟩,oA.Mx N hb⟩)<|?_;rintro _ ⟨G,rfl⟩;refine(jm) ?_;intro w6 n O;simp only [CM,NM,CA,NA,hK.it] at O;refine WP .r (PV.bC (us:=(WD.wc ⟨ar,f1,f4,r,cr,f2,f3,f5,f6,G,d1⟩ d1 x.ad none 0 0)) adh rfl rfl rfl)<|(dz) O fun P w7 K5 Ot Q=>?_;refine nx ?_;refine WL.nil (EX.np ?_);refine gK ?_;refine WP .r (PV.ld1 (j:=3) dF Q.b0 rfl rfl)<|dd ?_;have R:Key→RL:=fun _=>⟨0,none,0,0⟩;have eb:=St.acT Q 47 R;refine WC.bm (σ:=Nat × (Key→RL) × (List (Key × Value))) (dn:=fun(i,lf,ml)=>[(5,.pointer (some ⟨P,0,none⟩)),(21,.slice f4 f5 f6),(22,.int .i64 (f5:Int)),(23,.int .i64 (i:Int))]) (F:=fun(i,lf,ml)=>[As.map Key.val G ml,As.gw 47 lf (x.ah.take i)]) (I:=fun(i,lf,ml)=>(i≤x.ah.length)∧(dy (x.ah.take i) lf ml)∧True) (μ:=fun(i,lf,ml)=>x.ah.length - i) (0,R,[]) (eb.p2) Sub.t (⟨Nat.zero_le _,dy.nil _,trivial⟩)<|?_;rintro⟨i,lf,ml⟩ w8 o ⟨hi,u,_⟩;simp only [CA,NA] at o hi u ⊢;refine(aS) (fun g24=>?_) fun g24=>?_
 ·
  simp at g24
  have H:i<x.ah.length:=by omega
  have T:∀y,aB (x.ah.take (i+1)) y=if y=x.ah[i].key then some x.ah[i] else aB (x.ah.take i) y:=fun y=>by rw [List.take_succ_eq_append_getElem H];exact EH (hS.ne H) y
  refine dd ?_;obtain⟨gJ,kF,jV,cR,gI,fw,ek,eJ⟩:=Rd.at (As.gr o.g7) H;obtain⟨q1,U,V,rfl,IQ,DT⟩:=fw;have d:=o.fg eJ ek;have W:=d.fr IQ;refine nx ?_;refine WP .r (PV.dV iV cR rfl rfl (by omega))<|(aX) dh (As.kT W.g1)<|(eT) W fun X w9 SF SG dN=>?_;refine(cI) fI dN fun iP jW ka Y=>?_;refine bO ?_;have hN5:=Y.bQ;refine WC.dS (m:=6) Y mixed<|(iD) fT St.g5<|(tv) ao St.g0<|(cS)<|?_;rintro iW ⟨vU,fh⟩ _;refine WL.go rfl (OX.put db fU (As.gm fh.g3) rfl rfl rfl fun lB zK vF=>?_);have dQ:=fh.p3.jQ zK vF;refine cm ?_;have eZ:=dQ.p4.p2;have dB:=St.zh (q:=⟨X,q1,U,V⟩) eZ (As.gr eZ.g3) DT T;refine ck ?_;refine ez (i+1,_,_) ⟨dB.p2.drop.p2.drop.p1,⟨by omega,u.put (q:=⟨X,q1,U,V⟩) T,trivial⟩⟩
 simp at g24
 have hie:x.ah.take i=x.ah:=List.take_of_length_le (by omega);rw [hie] at u;have d:=o.p1.rH (B:=As.gw 47 lf x.ah) (by rw [hie]);refine(bA) ?_;exact⟨⟨ar,f1,f4,r,cr,f2,f3,f5,f6,G,d1⟩,(⟨ar,a1,a2,r,cr,n1,e1,n2,e2,d2,d3,d1⟩:SD),P,lf,ml,_,rfl,u,mS,(As.gf d.g3),(As.gr d.g6),(As.gr d.g12),d.p3.drop.p5.drop.p5.drop.p5.drop.p5.drop.p5.drop.p5.drop.p5.drop.p1.p2.p4.p4⟩
end Go.Rc

