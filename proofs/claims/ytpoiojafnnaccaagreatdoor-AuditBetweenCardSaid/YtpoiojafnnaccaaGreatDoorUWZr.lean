/- Walks over the program, part WZr. Conditions: as each theorem says. -/
import Derived.Test.YtpoiojafnnaccaaGreatDoorUFacts
import Derived.Test.YtpoiojafnnaccaaGreatDoorUWZl
import Derived.Test.YtpoiojafnnaccaaGreatDoorUWZb
import Derived.Test.YtpoiojafnnaccaaGreatDoorUBh
set_option linter.all false
namespace Go.Rc
open Go Go.Proofs Go.Proofs.Tryz
variable {r:Rec}{rev:Int}{w:World}{D:WD}{v rn rc wb pb n1 e1 n2 e2:Nat}{ra a1 a2:Option Addr}{k:Key}{ml mD:List (Key × Value)}{Z M:Nat→Prop}{l:List Rec}{lf:Key→RL}{x x0:dV}{ab:List aJ}{S:SD}
set_option maxHeartbeats 400000
theorem Gm{a:Option Addr}{n c:Nat}(hk:gY r.key):CR prog 146 #[.agg (r.row a n c).toArray,.int .i64 rev] w (.bool (aA r.key && (decide (r.az<rev) && !r.cq))):=by
 refine enter func146 rfl ntmps146 rfl<|?_;have aW:=St.s0 w;refine(eD) aW fun b2 w1 lB eZ st1=>?_;refine dF ?_;refine WC.mw (t:=4) (v:=.bool (aA r.key && (decide (r.az<rev) && !r.cq))) st1 ?_<|?_
 ·
  refine(kl) av st1.b0<|?_;refine WL.c1 (u:=.bool (aA r.key)) (lV (k:=r.key) hk) (by rw [acM hk]) st1 fun w2 s2 st2=>?_;refine(dT) (fun g8=>?_) (fun g8=>?_)
  ·
   refine(bN) aX st2.b0<|(dT) (fun g14=>?_) (fun g14=>?_)
   ·
    refine(bN) fG st2.b0<|?_;exact(iw) (tG (aj g8 g14)) (st2)
   exact(iw) (tG (aj g8 g14)) (st2)
  exact(iw) (tG g8) (st2)
 intro w2 st2;refine(cm) ?_;exact⟨rfl,(St.cg st2)⟩
theorem Gn(hB:cJ w pb 108 [.pointer (some ⟨wb,0,none⟩)]) (hW:cJ w wb 154 (D.wc v rev ra rn rc)) (hm:KM Key.val w D.m ml) (hg:(ck ml k).getD (.pointer none)=.pointer none):CR prog 145 #[k.val,.pointer (some ⟨pb,0,none⟩)] w (.tuple #[.slice none 0 0,.bool false]):=by
 refine enter func145 rfl ntmps145 rfl<|?_;have aW:=St.s0 w;refine(eD) aW fun b2 w1 lB eZ st1=>?_;refine jo ?_;have zq:=st1.dc;refine WC.dS (m:=5) st1 mixed<|?_;refine DP .r (fun _ hC=>PV.pM Fo (cJ.range (hB.ext (St.cg hC.2))) rfl rfl)<|db ?_;refine DP .r (fun _ hC=>V1 iP (cJ.range (hW.ext (St.cg hC.2))) .r)<|(jA) av St.g0<|(ey)<|?_;rintro w2 ⟨fj,st2⟩ _;refine WP .r (PV.mA eF iQ jx (hm.ext (St.cg st2)) (hg) rfl rfl)<|dF ?_;have QI:=st2.dc;refine WC.dS (m:=11) st2 mixed<|dw ?_;refine DW.iB (t:=14) rfl (fun g14=>?_) (fun g14=>?_)
 ·
  exact gM g14
 refine(ey) ?_;rintro w3 ⟨pC,aP⟩ _;refine dF ?_;refine WC.iu rfl<|(GH) ?_;exact⟨rfl,(St.cg aP)⟩
theorem Gp{q:RL}(hB:cJ w pb 108 [.pointer (some ⟨wb,0,none⟩)]) (hW:cJ w wb 154 (D.wc v rev ra rn rc)) (hm:KM Key.val w D.m ml) (hg:ck ml k=some (.pointer (some ⟨q.b,0,none⟩))) (hR:cJ w q.b 60 (r.row q.a q.n q.c)) (hk:gY r.key):Calls prog 145 #[k.val,.pointer (some ⟨pb,0,none⟩)] w fun e w'=>∃(a:Option Addr) (n c:Nat),e=.returned (.tuple #[.slice a n c,.bool (aA r.key && (decide (r.az<rev) && !r.cq))])∧((aA r.key && (decide (r.az<rev) && !r.cq))=true→a=q.a∧n=q.n∧c=q.c)∧bj [] w w':=by
 refine enter func145 rfl ntmps145 rfl<|?_;have aW:=St.s0 w;refine(eD) aW fun b2 w1 lB eZ st1=>?_;refine jo ?_;have zq:=st1.dc;refine WC.dS (m:=5) st1 mixed<|?_;refine DP .r (fun _ hC=>PV.pM Fo (cJ.range (hB.ext (St.cg hC.2))) rfl rfl)<|db ?_;refine DP .r (fun _ hC=>V1 iP (cJ.range (hW.ext (St.cg hC.2))) .r)<|(jA) av St.g0<|(ey)<|?_;rintro w2 ⟨fj,st2⟩ _;refine WP .r (PV.dG eF iQ jx (hm.ext (St.cg st2)) (hg) rfl rfl)<|dF ?_;have QI:=st2.dc;refine WC.dS (m:=11) st2 mixed<|dw ?_;refine DW.iB (t:=14) rfl (fun g14=>?_) (fun g14=>?_)
 ·
  refine db ?_;refine DP .r (fun _ hC=>VA dm (cJ.range (hR.ext (St.cg hC.2))) .r)<|DP .r (fun _ hC=>PV.pM Fo (cJ.range (hB.ext (St.cg hC.2))) rfl rfl)<|dw ?_;refine DP .r (fun _ hC=>PV.ld1 (j:=1) aX (cJ.range (hW.ext (St.cg hC.2))) rfl rfl)<|(ey)<|?_;rintro w3 ⟨pC,aP⟩ _;refine(gw) (Gm (r:=r) hk) aP fun w4 s4 aV=>?_;refine(bp) (fun g24=>?_) fun g24=>?_
  ·
   have hoo:(aA r.key && (decide (r.az<rev) && !r.cq))=true:=by first | exact g24 | simpa using g24
   refine(bN) fE (cJ.range (hR.ext (St.cg aV)))<|(GH) ?_;exact⟨q.a,q.n,q.c,by rw [hoo],fun _=>⟨rfl,rfl,rfl⟩,(St.cg aV)⟩
  have hoo:(aA r.key && (decide (r.az<rev) && !r.cq))=false:=by first | exact g24 | simpa using g24
  refine(GH) ?_;exact⟨none,0,0,by rw [hoo],(fun h=>by rw [hoo] at h;cases h),(St.cg aV)⟩
 exact gM g14
theorem Lk(hB:cJ w pb 108 [.pointer (some ⟨wb,0,none⟩)]) (hW:cJ w wb 154 (D.wc v rev ra rn rc)) (hm:KM Key.val w D.m ml) (jT:kD l lf ml) (MA:(As.qf 60 lf l).ok Z w) (l3:∀r∈l,gY r.key) (k:Key):Calls prog 145 #[k.val,.pointer (some ⟨pb,0,none⟩)] w fun e w'=>∃(a:Option Addr) (n c:Nat),e=.returned (.tuple #[.slice a n c,.bool (cY l rev k)])∧(cY l rev k=true→Rd RR.key 2 Z w' a n c (aG l k).reads)∧bj [] w w':=by
 cases hf:aD l k with
 | none=>
  refine(Gn hB hW hm (jT.no hf)).mono<|?_;rintro e w' ⟨rfl,hc⟩
  have ho:cY l rev k=false:=by unfold cY;rw [hf];rfl
  exact⟨none,0,0,by rw [ho],(fun h=>by rw [ho] at h;cases h),hc⟩
 | some r=>
  obtain⟨hR,oE,_⟩:=MA.1 k r hf;obtain⟨hr,hk⟩:=bm hf;refine(Gp (k:=k) hB hW hm (jT.yes hf) hR (l3 r hr)).mono<|?_;rintro e w' ⟨a,n,c,rfl,ha,hc⟩
  have ho:cY l rev k=(aA r.key && (decide (r.az<rev) && !r.cq)):=by
   unfold cY
   rw [ct hf,hf,← hk]
   rfl
  refine⟨a,n,c,by rw [ho],fun h=>?_,hc⟩;rw [ho] at h;obtain⟨rfl,rfl,rfl⟩:=ha h;rw [ct hf];exact oE.ext hc
set_option maxHeartbeats 1600000 in
theorem Gq{f:FuncId}{cap:Value}(bF:St w M Z w []) (zk:CF prog f) (hop:∀w1,bj [] w w1→∀y:Key,Calls prog f #[y.val,cap] w1 fun e w'=>∃(a:Option Addr) (n c:Nat),e=.returned (.tuple #[.slice a n c,.bool (cY l rev y)])∧(cY l rev y=true→Rd RR.key 2 Z w' a n c (aG l y).reads)∧bj [] w1 w') (h6:l.length≤4000) (Uy:∀r∈l,r.reads.length≤4000):Calls prog 144 #[k.val,.func (.func f) #[] #[cap]] w fun e w'=>∃(a:Option Addr) (n c:Nat),e=.returned (.slice a n c)∧St w M Z w' [As.os RR.key 58 2 a n c (aF l rev k)]:=by
 refine enter func144 rfl ntmps144 rfl<|?_;have aW:=St.rb bF;refine(eD) aW fun b2 w1 lB eZ st1=>?_;refine(bz) av st1.b0<|?_;refine WL.go rfl (OX.qA zk rfl rfl rfl ((Calls.cap (hop _ (St.cg st1) k)).mono ?_));rintro _ w2 ⟨f1,f2,f3,rfl,_,s2⟩;refine⟨_,rfl,?_⟩;have st2:=st1.step s2;refine bC ?_;refine(bp) (fun oq=>?_) fun oq=>?_
 ·
  have ho:cY l rev k=false:=by simpa using oq
  have hv:aF l rev k=[k]:=by unfold aF;rw [if_neg (by rw [ho];simp)]
  refine(bz) av st2.b0<|?_;refine WL.go rfl (OX.bA (us:=k.cells) fK rfl rfl rfl rfl fun b31 w3 agI anw=>?_);have aP:=St.wR (R:=RR.key) (E:=58) (k:=2) (a:=some ⟨b31,0,none⟩) (n:=1) (c:=1) (xs:=[k]) st2 agI.ext (OR.eP anw (Nat.zero_le _) rfl (by simp [Key.cells,Value.oneCell']) rfl) (fun x hx=>by simp [aL] at hx;subst hx;exact agI.ge);refine(cm) ?_;exact⟨_,_,_,rfl,by rw [hv];exact(St.wk aP.p1.drop)⟩
 have ho:cY l rev k=true:=by simpa using oq
 refine dF ?_;refine WL.mm Key.val st2 fun Wf w3 auC auD aP=>?_;refine eA ?_;refine WL.mm Key.val aP fun V8 w4 ZW auE aV=>?_;refine(bz) av aV.b2<|?_;refine WL.go rfl (OX.ins eF ku (As.gm aV.g0) rfl rfl rfl fun w5 QJ KU=>?_);have bf:=aV.mH QJ KU;refine dw ?_;have br:=bf.Cl (B:=As.map Key.val V8 (po [k])) (rfl);refine(bz) av br.b2<|?_;refine WL.go rfl (OX.bA (us:=k.cells) fK rfl rfl rfl rfl fun b37 w6 anx anz=>?_);have bP:=br.eW anx anz;refine db ?_;have bS:=bP;have bX:=bS.conv (B:=As.os RR.key 58 2 (some ⟨b37,0,none⟩) 1 1 [k]) (OR.eP (As.gb bS.g0) (Nat.zero_le _) rfl (by simp [Key.cells,Value.oneCell']) rfl) (fun x h=>by show x=b37;change x∈aL (some ⟨b37,0,none⟩) at h;simpa [aL] using h);refine kJ ?_;have aM:=bX.acw;refine WC.bQ (σ:=Nat × (List Key) × (List (Key × Value)) × (List RE) × (Option Addr) × Nat × Nat) (eI:=fun(i,L,mlb,Lb,sD,q0,sE)=>[(1,.func (.func f) #[] #[cap]),(2,.pointer (some ⟨b2,0,none⟩)),(7,.map (some Wf)),(8,.map (some V8)),(9,.slice sD q0 sE),(10,.int .i64 (i:Int))]) (F:=fun(i,L,mlb,Lb,sD,q0,sE)=>[As.os RR.key 58 2 sD q0 sE (L),As.map Key.val V8 (po L),As.map Key.val Wf mlb,As.many (Lb.map (RE.as 58))]) (I:=fun(i,L,mlb,Lb,sD,q0,sE)=>(i≤L.length)∧(yO l rev k (kV Lb) L i 0)∧(yN Lb mlb)∧((Lb.map (·.key)).Nodup)∧True) (μ:=fun(i,L,mlb,Lb,sD,q0,sE)=>4001 - i) (0,[k],[],[],(some ⟨b37,0,none⟩),1,1) (aM.p3.p3.p3) Sub.t (⟨Nat.zero_le _,yO.start fun _=>rfl,yN.nil,by simp,trivial⟩)<|?_;rintro⟨i,L,mlb,Lb,sD,q0,sE⟩ w7 aT ⟨zm,hF,jT,tV,_⟩;simp only [CA,NA] at aT zm hF jT tV ⊢;have hln:=((As.gs aT.g0)).len;have hle:=hF.le ho;refine(bp) (fun Bk=>?_) fun Bk=>?_
 ·
  simp at Bk
  have cV:i<L.length:=by omega
  have hoi:=hF.op ho (List.getElem_mem cV);obtain⟨ri,lL,_⟩:=cO.1 hoi;have hrq:aG l L[i]=ri:=ct lL;have auF:=Uy ri (bm lL).1;refine eA ?_;obtain⟨gE,aS⟩:=Ow.addr (As.gs aT.g0) (aq cV);refine dF ?_;refine WP .r (PV.fm fL aS rfl rfl (by omega))<|(bz) av (Ow.rE (As.gs aT.g0) (by omega) aS (aq cV))<|?_;refine WL.go rfl (OX.qA zk rfl rfl rfl ((Calls.cap (hop _ (St.cg aT) L[i])).mono ?_));rintro _ w8 ⟨f4,f5,f6,rfl,hq4,s8⟩;refine⟨_,rfl,?_⟩;have aY:=aT.step s8;have hq5:=hq4 hoi;rw [hrq] at hq5;have bG:=aY.fr (hq5);have hqn:=((As.gr bG.g0)).len;refine bC ?_;refine dw ?_;refine WC.bQ (σ:=Nat × (List Key) × (List (Key × Value)) × (List RE) × (Option Addr) × Nat × Nat) (eI:=fun(q,L2,Jc,Ll,sD,q0,sE)=>[(1,.func (.func f) #[] #[cap]),(2,.pointer (some ⟨b2,0,none⟩)),(7,.map (some Wf)),(8,.map (some V8)),(9,.slice sD q0 sE),(10,.int .i64 (i:Int)),(53,.slice f4 f5 f6),(54,.int .i64 (f5:Int)),(55,.int .i64 (q:Int))]) (F:=fun(q,L2,Jc,Ll,sD,q0,sE)=>[As.os RR.key 58 2 sD q0 sE (L2),As.map Key.val V8 (po L2),As.map Key.val Wf Jc,As.many (Ll.map (RE.as 58))]) (I:=fun(q,L2,Jc,Ll,sD,q0,sE)=>(q≤f5)∧(yO l rev k (kV Ll) L2 i q)∧(yN Ll Jc)∧((Ll.map (·.key)).Nodup)∧(L2[i]?=some L[i])∧True) (μ:=fun(q,L2,Jc,Ll,sD,q0,sE)=>f5 - q) (0,L,mlb,Lb,sD,q0,sE) (bG.p4.p4.p4.p4) Sub.t (⟨Nat.zero_le _,hF,jT,tV,aq cV,trivial⟩)<|?_;rintro⟨q,L2,Jc,Ll,sD,q0,sE⟩ w9 bB ⟨hq,hF2,EV,pf,tv,_⟩;simp only [CA,NA] at bB hq hF2 EV pf tv ⊢;have auG:=((As.gs bB.g0)).len;have fU:=hF2.le ho;have yo:i<L2.length:=(List.getElem?_eq_some_iff.1 tv).1;refine(bp) (fun FR=>?_) fun FR=>?_
  ·
   simp at FR
   have kL:q<ri.reads.length:=by omega
   obtain⟨x,Mu⟩:∃x,ri.reads[q]=x:=⟨_,rfl⟩
   have hj0:(aG l L[i]).reads[q]?=some x:=by rw [hrq,aq kL,Mu]
   refine eA ?_;obtain⟨uM,Ih,CN,ft,tK,gk,jO,pB⟩:=Rd.at (As.gr bB.g4) kL;have gk:=RR.cH gk;subst gk;have bd:=bB.fg pB jO;rw [Mu] at jO bd;refine nx ?_;refine WP .r (PV.fm fL ft rfl rfl (by omega))<|(bz) av (As.nh bd.g0)<|(fT) bd fun GM kM akU aab aU=>?_;refine(dB) jH aU fun kN r7 mR bM=>?_;refine(bz) av bM.b0<|?_;refine WL.go rfl (OX.qA zk rfl rfl rfl ((Calls.cap (hop _ (St.cg bM) x)).mono ?_));rintro _ qL ⟨f7,f8,f9,rfl,_,s12⟩;refine⟨_,rfl,?_⟩;have bO:=bM.step s12;refine bC ?_;refine(bp) (fun g66=>?_) fun g66=>?_
   ·
    have hox:cY l rev x=false:=by simpa using g66
    refine kJ ?_;refine fx (q+1,L2,Jc,Ll,sD,q0,sE) ⟨bO.drop.drop,⟨by omega,hF2.skip tv hj0 hox,EV,pf,tv,trivial⟩⟩
   have hox:cY l rev x=true:=by simpa using g66
   refine dw ?_;obtain⟨NV,kz⟩:=Ow.addr (As.gs bO.g2) tv;have bD:=bO.p5;obtain⟨ea,en,ec,dR,anA⟩:=St.acQ (EK:=58) pf EV x bD;have cx:=anA;have hen:=((As.gs cx.g0)).len;have W7:=hF2.len x;refine WC.dq (m:=11) [] [7,9] [0,1,2,3,4,5,6,7,8,9,10] [(6,.sl 58 1 L[i].cells)] cx (ax.k4 M1 M2 M3 M4<|ax.cons M5<|ax.cons M7<|ax.cons M8<|ax.nil) mixed (by kernel_rfl) (by kernel_rfl) rfl<|(oz) av SV.g1<|?_
   iterate 2 refine DG.a ?_
   refine DQ .r (fun wx Zx Rx _ fV lX=>PV.fm fL kz rfl rfl (by omega))<|DQ .r (fun wx Zx Rx _ fV lX=>VA av (Ow.rE (As.gs (fV.sv lX).g3) (by omega) kz tv) .r)<|?_;refine DG.side (s:=.sl 58 1 L[i].cells) rfl rfl rfl rfl rfl rfl (fun wx Zx Rx BX fV=>OX.bA (us:=L[i].cells) fK rfl rfl rfl rfl fun b wy nw hb=>⟨nw.ext.size,_,rfl,⟨b,rfl⟩,fV.eW nw hb⟩)<|?_;rintro _ ⟨b74,rfl⟩;refine(jD) (fun uN R7x afA cG Q4=>?_);simp only [CA,NA] at cG;refine OX.mapEntry eF Qc Vr (As.gm cG.g6) (dR) rfl rfl rfl fun z75 yX s75 agJ=>?_;have cF:=cG.p6.acO s75 agJ;refine⟨s75.size,_,rfl,_,_,_,cF,aC.k4<|aC.k4<|aC.cons<|aC.nil,ax.k4 M2 M3 M4 M5<|ax.cons M6<|ax.cons M7<|ax.cons M8<|ax.nil,?_⟩;refine(jD) (fun uO R9x N5 cM yD=>?_);simp only [CA,NA] at cM;refine OX.pa tg rfl rfl rfl (As.gs cM.g1) (SR.eP (A:=fun _=>True) (x:=L[i]) (show cJ _ b74 _ _ from cM.ok _ (.tail _ (.tail _ (.tail _ (.tail _ (.tail _ (.tail _ (.tail _ (.tail _ (.tail _ (yD _ (.head _)))))))))))) trivial rfl (by simp [Key.cells,Value.oneCell']) rfl) (by omega) (by omega) (Nat.zero_le _) fun a76 N1 yY ZC s76 ZD alm=>?_;have cv:=cM.p1.iY s76 ZC ZD;refine⟨s76.size,_,rfl,_,_,_,cv,aC.k4<|aC.k4<|aC.cons<|aC.nil,ax.k4 M2 M3 M4 M5<|ax.cons M6<|ax.cons M7<|ax.cons M8<|ax.nil,?_⟩;refine(oa) ?_;intro El QW cI;simp only [CM,NM,CA,NA,lA.it] at cI;refine WL.go rfl (OX.entryStore (As.gmb cI.g2) rfl rfl rfl fun Cr FJ FK=>?_);have ef:=cI.p2.acP FJ FK;refine WL.nil (EX.np ?_);have dh:=ef.p3.p3;have eC:=St.aiW dh;obtain⟨Lb3,hL3⟩:∃Lb3:List RE,Lb3=⟨x,a76,(en+1),N1,kV Ll x++[L[i]]⟩::rest Ll x:=⟨_,rfl⟩;have cT:=eC.Cl (B:=As.many (Lb3.map (RE.as 58))) (by rw [hL3]);have aaS:=EV.put (x:=x) (v:=.slice ea en ec) (a:=a76) (n:=en+1) (c:=N1) (kV Ll x++[L[i]]);have Ue:=Kg (x:=x) (a:=a76) (n:=en+1) (c:=N1) pf (kV Ll x++[L[i]])
   have agK:kV Lb3=vx (kV Ll) x L[i]:=by rw [hL3];exact SZ
   rw [← hL3] at aaS Ue;refine(bz) av cT.b3<|?_;refine WP .r (PV.mA eF ku Fq (As.gm cT.g6) (HH L2 x) rfl rfl)<|(bp) (fun g81=>?_) fun g81=>?_
   ·
    have UG:x∉L2:=by simpa using g81
    refine WC.dq (m:=6) [] [5] [2,3,4,5,0,1] [(4,.sl 58 1 x.cells)] cT (ax.k4 M0 M1 M2 M3<|ax.k4 M4 M6 M7 M8<|ax.nil) mixed (by kernel_rfl) (by kernel_rfl) rfl<|(oz) av SV.g3<|?_;refine DG.side (s:=.sl 58 1 x.cells) rfl rfl rfl rfl rfl rfl (fun wx Zx Rx BX fV=>OX.bA (us:=x.cells) fK rfl rfl rfl rfl fun b wy nw hb=>⟨nw.ext.size,_,rfl,⟨b,rfl⟩,fV.eW nw hb⟩)<|?_;rintro _ ⟨b86,rfl⟩;refine(jD) (fun Ip R7 CY dO qO=>?_);simp only [CA,NA] at dO;refine OX.pa tg rfl rfl rfl (As.gs dO.g5) (SR.eP (A:=fun _=>True) (x:=x) (show cJ _ b86 _ _ from dO.ok _ (.tail _ (.tail _ (.tail _ (.tail _ (.tail _ (.tail _ (.tail _ (.tail _ (.tail _ (qO _ (.head _)))))))))))) trivial rfl (by simp [Key.cells,Value.oneCell']) rfl) (by omega) (by omega) (Nat.zero_le _) fun a87 anD Mt anE s87 anF auJ=>?_;have cU:=dO.p5.iY s87 anE anF;refine⟨s87.size,_,rfl,_,_,_,cU,aC.k4<|aC.k4<|aC.cons<|aC.nil,ax.k4 M1 M2 M3 M4<|ax.k4 M5 M6 M7 M8<|ax.nil,?_⟩;refine(oz) av SV.g3<|(oa)<|?_;intro My apX dz;simp only [CM,NM,CA,NA,lA.it] at dz;refine WL.go rfl (OX.put eF ku (As.gm dz.g7) rfl rfl rfl fun Ur ZF ZG=>?_);have dt:=dz.p7.mH ZF ZG;refine nx ?_;refine WL.nil (EX.np ?_);have eK:=dt.Cl (B:=As.map Key.val V8 (po (L2++[x]))) (by rw [HI _ UG]);refine jo ?_;refine fx (q+1,L2++[x],_,Lb3,a87,(q0+1),anD) ⟨eK.p1.drop.p4.drop.p4.drop.p4.drop.p3.p1.p2,⟨by omega,by rw [agK];exact hF2.new tv hj0 hox UG,aaS,Ue,by rw [List.getElem?_append_left yo];exact tv,trivial⟩⟩
   have UG:x∈L2:=by simpa using g81
   refine gp ?_;refine fx (q+1,L2,_,Lb3,sD,q0,sE) ⟨cT.p2.drop.p2.drop.p2.drop.p1.p3.p3,⟨by omega,by rw [agK];exact hF2.wF tv hj0 hox UG,aaS,Ue,tv,trivial⟩⟩
  simp at FR
  refine qT ?_;refine fx (i+1,L2,Jc,Ll,sD,q0,sE) ⟨bB.p4.drop,⟨by show i+1≤L2.length;omega,hF2.next tv (by rw [hrq];omega) (by omega),EV,pf,trivial⟩⟩
 simp at Bk
 refine jo ?_;have hed:=hF.aiY (show L.length≤i by omega)
 have LF:∀e∈Lb,e.reads.length≤140737488355328:=fun e he=>by
  have h1:=hF.len e.key
  have h2:i≤4001:=by omega
  rw [PJ tV he] at h1
  omega
 refine nx ?_;refine WL.mm Key.val aT fun b89 w8 auK auL aY=>?_;refine(bz) av aY.b5<|?_;refine WL.go rfl (OX.ins eF ku (As.gm aY.g0) rfl rfl rfl fun w9 Zk Zl=>?_);have bG:=aY.mH Zk Zl;refine dw ?_;have bB:=bG.Cl (B:=As.map Key.val b89 (po [k])) (rfl);refine(bz) av bB.b5<|?_;refine WL.go rfl (OX.bA (us:=k.cells) fK rfl rfl rfl rfl fun b93 kM ZN ZO=>?_);have bd:=bB.eW ZN ZO;refine db ?_;have aU:=bd;have bM:=aU.conv (B:=As.os RR.key 58 2 (some ⟨b93,0,none⟩) 1 1 [k]) (OR.eP (As.gb aU.g0) (Nat.zero_le _) rfl (by simp [Key.cells,Value.oneCell']) rfl) (fun x h=>by show x=b93;change x∈aL (some ⟨b93,0,none⟩) at h;simpa [aL] using h);refine kJ ?_;have bO:=bM.p5;have bD:=St.bkF LF bO;refine WC.bQ (σ:=Nat × (List Key) × (Option Addr) × Nat × Nat) (eI:=fun(j,U,tn,sF,tp)=>[(7,.map (some Wf)),(17,.map (some b89)),(18,.slice tn sF tp),(19,.int .i64 (j:Int))]) (F:=fun(j,U,tn,sF,tp)=>[As.os RR.key 58 2 tn sF tp (U),As.map Key.val b89 (po U)]) (I:=fun(j,U,tn,sF,tp)=>(D3 l rev k (kV Lb) U j 0)∧True) (μ:=fun(j,U,tn,sF,tp)=>4001 - j) (0,[k],(some ⟨b93,0,none⟩),1,1) (bD.p2.p2) Sub.t (⟨D3.start,trivial⟩)<|?_;rintro⟨j,U,tn,sF,tp⟩ kN cx ⟨hB,_⟩;simp only [CA,NA] at cx hB ⊢;have hun:=((As.gs cx.g0)).len;have auM:=hB.le ho;refine(bp) (fun g97=>?_) fun g97=>?_
 ·
  simp at g97
  have Ut:j<U.length:=by omega
  refine eA ?_;obtain⟨v1,v2,v3,rR,nC⟩:=yN.read jT (As.gf cx.g2) U[j];have cG:=cx.fr (nC);have hsn:=((As.gr cG.g0)).len;have hbq:=hF.len U[j];obtain⟨Zt,tL⟩:=Ow.addr (As.gs cG.g1) (aq Ut);refine dF ?_;refine WP .r (PV.fm fL tL rfl rfl (by omega))<|(bz) av (Ow.rE (As.gs cG.g1) (by omega) tL (aq Ut))<|?_;refine WP .r (PV.mA eF Qc Vr (As.gm cG.g6) (rR) rfl rfl)<|eA ?_;refine WC.bQ (σ:=Nat × (List Key) × (Option Addr) × Nat × Nat) (eI:=fun(p,U2,tn,sF,tp)=>[(7,.map (some Wf)),(17,.map (some b89)),(18,.slice tn sF tp),(19,.int .i64 (j:Int)),(105,.slice v1 v2 v3),(106,.int .i64 (v2:Int)),(107,.int .i64 (p:Int))]) (F:=fun(p,U2,tn,sF,tp)=>[As.os RR.key 58 2 tn sF tp (U2),As.map Key.val b89 (po U2)]) (I:=fun(p,U2,tn,sF,tp)=>(p≤v2)∧(D3 l rev k (kV Lb) U2 j p)∧(U2[j]?=some U[j])∧True) (μ:=fun(p,U2,tn,sF,tp)=>v2 - p) (0,U,tn,sF,tp) (cG.p2.p2) Sub.t (⟨Nat.zero_le _,hB,aq Ut,trivial⟩)<|?_;rintro⟨p,U2,tn,sF,tp⟩ qL cF ⟨hp,CE,Nt,_⟩;simp only [CA,NA] at cF hp CE Nt ⊢;have auN:=((As.gs cF.g0)).len;have apZ:=CE.le ho;have hj4:j<U2.length:=(List.getElem?_eq_some_iff.1 Nt).1;refine(bp) (fun aaT=>?_) fun aaT=>?_
  ·
   simp at aaT
   have qP:p<(kV Lb U[j]).length:=by omega
   obtain⟨x,Mu⟩:∃x,(kV Lb U[j])[p]=x:=⟨_,rfl⟩
   have ZL:(kV Lb U[j])[p]?=some x:=by rw [aq qP,Mu]
   refine eA ?_;obtain⟨agt,anG,anH,Ep,agL,Ci,Jd,Rw⟩:=Rd.at (As.gr cF.g2) qP;have Ci:=RR.cH Ci;subst Ci;have cM:=cF.fg Rw Jd;rw [Mu] at Jd cM;refine nx ?_;refine WP .r (PV.fm fL Ep rfl rfl (by omega))<|(bz) av (As.nh cM.g0)<|(fT) cM fun b21 uN aaG aaH cv=>?_;refine(dB) jH cv fun yX VW VX cI=>?_;refine(bz) av cI.b0<|?_;refine WP .r (PV.mA eF ku Fq (As.gm cI.g3) (HH U2 x) rfl rfl)<|(bp) (fun F5=>?_) fun F5=>?_
   ·
    have UG:x∉U2:=by simpa using F5
    refine WC.dq (m:=6) [] [5] [2,3,4,5,0,1] [(4,.sl 58 1 x.cells)] cI (ax.k4 M0 M1 M3 M4<|ax.k4 M5 M6 M7 M8<|ax.cons M9<|ax.nil) mixed (by kernel_rfl) (by kernel_rfl) rfl<|(oz) av SV.g0<|?_;refine DG.side (s:=.sl 58 1 x.cells) rfl rfl rfl rfl rfl rfl (fun wx Zx Rx BX fV=>OX.bA (us:=x.cells) fK rfl rfl rfl rfl fun b wy nw hb=>⟨nw.ext.size,_,rfl,⟨b,rfl⟩,fV.eW nw hb⟩)<|?_;rintro _ ⟨anI,rfl⟩;refine(jD) (fun uO R7 CY ef qO=>?_);simp only [CA,NA] at ef;refine OX.pa tg rfl rfl rfl (As.gs ef.g2) (SR.eP (A:=fun _=>True) (x:=x) (show cJ _ anI _ _ from ef.ok _ (.tail _ (.tail _ (.tail _ (.tail _ (.tail _ (.tail _ (.tail _ (.tail _ (.tail _ (.tail _ (qO _ (.head _))))))))))))) trivial rfl (by simp [Key.cells,Value.oneCell']) rfl) (by omega) (by omega) (Nat.zero_le _) fun anJ agM yY agN agO agP ap0=>?_;have dh:=ef.p2.iY agO agN agP;refine⟨agO.size,_,rfl,_,_,_,dh,aC.k4<|aC.k4<|aC.k2<|aC.nil,ax.k4 M1 M2 M3 M4<|ax.k4 M5 M6 M7 M8<|ax.cons M9<|ax.nil,?_⟩;refine(oz) av SV.g0<|(oa)<|?_;intro El ap1 eC;simp only [CM,NM,CA,NA,lA.it] at eC;refine WL.go rfl (OX.put eF ku (As.gm eC.g4) rfl rfl rfl fun Cr anK anL=>?_);have cT:=eC.p4.mH anK anL;refine nx ?_;refine WL.nil (EX.np ?_);have dO:=cT.Cl (B:=As.map Key.val b89 (po (U2++[x]))) (by rw [HI _ UG]);refine jo ?_;refine fx (p+1,U2++[x],anJ,(sF+1),agM) ⟨dO.p1.drop.p2.drop.p2.drop.p1,⟨by omega,CE.add hed Nt ZL UG,by rw [List.getElem?_append_left hj4];exact Nt,trivial⟩⟩
   have UG:x∈U2:=by simpa using F5
   refine gp ?_;refine fx (p+1,U2,tn,sF,tp) ⟨cI.drop.drop,⟨by omega,CE.has Nt ZL UG,Nt,trivial⟩⟩
  simp at aaT
  refine qT ?_;refine fx (j+1,U2,tn,sF,tp) ⟨cF.p2.drop,⟨CE.next Nt (by omega),trivial⟩⟩
 simp at g97
 have anM:=fun {L'}=>hB.group (L':=L') ho hed (show U.length≤j by omega);refine jo ?_;have anN:=St.fresh cx;have cG:=cx.bV (by omega);refine db ?_;have cF:=cG;refine(df) aeu (Ch cF.e0 (As.gr cF.g0) (List.ne_nil_of_mem hB.mem) hB.nY (by omega)) ?_;rintro _ qL ⟨o1,o2,o3,L9,rfl,hsl,VY,qM⟩;have cM:=St.lr cF qM;have hL9:=anM hsl VY;subst hL9;refine dF ?_;have Ct:St w M _ _ [As.os RR.key 58 2 o1 o2 o3 (aF l rev k)]:=(St.wk cM.k1);refine(cm) ?_;exact⟨o1,o2,o3,rfl,Ct.unz (fun _ h=>.inl (.inl h)) (Ow.z (As.gs Ct.g0))⟩
theorem Df(bF:St w M Z w []) (hW:cJ w wb 154 (D.wc v rev ra rn rc)) (hm:KM Key.val w D.m ml) (jT:kD l lf ml) (MA:(As.qf 60 lf l).ok Z w) (l3:∀r∈l,gY r.key) (h6:l.length≤4000) (Uy:∀r∈l,r.reads.length≤4000):Calls prog 94 #[.pointer (some ⟨wb,0,none⟩),k.val] w fun e w'=>∃(a:Option Addr) (n c:Nat),e=.returned (.slice a n c)∧St w M Z w' [As.os RR.key 58 2 a n c (aF l rev k)]:=by
 refine enter func94 rfl ntmps94 rfl<|?_;have aW:=St.rb bF;refine(eD) aW fun b2 w1 lB eZ st1=>?_;refine(eD) st1 fun b3 w2 ic dA st2=>?_;refine(bz) av st2.b0<|?_;refine WP .r (PV.func (us:=[]) (vs:=[.pointer (some ⟨b2,0,none⟩)]) rfl rfl)<|?_;have aP:=st2;refine(df) aec (Gq (k:=k) aP.e0 aed (fun w1 h1 y=>Lk (cJ.ext (As.gb aP.g1) h1) (hW.ext (bj.trans (St.cg aP) h1)) (hm.ext (bj.trans (St.cg aP) h1)) jT (As.exc MA (bj.trans (St.cg aP) h1)) l3 y) h6 Uy) ?_;rintro _ w3 ⟨o1,o2,o3,rfl,eG⟩;have aV:=St.lr aP eG;refine(cm) ?_;exact⟨o1,o2,o3,rfl,(St.wk aV.p1.drop.p1.drop)⟩
theorem Cj{group:List Key}{ag:Option Addr}{g eg:Nat}{A:Nat→Prop}(bF:St w M Z w []) (hW:cJ w wb 154 (D.wc v rev ra rn rc)) (hm:KM Key.val w D.m ml) (jT:kD l lf ml) (MA:(As.qf 60 lf l).ok Z w) (hg:Rd RR.key 2 A w ag g eg group) (cy:∀m∈group,∃r,aD l m=some r) (hb:∀i,((group.take i).flatMap fun m=>eE group m (aG l m).reads).length≤100000000):Calls prog 93 #[.pointer (some ⟨wb,0,none⟩),.slice ag g eg] w fun e w'=>∃(a:Option Addr) (n c:Nat),e=.returned (.slice a n c)∧St w M Z w' [As.os RR.MR 160 4 a n c (cC l group)]:=by
 have hlen:=hg.len;have hle:=hg.le;refine enter func93 rfl ntmps93 rfl<|?_;have aW:=St.rb bF;have st1:=aW.eX RR.MR 160 4;refine bC ?_;refine gp ?_;refine WC.bQ (σ:=Nat × (List tz) × (Option Addr) × Nat × Nat) (eI:=fun(i,acc,cP,cB,cS)=>[(0,.pointer (some ⟨wb,0,none⟩)),(1,.slice ag g eg),(5,.slice cP cB cS),(11,.slice ag g eg),(12,.int .i64 (g:Int)),(13,.int .i64 (i:Int))]) (F:=fun(i,acc,cP,cB,cS)=>[As.os RR.MR 160 4 cP cB cS (acc)]) (I:=fun(i,acc,cP,cB,cS)=>(i≤g)∧(acc=(group.take i).flatMap fun m=>eE group m (aG l m).reads)∧True) (μ:=fun(i,acc,cP,cB,cS)=>g - i) (0,[],none,0,0) (st1) Sub.t (⟨by omega,by simp,trivial⟩)<|?_;rintro⟨i,acc,cP,cB,cS⟩ w1 st2 ⟨hi,ee,_⟩;simp only [CA,NA] at st2 hi ee ⊢;refine(bp) (fun g14=>?_) fun g14=>?_
 ·
  simp at g14
  have cV:i<group.length:=by omega
  refine eA ?_;obtain⟨gE,js,iT,aS,fi,bq,bY,di⟩:=Rd.at hg cV;have bq:=RR.cH bq;subst bq;refine nx ?_;refine WP .r (PV.fm fL aS rfl rfl (by omega))<|(bz) av (bE bY (St.cg st2) (by simp))<|(fT) st2 fun b7 w2 tJ nT aP=>?_;refine(dB) jH aP fun w3 jC jI aV=>?_;refine dw ?_;obtain⟨r,hr⟩:=cy _ (List.getElem_mem cV);have hro:aG l group[i]=r:=ct hr;have hqr:=(MA.1 _ _ hr).2.1;have hq4:=(MA.1 _ _ hr).2.2;have bf:=aV.fr (hqr.ext (St.cg aV));have hqn:=hqr.len;have hN5:=bf.dc;refine WC.dS (m:=5) bf mixed<|dw ?_;refine DP .r (fun _ hC=>V1 iP (cJ.range (hW.ext (St.cg hC.2))) .r)<|(jA) av St.g1<|(ey)<|?_;rintro w4 ⟨C1,br⟩ _;refine WP .r (PV.dG eF iQ jx (hm.ext (St.cg br)) (jT.yes hr) rfl rfl)<|(bp) (fun g24=>?_) fun g24=>?_
  ·
   exact gM g24
  refine(bN) fE (cJ.range ((MA.1 _ _ hr).1.ext (St.cg br)))<|eA ?_;refine WC.bQ (σ:=Nat × (List tz) × (Option Addr) × Nat × Nat) (eI:=fun(j,jJ,cP,cB,cS)=>[(0,.pointer (some ⟨wb,0,none⟩)),(1,.slice ag g eg),(5,.slice cP cB cS),(7,.pointer (some ⟨b7,0,none⟩)),(11,.slice ag g eg),(12,.int .i64 (g:Int)),(13,.int .i64 (i:Int)),(28,.slice (lf group[i]).a (lf group[i]).n (lf group[i]).c),(29,.int .i64 ((lf group[i]).n:Int)),(30,.int .i64 (j:Int))]) (F:=fun(j,jJ,cP,cB,cS)=>[As.os RR.MR 160 4 cP cB cS (jJ)]) (I:=fun(j,jJ,cP,cB,cS)=>(j≤(lf group[i]).n)∧(jJ=acc++eE group group[i] (r.reads.take j))∧True) (μ:=fun(j,jJ,cP,cB,cS)=>(lf group[i]).n - j) (0,acc,cP,cB,cS) (br.p2) Sub.t (⟨by omega,by simp [eE],trivial⟩)<|?_;rintro⟨j,jJ,cP,cB,cS⟩ w5 bP ⟨hj,r8,_⟩;simp only [CA,NA] at bP hj r8 ⊢;have l3:=((As.gs bP.g0)).len;have Mq:=hb i;rw [← ee] at Mq;have CK:=mJ group group[i] (r.reads.take j)
  have htl:jJ.length≤100100000:=by rw [r8,List.length_append];rw [List.length_take] at CK;omega
  refine(bp) (fun px=>?_) fun px=>?_
  ·
   simp at px
   have kL:j<r.reads.length:=by omega
   refine eA ?_;obtain⟨uM,Ih,CN,ft,tK,gk,jO,pB⟩:=Rd.at (As.gr bP.g1) kL;have gk:=RR.cH gk;subst gk;have bS:=bP.fg pB jO;refine nx ?_;refine WP .r (PV.fm fL ft rfl rfl (by omega))<|(bz) av (As.nh bS.g0)<|(fT) bS fun jd w6 ma fP bX=>?_;refine(dB) jH bX fun w7 r7 mR aM=>?_;refine(bz) av aM.b0<|(gw) (pF (k:=r.reads[j]) (hg.ext (St.cg aM))) aM fun w8 s8 aT=>?_;refine(bp) (fun vL=>?_) fun vL=>?_
   ·
    simp at vL
    have Md:=lT (group:=group) (m:=group[i]) kL;rw [if_neg vL] at Md;refine(bz) av aT.b4<|(bz) av aT.b0<|?_;refine WP .r (PV.cD (us:=(tz.mk group[i] r.reads[j]).cells) Vl rfl rfl rfl)<|?_;refine WL.go rfl (OX.bA (us:=(tz.mk group[i] r.reads[j]).cells) Mh rfl rfl rfl rfl fun b42 w9 anO anP=>?_);have aY:=aT.eW anO anP;refine WL.ap rfl rfl aY.p3 (SR.eP (A:=fun _=>True) (x:=tz.mk group[i] r.reads[j]) (As.gb aY.g0) trivial rfl (by simp [tz.cells,Value.oneCell']) rfl) fun a43 anQ kM auR auS bG=>?_;refine kJ ?_;refine fx (j+1,_,a43,(cB+1),anQ) ⟨bG.p5.p5.p2.k3,⟨by omega,by rw [Md,r8,List.append_assoc],trivial⟩⟩
   simp at vL
   have Md:=lT (group:=group) (m:=group[i]) kL;rw [if_pos vL] at Md;refine gp ?_;refine fx (j+1,_,cP,cB,cS) ⟨aT.drop.drop,⟨by omega,by rw [Md,r8],trivial⟩⟩
  simp at px
  have Ek:r.reads.take j=r.reads:=List.take_of_length_le (by omega);refine nj ?_;refine fx (i+1,jJ,cP,cB,cS) ⟨bP.p1.drop.p1.drop,⟨by omega,by rw [r8,Ek,ee,List.take_succ_eq_append_getElem cV];simp only [List.flatMap_append,List.flatMap_cons,List.flatMap_nil,List.append_nil,hro],trivial⟩⟩
 simp at g14
 have agQ:group.take i=group:=List.take_of_length_le (by omega);rw [agQ] at ee;subst ee;refine(cm) ?_;exact⟨_,_,_,rfl,(St.wk st2)⟩
theorem Gr(hi:Rd RR.aH 4 Z w a1 n1 e1 x.ah):CR prog 173 #[.agg (x.row a1 n1 e1 a2 n2 e2).toArray,k.val] w (.int .i64 (ek x.ah k).changed):=by
 refine enter func173 rfl ntmps173 rfl<|?_;have aW:=St.s0 w;refine(eD) aW fun b2 w1 lB eZ st1=>?_;refine(eD) st1 fun b3 w2 ic dA st2=>?_;refine(bz) aN st2.b1<|(bz) av st2.b0<|(df) VG (vW (k:=k) (hi.ext (St.cg st2))) ?_;rintro _ w3 ⟨y,rfl,_,hy,s3⟩;have aP:=st2.step s3;refine WP .r (PV.wT (fs:=[_,_,_]) (f:=2) (off:=3) (T:=83) underlying83 rfl rfl (show ∀w,(isAgg 3).run _ w=.ok false w from isAgg3) rfl rfl)<|(cm) ?_;exact⟨by rw [← hy],(St.cg aP)⟩
theorem Gs{r:Rec}(bF:St w M Z w [As.map Key.val S.m ml,As.map Key.val S.q [],As.blk wb 154 (D.wc S.s rev ra rn rc),As.map Key.val D.m mD,As.qf 60 lf l]) (hf:(S.FV prog ab x0).p Z w) (oW:Rd RR.aH 4 Z w D.a1 D.n1 D.c1 x0.ah) (hm:ba ab x0.ah ml) (jT:kD l lf mD) (hR:ay ab) (hS:∀k,(valOf ab x0.ah k).size≤1000) (gQ:aB k=true) (kG:aD l k=none):Calls prog 147 #[.pointer (some ⟨wb,0,none⟩),k.val] w fun e w'=>∃eb,e=.returned (.int .i64 (bR (valOf ab x0.ah) ⟨rev,x0.ah,l⟩ k))∧ba ab x0.ah eb∧iI ml eb∧St w M Z w' [As.map Key.val S.m eb,As.map Key.val S.q [],As.blk wb 154 (D.wc S.s rev ra rn rc),As.map Key.val D.m mD,As.qf 60 lf l]:=by
 refine enter func147 rfl ntmps147 rfl<|?_;have aW:=bF;have st1:=aW.fr oW;have st2:=st1.fact (B:=As.fz (S.FV prog ab x0)) hf (fun _ hx=>hx);refine(eD) st2 fun b3 w1 ic dA aP=>?_;refine dF ?_;have zq:=aP.dc;refine WC.dS (m:=5) aP mixed<|(lF) iP St.g5<|(jA) av St.g0<|(ey)<|?_;rintro w2 ⟨fj,aV⟩ _;refine WP .r (PV.mA eF iQ jx (As.gm aV.g6) (jT.no kG) rfl rfl)<|(bz) av aV.b0<|?_;refine WL.c1 (u:=.bool true) (dN (k:=k)) (by rw [gQ]) aV fun w3 s3 bf=>?_;refine dw ?_;refine WC.zw rfl<|nx ?_;have Ii:=bf.dc;refine WC.dS (m:=5) bf mixed<|(Cm) aN St.g5<|(jA) av St.g0<|(ey)<|?_;rintro w4 ⟨eN,br⟩ _;refine(gw) (Gr (x:=⟨rev,x0.ah,l⟩) (k:=k) (a2:=D.a2) (n2:=D.n2) (e2:=D.c2) (As.gr br.g2)) br fun w5 s5 bP=>?_;refine(cm) ?_;exact⟨ml,by rw [XE gQ],hm,iI.refl _,bP.drop.drop.drop⟩
theorem Gt{r:Rec}(bF:St w M Z w [As.map Key.val S.m ml,As.map Key.val S.q [],As.blk wb 154 (D.wc S.s rev ra rn rc),As.map Key.val D.m mD,As.qf 60 lf l]) (hf:(S.FV prog ab x0).p Z w) (oW:Rd RR.aH 4 Z w D.a1 D.n1 D.c1 x0.ah) (hm:ba ab x0.ah ml) (jT:kD l lf mD) (hR:ay ab) (hS:∀k,(valOf ab x0.ah k).size≤1000) (gQ:aB k=false) (kG:aD l k=none):Calls prog 147 #[.pointer (some ⟨wb,0,none⟩),k.val] w fun e w'=>∃eb,e=.returned (.int .i64 (bR (valOf ab x0.ah) ⟨rev,x0.ah,l⟩ k))∧ba ab x0.ah eb∧iI ml eb∧St w M Z w' [As.map Key.val S.m eb,As.map Key.val S.q [],As.blk wb 154 (D.wc S.s rev ra rn rc),As.map Key.val D.m mD,As.qf 60 lf l]:=by
 refine enter func147 rfl ntmps147 rfl<|?_;have aW:=bF;have st1:=aW.fr oW;have st2:=st1.fact (B:=As.fz (S.FV prog ab x0)) hf (fun _ hx=>hx);refine(eD) st2 fun b3 w1 ic dA aP=>?_;refine dF ?_;have zq:=aP.dc;refine WC.dS (m:=5) aP mixed<|(lF) iP St.g5<|(jA) av St.g0<|(ey)<|?_;rintro w2 ⟨fj,aV⟩ _;refine WP .r (PV.mA eF iQ jx (As.gm aV.g6) (jT.no kG) rfl rfl)<|(bz) av aV.b0<|?_;refine WL.c1 (u:=.bool false) (dN (k:=k)) (by rw [gQ]) aV fun w3 s3 bf=>?_;refine dw ?_;refine WC.iu rfl<|(bp) (fun g21=>?_) fun g21=>?_
 ·
  refine jo ?_;refine WP .r (PV.ld1 (j:=1) aX bf.b5 rfl rfl)<|(cm) ?_;exact⟨ml,by rw [XF gQ kG],hm,iI.refl _,bf.drop.drop.drop⟩
 exact gM g21
theorem Gu(bF:St w M Z w [As.map Key.val S.m ml,As.map Key.val S.q [],As.blk wb 154 (D.wc S.s rev ra rn rc),As.map Key.val D.m mD,As.qf 60 lf l]) (hf:(S.FV prog ab x0).p Z w) (oW:Rd RR.aH 4 Z w D.a1 D.n1 D.c1 x0.ah) (hm:ba ab x0.ah ml) (jT:kD l lf mD) (hR:ay ab) (hS:∀k,(valOf ab x0.ah k).size≤1000) (gQ:aB k=false) (kG:aD l k=some r) (hv:r.az=rev):Calls prog 147 #[.pointer (some ⟨wb,0,none⟩),k.val] w fun e w'=>∃eb,e=.returned (.int .i64 (bR (valOf ab x0.ah) ⟨rev,x0.ah,l⟩ k))∧ba ab x0.ah eb∧iI ml eb∧St w M Z w' [As.map Key.val S.m eb,As.map Key.val S.q [],As.blk wb 154 (D.wc S.s rev ra rn rc),As.map Key.val D.m mD,As.qf 60 lf l]:=by
 refine enter func147 rfl ntmps147 rfl<|?_;have aW:=bF;have st1:=aW.fr oW;have st2:=st1.fact (B:=As.fz (S.FV prog ab x0)) hf (fun _ hx=>hx);refine(eD) st2 fun b3 w1 ic dA aP=>?_;refine dF ?_;have zq:=aP.dc;refine WC.dS (m:=5) aP mixed<|(lF) iP St.g5<|(jA) av St.g0<|(ey)<|?_;rintro w2 ⟨fj,aV⟩ _;refine WP .r (PV.dG eF iQ jx (As.gm aV.g6) (jT.yes kG) rfl rfl)<|(bz) av aV.b0<|?_;refine WL.c1 (u:=.bool false) (dN (k:=k)) (by rw [gQ]) aV fun w3 s3 bf=>?_;refine dw ?_;refine WC.iu rfl<|(bp) (fun g21=>?_) fun g21=>?_
 ·
  exact gM g21
 refine nx ?_;have R2:=bf.dc;refine WC.dS (m:=21) bf mixed<|dw ?_;refine DP .r (fun _ hC=>V1 aX (cJ.range ((As.Ma hC.2.g7).1 _ _ kG).1) .r)<|dF ?_;refine DP .r (fun _ hC=>PV.ld1 (j:=1) aX (cJ.range (As.gb hC.2.g5)) rfl rfl)<|DP .r (fun _ hC=>(PV.eqi rfl rfl).cast (v':=.bool true) (congrArg Value.bool (decide_eq_true hv)))<|(ey) ?_;rintro w4 ⟨pE,br⟩ _;refine eA ?_;refine WC.zw rfl<|(bN) aX (cJ.range ((As.Ma br.g7).1 _ _ kG).1)<|(cm) ?_;exact⟨ml,by rw [XG gQ kG hv],hm,iI.refl _,br.drop.drop.drop⟩
theorem Gv(bF:St w M Z w [As.map Key.val S.m ml,As.map Key.val S.q [],As.blk wb 154 (D.wc S.s rev ra rn rc),As.map Key.val D.m mD,As.qf 60 lf l]) (hf:(S.FV prog ab x0).p Z w) (oW:Rd RR.aH 4 Z w D.a1 D.n1 D.c1 x0.ah) (hm:ba ab x0.ah ml) (jT:kD l lf mD) (hR:ay ab) (hS:∀k,(valOf ab x0.ah k).size≤1000) (gQ:aB k=false) (kG:aD l k=some r) (hv:¬r.az=rev) (hk:gS ab k):Calls prog 147 #[.pointer (some ⟨wb,0,none⟩),k.val] w fun e w'=>∃eb,e=.returned (.int .i64 (bR (valOf ab x0.ah) ⟨rev,x0.ah,l⟩ k))∧ba ab x0.ah eb∧iI ml eb∧St w M Z w' [As.map Key.val S.m eb,As.map Key.val S.q [],As.blk wb 154 (D.wc S.s rev ra rn rc),As.map Key.val D.m mD,As.qf 60 lf l]:=by
 refine enter func147 rfl ntmps147 rfl<|?_;have aW:=bF;have st1:=aW.fr oW;have st2:=st1.fact (B:=As.fz (S.FV prog ab x0)) hf (fun _ hx=>hx);refine(eD) st2 fun b3 w1 ic dA aP=>?_;refine dF ?_;have zq:=aP.dc;refine WC.dS (m:=5) aP mixed<|(lF) iP St.g5<|(jA) av St.g0<|(ey)<|?_;rintro w2 ⟨fj,aV⟩ _;refine WP .r (PV.dG eF iQ jx (As.gm aV.g6) (jT.yes kG) rfl rfl)<|(bz) av aV.b0<|?_;refine WL.c1 (u:=.bool false) (dN (k:=k)) (by rw [gQ]) aV fun w3 s3 bf=>?_;refine dw ?_;refine WC.iu rfl<|(bp) (fun g21=>?_) fun g21=>?_
 ·
  exact gM g21
 refine nx ?_;refine WC.dq (m:=21) [] [16] [0,1,2,3,4,5,6,7,8,9,10,11,12,13,14,15,16,17,18,19,20] [] bf (ax.k4 M0 M1 M2 M5<|ax.cons M6<|ax.cons M7<|ax.nil) mixed (by kernel_rfl) (by kernel_rfl) rfl<|?_
 iterate 3 refine DG.a ?_
 refine DQ .r (fun wx Zx Rx _ fV lX=>V1 aX (cJ.range ((As.Ma (fV.sv lX).g5).1 _ _ kG).1) .r)<|?_
 iterate 4 refine DG.a ?_
 refine DQ .r (fun wx Zx Rx _ fV lX=>PV.ld1 (j:=1) aX (cJ.range (As.gb (fV.sv lX).g3)) rfl rfl)<|DQ .r (fun wx Zx Rx _ fV lX=>(PV.eqi rfl rfl).cast (v':=.bool false) (congrArg Value.bool (decide_eq_false hv)))<|?_
 iterate 4 refine DG.a ?_
 refine(wS) uu SV.g3<|(oz) av SV.g0<|(jD) (fun w4 auT ap3 br anR=>?_);simp only [CA,NA] at br;have bP:=br.p4.p4;refine OX.call Qh rfl rfl ((F2 hR hS hk _ _ _ _ _ bP.e2 (As.gf bP.g3) hm (fun _=>nU.nil _)).mono ?_);rintro _ w5 ⟨fq,rfl,jg,fU,ja⟩;have bS:=St.lr bP ja;refine⟨_,rfl,ja.cX.size,_,rfl,_,_,_,bS,aC.k4<|aC.k4<|aC.nil,ax.k4 M2 M3 M4 M5<|ax.cons M6<|ax.cons M7<|ax.nil,?_⟩
 iterate 3 refine DG.a ?_
 refine DQ .r (fun wx Zx Rx _ fV lX=>V1 iq (cJ.range ((As.Ma (fV.sv lX).g5).1 _ _ kG).1) .r)<|(oa)<|?_;intro w6 pE bX;simp only [CM,NM,CA,NA,lA.it] at bX;refine dw ?_;refine WL.nil (EX.np ?_);refine(bp) (fun oq=>?_) fun oq=>?_
 ·
  simp at oq
  refine(bN) aX (cJ.range ((As.Ma bX.g7).1 _ _ kG).1)<|(cm) ?_;exact⟨fq,by rw [Mb gQ kG hv,if_pos oq],jg,fU,bX.p2.drop.p2.drop.p2.drop⟩
 simp at oq
 refine qC ?_;refine WP .r (PV.ld1 (j:=1) aX bX.b5 rfl rfl)<|(cm) ?_;exact⟨fq,by rw [Mb gQ kG hv,if_neg oq],jg,fU,bX.p2.drop.p2.drop.p2.drop⟩
theorem Je(bF:St w M Z w [As.map Key.val S.m ml,As.map Key.val S.q [],As.blk wb 154 (D.wc S.s rev ra rn rc),As.map Key.val D.m mD,As.qf 60 lf l]) (hf:(S.FV prog ab x0).p Z w) (oW:Rd RR.aH 4 Z w D.a1 D.n1 D.c1 x0.ah) (hm:ba ab x0.ah ml) (jT:kD l lf mD) (hR:ay ab) (hS:∀k,(valOf ab x0.ah k).size≤1000) (hk:gS ab k) (nS:KR ab l):Calls prog 147 #[.pointer (some ⟨wb,0,none⟩),k.val] w fun e w'=>∃eb,e=.returned (.int .i64 (bR (valOf ab x0.ah) ⟨rev,x0.ah,l⟩ k))∧ba ab x0.ah eb∧iI ml eb∧St w M Z w' [As.map Key.val S.m eb,As.map Key.val S.q [],As.blk wb 154 (D.wc S.s rev ra rn rc),As.map Key.val D.m mD,As.qf 60 lf l]:=by
 cases gQ:aB k with
 | true=>exact Gs (r:=pd) bF hf oW hm jT hR hS gQ (nS.aH gQ)
 | false=>
  cases kG:aD l k with
  | none=>exact Gt (r:=pd) bF hf oW hm jT hR hS gQ kG
  | some r=>
   by_cases hv:r.az=rev
   ·
    exact Gu bF hf oW hm jT hR hS gQ kG hv
   exact Gv bF hf oW hm jT hR hS gQ kG hv hk
theorem Gw{c:tz}(bF:St w M Z w [As.map Key.val S.m ml,As.map Key.val S.q [],As.blk wb 154 (D.wc S.s rev ra rn rc),As.map Key.val D.m mD,As.qf 60 lf l]) (hf:(S.FV prog ab x0).p Z w) (oW:Rd RR.aH 4 Z w D.a1 D.n1 D.c1 x0.ah) (hm:ba ab x0.ah ml) (jT:kD l lf mD) (hR:ay ab) (hS:∀k,(valOf ab x0.ah k).size≤1000) (hk:gS ab c.read) (nS:KR ab l) (kG:aD l c.fy=some r):Calls prog 95 #[.pointer (some ⟨wb,0,none⟩),.agg c.cells.toArray] w fun e w'=>∃eb,e=.returned (.bool (On (valOf ab x0.ah) ⟨rev,x0.ah,l⟩ c))∧ba ab x0.ah eb∧iI ml eb∧St w M Z w' [As.map Key.val S.m eb,As.map Key.val S.q [],As.blk wb 154 (D.wc S.s rev ra rn rc),As.map Key.val D.m mD,As.qf 60 lf l]:=by
 refine enter func95 rfl ntmps95 rfl<|?_;have aW:=bF;have st1:=aW.fr oW;have st2:=st1.fact (B:=As.fz (S.FV prog ab x0)) hf (fun _ hx=>hx);refine(eD) st2 fun b3 w1 ic dA aP=>?_;refine dF ?_;refine WC.dq (m:=14) [] [3] [0,1,2,3,4,5,6,7,8,9,10,11,12,13] [] aP (ax.k4 M7 M6 M5 M2<|ax.cons M1<|ax.cons M0<|ax.nil) mixed (by kernel_rfl) (by kernel_rfl) rfl<|?_
 iterate 2 refine DG.a ?_
 refine(JN) av SV.g5<|(jD) (fun w2 ZU La aV BZ=>?_);simp only [CA,NA] at aV;have bf:=aV.p7.p7.p7.p7.p7;refine OX.call aef rfl rfl ((Je (k:=c.read) bf.e5 (As.gf bf.g6) (As.gr bf.g7) hm jT hR hS hk nS).mono ?_);rintro _ w3 ⟨fq,rfl,jg,fU,eG⟩;have br:=St.lr bf eG;refine⟨_,rfl,eG.cX.size,_,rfl,_,_,_,br,aC.k4<|aC.k4<|aC.nil,ax.k4 M4 M3 M2 M7<|ax.cons M6<|ax.cons M5<|ax.nil,?_⟩
 iterate 3 refine DG.a ?_
 refine(wS) iP SV.g2<|(JN) av SV.g5<|?_;refine DQ .r (fun wx Zx Rx _ fV lX=>PV.dG eF iQ jx (As.gm (fV.sv lX).g1) (jT.yes kG) rfl rfl)<|?_
 iterate 2 refine DG.a ?_
 refine DQ .r (fun wx Zx Rx _ fV lX=>V1 aX (cJ.range ((As.Ma (fV.sv lX).g0).1 _ _ kG).1) .r)<|(oa)<|?_;intro w4 fj bP;simp only [CM,NM,CA,NA,lA.it] at bP;refine db ?_;refine WL.nil (EX.np ?_);refine(cm) ?_;exact⟨fq,by unfold On;rw [ct kG],jg,fU,bP.p5.drop.p5.drop.p5.drop⟩
theorem Jf{Z:Nat→Prop}(hW:cJ w wb 154 (D.wc v rev ra rn rc)) (hm:KM Key.val w D.m ml) (jT:kD l lf ml) (kG:aD l k=none) (gQ:aB k=true):CR prog 92 #[.pointer (some ⟨wb,0,none⟩),k.val] w (.bool true):=by
 refine enter func92 rfl ntmps92 rfl<|?_;have aW:=St.s0 w;refine(eD) aW fun b3 w1 ic dA st1=>?_;refine dF ?_;have zq:=st1.dc;refine WC.dS (m:=5) st1 mixed<|dw ?_;refine DP .r (fun _ hC=>V1 iP (cJ.range (hW.ext (St.cg hC.2))) .r)<|(jA) av St.g0<|(ey)<|?_;rintro w2 ⟨fj,st2⟩ _;refine WP .r (PV.mA eF iQ jx (hm.ext (St.cg st2)) (jT.no kG) rfl rfl)<|dF ?_;have QI:=st2.dc;refine WC.fc (m:=15) (E:=dy [(1,fun v _=>v=.bool true)]) st2 (bT (⟨fun _ _ _ _ _ _ _ h=>h,trivial⟩)) mixed (by kernel_rfl)<|(jA) av St.g0<|?_;refine DW.c1 (u:=.bool true) (fun wx hC hF=>dN (k:=k)) (by rw [gQ])<|?_;refine bC ?_;refine(ey) ?_;rintro w3 ⟨pC,aP⟩ ⟨_,_⟩;refine(cm) ?_;exact⟨rfl,(St.cg aP)⟩
theorem Jg{Z:Nat→Prop}(hW:cJ w wb 154 (D.wc v rev ra rn rc)) (hm:KM Key.val w D.m ml) (jT:kD l lf ml) (kG:aD l k=none) (gQ:aB k=false):CR prog 92 #[.pointer (some ⟨wb,0,none⟩),k.val] w (.bool false):=by
 refine enter func92 rfl ntmps92 rfl<|?_;have aW:=St.s0 w;refine(eD) aW fun b3 w1 ic dA st1=>?_;refine dF ?_;have zq:=st1.dc;refine WC.dS (m:=5) st1 mixed<|dw ?_;refine DP .r (fun _ hC=>V1 iP (cJ.range (hW.ext (St.cg hC.2))) .r)<|(jA) av St.g0<|(ey)<|?_;rintro w2 ⟨fj,st2⟩ _;refine WP .r (PV.mA eF iQ jx (hm.ext (St.cg st2)) (jT.no kG) rfl rfl)<|dF ?_;have QI:=st2.dc;refine WC.fc (m:=15) (E:=dy [(1,fun v _=>v=.bool false)]) st2 (bT (⟨fun _ _ _ _ _ _ _ h=>h,trivial⟩)) mixed (by kernel_rfl)<|(jA) av St.g0<|?_;refine DW.c1 (u:=.bool false) (fun wx hC hF=>dN (k:=k)) (by rw [gQ])<|dF ?_;refine DW.iB (t:=17) rfl (fun g17=>?_) (fun g17=>?_)
 ·
  exact gM g17
 refine(ey) ?_;rintro w3 ⟨pC,aP⟩ ⟨_,_⟩;refine(cm) ?_;exact⟨rfl,(St.cg aP)⟩
theorem Jh(hW:cJ w wb 154 (D.wc v rev ra rn rc)) (hm:KM Key.val w D.m ml) (jT:kD l lf ml) {r:Rec}(MA:(As.qf 60 lf l).ok Z w) (kG:aD l k=some r) (gQ:aB k=false):CR prog 92 #[.pointer (some ⟨wb,0,none⟩),k.val] w (.bool (decide (r.az=rev))):=by
 refine enter func92 rfl ntmps92 rfl<|?_;have aW:=St.s0 w;refine(eD) aW fun b3 w1 ic dA st1=>?_;refine dF ?_;have zq:=st1.dc;refine WC.dS (m:=5) st1 mixed<|dw ?_;refine DP .r (fun _ hC=>V1 iP (cJ.range (hW.ext (St.cg hC.2))) .r)<|(jA) av St.g0<|(ey)<|?_;rintro w2 ⟨fj,st2⟩ _;refine WP .r (PV.dG eF iQ jx (hm.ext (St.cg st2)) (jT.yes kG) rfl rfl)<|dF ?_;have QI:=st2.dc;refine WC.fc (m:=15) (E:=dy [(1,fun v _=>v=.bool false)]) st2 (bT (⟨fun _ _ _ _ _ _ _ h=>h,trivial⟩)) mixed (by kernel_rfl)<|(jA) av St.g0<|?_;refine DW.c1 (u:=.bool false) (fun wx hC hF=>dN (k:=k)) (by rw [gQ])<|dF ?_;refine DW.iB (t:=17) rfl (fun g17=>?_) (fun g17=>?_)
 ·
  refine dw ?_;refine DP .r (fun _ hC=>V1 aX (cJ.range ((MA.1 _ _ kG).1.ext (St.cg hC.2))) .r)<|dF ?_;refine DP .r (fun _ hC=>PV.ld1 (j:=1) aX (cJ.range (hW.ext (St.cg hC.2))) rfl rfl)<|(ey)<|?_;rintro w3 ⟨pC,aP⟩ ⟨_,_⟩;refine(cm) ?_;exact⟨rfl,(St.cg aP)⟩
 exact gM g17
theorem qw{aH:List dE}(hW:cJ w wb 154 (D.wc v rev ra rn rc)) (hm:KM Key.val w D.m ml) (jT:kD l lf ml) (MA:(As.qf 60 lf l).ok Z w) (nS:KR ab l):CR prog 92 #[.pointer (some ⟨wb,0,none⟩),k.val] w (.bool (aB k || aO ⟨rev,aH,l⟩ k)):=by
 cases gQ:aB k with
 | true=>exact Jf (Z:=Z) hW hm jT (nS.aH gQ) gQ
 | false=>
  cases kG:aD l k with
  | none=>
   have e:aO ⟨rev,aH,l⟩ k=false:=by unfold aO;rw [show(dV.mk rev aH l).ak=l from rfl,kG];rfl
   rw [e];exact Jg (Z:=Z) hW hm jT kG gQ
  | some r=>
   have e:aO ⟨rev,aH,l⟩ k=decide (r.az=rev):=by unfold aO;rw [show(dV.mk rev aH l).ak=l from rfl,kG,ct kG];rfl
   rw [e];exact Jh hW hm jT MA kG gQ
theorem Gx{r:Rec}(bF:St w M Z w [As.map Key.val S.m ml,As.map Key.val S.q [],As.blk wb 154 (D.wc S.s rev ra rn rc),As.map Key.val D.m mD,As.qf 60 lf l]) (hf:(S.FV prog ab x0).p Z w) (oW:Rd RR.aH 4 Z w D.a1 D.n1 D.c1 x0.ah) (hm:ba ab x0.ah ml) (jT:kD l lf mD) (hR:ay ab) (hS:∀k,(valOf ab x0.ah k).size≤1000) (nS:KR ab l) (ll:(aB k || aO ⟨rev,x0.ah,l⟩ k)=true):Calls prog 49 #[.pointer (some ⟨wb,0,none⟩),k.val] w fun e w'=>∃eb,e=.returned (.agg (vA (l6 (valOf ab x0.ah) ⟨rev,x0.ah,l⟩ k)).toArray)∧ba ab x0.ah eb∧iI ml eb∧St w M Z w' [As.map Key.val S.m eb,As.map Key.val S.q [],As.blk wb 154 (D.wc S.s rev ra rn rc),As.map Key.val D.m mD,As.qf 60 lf l]:=by
 refine enter func49 rfl ntmps49 rfl<|?_;have aW:=bF;have st1:=aW.fr oW;have st2:=st1.fact (B:=As.fz (S.FV prog ab x0)) hf (fun _ hx=>hx);refine(eD) st2 fun b3 w1 ic dA aP=>?_;refine(fT) aP fun b4 w2 jS bL aV=>?_;refine dw ?_;have zq:=aV.dc;refine WC.dS (m:=5) aV mixed<|(lF) iP St.g6<|(jA) av St.g1<|(ey)<|?_;rintro w3 ⟨fj,bf⟩ _;refine WP .r (PV.look eF iQ jx (As.gm bf.g7) rfl rfl)<|(bz) av bf.b1<|?_;refine WL.c1 (u:=.bool true) (qw (aH:=x0.ah) (As.gb bf.g6) (As.gm bf.g7) jT (As.Ma bf.g8) nS) (by rw [ll]) bf fun w4 s4 br=>?_;refine dw ?_;refine WC.zw rfl<|(dB) AW br fun w5 jC jI bP=>?_;refine(mI) uq bP.b0<|?_;exact⟨ml,by rw [PK ll];rfl,hm,iI.refl _,bP.drop.drop.drop.drop⟩
theorem Gy{r:Rec}(bF:St w M Z w [As.map Key.val S.m ml,As.map Key.val S.q [],As.blk wb 154 (D.wc S.s rev ra rn rc),As.map Key.val D.m mD,As.qf 60 lf l]) (hf:(S.FV prog ab x0).p Z w) (oW:Rd RR.aH 4 Z w D.a1 D.n1 D.c1 x0.ah) (hm:ba ab x0.ah ml) (jT:kD l lf mD) (hR:ay ab) (hS:∀k,(valOf ab x0.ah k).size≤1000) (nS:KR ab l) (ll:(aB k || aO ⟨rev,x0.ah,l⟩ k)=false) (kG:aD l k=none):Calls prog 49 #[.pointer (some ⟨wb,0,none⟩),k.val] w fun e w'=>∃eb,e=.returned (.agg (vA (l6 (valOf ab x0.ah) ⟨rev,x0.ah,l⟩ k)).toArray)∧ba ab x0.ah eb∧iI ml eb∧St w M Z w' [As.map Key.val S.m eb,As.map Key.val S.q [],As.blk wb 154 (D.wc S.s rev ra rn rc),As.map Key.val D.m mD,As.qf 60 lf l]:=by
 refine enter func49 rfl ntmps49 rfl<|?_;have aW:=bF;have st1:=aW.fr oW;have st2:=st1.fact (B:=As.fz (S.FV prog ab x0)) hf (fun _ hx=>hx);refine(eD) st2 fun b3 w1 ic dA aP=>?_;refine(fT) aP fun b4 w2 jS bL aV=>?_;refine dw ?_;have zq:=aV.dc;refine WC.dS (m:=5) aV mixed<|(lF) iP St.g6<|(jA) av St.g1<|(ey)<|?_;rintro w3 ⟨fj,bf⟩ _;refine WP .r (PV.mA eF iQ jx (As.gm bf.g7) (jT.no kG) rfl rfl)<|(bz) av bf.b1<|?_;refine WL.c1 (u:=.bool false) (qw (aH:=x0.ah) (As.gb bf.g6) (As.gm bf.g7) jT (As.Ma bf.g8) nS) (by rw [ll]) bf fun w4 s4 br=>?_;refine dw ?_;refine WC.iu rfl<|(bp) (fun g19=>?_) fun g19=>?_
 ·
  refine db ?_;refine WP .r (PV.cD (us:=[.int .i64 1,.int .i64 0,.string ⟨#[]⟩]) HX rfl rfl rfl)<|(dB) AW br fun w5 jC jI bP=>?_;refine(mI) uq bP.b0<|?_;exact⟨ml,by rw [Kh ll kG];rfl,hm,iI.refl _,bP.drop.drop.drop.drop⟩
 exact gM g19
theorem Gz(bF:St w M Z w [As.map Key.val S.m ml,As.map Key.val S.q [],As.blk wb 154 (D.wc S.s rev ra rn rc),As.map Key.val D.m mD,As.qf 60 lf l]) (hf:(S.FV prog ab x0).p Z w) (oW:Rd RR.aH 4 Z w D.a1 D.n1 D.c1 x0.ah) (hm:ba ab x0.ah ml) (jT:kD l lf mD) (hR:ay ab) (hS:∀k,(valOf ab x0.ah k).size≤1000) (nS:KR ab l) (ll:(aB k || aO ⟨rev,x0.ah,l⟩ k)=false) (kG:aD l k=some r) (hd:r.cq=true):Calls prog 49 #[.pointer (some ⟨wb,0,none⟩),k.val] w fun e w'=>∃eb,e=.returned (.agg (vA (l6 (valOf ab x0.ah) ⟨rev,x0.ah,l⟩ k)).toArray)∧ba ab x0.ah eb∧iI ml eb∧St w M Z w' [As.map Key.val S.m eb,As.map Key.val S.q [],As.blk wb 154 (D.wc S.s rev ra rn rc),As.map Key.val D.m mD,As.qf 60 lf l]:=by
 refine enter func49 rfl ntmps49 rfl<|?_;have aW:=bF;have st1:=aW.fr oW;have st2:=st1.fact (B:=As.fz (S.FV prog ab x0)) hf (fun _ hx=>hx);refine(eD) st2 fun b3 w1 ic dA aP=>?_;refine(fT) aP fun b4 w2 jS bL aV=>?_;refine dw ?_;have zq:=aV.dc;refine WC.dS (m:=5) aV mixed<|(lF) iP St.g6<|(jA) av St.g1<|(ey)<|?_;rintro w3 ⟨fj,bf⟩ _;refine WP .r (PV.dG eF iQ jx (As.gm bf.g7) (jT.yes kG) rfl rfl)<|(bz) av bf.b1<|?_;refine WL.c1 (u:=.bool false) (qw (aH:=x0.ah) (As.gb bf.g6) (As.gm bf.g7) jT (As.Ma bf.g8) nS) (by rw [ll]) bf fun w4 s4 br=>?_;refine dw ?_;refine WC.iu rfl<|(bp) (fun g19=>?_) fun g19=>?_
 ·
  exact gM g19
 refine(bN) fG (cJ.range ((As.Ma br.g8).1 _ _ kG).1)<|(bp) (fun g23=>?_) fun g23=>?_
 ·
  refine db ?_;refine WP .r (PV.cD (us:=[.int .i64 3,.int .i64 0,.string ⟨#[]⟩]) HX rfl rfl rfl)<|(dB) AW br fun w5 jC jI bP=>?_;refine(mI) uq bP.b0<|?_;exact⟨ml,by rw [D4 ll kG hd];rfl,hm,iI.refl _,bP.drop.drop.drop.drop⟩
 exact gM g23
set_option maxHeartbeats 1600000 in
theorem GA(bF:St w M Z w [As.map Key.val S.m ml,As.map Key.val S.q [],As.blk wb 154 (D.wc S.s rev ra rn rc),As.map Key.val D.m mD,As.qf 60 lf l]) (hf:(S.FV prog ab x0).p Z w) (oW:Rd RR.aH 4 Z w D.a1 D.n1 D.c1 x0.ah) (hm:ba ab x0.ah ml) (jT:kD l lf mD) (hR:ay ab) (hS:∀k,(valOf ab x0.ah k).size≤1000) (nS:KR ab l) (ll:(aB k || aO ⟨rev,x0.ah,l⟩ k)=false) (kG:aD l k=some r) (hd:r.cq=false) (h6:l.length≤4000) (Uy:∀r∈l,r.reads.length≤4000):Calls prog 49 #[.pointer (some ⟨wb,0,none⟩),k.val] w fun e w'=>∃eb,e=.returned (.agg (vA (l6 (valOf ab x0.ah) ⟨rev,x0.ah,l⟩ k)).toArray)∧ba ab x0.ah eb∧iI ml eb∧St w M Z w' [As.map Key.val S.m eb,As.map Key.val S.q [],As.blk wb 154 (D.wc S.s rev ra rn rc),As.map Key.val D.m mD,As.qf 60 lf l]:=by
 have cy:=S1 (rev:=rev) kG
 have Oh:(aF l rev k).length≤4001:=by have:=qa l rev k;omega
 have hcb:=Nu Uy Oh
 have uT:(cC l (aF l rev k)).length≤100000000:=by have:=hcb (aF l rev k).length;rw [List.take_of_length_le (Nat.le_refl _)] at this;exact this
 refine enter func49 rfl ntmps49 rfl<|?_;have aW:=bF;have st1:=aW.fr oW;have st2:=st1.fact (B:=As.fz (S.FV prog ab x0)) hf (fun _ hx=>hx);refine(eD) st2 fun b3 w1 ic dA aP=>?_;refine(fT) aP fun b4 w2 jS bL aV=>?_;refine dw ?_;have zq:=aV.dc;refine WC.dS (m:=5) aV mixed<|(lF) iP St.g6<|(jA) av St.g1<|(ey)<|?_;rintro w3 ⟨fj,bf⟩ _;refine WP .r (PV.dG eF iQ jx (As.gm bf.g7) (jT.yes kG) rfl rfl)<|(bz) av bf.b1<|?_;refine WL.c1 (u:=.bool false) (qw (aH:=x0.ah) (As.gb bf.g6) (As.gm bf.g7) jT (As.Ma bf.g8) nS) (by rw [ll]) bf fun w4 s4 br=>?_;refine dw ?_;refine WC.iu rfl<|(bp) (fun g19=>?_) fun g19=>?_
 ·
  exact gM g19
 refine(bN) fG (cJ.range ((As.Ma br.g8).1 _ _ kG).1)<|(bp) (fun g23=>?_) fun g23=>?_
 ·
  exact gM g23
 refine(bz) av br.b1<|?_;have bP:=br;refine(df) akc (Df (k:=k) bP.e0 (As.gb bP.g6) (As.gm bP.g7) jT (As.Ma bP.g8) nS.ai0 h6 Uy) ?_;rintro _ w5 ⟨u1,u2,u3,rfl,ja⟩;have bS:=St.lr bP ja;have bX:=bS;refine(df) akb (Cj bX.e0 (As.gb bX.g7) (As.gm bX.g8) jT (As.Ma bX.g9) (Ow.rd (As.gs bX.g0) (by omega)) cy hcb) ?_;rintro _ w6 ⟨o1,o2,o3,rfl,nL⟩;have aM:=St.lr bX nL;have hcn:=((As.gs aM.g0)).len;refine eA ?_;refine WC.bQ (σ:=Nat × (List (Key × Value))) (eI:=fun(q,fq)=>[(0,.pointer (some ⟨wb,0,none⟩)),(3,.pointer (some ⟨b3,0,none⟩)),(4,.pointer (some ⟨b4,0,none⟩)),(33,.slice o1 o2 o3),(34,.int .i64 (o2:Int)),(35,.int .i64 (q:Int))]) (F:=fun(q,fq)=>[As.map Key.val S.m fq]) (I:=fun(q,fq)=>(q≤o2)∧(ba ab x0.ah fq)∧(iI ml fq)∧(∀(j:Nat) (c:tz),j<q→(cC l (aF l rev k))[j]?=some c→On (valOf ab x0.ah) ⟨rev,x0.ah,l⟩ c=false)∧True) (μ:=fun(q,fq)=>o2 - q) (0,ml) (aM.p6) Sub.t (⟨Nat.zero_le _,hm,iI.refl _,fun j c h=>by omega,trivial⟩)<|?_;rintro⟨q,fq⟩ w7 aT ⟨hq,jg,fU,gh,_⟩;simp only [CA,NA] at aT hq jg fU gh ⊢;refine(bp) (fun ir=>?_) fun ir=>?_
 ·
  simp at ir
  have zs:q<(cC l (aF l rev k)).length:=by omega
  obtain⟨c0,Ol⟩:∃c0,(cC l (aF l rev k))[q]?=some c0:=⟨_,aq zs⟩;obtain⟨Cp,agR,_⟩:=eR.1 (List.mem_of_getElem? Ol);obtain⟨rm,hrm⟩:=cy _ Cp;rw [ct hrm] at agR;have hkc:=(nS rm (bm hrm).1).2.2 _ agR;refine eA ?_;obtain⟨gE,aS⟩:=Ow.addr (As.gs aT.g1) Ol;refine nx ?_;refine WP .r (PV.fm Mk aS rfl rfl (by omega))<|(bz) Fl (Ow.rE (As.gs aT.g1) (by omega) aS Ol)<|(fT) aT fun b7 w8 tJ nT aY=>?_;refine(dB) P9 aY fun w9 jC jI bG=>?_;refine(bz) Fl bG.b0<|?_;have bB:=bG.pJ.pJ.pJ.pJ.p5;refine(df) akd (Gw (c:=c0) bB.e5 (As.gf bB.g10) (As.gr bB.g11) jg jT hR hS hkc nS hrm) ?_;rintro _ kM ⟨kK,rfl,KW,yW,jy⟩;have bd:=St.lr bB jy;refine(bp) (fun kE=>?_) fun kE=>?_
  ·
   refine kJ ?_
   refine fx (q+1,kK) ⟨bd.p5.drop.sL.sL.sL.sL.sL.sL.p6,⟨by omega,KW,fU.trans yW,fun j c hj hc=>by
      rcases Nat.lt_or_ge j q with h1 | h1
      ·
       exact gh j c h1 hc
      have e:j=q:=by omega
      subst e;rw [Ol] at hc
      cases hc
      simpa using kE,trivial⟩⟩
  have hdf:On (valOf ab x0.ah) ⟨rev,x0.ah,l⟩ c0=true:=by simpa using kE
  have hwc:=S0 (x:=⟨rev,x0.ah,l⟩) ll kG hd Ol gh hdf;refine(kl) av bd.b5<|(bz) av (cJ.range (As.gb bd.g9))<|?_;refine WP .r (PV.G3 gB (p:=c0.fy) (q:=k) rfl rfl)<|(bp) (fun Bl=>?_) fun Bl=>?_
  ·
   simp at Bl
   rw [if_pos Bl] at hwc;refine(kl) av bd.b5<|?_;refine WP .r (PV.cD (us:=[.int .i64 2,.int .i64 c0.read.kind,.string c0.read.text]) HX rfl rfl rfl)<|(dB) AW bd.p8 fun kN r7 mR aU=>?_;refine(mI) uq aU.b0<|?_;exact⟨kK,by rw [hwc];rfl,KW,fU.trans yW,aU.drop.p5.drop.p5.drop.p5.drop.p5.drop.p5.drop.p5.drop⟩
  simp at Bl
  rw [if_neg Bl] at hwc;refine(kl) av bd.b5<|?_;refine WP .r (PV.cD (us:=[.int .i64 3,.int .i64 c0.read.kind,.string c0.read.text]) HX rfl rfl rfl)<|(dB) AW bd.p8 fun kN Ej td aU=>?_;refine(mI) uq aU.b0<|?_;exact⟨kK,by rw [hwc];rfl,KW,fU.trans yW,aU.drop.p5.drop.p5.drop.p5.drop.p5.drop.p5.drop.p5.drop⟩
 simp at ir
 have hns:=HP (val:=(valOf ab x0.ah)) (x:=⟨rev,x0.ah,l⟩) ll kG hd (fun j c hj hc=>gh j c (by have h1:j<(cC l (aF l rev k)).length:=hj;omega) hc);refine(dB) AW aT.p3 fun w8 RZ wX aY=>?_;refine(mI) uq aY.b0<|?_;exact⟨fq,by rw [hns];rfl,jg,fU,aY.drop.p1.drop.p1.drop.p1.drop.p1.drop.p1.drop⟩
theorem Ji(bF:St w M Z w [As.map Key.val S.m ml,As.map Key.val S.q [],As.blk wb 154 (D.wc S.s rev ra rn rc),As.map Key.val D.m mD,As.qf 60 lf l]) (hf:(S.FV prog ab x0).p Z w) (oW:Rd RR.aH 4 Z w D.a1 D.n1 D.c1 x0.ah) (hm:ba ab x0.ah ml) (jT:kD l lf mD) (hR:ay ab) (hS:∀k,(valOf ab x0.ah k).size≤1000) (nS:KR ab l) (h6:l.length≤4000) (Uy:∀r∈l,r.reads.length≤4000):Calls prog 49 #[.pointer (some ⟨wb,0,none⟩),k.val] w fun e w'=>∃eb,e=.returned (.agg (vA (l6 (valOf ab x0.ah) ⟨rev,x0.ah,l⟩ k)).toArray)∧ba ab x0.ah eb∧iI ml eb∧St w M Z w' [As.map Key.val S.m eb,As.map Key.val S.q [],As.blk wb 154 (D.wc S.s rev ra rn rc),As.map Key.val D.m mD,As.qf 60 lf l]:=by
 cases ll:(aB k || aO ⟨rev,x0.ah,l⟩ k) with
 | true=>exact Gx (r:=pd) bF hf oW hm jT hR hS nS ll
 | false=>
  cases kG:aD l k with
  | none=>exact Gy (r:=pd) bF hf oW hm jT hR hS nS ll kG
  | some r=>
   cases hd:r.cq with
   | true=>exact Gz bF hf oW hm jT hR hS nS ll kG hd
   | false=>exact GA bF hf oW hm jT hR hS nS ll kG hd h6 Uy
set_option maxHeartbeats 1600000 in
theorem GB{ar:Option Addr}{r cr:Nat}(bF:St w M Z w []) (ht:oy prog Z w) (hu:Rd RR.gN 4 Z w ar r cr ab) (oW:Rd RR.aH 4 Z w a1 n1 e1 x.ah) (hr:Rd RR.fl 8 Z w a2 n2 e2 x.ak) (h6:x.ak.length≤4000) (h7:x.ah.length≤4000) (hS:qc x.ak):Calls prog 48 #[.slice ar r cr,.agg (x.row a1 n1 e1 a2 n2 e2).toArray] w fun e w'=>∃(D:WD) (S:SD) (wb:Nat) (lf:Key→RL) (ml:List (Key × Value)) (Z':Nat→Prop),e=.returned (.pointer (some ⟨wb,0,none⟩))∧kD x.ak lf ml∧cQ w.heap.size Z Z'∧(S.FV prog ab x).p Z' w'∧Rd RR.aH 4 Z' w' D.a1 D.n1 D.c1 x.ah∧St w M Z' w' [As.map Key.val S.m [],As.map Key.val S.q [],As.blk wb 154 (D.wc S.s x.ae none 0 0),As.map Key.val D.m ml,As.qf 60 lf x.ak]:=by
 refine enter func48 rfl ntmps48 rfl<|?_;have aW:=bF;have st1:=aW.fr hu;have st2:=st1.fr oW;have aP:=st2.fr hr;have aV:=aP.fact (B:=As.fz (FZ.LH prog)) ht (fun _ hx=>hx);refine(eD) aV fun b3 w1 ic dA bf=>?_;refine dF ?_;refine WC.dq (m:=7) [] [2,6] [1,2,4,5,6,0,3] [(3,.map)] bf (ax.k4 M0 M1 M2 M3<|ax.cons M4<|ax.nil) mixed (by kernel_rfl) (by kernel_rfl) rfl<|(oz) aN SV.g0<|(jD) (fun w2 Q1 BW br sj=>?_);simp only [CA,NA] at br;have bP:=br;refine OX.call adO rfl rfl ((si (x:=x) bP.e0 (As.gr bP.g3) (As.gr bP.g2) (by omega) (by omega)).mono ?_);rintro _ w3 ⟨f1,f2,f3,f4,f5,f6,Z1,rfl,gP,eG⟩;have bS:=St.lv bP eG gP;have EB:=St.cK eG.p1;have K8:=St.cK eG;have fj:=bP.size;have oN:=gP.le fj;have Nr:f5=x.ak.length:=((As.gs bS.g1)).len;have auV:f2=x.ah.length:=((As.gs bS.g0)).len;have bX:=bS.p1.bV (by omega);have aM:=bX.p1.bV (by omega);have kZ:=(oN.trans (cQ.fo (F:=fun x=>x∈aL f4) EB) fj).trans (cQ.fo (F:=fun x=>x∈aL f1) K8) fj;refine⟨_,rfl,eG.cX.size,_,rfl,_,_,_,aM,aC.k4<|aC.k2<|aC.cons<|aC.nil,ax.k4 M2 M3 M4 M5<|ax.cons M6<|ax.nil,?_⟩;refine(oz) aN SV.g0<|(jD) (fun w4 Wa IK aT sn=>?_);simp only [CA,NA] at aT;have aY:=aT;refine OX.call TS rfl rfl ((ou (x:=x) aY.e0).mono ?_);rintro _ w5 ⟨d1,d2,d3,rfl,ja⟩;have bG:=St.lr aY ja;have hgv:=St.cK ja;have aac:=aY.size;have bB:=bG;have bd:=bB.freeze (B:=As.fz (SD.FV (⟨ar,a1,a2,r,cr,n1,e1,n2,e2,d2,d3,d1⟩:SD) prog ab x)) ⟨(SD.F (⟨ar,a1,a2,r,cr,n1,e1,n2,e2,d2,d3,d1⟩:SD) prog ab x).mono (fun _ h=>.inl h) ⟨(As.gr bB.g9),(As.gr bB.g8),(As.gr bB.g7),(As.gf bB.g6)⟩,.inr rfl,((As.gb bB.g0)).lt,cJ.range (As.gb bB.g0)⟩ (fun _ hx=>hx);have qN:=kZ.trans (cQ.fo (F:=fun x=>x=d1) hgv) aac;refine⟨_,rfl,ja.cX.size,_,rfl,_,_,_,bd,aC.k4<|aC.k4<|aC.k2<|aC.nil,ax.k4 M5 M6 M7 M8<|ax.cons M9<|ax.nil,?_⟩;refine DG.a<|?_;refine DG.side (s:=.map) rfl rfl rfl rfl rfl rfl (fun wx Zx Rx BX fV=>OX.makeMap Key.val rfl fun b wy nw hb=>⟨nw.ext.size,_,rfl,⟨b,rfl⟩,fV.O2 nw hb⟩)<|?_;rintro _ ⟨tS,rfl⟩;refine(oa) ?_;intro w6 fj aU;simp only [CM,NM,CA,NA,lA.it] at aU;refine WP .r (PV.cD (us:=(WD.wc ⟨ar,f1,f4,r,cr,f2,f3,f5,f6,tS,d1⟩ d1 x.ae none 0 0)) Vk rfl rfl rfl)<|(eD) aU fun wv w7 QP Ud bM=>?_;refine nx ?_;refine WL.nil (EX.np ?_);refine kJ ?_;refine WP .r (PV.ld1 (j:=3) ez bM.b0 rfl rfl)<|eA ?_;have lf0:Key→RL:=fun _=>⟨0,none,0,0⟩;have bO:=St.aiU bM 60 lf0;refine WC.bQ (σ:=Nat × (Key→RL) × (List (Key × Value))) (eI:=fun(i,lf,ml)=>[(5,.pointer (some ⟨wv,0,none⟩)),(21,.slice f4 f5 f6),(22,.int .i64 (f5:Int)),(23,.int .i64 (i:Int))]) (F:=fun(i,lf,ml)=>[As.map Key.val tS ml,As.qf 60 lf (x.ak.take i)]) (I:=fun(i,lf,ml)=>(i≤x.ak.length)∧(kD (x.ak.take i) lf ml)∧True) (μ:=fun(i,lf,ml)=>x.ak.length - i) (0,lf0,[]) (bO.p2) Sub.t (⟨Nat.zero_le _,kD.nil _,trivial⟩)<|?_;rintro⟨i,lf,ml⟩ w8 bD ⟨hi,uX,_⟩;simp only [CA,NA] at bD hi uX ⊢;refine(bp) (fun g24=>?_) fun g24=>?_
 ·
  simp at g24
  have cV:i<x.ak.length:=by omega
  have hfx:∀y,aD (x.ak.take (i+1)) y=if y=x.ak[i].key then some x.ak[i] else aD (x.ak.take i) y:=fun y=>by rw [List.take_succ_eq_append_getElem cV];exact Ke (hS.ne cV) y
  refine eA ?_;obtain⟨gE,js,iT,aS,fi,bq,bY,di⟩:=Rd.at (As.gr bD.g7) cV;obtain⟨q1,q2,q3,rfl,pA,oM⟩:=bq;have cx:=bD.fg di bY;have cG:=cx.fr pA;refine nx ?_;refine WP .r (PV.fm iF aS rfl rfl (by omega))<|(bz) dm (As.nh cG.g1)<|(fT) cG fun b7 w9 tJ nT cF=>?_;refine(dB) gC cF fun kM jC jI cM=>?_;refine db ?_;have hN5:=cM.dc;refine WC.dS (m:=6) cM mixed<|(lF) iP St.g5<|(Cm) av St.g0<|(ey)<|?_;rintro kN ⟨C1,cv⟩ _;refine WL.go rfl (OX.put eF iQ (As.gm cv.g3) rfl rfl rfl fun qL FD BE=>?_);have cI:=cv.p3.mH FD BE;refine dw ?_;have ef:=cI.p4.p2;have dh:=St.XB (q:=⟨b7,q1,q2,q3⟩) ef (As.gr ef.g3) oM hfx;refine dF ?_;refine fx (i+1,_,_) ⟨dh.p2.drop.p2.drop.p1,⟨by omega,uX.put (q:=⟨b7,q1,q2,q3⟩) hfx,trivial⟩⟩
 simp at g24
 have Lf:x.ak.take i=x.ak:=List.take_of_length_le (by omega);rw [Lf] at uX;have cx:=bD.p1.Cl (B:=As.qf 60 lf x.ak) (by rw [Lf]);refine(cm) ?_;exact⟨⟨ar,f1,f4,r,cr,f2,f3,f5,f6,tS,d1⟩,(⟨ar,a1,a2,r,cr,n1,e1,n2,e2,d2,d3,d1⟩:SD),wv,lf,ml,_,rfl,uX,qN,(As.gf cx.g3),(As.gr cx.g6),cx.p3.drop.p5.drop.p5.drop.p5.drop.p5.drop.p5.drop.p5.drop.p5.drop.p1.p2.p4.p4⟩
end Go.Rc

