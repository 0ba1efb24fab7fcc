/- Walks over the program, part WZr. Conditions: as each theorem says. -/
import Derived.Test.YtjpagoacbadijaaGreatDoorVFacts
import Derived.Test.YtjpagoacbadijaaGreatDoorVWZl
import Derived.Test.YtjpagoacbadijaaGreatDoorVWZe
import Derived.Test.YtjpagoacbadijaaGreatDoorVBh
set_option linter.all false
namespace Go.Rc
open Go Go.Proofs Go.Proofs.Tryz
variable {r:Rec}{rev:Int}{w:World}{D:WD}{v rn rc wb pb n1 e1 n2 e2:Nat}{ra a1 a2:Option Addr}{k:Key}{ml oP:List (Key × Value)}{Z M:Nat→Prop}{l:List Rec}{lf:Key→RL}{x x0:dP}{ab:List aG}{S:SD}
set_option maxHeartbeats 400000
theorem Fb{a:Option Addr}{n c:Nat}(hk:gT r.key):CR prog 92 #[.agg (r.row a n c).toArray,.int .i64 rev] w (.bool (aA r.key && (decide (r.ax<rev) && !r.bS))):=by
 refine enter func92 rfl ntmps92 rfl<|?_;have bd:=St.s0 w;refine(fm) bd fun b2 w1 nv fl st1=>?_;refine dV ?_;refine WC.nP (t:=4) (v:=.bool (aA r.key && (decide (r.ax<rev) && !r.bS))) st1 ?_<|?_
 ·
  refine(kB) aq st1.b0<|?_;refine WL.c1 (u:=.bool (aA r.key)) (oe (k:=r.key) hk) (by rw [abL hk]) st1 fun w2 s2 st2=>?_;refine(ed) (fun g8=>?_) (fun g8=>?_)
  ·
   refine(bM) aU st2.b0<|(ed) (fun g14=>?_) (fun g14=>?_)
   ·
    refine(bM) fq st2.b0<|?_;exact(iH) (tG (aj g8 g14)) (st2)
   exact(iH) (tG (aj g8 g14)) (st2)
  exact(iH) (tG g8) (st2)
 intro w2 st2;refine(cy) ?_;exact⟨rfl,(St.cg st2)⟩
theorem Fc(hB:cV w pb 76 [.pointer (some ⟨wb,0,none⟩)]) (hW:cV w wb 121 (D.wc v rev ra rn rc)) (hm:KM Key.val w D.m ml) (hg:(bX ml k).getD (.pointer none)=.pointer none):CR prog 91 #[k.val,.pointer (some ⟨pb,0,none⟩)] w (.tuple #[.slice none 0 0,.bool false]):=by
 refine enter func91 rfl ntmps91 rfl<|?_;have bd:=St.s0 w;refine(fm) bd fun b2 w1 nv fl st1=>?_;refine jo ?_;have Au:=st1.cX;refine WC.dS (m:=5) st1 mixed<|?_;refine DP .r (fun _ hC=>PV.pA Pa (cV.range (hB.ext (St.cg hC.2))) rfl rfl)<|cS ?_;refine DP .r (fun _ hC=>V1 ju (cV.range (hW.ext (St.cg hC.2))) .r)<|(iX) aq St.g0<|(eb)<|?_;rintro w2 ⟨fx,st2⟩ _;refine WP .r (PV.mL eG jv jT (hm.ext (St.cg st2)) (hg) rfl rfl)<|dV ?_;have QU:=st2.cX;refine WC.dS (m:=11) st2 mixed<|dA ?_;refine DW.iZ (t:=14) rfl (fun g14=>?_) (fun g14=>?_)
 ·
  exact ic g14
 refine(eb) ?_;rintro w3 ⟨pw,aW⟩ _;refine dV ?_;refine WC.ke rfl<|(Fy) ?_;exact⟨rfl,(St.cg aW)⟩
theorem Fe{q:RL}(hB:cV w pb 76 [.pointer (some ⟨wb,0,none⟩)]) (hW:cV w wb 121 (D.wc v rev ra rn rc)) (hm:KM Key.val w D.m ml) (hg:bX ml k=some (.pointer (some ⟨q.b,0,none⟩))) (hR:cV w q.b 48 (r.row q.a q.n q.c)) (hk:gT r.key):Calls prog 91 #[k.val,.pointer (some ⟨pb,0,none⟩)] w fun e w'=>∃(a:Option Addr) (n c:Nat),e=.returned (.tuple #[.slice a n c,.bool (aA r.key && (decide (r.ax<rev) && !r.bS))])∧((aA r.key && (decide (r.ax<rev) && !r.bS))=true→a=q.a∧n=q.n∧c=q.c)∧aV [] w w':=by
 refine enter func91 rfl ntmps91 rfl<|?_;have bd:=St.s0 w;refine(fm) bd fun b2 w1 nv fl st1=>?_;refine jo ?_;have Au:=st1.cX;refine WC.dS (m:=5) st1 mixed<|?_;refine DP .r (fun _ hC=>PV.pA Pa (cV.range (hB.ext (St.cg hC.2))) rfl rfl)<|cS ?_;refine DP .r (fun _ hC=>V1 ju (cV.range (hW.ext (St.cg hC.2))) .r)<|(iX) aq St.g0<|(eb)<|?_;rintro w2 ⟨fx,st2⟩ _;refine WP .r (PV.dH eG jv jT (hm.ext (St.cg st2)) (hg) rfl rfl)<|dV ?_;have QU:=st2.cX;refine WC.dS (m:=11) st2 mixed<|dA ?_;refine DW.iZ (t:=14) rfl (fun g14=>?_) (fun g14=>?_)
 ·
  refine cS ?_;refine DP .r (fun _ hC=>VA eB (cV.range (hR.ext (St.cg hC.2))) .r)<|DP .r (fun _ hC=>PV.pA Pa (cV.range (hB.ext (St.cg hC.2))) rfl rfl)<|dA ?_;refine DP .r (fun _ hC=>PV.ld1 (j:=1) aU (cV.range (hW.ext (St.cg hC.2))) rfl rfl)<|(eb)<|?_;rintro w3 ⟨pw,aW⟩ _;refine(iu) (Fb (r:=r) hk) aW fun w4 s4 ba=>?_;refine(aZ) (fun g24=>?_) fun g24=>?_
  ·
   have hoo:(aA r.key && (decide (r.ax<rev) && !r.bS))=true:=by first | exact g24 | simpa using g24
   refine(bM) gJ (cV.range (hR.ext (St.cg ba)))<|(Fy) ?_;exact⟨q.a,q.n,q.c,by rw [hoo],fun _=>⟨rfl,rfl,rfl⟩,(St.cg ba)⟩
  have hoo:(aA r.key && (decide (r.ax<rev) && !r.bS))=false:=by first | exact g24 | simpa using g24
  refine(Fy) ?_;exact⟨none,0,0,by rw [hoo],(fun h=>by rw [hoo] at h;cases h),(St.cg ba)⟩
 exact ic g14
theorem Kb(hB:cV w pb 76 [.pointer (some ⟨wb,0,none⟩)]) (hW:cV w wb 121 (D.wc v rev ra rn rc)) (hm:KM Key.val w D.m ml) (jD:jR l lf ml) (QC:(As.oT 48 lf l).ok Z w) (l4:∀r∈l,gT r.key) (k:Key):Calls prog 91 #[k.val,.pointer (some ⟨pb,0,none⟩)] w fun e w'=>∃(a:Option Addr) (n c:Nat),e=.returned (.tuple #[.slice a n c,.bool (cJ l rev k)])∧(cJ l rev k=true→Rd RR.key 2 Z w' a n c (aH l k).reads)∧aV [] w w':=by
 cases hf:aB l k with
 | none=>
  refine(Fc hB hW hm (jD.no hf)).mono<|?_;rintro e w' ⟨rfl,hc⟩
  have ho:cJ l rev k=false:=by unfold cJ;rw [hf];rfl
  exact⟨none,0,0,by rw [ho],(fun h=>by rw [ho] at h;cases h),hc⟩
 | some r=>
  obtain⟨hR,rT,_⟩:=QC.1 k r hf;obtain⟨hr,hk⟩:=aT hf;refine(Fe (k:=k) hB hW hm (jD.yes hf) hR (l4 r hr)).mono<|?_;rintro e w' ⟨a,n,c,rfl,ha,hc⟩
  have ho:cJ l rev k=(aA r.key && (decide (r.ax<rev) && !r.bS)):=by
   unfold cJ
   rw [bD hf,hf,← hk]
   rfl
  refine⟨a,n,c,by rw [ho],fun h=>?_,hc⟩;rw [ho] at h;obtain⟨rfl,rfl,rfl⟩:=ha h;rw [bD hf];exact rT.ext hc
set_option maxHeartbeats 1600000 in
theorem Ff{f:FuncId}{cap:Value}(bJ:St w M Z w []) (Bn:CF prog f) (hop:∀w1,aV [] w w1→∀y:Key,Calls prog f #[y.val,cap] w1 fun e w'=>∃(a:Option Addr) (n c:Nat),e=.returned (.tuple #[.slice a n c,.bool (cJ l rev y)])∧(cJ l rev y=true→Rd RR.key 2 Z w' a n c (aH l y).reads)∧aV [] w1 w') (h6:l.length≤4000) (Q4:∀r∈l,r.reads.length≤4000):Calls prog 90 #[k.val,.func (.func f) #[] #[cap]] w fun e w'=>∃(a:Option Addr) (n c:Nat),e=.returned (.slice a n c)∧St w M Z w' [As.os RR.key 39 2 a n c (aC l rev k)]:=by
 refine enter func90 rfl ntmps90 rfl<|?_;have bd:=St.rb bJ;refine(fm) bd fun b2 w1 nv fl st1=>?_;refine(bA) aq st1.b0<|?_;refine WL.go rfl (OX.ud Bn rfl rfl rfl ((Calls.cap (hop _ (St.cg st1) k)).mono ?_));rintro _ w2 ⟨f1,f2,f3,rfl,_,s2⟩;refine⟨_,rfl,?_⟩;have st2:=st1.step s2;refine bf ?_;refine(aZ) (fun qg=>?_) fun qg=>?_
 ·
  have ho:cJ l rev k=false:=by simpa using qg
  have hv:aC l rev k=[k]:=by unfold aC;rw [if_neg (by rw [ho];simp)]
  refine(bA) aq st2.b0<|?_;refine WL.go rfl (OX.aR (us:=k.cells) eM rfl rfl rfl rfl fun b31 w3 afD ami=>?_);have aW:=St.rP (R:=RR.key) (E:=39) (k:=2) (a:=some ⟨b31,0,none⟩) (n:=1) (c:=1) (xs:=[k]) st2 afD.ext (OR.ek ami (Nat.zero_le _) rfl (by simp [Key.cells,Value.oneCell']) rfl) (fun x hx=>by simp [aI] at hx;subst hx;exact afD.ge);refine(cy) ?_;exact⟨_,_,_,rfl,by rw [hv];exact(St.wk aW.p1.drop)⟩
 have ho:cJ l rev k=true:=by simpa using qg
 refine dV ?_;refine WL.mm Key.val st2 fun Ny w3 ZE att aW=>?_;refine eC ?_;refine WL.mm Key.val aW fun Tp w4 Qg atu ba=>?_;refine(bA) aq ba.b2<|?_;refine WL.go rfl (OX.ins eG kS (As.gm ba.g0) rfl rfl rfl fun w5 PO JN=>?_);have bs:=ba.nq PO JN;refine dA ?_;have bj:=bs.Fx (B:=As.map Key.val Tp (oG [k])) (rfl);refine(bA) aq bj.b2<|?_;refine WL.go rfl (OX.aR (us:=k.cells) eM rfl rfl rfl rfl fun b37 w6 amj amk=>?_);have bV:=bj.eI amj amk;refine cS ?_;have bT:=bV;have cm:=bT.conv (B:=As.os RR.key 39 2 (some ⟨b37,0,none⟩) 1 1 [k]) (OR.ek (As.gb bT.g0) (Nat.zero_le _) rfl (by simp [Key.cells,Value.oneCell']) rfl) (fun x h=>by show x=b37;change x∈aI (some ⟨b37,0,none⟩) at h;simpa [aI] using h);refine kP ?_;have aM:=cm.abx;refine WC.cq (σ:=Nat × (List Key) × (List (Key × Value)) × (List RE) × (Option Addr) × Nat × Nat) (eP:=fun(i,L,ZF,Lb,qZ,qa,re)=>[(1,.func (.func f) #[] #[cap]),(2,.pointer (some ⟨b2,0,none⟩)),(7,.map (some Ny)),(8,.map (some Tp)),(9,.slice qZ qa re),(10,.int .i64 (i:Int))]) (F:=fun(i,L,ZF,Lb,qZ,qa,re)=>[As.os RR.key 39 2 qZ qa re (L),As.map Key.val Tp (oG L),As.map Key.val Ny ZF,As.many (Lb.map (RE.as 39))]) (I:=fun(i,L,ZF,Lb,qZ,qa,re)=>(i≤L.length)∧(xS l rev k (kn Lb) L i 0)∧(xR Lb ZF)∧((Lb.map (·.key)).Nodup)∧True) (μ:=fun(i,L,ZF,Lb,qZ,qa,re)=>4001 - i) (0,[k],[],[],(some ⟨b37,0,none⟩),1,1) (aM.p3.p3.p3) Sub.t (⟨Nat.zero_le _,xS.start fun _=>rfl,xR.nil,by simp,trivial⟩)<|?_;rintro⟨i,L,ZF,Lb,qZ,qa,re⟩ w7 aO ⟨Bg,hF,jD,wF,_⟩;simp only [CA,NA] at aO Bg hF jD wF ⊢;have hln:=((As.gs aO.g0)).len;have hle:=hF.le ho;refine(aZ) (fun Ab=>?_) fun Ab=>?_
 ·
  simp at Ab
  have cT:i<L.length:=by omega
  have VO:=hF.op ho (List.getElem_mem cT);obtain⟨ri,lC,_⟩:=cD.1 VO;have ZD:aH l L[i]=ri:=bD lC;have atv:=Q4 ri (aT lC).1;refine eC ?_;obtain⟨iz,aX⟩:=Ow.addr (As.gs aO.g0) (ao cT);refine dV ?_;refine WP .r (PV.fO fV aX rfl rfl (by omega))<|(bA) aq (Ow.qq (As.gs aO.g0) (by omega) aX (ao cT))<|?_;refine WL.go rfl (OX.ud Bn rfl rfl rfl ((Calls.cap (hop _ (St.cg aO) L[i])).mono ?_));rintro _ w8 ⟨f4,f5,f6,rfl,hq4,s8⟩;refine⟨_,rfl,?_⟩;have aS:=aO.step s8;have hq5:=hq4 VO;rw [ZD] at hq5;have bC:=aS.fr (hq5);have hqn:=((As.gr bC.g0)).len;refine bf ?_;refine dA ?_;refine WC.cq (σ:=Nat × (List Key) × (List (Key × Value)) × (List RE) × (Option Addr) × Nat × Nat) (eP:=fun(q,L2,HU,Kc,qZ,qa,re)=>[(1,.func (.func f) #[] #[cap]),(2,.pointer (some ⟨b2,0,none⟩)),(7,.map (some Ny)),(8,.map (some Tp)),(9,.slice qZ qa re),(10,.int .i64 (i:Int)),(53,.slice f4 f5 f6),(54,.int .i64 (f5:Int)),(55,.int .i64 (q:Int))]) (F:=fun(q,L2,HU,Kc,qZ,qa,re)=>[As.os RR.key 39 2 qZ qa re (L2),As.map Key.val Tp (oG L2),As.map Key.val Ny HU,As.many (Kc.map (RE.as 39))]) (I:=fun(q,L2,HU,Kc,qZ,qa,re)=>(q≤f5)∧(xS l rev k (kn Kc) L2 i q)∧(xR Kc HU)∧((Kc.map (·.key)).Nodup)∧(L2[i]?=some L[i])∧True) (μ:=fun(q,L2,HU,Kc,qZ,qa,re)=>f5 - q) (0,L,ZF,Lb,qZ,qa,re) (bC.p4.p4.p4.p4) Sub.t (⟨Nat.zero_le _,hF,jD,wF,ao cT,trivial⟩)<|?_;rintro⟨q,L2,HU,Kc,qZ,qa,re⟩ w9 br ⟨hq,ZG,te,rR,sa,_⟩;simp only [CA,NA] at br hq ZG te rR sa ⊢;have atw:=((As.gs br.g0)).len;have iP:=ZG.le ho;have Ia:i<L2.length:=(List.getElem?_eq_some_iff.1 sa).1;refine(aZ) (fun MT=>?_) fun MT=>?_
  ·
   simp at MT
   have lV:q<ri.reads.length:=by omega
   obtain⟨x,Q0⟩:∃x,ri.reads[q]=x:=⟨_,rfl⟩
   have hj0:(aH l L[i]).reads[q]?=some x:=by rw [ZD,ao lV,Q0]
   refine eC ?_;obtain⟨xX,MG,JI,gp,An,im,lS,qO⟩:=Rd.at (As.gr br.g4) lV;have im:=RR.cG im;subst im;have aY:=br.fg qO lS;rw [Q0] at lS aY;refine nx ?_;refine WP .r (PV.fO fV gp rfl rfl (by omega))<|(bA) aq (As.oS aY.g0)<|(gy) aY fun Bm kE Yt Qk aQ=>?_;refine(dB) jz aQ fun kF sC nj bB=>?_;refine(bA) aq bB.b0<|?_;refine WL.go rfl (OX.ud Bn rfl rfl rfl ((Calls.cap (hop _ (St.cg bB) x)).mono ?_));rintro _ qf ⟨f7,f8,f9,rfl,_,s12⟩;refine⟨_,rfl,?_⟩;have bL:=bB.step s12;refine bf ?_;refine(aZ) (fun g66=>?_) fun g66=>?_
   ·
    have hox:cJ l rev x=false:=by simpa using g66
    refine kP ?_;refine fJ (q+1,L2,HU,Kc,qZ,qa,re) ⟨bL.drop.drop,⟨by omega,ZG.skip sa hj0 hox,te,rR,sa,trivial⟩⟩
   have hox:cJ l rev x=true:=by simpa using g66
   refine dA ?_;obtain⟨PU,mf⟩:=Ow.addr (As.gs bL.g2) sa;have bG:=bL.p5;obtain⟨ea,en,ec,dL,aml⟩:=St.abP (EK:=39) rR te x bG;have ck:=aml;have hen:=((As.gs ck.g0)).len;have VN:=ZG.len x;refine WC.du (m:=11) [] [7,9] [0,1,2,3,4,5,6,7,8,9,10] [(6,.sl 39 1 L[i].cells)] ck (av.k4 M1 M2 M3 M4<|av.cons M5<|av.cons M7<|av.cons M8<|av.nil) mixed (by kernel_rfl) (by kernel_rfl) rfl<|(pS) aq SV.g1<|?_
   iterate 2 refine DG.a ?_
   refine DQ .r (fun wx Zx Rx _ fN kT=>PV.fO fV mf rfl rfl (by omega))<|DQ .r (fun wx Zx Rx _ fN kT=>VA aq (Ow.qq (As.gs (fN.sv kT).g3) (by omega) mf sa) .r)<|?_;refine DG.side (s:=.sl 39 1 L[i].cells) rfl rfl rfl rfl rfl rfl (fun wx Zx Rx BU fN=>OX.aR (us:=L[i].cells) eM rfl rfl rfl rfl fun b wy nw hb=>⟨nw.ext.size,_,rfl,⟨b,rfl⟩,fN.eI nw hb⟩)<|?_;rintro _ ⟨b74,rfl⟩;refine(jb) (fun tU R7x aew cw Qe=>?_);simp only [CA,NA] at cw;refine OX.mapEntry eG Pe Up (As.gm cw.g6) (dL) rfl rfl rfl fun z75 Ay s75 afE=>?_;have cx:=cw.p6.abN s75 afE;refine⟨s75.size,_,rfl,_,_,_,cx,ay.k4<|ay.k4<|ay.cons<|ay.nil,av.k4 M2 M3 M4 M5<|av.cons M6<|av.cons M7<|av.cons M8<|av.nil,?_⟩;refine(jb) (fun uP R9x Qa cU AQ=>?_);simp only [CA,NA] at cU;refine OX.ox rU rfl rfl rfl (As.gs cU.g1) (SR.ek (A:=fun _=>True) (x:=L[i]) (show cV _ b74 _ _ from cU.ok _ (.tail _ (.tail _ (.tail _ (.tail _ (.tail _ (.tail _ (.tail _ (.tail _ (.tail _ (AQ _ (.head _)))))))))))) trivial rfl (by simp [Key.cells,Value.oneCell']) rfl) (by omega) (by omega) (Nat.zero_le _) fun a76 MR yq Yz s76 YA ako=>?_;have ct:=cU.p1.jk s76 Yz YA;refine⟨s76.size,_,rfl,_,_,_,ct,ay.k4<|ay.k4<|ay.cons<|ay.nil,av.k4 M2 M3 M4 M5<|av.cons M6<|av.cons M7<|av.cons M8<|av.nil,?_⟩;refine(oD) ?_;intro En UR cN;simp only [CM,NM,CA,NA,lG.it] at cN;refine WL.go rfl (OX.entryStore (As.gmb cN.g2) rfl rfl rfl fun De Ep Er=>?_);have ef:=cN.p2.abO Ep Er;refine WL.nil (EX.np ?_);have dq:=ef.p3.p3;have ew:=St.ahL dq;obtain⟨Lb3,hL3⟩:∃Lb3:List RE,Lb3=⟨x,a76,(en+1),MR,kn Kc x++[L[i]]⟩::rest Kc x:=⟨_,rfl⟩;have db:=ew.Fx (B:=As.many (Lb3.map (RE.as 39))) (by rw [hL3]);have ZH:=te.put (x:=x) (v:=.slice ea en ec) (a:=a76) (n:=en+1) (c:=MR) (kn Kc x++[L[i]]);have Te:=I8 (x:=x) (a:=a76) (n:=en+1) (c:=MR) rR (kn Kc x++[L[i]])
   have afF:kn Lb3=uz (kn Kc) x L[i]:=by rw [hL3];exact RX
   rw [← hL3] at ZH Te;refine(bA) aq db.b3<|?_;refine WP .r (PV.mL eG kS GV (As.gm db.g6) (GF L2 x) rfl rfl)<|(aZ) (fun g81=>?_) fun g81=>?_
   ·
    have TD:x∉L2:=by simpa using g81
    refine WC.du (m:=6) [] [5] [2,3,4,5,0,1] [(4,.sl 39 1 x.cells)] db (av.k4 M0 M1 M2 M3<|av.k4 M4 M6 M7 M8<|av.nil) mixed (by kernel_rfl) (by kernel_rfl) rfl<|(pS) aq SV.g3<|?_;refine DG.side (s:=.sl 39 1 x.cells) rfl rfl rfl rfl rfl rfl (fun wx Zx Rx BU fN=>OX.aR (us:=x.cells) eM rfl rfl rfl rfl fun b wy nw hb=>⟨nw.ext.size,_,rfl,⟨b,rfl⟩,fN.eI nw hb⟩)<|?_;rintro _ ⟨b86,rfl⟩;refine(jb) (fun JT To ED dM qS=>?_);simp only [CA,NA] at dM;refine OX.ox rU rfl rfl rfl (As.gs dM.g5) (SR.ek (A:=fun _=>True) (x:=x) (show cV _ b86 _ _ from dM.ok _ (.tail _ (.tail _ (.tail _ (.tail _ (.tail _ (.tail _ (.tail _ (.tail _ (.tail _ (qS _ (.head _)))))))))))) trivial rfl (by simp [Key.cells,Value.oneCell']) rfl) (by omega) (by omega) (Nat.zero_le _) fun a87 amo MM amp s87 amq atz=>?_;have cR:=dM.p5.jk s87 amp amq;refine⟨s87.size,_,rfl,_,_,_,cR,ay.k4<|ay.k4<|ay.cons<|ay.nil,av.k4 M1 M2 M3 M4<|av.k4 M5 M6 M7 M8<|av.nil,?_⟩;refine(pS) aq SV.g3<|(oD)<|?_;intro Lm aoU di;simp only [CM,NM,CA,NA,lG.it] at di;refine WL.go rfl (OX.put eG kS (As.gm di.g7) rfl rfl rfl fun Tr YB YC=>?_);have dr:=di.p7.nq YB YC;refine nx ?_;refine WL.nil (EX.np ?_);have eQ:=dr.Fx (B:=As.map Key.val Tp (oG (L2++[x]))) (by rw [GG _ TD]);refine jo ?_;refine fJ (q+1,L2++[x],_,Lb3,a87,(qa+1),amo) ⟨eQ.p1.drop.p4.drop.p4.drop.p4.drop.p3.p1.p2,⟨by omega,by rw [afF];exact ZG.new sa hj0 hox TD,ZH,Te,by rw [List.getElem?_append_left Ia];exact sa,trivial⟩⟩
   have TD:x∈L2:=by simpa using g81
   refine gM ?_;refine fJ (q+1,L2,_,Lb3,qZ,qa,re) ⟨db.p2.drop.p2.drop.p2.drop.p1.p3.p3,⟨by omega,by rw [afF];exact ZG.vq sa hj0 hox TD,ZH,Te,sa,trivial⟩⟩
  simp at MT
  refine uj ?_;refine fJ (i+1,L2,HU,Kc,qZ,qa,re) ⟨br.p4.drop,⟨by show i+1≤L2.length;omega,ZG.next sa (by rw [ZD];omega) (by omega),te,rR,trivial⟩⟩
 simp at Ab
 refine jo ?_;have hed:=hF.ahN (show L.length≤i by omega)
 have Nk:∀e∈Lb,e.reads.length≤140737488355328:=fun e he=>by
  have h1:=hF.len e.key
  have h2:i≤4001:=by omega
  rw [OM wF he] at h1
  omega
 refine nx ?_;refine WL.mm Key.val aO fun b89 w8 atA atB aS=>?_;refine(bA) aq aS.b5<|?_;refine WL.go rfl (OX.ins eG kS (As.gm aS.g0) rfl rfl rfl fun w9 Yh Yi=>?_);have bC:=aS.nq Yh Yi;refine dA ?_;have br:=bC.Fx (B:=As.map Key.val b89 (oG [k])) (rfl);refine(bA) aq br.b5<|?_;refine WL.go rfl (OX.aR (us:=k.cells) eM rfl rfl rfl rfl fun b93 kE YI YJ=>?_);have aY:=br.eI YI YJ;refine cS ?_;have aQ:=aY;have bB:=aQ.conv (B:=As.os RR.key 39 2 (some ⟨b93,0,none⟩) 1 1 [k]) (OR.ek (As.gb aQ.g0) (Nat.zero_le _) rfl (by simp [Key.cells,Value.oneCell']) rfl) (fun x h=>by show x=b93;change x∈aI (some ⟨b93,0,none⟩) at h;simpa [aI] using h);refine kP ?_;have bL:=bB.p5;have bG:=St.bkF Nk bL;refine WC.cq (σ:=Nat × (List Key) × (Option Addr) × Nat × Nat) (eP:=fun(j,U,r5,rf,r6)=>[(7,.map (some Ny)),(17,.map (some b89)),(18,.slice r5 rf r6),(19,.int .i64 (j:Int))]) (F:=fun(j,U,r5,rf,r6)=>[As.os RR.key 39 2 r5 rf r6 (U),As.map Key.val b89 (oG U)]) (I:=fun(j,U,r5,rf,r6)=>(CU l rev k (kn Lb) U j 0)∧True) (μ:=fun(j,U,r5,rf,r6)=>4001 - j) (0,[k],(some ⟨b93,0,none⟩),1,1) (bG.p2.p2) Sub.t (⟨CU.start,trivial⟩)<|?_;rintro⟨j,U,r5,rf,r6⟩ kF ck ⟨hB,_⟩;simp only [CA,NA] at ck hB ⊢;have hun:=((As.gs ck.g0)).len;have atC:=hB.le ho;refine(aZ) (fun YV=>?_) fun YV=>?_
 ·
  simp at YV
  have Tt:j<U.length:=by omega
  refine eC ?_;obtain⟨v1,v2,v3,qD,mS⟩:=xR.read jD (As.gf ck.g2) U[j];have cw:=ck.fr (mS);have hsn:=((As.gr cw.g0)).len;have hbq:=hF.len U[j];obtain⟨adX,xu⟩:=Ow.addr (As.gs cw.g1) (ao Tt);refine dV ?_;refine WP .r (PV.fO fV xu rfl rfl (by omega))<|(bA) aq (Ow.qq (As.gs cw.g1) (by omega) xu (ao Tt))<|?_;refine WP .r (PV.mL eG Pe Up (As.gm cw.g6) (qD) rfl rfl)<|eC ?_;refine WC.cq (σ:=Nat × (List Key) × (Option Addr) × Nat × Nat) (eP:=fun(p,U2,r5,rf,r6)=>[(7,.map (some Ny)),(17,.map (some b89)),(18,.slice r5 rf r6),(19,.int .i64 (j:Int)),(105,.slice v1 v2 v3),(106,.int .i64 (v2:Int)),(107,.int .i64 (p:Int))]) (F:=fun(p,U2,r5,rf,r6)=>[As.os RR.key 39 2 r5 rf r6 (U2),As.map Key.val b89 (oG U2)]) (I:=fun(p,U2,r5,rf,r6)=>(p≤v2)∧(CU l rev k (kn Lb) U2 j p)∧(U2[j]?=some U[j])∧True) (μ:=fun(p,U2,r5,rf,r6)=>v2 - p) (0,U,r5,rf,r6) (cw.p2.p2) Sub.t (⟨Nat.zero_le _,hB,ao Tt,trivial⟩)<|?_;rintro⟨p,U2,r5,rf,r6⟩ qf cx ⟨hp,Bw,Mg,_⟩;simp only [CA,NA] at cx hp Bw Mg ⊢;have atD:=((As.gs cx.g0)).len;have aoW:=Bw.le ho;have hj4:j<U2.length:=(List.getElem?_eq_some_iff.1 Mg).1;refine(aZ) (fun ZI=>?_) fun ZI=>?_
  ·
   simp at ZI
   have pO:p<(kn Lb U[j]).length:=by omega
   obtain⟨x,Q0⟩:∃x,(kn Lb U[j])[p]=x:=⟨_,rfl⟩
   have YH:(kn Lb U[j])[p]?=some x:=by rw [ao pO,Q0]
   refine eC ?_;obtain⟨alU,atF,atG,Lo,aoX,QD,Vf,afG⟩:=Rd.at (As.gr cx.g2) pO;have QD:=RR.cG QD;subst QD;have cU:=cx.fg afG Vf;rw [Q0] at Vf cU;refine nx ?_;refine WP .r (PV.fO fV Lo rfl rfl (by omega))<|(bA) aq (As.oS cU.g0)<|(gy) cU fun b21 tU Zq Zr ct=>?_;refine(dB) jz ct fun Ay Yj Yk cN=>?_;refine(bA) aq cN.b0<|?_;refine WP .r (PV.mL eG kS GV (As.gm cN.g3) (GF U2 x) rfl rfl)<|(aZ) (fun EO=>?_) fun EO=>?_
   ·
    have TD:x∉U2:=by simpa using EO
    refine WC.du (m:=6) [] [5] [2,3,4,5,0,1] [(4,.sl 39 1 x.cells)] cN (av.k4 M0 M1 M3 M4<|av.k4 M5 M6 M7 M8<|av.cons M9<|av.nil) mixed (by kernel_rfl) (by kernel_rfl) rfl<|(pS) aq SV.g0<|?_;refine DG.side (s:=.sl 39 1 x.cells) rfl rfl rfl rfl rfl rfl (fun wx Zx Rx BU fN=>OX.aR (us:=x.cells) eM rfl rfl rfl rfl fun b wy nw hb=>⟨nw.ext.size,_,rfl,⟨b,rfl⟩,fN.eI nw hb⟩)<|?_;rintro _ ⟨amr,rfl⟩;refine(jb) (fun uP To ED ef qS=>?_);simp only [CA,NA] at ef;refine OX.ox rU rfl rfl rfl (As.gs ef.g2) (SR.ek (A:=fun _=>True) (x:=x) (show cV _ amr _ _ from ef.ok _ (.tail _ (.tail _ (.tail _ (.tail _ (.tail _ (.tail _ (.tail _ (.tail _ (.tail _ (.tail _ (qS _ (.head _))))))))))))) trivial rfl (by simp [Key.cells,Value.oneCell']) rfl) (by omega) (by omega) (Nat.zero_le _) fun ams afH yq afI afJ afK aoY=>?_;have dq:=ef.p2.jk afJ afI afK;refine⟨afJ.size,_,rfl,_,_,_,dq,ay.k4<|ay.k4<|ay.k2<|ay.nil,av.k4 M1 M2 M3 M4<|av.k4 M5 M6 M7 M8<|av.cons M9<|av.nil,?_⟩;refine(pS) aq SV.g0<|(oD)<|?_;intro En aoZ ew;simp only [CM,NM,CA,NA,lG.it] at ew;refine WL.go rfl (OX.put eG kS (As.gm ew.g4) rfl rfl rfl fun De amt amu=>?_);have db:=ew.p4.nq amt amu;refine nx ?_;refine WL.nil (EX.np ?_);have dM:=db.Fx (B:=As.map Key.val b89 (oG (U2++[x]))) (by rw [GG _ TD]);refine jo ?_;refine fJ (p+1,U2++[x],ams,(rf+1),afH) ⟨dM.p1.drop.p2.drop.p2.drop.p1,⟨by omega,Bw.add hed Mg YH TD,by rw [List.getElem?_append_left hj4];exact Mg,trivial⟩⟩
   have TD:x∈U2:=by simpa using EO
   refine gM ?_;refine fJ (p+1,U2,r5,rf,r6) ⟨cN.drop.drop,⟨by omega,Bw.has Mg YH TD,Mg,trivial⟩⟩
  simp at ZI
  refine uj ?_;refine fJ (j+1,U2,r5,rf,r6) ⟨cx.p2.drop,⟨Bw.next Mg (by omega),trivial⟩⟩
 simp at YV
 have amv:=fun {L'}=>hB.group (L':=L') ho hed (show U.length≤j by omega);refine jo ?_;have amw:=St.fresh ck;have cw:=ck.bN (by omega);refine cS ?_;have cx:=cw;refine(dh) ac1 (Bb cx.e0 (As.gr cx.g0) (List.ne_nil_of_mem hB.mem) hB.mE (by omega)) ?_;rintro _ qf ⟨o1,o2,o3,L9,rfl,hsl,UL,xt⟩;have cU:=St.lr cx xt;have hL9:=amv hsl UL;subst hL9;refine dV ?_;have rL:St w M _ _ [As.os RR.key 39 2 o1 o2 o3 (aC l rev k)]:=(St.wk cU.k1);refine(cy) ?_;exact⟨o1,o2,o3,rfl,rL.unz (fun _ h=>.inl (.inl h)) (Ow.z (As.gs rL.g0))⟩
theorem B8(bJ:St w M Z w []) (hW:cV w wb 121 (D.wc v rev ra rn rc)) (hm:KM Key.val w D.m ml) (jD:jR l lf ml) (QC:(As.oT 48 lf l).ok Z w) (l4:∀r∈l,gT r.key) (h6:l.length≤4000) (Q4:∀r∈l,r.reads.length≤4000):Calls prog 58 #[.pointer (some ⟨wb,0,none⟩),k.val] w fun e w'=>∃(a:Option Addr) (n c:Nat),e=.returned (.slice a n c)∧St w M Z w' [As.os RR.key 39 2 a n c (aC l rev k)]:=by
 refine enter func58 rfl ntmps58 rfl<|?_;have bd:=St.rb bJ;refine(fm) bd fun b2 w1 nv fl st1=>?_;refine(fm) st1 fun b3 w2 iO dJ st2=>?_;refine(bA) aq st2.b0<|?_;refine WP .r (PV.func (us:=[]) (vs:=[.pointer (some ⟨b2,0,none⟩)]) rfl rfl)<|?_;have aW:=st2;refine(dh) ai5 (Ff (k:=k) aW.e0 ai6 (fun w1 h1 y=>Kb (cV.ext (As.gb aW.g1) h1) (hW.ext (aV.trans (St.cg aW) h1)) (hm.ext (aV.trans (St.cg aW) h1)) jD (As.exc QC (aV.trans (St.cg aW) h1)) l4 y) h6 Q4) ?_;rintro _ w3 ⟨o1,o2,o3,rfl,eN⟩;have ba:=St.lr aW eN;refine(cy) ?_;exact⟨o1,o2,o3,rfl,(St.wk ba.p1.drop.p1.drop)⟩
theorem Bc{group:List Key}{ag:Option Addr}{g eg:Nat}{A:Nat→Prop}(bJ:St w M Z w []) (hW:cV w wb 121 (D.wc v rev ra rn rc)) (hm:KM Key.val w D.m ml) (jD:jR l lf ml) (QC:(As.oT 48 lf l).ok Z w) (hg:Rd RR.key 2 A w ag g eg group) (cY:∀m∈group,∃r,aB l m=some r) (hb:∀i,((group.take i).flatMap fun m=>dW group m (aH l m).reads).length≤100000000):Calls prog 57 #[.pointer (some ⟨wb,0,none⟩),.slice ag g eg] w fun e w'=>∃(a:Option Addr) (n c:Nat),e=.returned (.slice a n c)∧St w M Z w' [As.os RR.LM 126 4 a n c (bW l group)]:=by
 have hlen:=hg.len;have hle:=hg.le;refine enter func57 rfl ntmps57 rfl<|?_;have bd:=St.rb bJ;have st1:=bd.eR RR.LM 126 4;refine bf ?_;refine gM ?_;refine WC.cq (σ:=Nat × (List sg) × (Option Addr) × Nat × Nat) (eP:=fun(i,acc,cE,cj,cF)=>[(0,.pointer (some ⟨wb,0,none⟩)),(1,.slice ag g eg),(5,.slice cE cj cF),(11,.slice ag g eg),(12,.int .i64 (g:Int)),(13,.int .i64 (i:Int))]) (F:=fun(i,acc,cE,cj,cF)=>[As.os RR.LM 126 4 cE cj cF (acc)]) (I:=fun(i,acc,cE,cj,cF)=>(i≤g)∧(acc=(group.take i).flatMap fun m=>dW group m (aH l m).reads)∧True) (μ:=fun(i,acc,cE,cj,cF)=>g - i) (0,[],none,0,0) (st1) Sub.t (⟨by omega,by simp,trivial⟩)<|?_;rintro⟨i,acc,cE,cj,cF⟩ w1 st2 ⟨hi,eu,_⟩;simp only [CA,NA] at st2 hi eu ⊢;refine(aZ) (fun g14=>?_) fun g14=>?_
 ·
  simp at g14
  have cT:i<group.length:=by omega
  refine eC ?_;obtain⟨iz,ku,jW,aX,gk,bF,cQ,dO⟩:=Rd.at hg cT;have bF:=RR.cG bF;subst bF;refine nx ?_;refine WP .r (PV.fO fV aX rfl rfl (by omega))<|(bA) aq (bH cQ (St.cg st2) (by simp))<|(gy) st2 fun b7 w2 vZ om aW=>?_;refine(dB) jz aW fun w3 jV j0 ba=>?_;refine dA ?_;obtain⟨r,hr⟩:=cY _ (List.getElem_mem cT);have hro:aH l group[i]=r:=bD hr;have hqr:=(QC.1 _ _ hr).2.1;have hq4:=(QC.1 _ _ hr).2.2;have bs:=ba.fr (hqr.ext (St.cg ba));have hqn:=hqr.len;have hN5:=bs.cX;refine WC.dS (m:=5) bs mixed<|dA ?_;refine DP .r (fun _ hC=>V1 ju (cV.range (hW.ext (St.cg hC.2))) .r)<|(iX) aq St.g1<|(eb)<|?_;rintro w4 ⟨EL,bj⟩ _;refine WP .r (PV.dH eG jv jT (hm.ext (St.cg bj)) (jD.yes hr) rfl rfl)<|(aZ) (fun g24=>?_) fun g24=>?_
  ·
   exact ic g24
  refine(bM) gJ (cV.range ((QC.1 _ _ hr).1.ext (St.cg bj)))<|eC ?_;refine WC.cq (σ:=Nat × (List sg) × (Option Addr) × Nat × Nat) (eP:=fun(j,jm,cE,cj,cF)=>[(0,.pointer (some ⟨wb,0,none⟩)),(1,.slice ag g eg),(5,.slice cE cj cF),(7,.pointer (some ⟨b7,0,none⟩)),(11,.slice ag g eg),(12,.int .i64 (g:Int)),(13,.int .i64 (i:Int)),(28,.slice (lf group[i]).a (lf group[i]).n (lf group[i]).c),(29,.int .i64 ((lf group[i]).n:Int)),(30,.int .i64 (j:Int))]) (F:=fun(j,jm,cE,cj,cF)=>[As.os RR.LM 126 4 cE cj cF (jm)]) (I:=fun(j,jm,cE,cj,cF)=>(j≤(lf group[i]).n)∧(jm=acc++dW group group[i] (r.reads.take j))∧True) (μ:=fun(j,jm,cE,cj,cF)=>(lf group[i]).n - j) (0,acc,cE,cj,cF) (bj.p2) Sub.t (⟨by omega,by simp [dW],trivial⟩)<|?_;rintro⟨j,jm,cE,cj,cF⟩ w5 bV ⟨hj,qN,_⟩;simp only [CA,NA] at bV hj qN ⊢;have l4:=((As.gs bV.g0)).len;have Lh:=hb i;rw [← eu] at Lh;have BA:=mh group group[i] (r.reads.take j)
  have htl:jm.length≤100100000:=by rw [qN,List.length_append];rw [List.length_take] at BA;omega
  refine(aZ) (fun rV=>?_) fun rV=>?_
  ·
   simp at rV
   have lV:j<r.reads.length:=by omega
   refine eC ?_;obtain⟨xX,MG,JI,gp,An,im,lS,qO⟩:=Rd.at (As.gr bV.g1) lV;have im:=RR.cG im;subst im;have bT:=bV.fg qO lS;refine nx ?_;refine WP .r (PV.fO fV gp rfl rfl (by omega))<|(bA) aq (As.oS bT.g0)<|(gy) bT fun iA w6 kL ft cm=>?_;refine(dB) jz cm fun w7 sC nj aM=>?_;refine(bA) aq aM.b0<|(iu) (oN (k:=r.reads[j]) (hg.ext (St.cg aM))) aM fun w8 s8 aO=>?_;refine(aZ) (fun uL=>?_) fun uL=>?_
   ·
    simp at uL
    have Mq:=lA (group:=group) (m:=group[i]) lV;rw [if_neg uL] at Mq;refine(bA) aq aO.b4<|(bA) aq aO.b0<|?_;refine WP .r (PV.bU (us:=(sg.mk group[i] r.reads[j]).cells) Ug rfl rfl rfl)<|?_;refine WL.go rfl (OX.aR (us:=(sg.mk group[i] r.reads[j]).cells) K6 rfl rfl rfl rfl fun b42 w9 amx amy=>?_);have aS:=aO.eI amx amy;refine WL.ap rfl rfl aS.p3 (SR.ek (A:=fun _=>True) (x:=sg.mk group[i] r.reads[j]) (As.gb aS.g0) trivial rfl (by simp [sg.cells,Value.oneCell']) rfl) fun a43 amz kE atL atM bC=>?_;refine kP ?_;refine fJ (j+1,_,a43,(cj+1),amz) ⟨bC.p5.p5.p2.k3,⟨by omega,by rw [Mq,qN,List.append_assoc],trivial⟩⟩
   simp at uL
   have Mq:=lA (group:=group) (m:=group[i]) lV;rw [if_pos uL] at Mq;refine gM ?_;refine fJ (j+1,_,cE,cj,cF) ⟨aO.drop.drop,⟨by omega,by rw [Mq,qN],trivial⟩⟩
  simp at rV
  have Dc:r.reads.take j=r.reads:=List.take_of_length_le (by omega);refine oC ?_;refine fJ (i+1,jm,cE,cj,cF) ⟨bV.p1.drop.p1.drop,⟨by omega,by rw [qN,Dc,eu,List.take_succ_eq_append_getElem cT];simp only [List.flatMap_append,List.flatMap_cons,List.flatMap_nil,List.append_nil,hro],trivial⟩⟩
 simp at g14
 have afL:group.take i=group:=List.take_of_length_le (by omega);rw [afL] at eu;subst eu;refine(cy) ?_;exact⟨_,_,_,rfl,(St.wk st2)⟩
theorem Fg(hi:Rd RR.aF 4 Z w a1 n1 e1 x.ad):CR prog 132 #[.agg (x.row a1 n1 e1 a2 n2 e2).toArray,k.val] w (.int .i64 (cZ x.ad k).changed):=by
 refine enter func132 rfl ntmps132 rfl<|?_;have bd:=St.s0 w;refine(fm) bd fun b2 w1 nv fl st1=>?_;refine(fm) st1 fun b3 w2 iO dJ st2=>?_;refine(bA) aP st2.b1<|(bA) aq st2.b0<|(dh) UD (uV (k:=k) (hi.ext (St.cg st2))) ?_;rintro _ w3 ⟨y,rfl,_,hy,s3⟩;have aW:=st2.step s3;refine WP .r (PV.yU (fs:=[_,_,_]) (f:=2) (off:=3) (T:=102) underlying102 rfl rfl (show ∀w,(isAgg 3).run _ w=.ok false w from isAgg3) rfl rfl)<|(cy) ?_;exact⟨by rw [← hy],(St.cg aW)⟩
theorem Fh{r:Rec}(bJ:St w M Z w [As.map Key.val S.m ml,As.map Key.val S.q [],As.blk wb 121 (D.wc S.s rev ra rn rc),As.map Key.val D.m oP,As.oT 48 lf l]) (hf:(S.FV prog ab x0).p Z w) (py:Rd RR.aF 4 Z w D.a1 D.n1 D.c1 x0.ad) (hm:bq ab x0.ad ml) (jD:jR l lf oP) (hR:aw ab) (hS:∀k,(valOf ab x0.ad k).size≤1000) (ij:az k=true) (ky:aB l k=none):Calls prog 93 #[.pointer (some ⟨wb,0,none⟩),k.val] w fun e w'=>∃fh,e=.returned (.int .i64 (bp (valOf ab x0.ad) ⟨rev,x0.ad,l⟩ k))∧bq ab x0.ad fh∧ji ml fh∧St w M Z w' [As.map Key.val S.m fh,As.map Key.val S.q [],As.blk wb 121 (D.wc S.s rev ra rn rc),As.map Key.val D.m oP,As.oT 48 lf l]:=by
 refine enter func93 rfl ntmps93 rfl<|?_;have bd:=bJ;have st1:=bd.fr py;have st2:=st1.fact (B:=As.fz (S.FV prog ab x0)) hf (fun _ hx=>hx);refine(fm) st2 fun b3 w1 iO dJ aW=>?_;refine dV ?_;have Au:=aW.cX;refine WC.dS (m:=5) aW mixed<|(kQ) ju St.g5<|(iX) aq St.g0<|(eb)<|?_;rintro w2 ⟨fx,ba⟩ _;refine WP .r (PV.mL eG jv jT (As.gm ba.g6) (jD.no ky) rfl rfl)<|(bA) aq ba.b0<|?_;refine WL.c1 (u:=.bool true) (eU (k:=k)) (by rw [ij]) ba fun w3 s3 bs=>?_;refine dA ?_;refine WC.Cb rfl<|nx ?_;have G9:=bs.cX;refine WC.dS (m:=5) bs mixed<|(Cp) aP St.g5<|(iX) aq St.g0<|(eb)<|?_;rintro w4 ⟨ez,bj⟩ _;refine(iu) (Fg (x:=⟨rev,x0.ad,l⟩) (k:=k) (a2:=D.a2) (n2:=D.n2) (e2:=D.c2) (As.gr bj.g2)) bj fun w5 s5 bV=>?_;refine(cy) ?_;exact⟨ml,by rw [Wm ij],hm,ji.refl _,bV.drop.drop.drop⟩
theorem Fi{r:Rec}(bJ:St w M Z w [As.map Key.val S.m ml,As.map Key.val S.q [],As.blk wb 121 (D.wc S.s rev ra rn rc),As.map Key.val D.m oP,As.oT 48 lf l]) (hf:(S.FV prog ab x0).p Z w) (py:Rd RR.aF 4 Z w D.a1 D.n1 D.c1 x0.ad) (hm:bq ab x0.ad ml) (jD:jR l lf oP) (hR:aw ab) (hS:∀k,(valOf ab x0.ad k).size≤1000) (ij:az k=false) (ky:aB l k=none):Calls prog 93 #[.pointer (some ⟨wb,0,none⟩),k.val] w fun e w'=>∃fh,e=.returned (.int .i64 (bp (valOf ab x0.ad) ⟨rev,x0.ad,l⟩ k))∧bq ab x0.ad fh∧ji ml fh∧St w M Z w' [As.map Key.val S.m fh,As.map Key.val S.q [],As.blk wb 121 (D.wc S.s rev ra rn rc),As.map Key.val D.m oP,As.oT 48 lf l]:=by
 refine enter func93 rfl ntmps93 rfl<|?_;have bd:=bJ;have st1:=bd.fr py;have st2:=st1.fact (B:=As.fz (S.FV prog ab x0)) hf (fun _ hx=>hx);refine(fm) st2 fun b3 w1 iO dJ aW=>?_;refine dV ?_;have Au:=aW.cX;refine WC.dS (m:=5) aW mixed<|(kQ) ju St.g5<|(iX) aq St.g0<|(eb)<|?_;rintro w2 ⟨fx,ba⟩ _;refine WP .r (PV.mL eG jv jT (As.gm ba.g6) (jD.no ky) rfl rfl)<|(bA) aq ba.b0<|?_;refine WL.c1 (u:=.bool false) (eU (k:=k)) (by rw [ij]) ba fun w3 s3 bs=>?_;refine dA ?_;refine WC.ke rfl<|(aZ) (fun g21=>?_) fun g21=>?_
 ·
  refine jo ?_;refine WP .r (PV.ld1 (j:=1) aU bs.b5 rfl rfl)<|(cy) ?_;exact⟨ml,by rw [Wn ij ky],hm,ji.refl _,bs.drop.drop.drop⟩
 exact ic g21
theorem Fj(bJ:St w M Z w [As.map Key.val S.m ml,As.map Key.val S.q [],As.blk wb 121 (D.wc S.s rev ra rn rc),As.map Key.val D.m oP,As.oT 48 lf l]) (hf:(S.FV prog ab x0).p Z w) (py:Rd RR.aF 4 Z w D.a1 D.n1 D.c1 x0.ad) (hm:bq ab x0.ad ml) (jD:jR l lf oP) (hR:aw ab) (hS:∀k,(valOf ab x0.ad k).size≤1000) (ij:az k=false) (ky:aB l k=some r) (hv:r.ax=rev):Calls prog 93 #[.pointer (some ⟨wb,0,none⟩),k.val] w fun e w'=>∃fh,e=.returned (.int .i64 (bp (valOf ab x0.ad) ⟨rev,x0.ad,l⟩ k))∧bq ab x0.ad fh∧ji ml fh∧St w M Z w' [As.map Key.val S.m fh,As.map Key.val S.q [],As.blk wb 121 (D.wc S.s rev ra rn rc),As.map Key.val D.m oP,As.oT 48 lf l]:=by
 refine enter func93 rfl ntmps93 rfl<|?_;have bd:=bJ;have st1:=bd.fr py;have st2:=st1.fact (B:=As.fz (S.FV prog ab x0)) hf (fun _ hx=>hx);refine(fm) st2 fun b3 w1 iO dJ aW=>?_;refine dV ?_;have Au:=aW.cX;refine WC.dS (m:=5) aW mixed<|(kQ) ju St.g5<|(iX) aq St.g0<|(eb)<|?_;rintro w2 ⟨fx,ba⟩ _;refine WP .r (PV.dH eG jv jT (As.gm ba.g6) (jD.yes ky) rfl rfl)<|(bA) aq ba.b0<|?_;refine WL.c1 (u:=.bool false) (eU (k:=k)) (by rw [ij]) ba fun w3 s3 bs=>?_;refine dA ?_;refine WC.ke rfl<|(aZ) (fun g21=>?_) fun g21=>?_
 ·
  exact ic g21
 refine nx ?_;have QZ:=bs.cX;refine WC.dS (m:=21) bs mixed<|dA ?_;refine DP .r (fun _ hC=>V1 aU (cV.range ((As.KT hC.2.g7).1 _ _ ky).1) .r)<|dV ?_;refine DP .r (fun _ hC=>PV.ld1 (j:=1) aU (cV.range (As.gb hC.2.g5)) rfl rfl)<|DP .r (fun _ hC=>(PV.eqi rfl rfl).cast (v':=.bool true) (congrArg Value.bool (decide_eq_true hv)))<|(eb) ?_;rintro w4 ⟨oM,bj⟩ _;refine eC ?_;refine WC.Cb rfl<|(bM) aU (cV.range ((As.KT bj.g7).1 _ _ ky).1)<|(cy) ?_;exact⟨ml,by rw [Wo ij ky hv],hm,ji.refl _,bj.drop.drop.drop⟩
theorem Fk(bJ:St w M Z w [As.map Key.val S.m ml,As.map Key.val S.q [],As.blk wb 121 (D.wc S.s rev ra rn rc),As.map Key.val D.m oP,As.oT 48 lf l]) (hf:(S.FV prog ab x0).p Z w) (py:Rd RR.aF 4 Z w D.a1 D.n1 D.c1 x0.ad) (hm:bq ab x0.ad ml) (jD:jR l lf oP) (hR:aw ab) (hS:∀k,(valOf ab x0.ad k).size≤1000) (ij:az k=false) (ky:aB l k=some r) (hv:¬r.ax=rev) (hk:gG ab k):Calls prog 93 #[.pointer (some ⟨wb,0,none⟩),k.val] w fun e w'=>∃fh,e=.returned (.int .i64 (bp (valOf ab x0.ad) ⟨rev,x0.ad,l⟩ k))∧bq ab x0.ad fh∧ji ml fh∧St w M Z w' [As.map Key.val S.m fh,As.map Key.val S.q [],As.blk wb 121 (D.wc S.s rev ra rn rc),As.map Key.val D.m oP,As.oT 48 lf l]:=by
 refine enter func93 rfl ntmps93 rfl<|?_;have bd:=bJ;have st1:=bd.fr py;have st2:=st1.fact (B:=As.fz (S.FV prog ab x0)) hf (fun _ hx=>hx);refine(fm) st2 fun b3 w1 iO dJ aW=>?_;refine dV ?_;have Au:=aW.cX;refine WC.dS (m:=5) aW mixed<|(kQ) ju St.g5<|(iX) aq St.g0<|(eb)<|?_;rintro w2 ⟨fx,ba⟩ _;refine WP .r (PV.dH eG jv jT (As.gm ba.g6) (jD.yes ky) rfl rfl)<|(bA) aq ba.b0<|?_;refine WL.c1 (u:=.bool false) (eU (k:=k)) (by rw [ij]) ba fun w3 s3 bs=>?_;refine dA ?_;refine WC.ke rfl<|(aZ) (fun g21=>?_) fun g21=>?_
 ·
  exact ic g21
 refine nx ?_;refine WC.du (m:=21) [] [16] [0,1,2,3,4,5,6,7,8,9,10,11,12,13,14,15,16,17,18,19,20] [] bs (av.k4 M0 M1 M2 M5<|av.cons M6<|av.cons M7<|av.nil) mixed (by kernel_rfl) (by kernel_rfl) rfl<|?_
 iterate 3 refine DG.a ?_
 refine DQ .r (fun wx Zx Rx _ fN kT=>V1 aU (cV.range ((As.KT (fN.sv kT).g5).1 _ _ ky).1) .r)<|?_
 iterate 4 refine DG.a ?_
 refine DQ .r (fun wx Zx Rx _ fN kT=>PV.ld1 (j:=1) aU (cV.range (As.gb (fN.sv kT).g3)) rfl rfl)<|DQ .r (fun wx Zx Rx _ fN kT=>(PV.eqi rfl rfl).cast (v':=.bool false) (congrArg Value.bool (decide_eq_false hv)))<|?_
 iterate 4 refine DG.a ?_
 refine(Bo) zQ SV.g3<|(pS) aq SV.g0<|(jb) (fun w4 amA afM bj ZJ=>?_);simp only [CA,NA] at bj;have bV:=bj.p4.p4;refine OX.call Pj rfl rfl ((YU hR hS hk _ _ _ _ _ bV.e2 (As.gf bV.g3) hm (fun _=>pa.nil _)).mono ?_);rintro _ w5 ⟨fQ,rfl,kI,iP,jB⟩;have bT:=St.lr bV jB;refine⟨_,rfl,jB.cW.size,_,rfl,_,_,_,bT,ay.k4<|ay.k4<|ay.nil,av.k4 M2 M3 M4 M5<|av.cons M6<|av.cons M7<|av.nil,?_⟩
 iterate 3 refine DG.a ?_
 refine DQ .r (fun wx Zx Rx _ fN kT=>V1 iF (cV.range ((As.KT (fN.sv kT).g5).1 _ _ ky).1) .r)<|(oD)<|?_;intro w6 oM cm;simp only [CM,NM,CA,NA,lG.it] at cm;refine dA ?_;refine WL.nil (EX.np ?_);refine(aZ) (fun qg=>?_) fun qg=>?_
 ·
  simp at qg
  refine(bM) aU (cV.range ((As.KT cm.g7).1 _ _ ky).1)<|(cy) ?_;exact⟨fQ,by rw [KU ij ky hv,if_pos qg],kI,iP,cm.p2.drop.p2.drop.p2.drop⟩
 simp at qg
 refine qd ?_;refine WP .r (PV.ld1 (j:=1) aU cm.b5 rfl rfl)<|(cy) ?_;exact⟨fQ,by rw [KU ij ky hv,if_neg qg],kI,iP,cm.p2.drop.p2.drop.p2.drop⟩
theorem HV(bJ:St w M Z w [As.map Key.val S.m ml,As.map Key.val S.q [],As.blk wb 121 (D.wc S.s rev ra rn rc),As.map Key.val D.m oP,As.oT 48 lf l]) (hf:(S.FV prog ab x0).p Z w) (py:Rd RR.aF 4 Z w D.a1 D.n1 D.c1 x0.ad) (hm:bq ab x0.ad ml) (jD:jR l lf oP) (hR:aw ab) (hS:∀k,(valOf ab x0.ad k).size≤1000) (hk:gG ab k) (nt:KR ab l):Calls prog 93 #[.pointer (some ⟨wb,0,none⟩),k.val] w fun e w'=>∃fh,e=.returned (.int .i64 (bp (valOf ab x0.ad) ⟨rev,x0.ad,l⟩ k))∧bq ab x0.ad fh∧ji ml fh∧St w M Z w' [As.map Key.val S.m fh,As.map Key.val S.q [],As.blk wb 121 (D.wc S.s rev ra rn rc),As.map Key.val D.m oP,As.oT 48 lf l]:=by
 cases ij:az k with
 | true=>exact Fh (r:=se) bJ hf py hm jD hR hS ij (nt.aF ij)
 | false=>
  cases ky:aB l k with
  | none=>exact Fi (r:=se) bJ hf py hm jD hR hS ij ky
  | some r=>
   by_cases hv:r.ax=rev
   ·
    exact Fj bJ hf py hm jD hR hS ij ky hv
   exact Fk bJ hf py hm jD hR hS ij ky hv hk
theorem Fl{c:sg}(bJ:St w M Z w [As.map Key.val S.m ml,As.map Key.val S.q [],As.blk wb 121 (D.wc S.s rev ra rn rc),As.map Key.val D.m oP,As.oT 48 lf l]) (hf:(S.FV prog ab x0).p Z w) (py:Rd RR.aF 4 Z w D.a1 D.n1 D.c1 x0.ad) (hm:bq ab x0.ad ml) (jD:jR l lf oP) (hR:aw ab) (hS:∀k,(valOf ab x0.ad k).size≤1000) (hk:gG ab c.read) (nt:KR ab l) (ky:aB l c.eY=some r):Calls prog 59 #[.pointer (some ⟨wb,0,none⟩),.agg c.cells.toArray] w fun e w'=>∃fh,e=.returned (.bool (KW (valOf ab x0.ad) ⟨rev,x0.ad,l⟩ c))∧bq ab x0.ad fh∧ji ml fh∧St w M Z w' [As.map Key.val S.m fh,As.map Key.val S.q [],As.blk wb 121 (D.wc S.s rev ra rn rc),As.map Key.val D.m oP,As.oT 48 lf l]:=by
 refine enter func59 rfl ntmps59 rfl<|?_;have bd:=bJ;have st1:=bd.fr py;have st2:=st1.fact (B:=As.fz (S.FV prog ab x0)) hf (fun _ hx=>hx);refine(fm) st2 fun b3 w1 iO dJ aW=>?_;refine dV ?_;refine WC.du (m:=14) [] [3] [0,1,2,3,4,5,6,7,8,9,10,11,12,13] [] aW (av.k4 M7 M6 M5 M2<|av.cons M1<|av.cons M0<|av.nil) mixed (by kernel_rfl) (by kernel_rfl) rfl<|?_
 iterate 2 refine DG.a ?_
 refine(LL) aq SV.g5<|(jb) (fun w2 UX Hz ba xF=>?_);simp only [CA,NA] at ba;have bs:=ba.p7.p7.p7.p7.p7;refine OX.call ai8 rfl rfl ((HV (k:=c.read) bs.e5 (As.gf bs.g6) (As.gr bs.g7) hm jD hR hS hk nt).mono ?_);rintro _ w3 ⟨fQ,rfl,kI,iP,eN⟩;have bj:=St.lr bs eN;refine⟨_,rfl,eN.cW.size,_,rfl,_,_,_,bj,ay.k4<|ay.k4<|ay.nil,av.k4 M4 M3 M2 M7<|av.cons M6<|av.cons M5<|av.nil,?_⟩
 iterate 3 refine DG.a ?_
 refine(Bo) ju SV.g2<|(LL) aq SV.g5<|?_;refine DQ .r (fun wx Zx Rx _ fN kT=>PV.dH eG jv jT (As.gm (fN.sv kT).g1) (jD.yes ky) rfl rfl)<|?_
 iterate 2 refine DG.a ?_
 refine DQ .r (fun wx Zx Rx _ fN kT=>V1 aU (cV.range ((As.KT (fN.sv kT).g0).1 _ _ ky).1) .r)<|(oD)<|?_;intro w4 fx bV;simp only [CM,NM,CA,NA,lG.it] at bV;refine cS ?_;refine WL.nil (EX.np ?_);refine(cy) ?_;exact⟨fQ,by unfold KW;rw [bD ky],kI,iP,bV.p5.drop.p5.drop.p5.drop⟩
theorem HW{Z:Nat→Prop}(hW:cV w wb 121 (D.wc v rev ra rn rc)) (hm:KM Key.val w D.m ml) (jD:jR l lf ml) (ky:aB l k=none) (ij:az k=true):CR prog 56 #[.pointer (some ⟨wb,0,none⟩),k.val] w (.bool true):=by
 refine enter func56 rfl ntmps56 rfl<|?_;have bd:=St.s0 w;refine(fm) bd fun b3 w1 iO dJ st1=>?_;refine dV ?_;have Au:=st1.cX;refine WC.dS (m:=5) st1 mixed<|dA ?_;refine DP .r (fun _ hC=>V1 ju (cV.range (hW.ext (St.cg hC.2))) .r)<|(iX) aq St.g0<|(eb)<|?_;rintro w2 ⟨fx,st2⟩ _;refine WP .r (PV.mL eG jv jT (hm.ext (St.cg st2)) (jD.no ky) rfl rfl)<|dV ?_;have QU:=st2.cX;refine WC.eJ (m:=15) (E:=dm [(1,fun v _=>v=.bool true)]) st2 (bK (⟨fun _ _ _ _ _ _ _ h=>h,trivial⟩)) mixed (by kernel_rfl)<|(iX) aq St.g0<|?_;refine DW.c1 (u:=.bool true) (fun wx hC hF=>eU (k:=k)) (by rw [ij])<|?_;refine bf ?_;refine(eb) ?_;rintro w3 ⟨pw,aW⟩ ⟨_,_⟩;refine(cy) ?_;exact⟨rfl,(St.cg aW)⟩
theorem HX{Z:Nat→Prop}(hW:cV w wb 121 (D.wc v rev ra rn rc)) (hm:KM Key.val w D.m ml) (jD:jR l lf ml) (ky:aB l k=none) (ij:az k=false):CR prog 56 #[.pointer (some ⟨wb,0,none⟩),k.val] w (.bool false):=by
 refine enter func56 rfl ntmps56 rfl<|?_;have bd:=St.s0 w;refine(fm) bd fun b3 w1 iO dJ st1=>?_;refine dV ?_;have Au:=st1.cX;refine WC.dS (m:=5) st1 mixed<|dA ?_;refine DP .r (fun _ hC=>V1 ju (cV.range (hW.ext (St.cg hC.2))) .r)<|(iX) aq St.g0<|(eb)<|?_;rintro w2 ⟨fx,st2⟩ _;refine WP .r (PV.mL eG jv jT (hm.ext (St.cg st2)) (jD.no ky) rfl rfl)<|dV ?_;have QU:=st2.cX;refine WC.eJ (m:=15) (E:=dm [(1,fun v _=>v=.bool false)]) st2 (bK (⟨fun _ _ _ _ _ _ _ h=>h,trivial⟩)) mixed (by kernel_rfl)<|(iX) aq St.g0<|?_;refine DW.c1 (u:=.bool false) (fun wx hC hF=>eU (k:=k)) (by rw [ij])<|dV ?_;refine DW.iZ (t:=17) rfl (fun g17=>?_) (fun g17=>?_)
 ·
  exact ic g17
 refine(eb) ?_;rintro w3 ⟨pw,aW⟩ ⟨_,_⟩;refine(cy) ?_;exact⟨rfl,(St.cg aW)⟩
theorem HY(hW:cV w wb 121 (D.wc v rev ra rn rc)) (hm:KM Key.val w D.m ml) (jD:jR l lf ml) {r:Rec}(QC:(As.oT 48 lf l).ok Z w) (ky:aB l k=some r) (ij:az k=false):CR prog 56 #[.pointer (some ⟨wb,0,none⟩),k.val] w (.bool (decide (r.ax=rev))):=by
 refine enter func56 rfl ntmps56 rfl<|?_;have bd:=St.s0 w;refine(fm) bd fun b3 w1 iO dJ st1=>?_;refine dV ?_;have Au:=st1.cX;refine WC.dS (m:=5) st1 mixed<|dA ?_;refine DP .r (fun _ hC=>V1 ju (cV.range (hW.ext (St.cg hC.2))) .r)<|(iX) aq St.g0<|(eb)<|?_;rintro w2 ⟨fx,st2⟩ _;refine WP .r (PV.dH eG jv jT (hm.ext (St.cg st2)) (jD.yes ky) rfl rfl)<|dV ?_;have QU:=st2.cX;refine WC.eJ (m:=15) (E:=dm [(1,fun v _=>v=.bool false)]) st2 (bK (⟨fun _ _ _ _ _ _ _ h=>h,trivial⟩)) mixed (by kernel_rfl)<|(iX) aq St.g0<|?_;refine DW.c1 (u:=.bool false) (fun wx hC hF=>eU (k:=k)) (by rw [ij])<|dV ?_;refine DW.iZ (t:=17) rfl (fun g17=>?_) (fun g17=>?_)
 ·
  refine dA ?_;refine DP .r (fun _ hC=>V1 aU (cV.range ((QC.1 _ _ ky).1.ext (St.cg hC.2))) .r)<|dV ?_;refine DP .r (fun _ hC=>PV.ld1 (j:=1) aU (cV.range (hW.ext (St.cg hC.2))) rfl rfl)<|(eb)<|?_;rintro w3 ⟨pw,aW⟩ ⟨_,_⟩;refine(cy) ?_;exact⟨rfl,(St.cg aW)⟩
 exact ic g17
theorem pz{aF:List dy}(hW:cV w wb 121 (D.wc v rev ra rn rc)) (hm:KM Key.val w D.m ml) (jD:jR l lf ml) (QC:(As.oT 48 lf l).ok Z w) (nt:KR ab l):CR prog 56 #[.pointer (some ⟨wb,0,none⟩),k.val] w (.bool (az k || aJ ⟨rev,aF,l⟩ k)):=by
 cases ij:az k with
 | true=>exact HW (Z:=Z) hW hm jD (nt.aF ij) ij
 | false=>
  cases ky:aB l k with
  | none=>
   have e:aJ ⟨rev,aF,l⟩ k=false:=by unfold aJ;rw [show(dP.mk rev aF l).ak=l from rfl,ky];rfl
   rw [e];exact HX (Z:=Z) hW hm jD ky ij
  | some r=>
   have e:aJ ⟨rev,aF,l⟩ k=decide (r.ax=rev):=by unfold aJ;rw [show(dP.mk rev aF l).ak=l from rfl,ky,bD ky];rfl
   rw [e];exact HY hW hm jD QC ky ij
theorem Fm{r:Rec}(bJ:St w M Z w [As.map Key.val S.m ml,As.map Key.val S.q [],As.blk wb 121 (D.wc S.s rev ra rn rc),As.map Key.val D.m oP,As.oT 48 lf l]) (hf:(S.FV prog ab x0).p Z w) (py:Rd RR.aF 4 Z w D.a1 D.n1 D.c1 x0.ad) (hm:bq ab x0.ad ml) (jD:jR l lf oP) (hR:aw ab) (hS:∀k,(valOf ab x0.ad k).size≤1000) (nt:KR ab l) (mA:(az k || aJ ⟨rev,x0.ad,l⟩ k)=true):Calls prog 28 #[.pointer (some ⟨wb,0,none⟩),k.val] w fun e w'=>∃fh,e=.returned (.agg (rD (gX (valOf ab x0.ad) ⟨rev,x0.ad,l⟩ k)).toArray)∧bq ab x0.ad fh∧ji ml fh∧St w M Z w' [As.map Key.val S.m fh,As.map Key.val S.q [],As.blk wb 121 (D.wc S.s rev ra rn rc),As.map Key.val D.m oP,As.oT 48 lf l]:=by
 refine enter func28 rfl ntmps28 rfl<|?_;have bd:=bJ;have st1:=bd.fr py;have st2:=st1.fact (B:=As.fz (S.FV prog ab x0)) hf (fun _ hx=>hx);refine(fm) st2 fun b3 w1 iO dJ aW=>?_;refine(gy) aW fun b4 w2 jG bE ba=>?_;refine dA ?_;have Au:=ba.cX;refine WC.dS (m:=5) ba mixed<|(kQ) ju St.g6<|(iX) aq St.g1<|(eb)<|?_;rintro w3 ⟨fx,bs⟩ _;refine WP .r (PV.look eG jv jT (As.gm bs.g7) rfl rfl)<|(bA) aq bs.b1<|?_;refine WL.c1 (u:=.bool true) (pz (aF:=x0.ad) (As.gb bs.g6) (As.gm bs.g7) jD (As.KT bs.g8) nt) (by rw [mA]) bs fun w4 s4 bj=>?_;refine dA ?_;refine WC.Cb rfl<|(dB) D8 bj fun w5 jV j0 bV=>?_;refine(my) xc bV.b0<|?_;exact⟨ml,by rw [I9 mA];rfl,hm,ji.refl _,bV.drop.drop.drop.drop⟩
theorem Fo{r:Rec}(bJ:St w M Z w [As.map Key.val S.m ml,As.map Key.val S.q [],As.blk wb 121 (D.wc S.s rev ra rn rc),As.map Key.val D.m oP,As.oT 48 lf l]) (hf:(S.FV prog ab x0).p Z w) (py:Rd RR.aF 4 Z w D.a1 D.n1 D.c1 x0.ad) (hm:bq ab x0.ad ml) (jD:jR l lf oP) (hR:aw ab) (hS:∀k,(valOf ab x0.ad k).size≤1000) (nt:KR ab l) (mA:(az k || aJ ⟨rev,x0.ad,l⟩ k)=false) (ky:aB l k=none):Calls prog 28 #[.pointer (some ⟨wb,0,none⟩),k.val] w fun e w'=>∃fh,e=.returned (.agg (rD (gX (valOf ab x0.ad) ⟨rev,x0.ad,l⟩ k)).toArray)∧bq ab x0.ad fh∧ji ml fh∧St w M Z w' [As.map Key.val S.m fh,As.map Key.val S.q [],As.blk wb 121 (D.wc S.s rev ra rn rc),As.map Key.val D.m oP,As.oT 48 lf l]:=by
 refine enter func28 rfl ntmps28 rfl<|?_;have bd:=bJ;have st1:=bd.fr py;have st2:=st1.fact (B:=As.fz (S.FV prog ab x0)) hf (fun _ hx=>hx);refine(fm) st2 fun b3 w1 iO dJ aW=>?_;refine(gy) aW fun b4 w2 jG bE ba=>?_;refine dA ?_;have Au:=ba.cX;refine WC.dS (m:=5) ba mixed<|(kQ) ju St.g6<|(iX) aq St.g1<|(eb)<|?_;rintro w3 ⟨fx,bs⟩ _;refine WP .r (PV.mL eG jv jT (As.gm bs.g7) (jD.no ky) rfl rfl)<|(bA) aq bs.b1<|?_;refine WL.c1 (u:=.bool false) (pz (aF:=x0.ad) (As.gb bs.g6) (As.gm bs.g7) jD (As.KT bs.g8) nt) (by rw [mA]) bs fun w4 s4 bj=>?_;refine dA ?_;refine WC.ke rfl<|(aZ) (fun g19=>?_) fun g19=>?_
 ·
  refine cS ?_;refine WP .r (PV.bU (us:=[.int .i64 1,.int .i64 0,.string ⟨#[]⟩]) Mv rfl rfl rfl)<|(dB) D8 bj fun w5 jV j0 bV=>?_;refine(my) xc bV.b0<|?_;exact⟨ml,by rw [Ja mA ky];rfl,hm,ji.refl _,bV.drop.drop.drop.drop⟩
 exact ic g19
theorem Fp(bJ:St w M Z w [As.map Key.val S.m ml,As.map Key.val S.q [],As.blk wb 121 (D.wc S.s rev ra rn rc),As.map Key.val D.m oP,As.oT 48 lf l]) (hf:(S.FV prog ab x0).p Z w) (py:Rd RR.aF 4 Z w D.a1 D.n1 D.c1 x0.ad) (hm:bq ab x0.ad ml) (jD:jR l lf oP) (hR:aw ab) (hS:∀k,(valOf ab x0.ad k).size≤1000) (nt:KR ab l) (mA:(az k || aJ ⟨rev,x0.ad,l⟩ k)=false) (ky:aB l k=some r) (hd:r.bS=true):Calls prog 28 #[.pointer (some ⟨wb,0,none⟩),k.val] w fun e w'=>∃fh,e=.returned (.agg (rD (gX (valOf ab x0.ad) ⟨rev,x0.ad,l⟩ k)).toArray)∧bq ab x0.ad fh∧ji ml fh∧St w M Z w' [As.map Key.val S.m fh,As.map Key.val S.q [],As.blk wb 121 (D.wc S.s rev ra rn rc),As.map Key.val D.m oP,As.oT 48 lf l]:=by
 refine enter func28 rfl ntmps28 rfl<|?_;have bd:=bJ;have st1:=bd.fr py;have st2:=st1.fact (B:=As.fz (S.FV prog ab x0)) hf (fun _ hx=>hx);refine(fm) st2 fun b3 w1 iO dJ aW=>?_;refine(gy) aW fun b4 w2 jG bE ba=>?_;refine dA ?_;have Au:=ba.cX;refine WC.dS (m:=5) ba mixed<|(kQ) ju St.g6<|(iX) aq St.g1<|(eb)<|?_;rintro w3 ⟨fx,bs⟩ _;refine WP .r (PV.dH eG jv jT (As.gm bs.g7) (jD.yes ky) rfl rfl)<|(bA) aq bs.b1<|?_;refine WL.c1 (u:=.bool false) (pz (aF:=x0.ad) (As.gb bs.g6) (As.gm bs.g7) jD (As.KT bs.g8) nt) (by rw [mA]) bs fun w4 s4 bj=>?_;refine dA ?_;refine WC.ke rfl<|(aZ) (fun g19=>?_) fun g19=>?_
 ·
  exact ic g19
 refine(bM) fq (cV.range ((As.KT bj.g8).1 _ _ ky).1)<|(aZ) (fun g23=>?_) fun g23=>?_
 ·
  refine cS ?_;refine WP .r (PV.bU (us:=[.int .i64 3,.int .i64 0,.string ⟨#[]⟩]) Mv rfl rfl rfl)<|(dB) D8 bj fun w5 jV j0 bV=>?_;refine(my) xc bV.b0<|?_;exact⟨ml,by rw [CV mA ky hd];rfl,hm,ji.refl _,bV.drop.drop.drop.drop⟩
 exact ic g23
set_option maxHeartbeats 1600000 in
theorem Fq(bJ:St w M Z w [As.map Key.val S.m ml,As.map Key.val S.q [],As.blk wb 121 (D.wc S.s rev ra rn rc),As.map Key.val D.m oP,As.oT 48 lf l]) (hf:(S.FV prog ab x0).p Z w) (py:Rd RR.aF 4 Z w D.a1 D.n1 D.c1 x0.ad) (hm:bq ab x0.ad ml) (jD:jR l lf oP) (hR:aw ab) (hS:∀k,(valOf ab x0.ad k).size≤1000) (nt:KR ab l) (mA:(az k || aJ ⟨rev,x0.ad,l⟩ k)=false) (ky:aB l k=some r) (hd:r.bS=false) (h6:l.length≤4000) (Q4:∀r∈l,r.reads.length≤4000):Calls prog 28 #[.pointer (some ⟨wb,0,none⟩),k.val] w fun e w'=>∃fh,e=.returned (.agg (rD (gX (valOf ab x0.ad) ⟨rev,x0.ad,l⟩ k)).toArray)∧bq ab x0.ad fh∧ji ml fh∧St w M Z w' [As.map Key.val S.m fh,As.map Key.val S.q [],As.blk wb 121 (D.wc S.s rev ra rn rc),As.map Key.val D.m oP,As.oT 48 lf l]:=by
 have cY:=RZ (rev:=rev) ky
 have Ou:(aC l rev k).length≤4001:=by have:=pc l rev k;omega
 have hcb:=Mh Q4 Ou
 have vo:(bW l (aC l rev k)).length≤100000000:=by have:=hcb (aC l rev k).length;rw [List.take_of_length_le (Nat.le_refl _)] at this;exact this
 refine enter func28 rfl ntmps28 rfl<|?_;have bd:=bJ;have st1:=bd.fr py;have st2:=st1.fact (B:=As.fz (S.FV prog ab x0)) hf (fun _ hx=>hx);refine(fm) st2 fun b3 w1 iO dJ aW=>?_;refine(gy) aW fun b4 w2 jG bE ba=>?_;refine dA ?_;have Au:=ba.cX;refine WC.dS (m:=5) ba mixed<|(kQ) ju St.g6<|(iX) aq St.g1<|(eb)<|?_;rintro w3 ⟨fx,bs⟩ _;refine WP .r (PV.dH eG jv jT (As.gm bs.g7) (jD.yes ky) rfl rfl)<|(bA) aq bs.b1<|?_;refine WL.c1 (u:=.bool false) (pz (aF:=x0.ad) (As.gb bs.g6) (As.gm bs.g7) jD (As.KT bs.g8) nt) (by rw [mA]) bs fun w4 s4 bj=>?_;refine dA ?_;refine WC.ke rfl<|(aZ) (fun g19=>?_) fun g19=>?_
 ·
  exact ic g19
 refine(bM) fq (cV.range ((As.KT bj.g8).1 _ _ ky).1)<|(aZ) (fun g23=>?_) fun g23=>?_
 ·
  exact ic g23
 refine(bA) aq bj.b1<|?_;have bV:=bj;refine(dh) aiI (B8 (k:=k) bV.e0 (As.gb bV.g6) (As.gm bV.g7) jD (As.KT bV.g8) nt.ahP h6 Q4) ?_;rintro _ w5 ⟨u1,u2,u3,rfl,jB⟩;have bT:=St.lr bV jB;have cm:=bT;refine(dh) aiH (Bc cm.e0 (As.gb cm.g7) (As.gm cm.g8) jD (As.KT cm.g9) (Ow.rd (As.gs cm.g0) (by omega)) cY hcb) ?_;rintro _ w6 ⟨o1,o2,o3,rfl,mY⟩;have aM:=St.lr cm mY;have hcn:=((As.gs aM.g0)).len;refine eC ?_;refine WC.cq (σ:=Nat × (List (Key × Value))) (eP:=fun(q,fQ)=>[(0,.pointer (some ⟨wb,0,none⟩)),(3,.pointer (some ⟨b3,0,none⟩)),(4,.pointer (some ⟨b4,0,none⟩)),(33,.slice o1 o2 o3),(34,.int .i64 (o2:Int)),(35,.int .i64 (q:Int))]) (F:=fun(q,fQ)=>[As.map Key.val S.m fQ]) (I:=fun(q,fQ)=>(q≤o2)∧(bq ab x0.ad fQ)∧(ji ml fQ)∧(∀(j:Nat) (c:sg),j<q→(bW l (aC l rev k))[j]?=some c→KW (valOf ab x0.ad) ⟨rev,x0.ad,l⟩ c=false)∧True) (μ:=fun(q,fQ)=>o2 - q) (0,ml) (aM.p6) Sub.t (⟨Nat.zero_le _,hm,ji.refl _,fun j c h=>by omega,trivial⟩)<|?_;rintro⟨q,fQ⟩ w7 aO ⟨hq,kI,iP,gR,_⟩;simp only [CA,NA] at aO hq kI iP gR ⊢;refine(aZ) (fun gQ=>?_) fun gQ=>?_
 ·
  simp at gQ
  have U4:q<(bW l (aC l rev k)).length:=by omega
  obtain⟨c0,Nq⟩:∃c0,(bW l (aC l rev k))[q]?=some c0:=⟨_,ao U4⟩;obtain⟨Bk,afN,_⟩:=eF.1 (List.mem_of_getElem? Nq);obtain⟨rm,ZZ⟩:=cY _ Bk;rw [bD ZZ] at afN;have hkc:=(nt rm (aT ZZ).1).2.2 _ afN;refine eC ?_;obtain⟨iz,aX⟩:=Ow.addr (As.gs aO.g1) Nq;refine nx ?_;refine WP .r (PV.fO K9 aX rfl rfl (by omega))<|(bA) D3 (Ow.qq (As.gs aO.g1) (by omega) aX Nq)<|(gy) aO fun b7 w8 vZ om aS=>?_;refine(dB) Pd aS fun w9 jV j0 bC=>?_;refine(bA) D3 bC.b0<|?_;have br:=bC.oR.oR.oR.oR.p5;refine(dh) aiJ (Fl (c:=c0) br.e5 (As.gf br.g10) (As.gr br.g11) kI jD hR hS hkc nt ZZ) ?_;rintro _ kE ⟨kJ,rfl,Nt,x8,jf⟩;have aY:=St.lr br jf;refine(aZ) (fun lW=>?_) fun lW=>?_
  ·
   refine kP ?_
   refine fJ (q+1,kJ) ⟨aY.p5.drop.pF.pF.pF.pF.pF.pF.p6,⟨by omega,Nt,iP.trans x8,fun j c hj hc=>by
      rcases Nat.lt_or_ge j q with h1 | h1
      ·
       exact gR j c h1 hc
      have e:j=q:=by omega
      subst e;rw [Nq] at hc
      cases hc
      simpa using lW,trivial⟩⟩
  have Ub:KW (valOf ab x0.ad) ⟨rev,x0.ad,l⟩ c0=true:=by simpa using lW
  have hwc:=RY (x:=⟨rev,x0.ad,l⟩) mA ky hd Nq gR Ub;refine(kB) aq aY.b5<|(bA) aq (cV.range (As.gb aY.g9))<|?_;refine WP .r (PV.Kl gY (p:=c0.eY) (q:=k) rfl rfl)<|(aZ) (fun Ib=>?_) fun Ib=>?_
  ·
   simp at Ib
   rw [if_pos Ib] at hwc;refine(kB) aq aY.b5<|?_;refine WP .r (PV.bU (us:=[.int .i64 2,.int .i64 c0.read.kind,.string c0.read.text]) Mv rfl rfl rfl)<|(dB) D8 aY.p8 fun kF sC nj aQ=>?_;refine(my) xc aQ.b0<|?_;exact⟨kJ,by rw [hwc];rfl,Nt,iP.trans x8,aQ.drop.p5.drop.p5.drop.p5.drop.p5.drop.p5.drop.p5.drop⟩
  simp at Ib
  rw [if_neg Ib] at hwc;refine(kB) aq aY.b5<|?_;refine WP .r (PV.bU (us:=[.int .i64 3,.int .i64 c0.read.kind,.string c0.read.text]) Mv rfl rfl rfl)<|(dB) D8 aY.p8 fun kF BC rq aQ=>?_;refine(my) xc aQ.b0<|?_;exact⟨kJ,by rw [hwc];rfl,Nt,iP.trans x8,aQ.drop.p5.drop.p5.drop.p5.drop.p5.drop.p5.drop.p5.drop⟩
 simp at gQ
 have hns:=GM (val:=(valOf ab x0.ad)) (x:=⟨rev,x0.ad,l⟩) mA ky hd (fun j c hj hc=>gR j c (by have h1:j<(bW l (aC l rev k)).length:=hj;omega) hc);refine(dB) D8 aO.p3 fun w8 QW vE aS=>?_;refine(my) xc aS.b0<|?_;exact⟨fQ,by rw [hns];rfl,kI,iP,aS.drop.p1.drop.p1.drop.p1.drop.p1.drop.p1.drop⟩
theorem rh(bJ:St w M Z w [As.map Key.val S.m ml,As.map Key.val S.q [],As.blk wb 121 (D.wc S.s rev ra rn rc),As.map Key.val D.m oP,As.oT 48 lf l]) (hf:(S.FV prog ab x0).p Z w) (py:Rd RR.aF 4 Z w D.a1 D.n1 D.c1 x0.ad) (hm:bq ab x0.ad ml) (jD:jR l lf oP) (hR:aw ab) (hS:∀k,(valOf ab x0.ad k).size≤1000) (nt:KR ab l) (h6:l.length≤4000) (Q4:∀r∈l,r.reads.length≤4000):Calls prog 28 #[.pointer (some ⟨wb,0,none⟩),k.val] w fun e w'=>∃fh,e=.returned (.agg (rD (gX (valOf ab x0.ad) ⟨rev,x0.ad,l⟩ k)).toArray)∧bq ab x0.ad fh∧ji ml fh∧St w M Z w' [As.map Key.val S.m fh,As.map Key.val S.q [],As.blk wb 121 (D.wc S.s rev ra rn rc),As.map Key.val D.m oP,As.oT 48 lf l]:=by
 cases mA:(az k || aJ ⟨rev,x0.ad,l⟩ k) with
 | true=>exact Fm (r:=se) bJ hf py hm jD hR hS nt mA
 | false=>
  cases ky:aB l k with
  | none=>exact Fo (r:=se) bJ hf py hm jD hR hS nt mA ky
  | some r=>
   cases hd:r.bS with
   | true=>exact Fp bJ hf py hm jD hR hS nt mA ky hd
   | false=>exact Fq bJ hf py hm jD hR hS nt mA ky hd h6 Q4
set_option maxHeartbeats 1600000 in
theorem Fs{ar:Option Addr}{r cr:Nat}(bJ:St w M Z w []) (ht:nO prog Z w) (hu:Rd RR.gF 4 Z w ar r cr ab) (py:Rd RR.aF 4 Z w a1 n1 e1 x.ad) (hr:Rd RR.fT 8 Z w a2 n2 e2 x.ak) (h6:x.ak.length≤4000) (h7:x.ad.length≤4000) (hS:vF x.ak):Calls prog 55 #[.slice ar r cr,.agg (x.row a1 n1 e1 a2 n2 e2).toArray] w fun e w'=>∃(D:WD) (S:SD) (wb:Nat) (lf:Key→RL) (ml:List (Key × Value)) (Z':Nat→Prop),e=.returned (.pointer (some ⟨wb,0,none⟩))∧jR x.ak lf ml∧cI w.heap.size Z Z'∧(S.FV prog ab x).p Z' w'∧Rd RR.aF 4 Z' w' D.a1 D.n1 D.c1 x.ad∧Rd RR.gF 4 Z' w' D.ar D.r D.cr ab∧St w M Z' w' [As.map Key.val S.m [],As.map Key.val S.q [],As.blk wb 121 (D.wc S.s x.ae none 0 0),As.map Key.val D.m ml,As.oT 48 lf x.ak]:=by
 refine enter func55 rfl ntmps55 rfl<|?_;have bd:=bJ;have st1:=bd.fr hu;have st2:=st1.fr py;have aW:=st2.fr hr;have ba:=aW.fact (B:=As.fz (FZ.Kt prog)) ht (fun _ hx=>hx);refine(fm) ba fun b3 w1 iO dJ bs=>?_;refine dV ?_;refine WC.du (m:=7) [] [2,6] [1,2,4,5,6,0,3] [(3,.map)] bs (av.k4 M0 M1 M2 M3<|av.cons M4<|av.nil) mixed (by kernel_rfl) (by kernel_rfl) rfl<|(pS) aP SV.g0<|(jb) (fun w2 UT Hu bj xD=>?_);simp only [CA,NA] at bj;have bV:=bj;refine OX.call ai2 rfl rfl ((AM (x:=x) bV.e0 (As.gr bV.g3) (As.gr bV.g2) (by omega) (by omega)).mono ?_);rintro _ w3 ⟨f1,f2,f3,f4,f5,f6,Z1,rfl,gq,eN⟩;have bT:=St.lv bV eN gq;have F0:=St.cH eN.p1;have JZ:=St.cH eN;have fx:=bV.size;have oL:=gq.le fx;have KS:f5=x.ak.length:=((As.gs bT.g1)).len;have atO:f2=x.ad.length:=((As.gs bT.g0)).len;have cm:=bT.p1.bN (by omega);have aM:=cm.p1.bN (by omega);have ly:=(oL.trans (cI.fc (F:=fun x=>x∈aI f4) F0) fx).trans (cI.fc (F:=fun x=>x∈aI f1) JZ) fx;refine⟨_,rfl,eN.cW.size,_,rfl,_,_,_,aM,ay.k4<|ay.k2<|ay.cons<|ay.nil,av.k4 M2 M3 M4 M5<|av.cons M6<|av.nil,?_⟩;refine(pS) aP SV.g0<|(jb) (fun w4 R6x MW aO uZ=>?_);simp only [CA,NA] at aO;have aS:=aO;refine OX.call ai3 rfl rfl ((Hw (x:=x) aS.e0).mono ?_);rintro _ w5 ⟨d1,d2,d3,rfl,jB⟩;have bC:=St.lr aS jB;have hgv:=St.cH jB;have amB:=aS.size;have br:=bC;have aY:=br.freeze (B:=As.fz (SD.FV (⟨ar,a1,a2,r,cr,n1,e1,n2,e2,d2,d3,d1⟩:SD) prog ab x)) ⟨(SD.F (⟨ar,a1,a2,r,cr,n1,e1,n2,e2,d2,d3,d1⟩:SD) prog ab x).mono (fun _ h=>.inl h) ⟨(As.gr br.g9),(As.gr br.g8),(As.gr br.g7),(As.gf br.g6)⟩,.inr rfl,((As.gb br.g0)).lt,cV.range (As.gb br.g0)⟩ (fun _ hx=>hx);have sE:=ly.trans (cI.fc (F:=fun x=>x=d1) hgv) amB;refine⟨_,rfl,jB.cW.size,_,rfl,_,_,_,aY,ay.k4<|ay.k4<|ay.k2<|ay.nil,av.k4 M5 M6 M7 M8<|av.cons M9<|av.nil,?_⟩;refine DG.a<|?_;refine DG.side (s:=.map) rfl rfl rfl rfl rfl rfl (fun wx Zx Rx BU fN=>OX.makeMap Key.val rfl fun b wy nw hb=>⟨nw.ext.size,_,rfl,⟨b,rfl⟩,fN.Rq nw hb⟩)<|?_;rintro _ ⟨yf,rfl⟩;refine(oD) ?_;intro w6 fx aQ;simp only [CM,NM,CA,NA,lG.it] at aQ;refine WP .r (PV.bU (us:=(WD.wc ⟨ar,f1,f4,r,cr,f2,f3,f5,f6,yf,d1⟩ d1 x.ae none 0 0)) acf rfl rfl rfl)<|(fm) aQ fun xI w7 Td Yu bB=>?_;refine nx ?_;refine WL.nil (EX.np ?_);refine kP ?_;refine WP .r (PV.ld1 (j:=3) fk bB.b0 rfl rfl)<|eC ?_;have lf0:Key→RL:=fun _=>⟨0,none,0,0⟩;have bL:=St.ahJ bB 48 lf0;refine WC.cq (σ:=Nat × (Key→RL) × (List (Key × Value))) (eP:=fun(i,lf,ml)=>[(5,.pointer (some ⟨xI,0,none⟩)),(21,.slice f4 f5 f6),(22,.int .i64 (f5:Int)),(23,.int .i64 (i:Int))]) (F:=fun(i,lf,ml)=>[As.map Key.val yf ml,As.oT 48 lf (x.ak.take i)]) (I:=fun(i,lf,ml)=>(i≤x.ak.length)∧(jR (x.ak.take i) lf ml)∧True) (μ:=fun(i,lf,ml)=>x.ak.length - i) (0,lf0,[]) (bL.p2) Sub.t (⟨Nat.zero_le _,jR.nil _,trivial⟩)<|?_;rintro⟨i,lf,ml⟩ w8 bG ⟨hi,Es,_⟩;simp only [CA,NA] at bG hi Es ⊢;refine(aZ) (fun g24=>?_) fun g24=>?_
 ·
  simp at g24
  have cT:i<x.ak.length:=by omega
  have hfx:∀y,aB (x.ak.take (i+1)) y=if y=x.ak[i].key then some x.ak[i] else aB (x.ak.take i) y:=fun y=>by rw [List.take_succ_eq_append_getElem cT];exact I6 (hS.ne cT) y
  refine eC ?_;obtain⟨iz,ku,jW,aX,gk,bF,cQ,dO⟩:=Rd.at (As.gr bG.g7) cT;obtain⟨q1,q2,q3,rfl,sB,rI⟩:=bF;have ck:=bG.fg dO cQ;have cw:=ck.fr sB;refine nx ?_;refine WP .r (PV.fO kK aX rfl rfl (by omega))<|(bA) eB (As.oS cw.g1)<|(gy) cw fun b7 w9 vZ om cx=>?_;refine(dB) iM cx fun kE jV j0 cU=>?_;refine cS ?_;have hN5:=cU.cX;refine WC.dS (m:=6) cU mixed<|(kQ) ju St.g5<|(Cp) aq St.g0<|(eb)<|?_;rintro kF ⟨EL,ct⟩ _;refine WL.go rfl (OX.put eG jv (As.gm ct.g3) rfl rfl rfl fun qf PN JM=>?_);have cN:=ct.p3.nq PN JM;refine dA ?_;have ef:=cN.p4.p2;have dq:=St.Wj (q:=⟨b7,q1,q2,q3⟩) ef (As.gr ef.g3) rI hfx;refine dV ?_;refine fJ (i+1,_,_) ⟨dq.p2.drop.p2.drop.p1,⟨by omega,Es.put (q:=⟨b7,q1,q2,q3⟩) hfx,trivial⟩⟩
 simp at g24
 have hie:x.ak.take i=x.ak:=List.take_of_length_le (by omega);rw [hie] at Es;have ck:=bG.p1.Fx (B:=As.oT 48 lf x.ak) (by rw [hie]);refine(cy) ?_;exact⟨⟨ar,f1,f4,r,cr,f2,f3,f5,f6,yf,d1⟩,(⟨ar,a1,a2,r,cr,n1,e1,n2,e2,d2,d3,d1⟩:SD),xI,lf,ml,_,rfl,Es,sE,(As.gf ck.g3),(As.gr ck.g6),(As.gr ck.g12),ck.p3.drop.p5.drop.p5.drop.p5.drop.p5.drop.p5.drop.p5.drop.p5.drop.p1.p2.p4.p4⟩
end Go.Rc

