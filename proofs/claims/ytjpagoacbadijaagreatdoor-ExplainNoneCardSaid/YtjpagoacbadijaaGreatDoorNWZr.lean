/- Walks over the program, part WZr. Conditions: as each theorem says. -/
import Derived.Test.YtjpagoacbadijaaGreatDoorNFacts
import Derived.Test.YtjpagoacbadijaaGreatDoorNWZl
import Derived.Test.YtjpagoacbadijaaGreatDoorNBh
set_option linter.all false
namespace Go.Rc
open Go Go.Proofs Go.Proofs.Tryz
variable {r:Rec}{rev:Int}{w:World}{D:WD}{v rn rc wb pb n1 e1 n2 e2:Nat}{ra a1 a2:Option Addr}{k:Key}{ml oT:List (Key × Value)}{Z M:Nat→Prop}{l:List Rec}{lf:Key→RL}{x x0:dQ}{ab:List aG}{S:SD}
set_option maxHeartbeats 400000
theorem Fl{a:Option Addr}{n c:Nat}(hk:gY r.key):CR prog 92 #[.agg (r.row a n c).toArray,.int .i64 rev] w (.bool (aA r.key && (decide (r.ax<rev) && !r.bU))):=by
 refine enter func92 rfl ntmps92 rfl<|?_;have bd:=St.s0 w;refine(fo) bd fun b2 w1 nz fm st1=>?_;refine dW ?_;refine WC.nS (t:=4) (v:=.bool (aA r.key && (decide (r.ax<rev) && !r.bU))) st1 ?_<|?_
 ·
  refine(j3) aq st1.b0<|?_;refine WL.c1 (u:=.bool (aA r.key)) (oo (k:=r.key) hk) (by rw [abV hk]) st1 fun w2 s2 st2=>?_;refine(dY) (fun g8=>?_) (fun g8=>?_)
  ·
   refine(bL) aT st2.b0<|(dY) (fun g14=>?_) (fun g14=>?_)
   ·
    refine(bL) ft st2.b0<|?_;exact(iK) (tG (aj g8 g14)) (st2)
   exact(iK) (tG (aj g8 g14)) (st2)
  exact(iK) (tG g8) (st2)
 intro w2 st2;refine(cA) ?_;exact⟨rfl,(St.cg st2)⟩
theorem Fm(hB:cW w pb 76 [.pointer (some ⟨wb,0,none⟩)]) (hW:cW w wb 121 (D.wc v rev ra rn rc)) (hm:KM Key.val w D.m ml) (hg:(bZ ml k).getD (.pointer none)=.pointer none):CR prog 91 #[k.val,.pointer (some ⟨pb,0,none⟩)] w (.tuple #[.slice none 0 0,.bool false]):=by
 refine enter func91 rfl ntmps91 rfl<|?_;have bd:=St.s0 w;refine(fo) bd fun b2 w1 nz fm st1=>?_;refine ji ?_;have AA:=st1.cY;refine WC.dS (m:=5) st1 mixed<|?_;refine DP .r (fun _ hC=>PV.pF Pe (cW.range (hB.ext (St.cg hC.2))) rfl rfl)<|cS ?_;refine DP .r (fun _ hC=>V1 jw (cW.range (hW.ext (St.cg hC.2))) .r)<|(jj) aq St.g0<|(eh)<|?_;rintro w2 ⟨fx,st2⟩ _;refine WP .r (PV.mM eI jy jX (hm.ext (St.cg st2)) (hg) rfl rfl)<|dW ?_;have Q3:=st2.cY;refine WC.dS (m:=11) st2 mixed<|dE ?_;refine DW.i6 (t:=14) rfl (fun g14=>?_) (fun g14=>?_)
 ·
  exact gW g14
 refine(eh) ?_;rintro w3 ⟨pA,aW⟩ _;refine dW ?_;refine WC.j0 rfl<|(FL) ?_;exact⟨rfl,(St.cg aW)⟩
theorem Fo{q:RL}(hB:cW w pb 76 [.pointer (some ⟨wb,0,none⟩)]) (hW:cW w wb 121 (D.wc v rev ra rn rc)) (hm:KM Key.val w D.m ml) (hg:bZ ml k=some (.pointer (some ⟨q.b,0,none⟩))) (hR:cW w q.b 48 (r.row q.a q.n q.c)) (hk:gY r.key):Calls prog 91 #[k.val,.pointer (some ⟨pb,0,none⟩)] w fun e w'=>∃(a:Option Addr) (n c:Nat),e=.returned (.tuple #[.slice a n c,.bool (aA r.key && (decide (r.ax<rev) && !r.bU))])∧((aA r.key && (decide (r.ax<rev) && !r.bU))=true→a=q.a∧n=q.n∧c=q.c)∧aV [] w w':=by
 refine enter func91 rfl ntmps91 rfl<|?_;have bd:=St.s0 w;refine(fo) bd fun b2 w1 nz fm st1=>?_;refine ji ?_;have AA:=st1.cY;refine WC.dS (m:=5) st1 mixed<|?_;refine DP .r (fun _ hC=>PV.pF Pe (cW.range (hB.ext (St.cg hC.2))) rfl rfl)<|cS ?_;refine DP .r (fun _ hC=>V1 jw (cW.range (hW.ext (St.cg hC.2))) .r)<|(jj) aq St.g0<|(eh)<|?_;rintro w2 ⟨fx,st2⟩ _;refine WP .r (PV.dJ eI jy jX (hm.ext (St.cg st2)) (hg) rfl rfl)<|dW ?_;have Q3:=st2.cY;refine WC.dS (m:=11) st2 mixed<|dE ?_;refine DW.i6 (t:=14) rfl (fun g14=>?_) (fun g14=>?_)
 ·
  refine cS ?_;refine DP .r (fun _ hC=>VA ey (cW.range (hR.ext (St.cg hC.2))) .r)<|DP .r (fun _ hC=>PV.pF Pe (cW.range (hB.ext (St.cg hC.2))) rfl rfl)<|dE ?_;refine DP .r (fun _ hC=>PV.ld1 (j:=1) aT (cW.range (hW.ext (St.cg hC.2))) rfl rfl)<|(eh)<|?_;rintro w3 ⟨pA,aW⟩ _;refine(iz) (Fl (r:=r) hk) aW fun w4 s4 ba=>?_;refine(aZ) (fun g24=>?_) fun g24=>?_
  ·
   have hoo:(aA r.key && (decide (r.ax<rev) && !r.bU))=true:=by first | exact g24 | simpa using g24
   refine(bL) gK (cW.range (hR.ext (St.cg ba)))<|(FL) ?_;exact⟨q.a,q.n,q.c,by rw [hoo],fun _=>⟨rfl,rfl,rfl⟩,(St.cg ba)⟩
  have hoo:(aA r.key && (decide (r.ax<rev) && !r.bU))=false:=by first | exact g24 | simpa using g24
  refine(FL) ?_;exact⟨none,0,0,by rw [hoo],(fun h=>by rw [hoo] at h;cases h),(St.cg ba)⟩
 exact gW g14
theorem Kg(hB:cW w pb 76 [.pointer (some ⟨wb,0,none⟩)]) (hW:cW w wb 121 (D.wc v rev ra rn rc)) (hm:KM Key.val w D.m ml) (jH:jW l lf ml) (QI:(As.oX 48 lf l).ok Z w) (l4:∀r∈l,gY r.key) (k:Key):Calls prog 91 #[k.val,.pointer (some ⟨pb,0,none⟩)] w fun e w'=>∃(a:Option Addr) (n c:Nat),e=.returned (.tuple #[.slice a n c,.bool (cI l rev k)])∧(cI l rev k=true→Rd RR.key 2 Z w' a n c (aH l k).reads)∧aV [] w w':=by
 cases hf:aC l k with
 | none=>
  refine(Fm hB hW hm (jH.no hf)).mono<|?_;rintro e w' ⟨rfl,hc⟩
  have ho:cI l rev k=false:=by unfold cI;rw [hf];rfl
  exact⟨none,0,0,by rw [ho],(fun h=>by rw [ho] at h;cases h),hc⟩
 | some r=>
  obtain⟨hR,rU,_⟩:=QI.1 k r hf;obtain⟨hr,hk⟩:=aX hf;refine(Fo (k:=k) hB hW hm (jH.yes hf) hR (l4 r hr)).mono<|?_;rintro e w' ⟨a,n,c,rfl,ha,hc⟩
  have ho:cI l rev k=(aA r.key && (decide (r.ax<rev) && !r.bU)):=by
   unfold cI
   rw [bC hf,hf,← hk]
   rfl
  refine⟨a,n,c,by rw [ho],fun h=>?_,hc⟩;rw [ho] at h;obtain⟨rfl,rfl,rfl⟩:=ha h;rw [bC hf];exact rU.ext hc
set_option maxHeartbeats 1600000 in
theorem Fp{f:FuncId}{cap:Value}(bJ:St w M Z w []) (Bz:CF prog f) (hop:∀w1,aV [] w w1→∀y:Key,Calls prog f #[y.val,cap] w1 fun e w'=>∃(a:Option Addr) (n c:Nat),e=.returned (.tuple #[.slice a n c,.bool (cI l rev y)])∧(cI l rev y=true→Rd RR.key 2 Z w' a n c (aH l y).reads)∧aV [] w1 w') (h6:l.length≤4000) (Rf:∀r∈l,r.reads.length≤4000):Calls prog 90 #[k.val,.func (.func f) #[] #[cap]] w fun e w'=>∃(a:Option Addr) (n c:Nat),e=.returned (.slice a n c)∧St w M Z w' [As.os RR.key 39 2 a n c (aB l rev k)]:=by
 refine enter func90 rfl ntmps90 rfl<|?_;have bd:=St.rb bJ;refine(fo) bd fun b2 w1 nz fm st1=>?_;refine(bz) aq st1.b0<|?_;refine WL.go rfl (OX.uj Bz rfl rfl rfl ((Calls.cap (hop _ (St.cg st1) k)).mono ?_));rintro _ w2 ⟨f1,f2,f3,rfl,_,s2⟩;refine⟨_,rfl,?_⟩;have st2:=st1.step s2;refine bf ?_;refine(aZ) (fun qj=>?_) fun qj=>?_
 ·
  have ho:cI l rev k=false:=by simpa using qj
  have hv:aB l rev k=[k]:=by unfold aB;rw [if_neg (by rw [ho];simp)]
  refine(bz) aq st2.b0<|?_;refine WL.go rfl (OX.aR (us:=k.cells) eT rfl rfl rfl rfl fun b31 w3 af4 amK=>?_);have aW:=St.tc (R:=RR.key) (E:=39) (k:=2) (a:=some ⟨b31,0,none⟩) (n:=1) (c:=1) (xs:=[k]) st2 af4.ext (OR.ew amK (Nat.zero_le _) rfl (by simp [Key.cells,Value.oneCell']) rfl) (fun x hx=>by simp [aI] at hx;subst hx;exact af4.ge);refine(cA) ?_;exact⟨_,_,_,rfl,by rw [hv];exact(St.wk aW.p1.drop)⟩
 have ho:cI l rev k=true:=by simpa using qj
 refine dW ?_;refine WL.mm Key.val st2 fun NF w3 Zi atS aW=>?_;refine ek ?_;refine WL.mm Key.val aW fun Ty w4 Qi atT ba=>?_;refine(bz) aq ba.b2<|?_;refine WL.go rfl (OX.ins eI kS (As.gm ba.g0) rfl rfl rfl fun w5 PT JS=>?_);have bw:=ba.nv PT JS;refine dE ?_;have bj:=bw.FK (B:=As.map Key.val Ty (oJ [k])) (rfl);refine(bz) aq bj.b2<|?_;refine WL.go rfl (OX.aR (us:=k.cells) eT rfl rfl rfl rfl fun b37 w6 amL amM=>?_);have bX:=bj.eF amL amM;refine cS ?_;have bV:=bX;have cq:=bV.conv (B:=As.os RR.key 39 2 (some ⟨b37,0,none⟩) 1 1 [k]) (OR.ew (As.gb bV.g0) (Nat.zero_le _) rfl (by simp [Key.cells,Value.oneCell']) rfl) (fun x h=>by show x=b37;change x∈aI (some ⟨b37,0,none⟩) at h;simpa [aI] using h);refine kQ ?_;have aL:=cq.abH;refine WC.ct (σ:=Nat × (List Key) × (List (Key × Value)) × (List RE) × (Option Addr) × Nat × Nat) (eJ:=fun(i,L,ZY,Lb,rj,qe,rl)=>[(1,.func (.func f) #[] #[cap]),(2,.pointer (some ⟨b2,0,none⟩)),(7,.map (some NF)),(8,.map (some Ty)),(9,.slice rj qe rl),(10,.int .i64 (i:Int))]) (F:=fun(i,L,ZY,Lb,rj,qe,rl)=>[As.os RR.key 39 2 rj qe rl (L),As.map Key.val Ty (oJ L),As.map Key.val NF ZY,As.many (Lb.map (RE.as 39))]) (I:=fun(i,L,ZY,Lb,rj,qe,rl)=>(i≤L.length)∧(x8 l rev k (ks Lb) L i 0)∧(x7 Lb ZY)∧((Lb.map (·.key)).Nodup)∧True) (μ:=fun(i,L,ZY,Lb,rj,qe,rl)=>4001 - i) (0,[k],[],[],(some ⟨b37,0,none⟩),1,1) (aL.p3.p3.p3) Sub.t (⟨Nat.zero_le _,x8.start fun _=>rfl,x7.nil,by simp,trivial⟩)<|?_;rintro⟨i,L,ZY,Lb,rj,qe,rl⟩ w7 aO ⟨Bs,hF,jH,wL,_⟩;simp only [CA,NA] at aO Bs hF jH wL ⊢;have hln:=((As.gs aO.g0)).len;have hle:=hF.le ho;refine(aZ) (fun Ak=>?_) fun Ak=>?_
 ·
  simp at Ak
  have cV:i<L.length:=by omega
  have V3:=hF.op ho (List.getElem_mem cV);obtain⟨ri,lD,_⟩:=cx.1 V3;have Zm:aH l L[i]=ri:=bC lD;have atU:=Rf ri (aX lD).1;refine ek ?_;obtain⟨ik,aU⟩:=Ow.addr (As.gs aO.g0) (ao cV);refine dW ?_;refine WP .r (PV.fI fP aU rfl rfl (by omega))<|(bz) aq (Ow.qu (As.gs aO.g0) (by omega) aU (ao cV))<|?_;refine WL.go rfl (OX.uj Bz rfl rfl rfl ((Calls.cap (hop _ (St.cg aO) L[i])).mono ?_));rintro _ w8 ⟨f4,f5,f6,rfl,hq4,s8⟩;refine⟨_,rfl,?_⟩;have aS:=aO.step s8;have hq5:=hq4 V3;rw [Zm] at hq5;have bE:=aS.fr (hq5);have hqn:=((As.gr bE.g0)).len;refine bf ?_;refine dE ?_;refine WC.ct (σ:=Nat × (List Key) × (List (Key × Value)) × (List RE) × (Option Addr) × Nat × Nat) (eJ:=fun(q,L2,H4,Kh,rj,qe,rl)=>[(1,.func (.func f) #[] #[cap]),(2,.pointer (some ⟨b2,0,none⟩)),(7,.map (some NF)),(8,.map (some Ty)),(9,.slice rj qe rl),(10,.int .i64 (i:Int)),(53,.slice f4 f5 f6),(54,.int .i64 (f5:Int)),(55,.int .i64 (q:Int))]) (F:=fun(q,L2,H4,Kh,rj,qe,rl)=>[As.os RR.key 39 2 rj qe rl (L2),As.map Key.val Ty (oJ L2),As.map Key.val NF H4,As.many (Kh.map (RE.as 39))]) (I:=fun(q,L2,H4,Kh,rj,qe,rl)=>(q≤f5)∧(x8 l rev k (ks Kh) L2 i q)∧(x7 Kh H4)∧((Kh.map (·.key)).Nodup)∧(L2[i]?=some L[i])∧True) (μ:=fun(q,L2,H4,Kh,rj,qe,rl)=>f5 - q) (0,L,ZY,Lb,rj,qe,rl) (bE.p4.p4.p4.p4) Sub.t (⟨Nat.zero_le _,hF,jH,wL,ao cV,trivial⟩)<|?_;rintro⟨q,L2,H4,Kh,rj,qe,rl⟩ w9 bs ⟨hq,ZZ,ti,rR,sc,_⟩;simp only [CA,NA] at bs hq ZZ ti rR sc ⊢;have atV:=((As.gs bs.g0)).len;have iS:=ZZ.le ho;have Ij:i<L2.length:=(List.getElem?_eq_some_iff.1 sc).1;refine(aZ) (fun MX=>?_) fun MX=>?_
  ·
   simp at MX
   have kR:q<ri.reads.length:=by omega
   obtain⟨x,Q9⟩:∃x,ri.reads[q]=x:=⟨_,rfl⟩
   have hj0:(aH l L[i]).reads[q]?=some x:=by rw [Zm,ao kR,Q9]
   refine ek ?_;obtain⟨wv,JN,Hh,fQ,xD,gB,kD,oP⟩:=Rd.at (As.gr bs.g4) kR;have gB:=RR.cy gB;subst gB;have aY:=bs.fg oP kD;rw [Q9] at kD aY;refine nx ?_;refine WP .r (PV.fI fP fQ rfl rfl (by omega))<|(bz) aq (As.nR aY.g0)<|(gu) aY fun yD kB YI Qn aQ=>?_;refine(dD) jx aQ fun kC sC nt bF=>?_;refine(bz) aq bF.b0<|?_;refine WL.go rfl (OX.uj Bz rfl rfl rfl ((Calls.cap (hop _ (St.cg bF) x)).mono ?_));rintro _ qb ⟨f7,f8,f9,rfl,_,s12⟩;refine⟨_,rfl,?_⟩;have bK:=bF.step s12;refine bf ?_;refine(aZ) (fun g66=>?_) fun g66=>?_
   ·
    have hox:cI l rev x=false:=by simpa using g66
    refine kQ ?_;refine fH (q+1,L2,H4,Kh,rj,qe,rl) ⟨bK.drop.drop,⟨by omega,ZZ.skip sc hj0 hox,ti,rR,sc,trivial⟩⟩
   have hox:cI l rev x=true:=by simpa using g66
   refine dE ?_;obtain⟨MQ,kT⟩:=Ow.addr (As.gs bK.g2) sc;have br:=bK.p5;obtain⟨ea,en,ec,dO,amN⟩:=St.abZ (EK:=39) rR ti x br;have bT:=amN;have hen:=((As.gs bT.g0)).len;have V2:=ZZ.len x;refine WC.dp (m:=11) [] [7,9] [0,1,2,3,4,5,6,7,8,9,10] [(6,.sl 39 1 L[i].cells)] bT (av.k4 M1 M2 M3 M4<|av.cons M5<|av.cons M7<|av.cons M8<|av.nil) mixed (by kernel_rfl) (by kernel_rfl) rfl<|(pd) aq SV.g1<|?_
   iterate 2 refine DG.a ?_
   refine DQ .r (fun wx Zx Rx _ fJ kU=>PV.fI fP kT rfl rfl (by omega))<|DQ .r (fun wx Zx Rx _ fJ kU=>VA aq (Ow.qu (As.gs (fJ.sv kU).g3) (by omega) kT sc) .r)<|?_;refine DG.side (s:=.sl 39 1 L[i].cells) rfl rfl rfl rfl rfl rfl (fun wx Zx Rx Bx fJ=>OX.aR (us:=L[i].cells) eT rfl rfl rfl rfl fun b wy nw hb=>⟨nw.ext.size,_,rfl,⟨b,rfl⟩,fJ.eF nw hb⟩)<|?_;rintro _ ⟨b74,rfl⟩;refine(iN) (fun tU R7x aeL cz Qg=>?_);simp only [CA,NA] at cz;refine OX.mapEntry eI Pj UG (As.gm cz.g6) (dO) rfl rfl rfl fun z75 yB s75 af5=>?_;have cv:=cz.p6.abX s75 af5;refine⟨s75.size,_,rfl,_,_,_,cv,ay.k4<|ay.k4<|ay.cons<|ay.nil,av.k4 M2 M3 M4 M5<|av.cons M6<|av.cons M7<|av.cons M8<|av.nil,?_⟩;refine(iN) (fun tV R9x Qc cR AY=>?_);simp only [CA,NA] at cR;refine OX.oC rV rfl rfl rfl (As.gs cR.g1) (SR.ew (A:=fun _=>True) (x:=L[i]) (show cW _ b74 _ _ from cR.ok _ (.tail _ (.tail _ (.tail _ (.tail _ (.tail _ (.tail _ (.tail _ (.tail _ (.tail _ (AY _ (.head _)))))))))))) trivial rfl (by simp [Key.cells,Value.oneCell']) rfl) (by omega) (by omega) (Nat.zero_le _) fun a76 MV xE YO s76 YP akv=>?_;have bY:=cR.p1.jm s76 YO YP;refine⟨s76.size,_,rfl,_,_,_,bY,ay.k4<|ay.k4<|ay.cons<|ay.nil,av.k4 M2 M3 M4 M5<|av.cons M6<|av.cons M7<|av.cons M8<|av.nil,?_⟩;refine(nU) ?_;intro BR Vb cM;simp only [CM,NM,CA,NA,kY.it] at cM;refine WL.go rfl (OX.entryStore (As.gmb cM.g2) rfl rfl rfl fun Bw Ey Ez=>?_);have dR:=cM.p2.abY Ey Ez;refine WL.nil (EX.np ?_);have dz:=dR.p3.p3;have dX:=St.ahW dz;obtain⟨Lb3,hL3⟩:∃Lb3:List RE,Lb3=⟨x,a76,(en+1),MV,ks Kh x++[L[i]]⟩::rest Kh x:=⟨_,rfl⟩;have cX:=dX.FK (B:=As.many (Lb3.map (RE.as 39))) (by rw [hL3]);have Z0:=ti.put (x:=x) (v:=.slice ea en ec) (a:=a76) (n:=en+1) (c:=MV) (ks Kh x++[L[i]]);have To:=Jf (x:=x) (a:=a76) (n:=en+1) (c:=MV) rR (ks Kh x++[L[i]])
   have af6:ks Lb3=uE (ks Kh) x L[i]:=by rw [hL3];exact R7
   rw [← hL3] at Z0 To;refine(bz) aq cX.b3<|?_;refine WP .r (PV.mM eI kS G2 (As.gm cX.g6) (GM L2 x) rfl rfl)<|(aZ) (fun g81=>?_) fun g81=>?_
   ·
    have TW:x∉L2:=by simpa using g81
    refine WC.dp (m:=6) [] [5] [2,3,4,5,0,1] [(4,.sl 39 1 x.cells)] cX (av.k4 M0 M1 M2 M3<|av.k4 M4 M6 M7 M8<|av.nil) mixed (by kernel_rfl) (by kernel_rfl) rfl<|(pd) aq SV.g3<|?_;refine DG.side (s:=.sl 39 1 x.cells) rfl rfl rfl rfl rfl rfl (fun wx Zx Rx Bx fJ=>OX.aR (us:=x.cells) eT rfl rfl rfl rfl fun b wy nw hb=>⟨nw.ext.size,_,rfl,⟨b,rfl⟩,fJ.eF nw hb⟩)<|?_;rintro _ ⟨b86,rfl⟩;refine(iN) (fun Il Rb B5 dx pS=>?_);simp only [CA,NA] at dx;refine OX.oC rV rfl rfl rfl (As.gs dx.g5) (SR.ew (A:=fun _=>True) (x:=x) (show cW _ b86 _ _ from dx.ok _ (.tail _ (.tail _ (.tail _ (.tail _ (.tail _ (.tail _ (.tail _ (.tail _ (.tail _ (pS _ (.head _)))))))))))) trivial rfl (by simp [Key.cells,Value.oneCell']) rfl) (by omega) (by omega) (Nat.zero_le _) fun a87 amQ Nz amR s87 amS atY=>?_;have cJ:=dx.p5.jm s87 amR amS;refine⟨s87.size,_,rfl,_,_,_,cJ,ay.k4<|ay.k4<|ay.cons<|ay.nil,av.k4 M1 M2 M3 M4<|av.k4 M5 M6 M7 M8<|av.nil,?_⟩;refine(pd) aq SV.g3<|(nU)<|?_;intro Qj ao9 dc;simp only [CM,NM,CA,NA,kY.it] at dc;refine WL.go rfl (OX.put eI kS (As.gm dc.g7) rfl rfl rfl fun TB YQ YR=>?_);have df:=dc.p7.nv YQ YR;refine nx ?_;refine WL.nil (EX.np ?_);have ez:=df.FK (B:=As.map Key.val Ty (oJ (L2++[x]))) (by rw [GN _ TW]);refine ji ?_;refine fH (q+1,L2++[x],_,Lb3,a87,(qe+1),amQ) ⟨ez.p1.drop.p4.drop.p4.drop.p4.drop.p3.p1.p2,⟨by omega,by rw [af6];exact ZZ.new sc hj0 hox TW,Z0,To,by rw [List.getElem?_append_left Ij];exact sc,trivial⟩⟩
   have TW:x∈L2:=by simpa using g81
   refine gN ?_;refine fH (q+1,L2,_,Lb3,rj,qe,rl) ⟨cX.p2.drop.p2.drop.p2.drop.p1.p3.p3,⟨by omega,by rw [af6];exact ZZ.vw sc hj0 hox TW,Z0,To,sc,trivial⟩⟩
  simp at MX
  refine vE ?_;refine fH (i+1,L2,H4,Kh,rj,qe,rl) ⟨bs.p4.drop,⟨by show i+1≤L2.length;omega,ZZ.next sc (by rw [Zm];omega) (by omega),ti,rR,trivial⟩⟩
 simp at Ak
 refine ji ?_;have hed:=hF.ahY (show L.length≤i by omega)
 have Nr:∀e∈Lb,e.reads.length≤140737488355328:=fun e he=>by
  have h1:=hF.len e.key
  have h2:i≤4001:=by omega
  rw [OS wL he] at h1
  omega
 refine nx ?_;refine WL.mm Key.val aO fun b89 w8 atZ at1 aS=>?_;refine(bz) aq aS.b5<|?_;refine WL.go rfl (OX.ins eI kS (As.gm aS.g0) rfl rfl rfl fun w9 Yw Yx=>?_);have bE:=aS.nv Yw Yx;refine dE ?_;have bs:=bE.FK (B:=As.map Key.val b89 (oJ [k])) (rfl);refine(bz) aq bs.b5<|?_;refine WL.go rfl (OX.aR (us:=k.cells) eT rfl rfl rfl rfl fun b93 kB YZ Y0=>?_);have aY:=bs.eF YZ Y0;refine cS ?_;have aQ:=aY;have bF:=aQ.conv (B:=As.os RR.key 39 2 (some ⟨b93,0,none⟩) 1 1 [k]) (OR.ew (As.gb aQ.g0) (Nat.zero_le _) rfl (by simp [Key.cells,Value.oneCell']) rfl) (fun x h=>by show x=b93;change x∈aI (some ⟨b93,0,none⟩) at h;simpa [aI] using h);refine kQ ?_;have bK:=bF.p5;have br:=St.bkF Nr bK;refine WC.ct (σ:=Nat × (List Key) × (Option Addr) × Nat × Nat) (eJ:=fun(j,U,r6,rp,r7)=>[(7,.map (some NF)),(17,.map (some b89)),(18,.slice r6 rp r7),(19,.int .i64 (j:Int))]) (F:=fun(j,U,r6,rp,r7)=>[As.os RR.key 39 2 r6 rp r7 (U),As.map Key.val b89 (oJ U)]) (I:=fun(j,U,r6,rp,r7)=>(C4 l rev k (ks Lb) U j 0)∧True) (μ:=fun(j,U,r6,rp,r7)=>4001 - j) (0,[k],(some ⟨b93,0,none⟩),1,1) (br.p2.p2) Sub.t (⟨C4.start,trivial⟩)<|?_;rintro⟨j,U,r6,rp,r7⟩ kC bT ⟨hB,_⟩;simp only [CA,NA] at bT hB ⊢;have hun:=((As.gs bT.g0)).len;have at2:=hB.le ho;refine(aZ) (fun Zq=>?_) fun Zq=>?_
 ·
  simp at Zq
  have TD:j<U.length:=by omega
  refine ek ?_;obtain⟨v1,v2,v3,qF,mU⟩:=x7.read jH (As.gf bT.g2) U[j];have cz:=bT.fr (mU);have hsn:=((As.gr cz.g0)).len;have hbq:=hF.len U[j];obtain⟨ad9,xF⟩:=Ow.addr (As.gs cz.g1) (ao TD);refine dW ?_;refine WP .r (PV.fI fP xF rfl rfl (by omega))<|(bz) aq (Ow.qu (As.gs cz.g1) (by omega) xF (ao TD))<|?_;refine WP .r (PV.mM eI Pj UG (As.gm cz.g6) (qF) rfl rfl)<|ek ?_;refine WC.ct (σ:=Nat × (List Key) × (Option Addr) × Nat × Nat) (eJ:=fun(p,U2,r6,rp,r7)=>[(7,.map (some NF)),(17,.map (some b89)),(18,.slice r6 rp r7),(19,.int .i64 (j:Int)),(105,.slice v1 v2 v3),(106,.int .i64 (v2:Int)),(107,.int .i64 (p:Int))]) (F:=fun(p,U2,r6,rp,r7)=>[As.os RR.key 39 2 r6 rp r7 (U2),As.map Key.val b89 (oJ U2)]) (I:=fun(p,U2,r6,rp,r7)=>(p≤v2)∧(C4 l rev k (ks Lb) U2 j p)∧(U2[j]?=some U[j])∧True) (μ:=fun(p,U2,r6,rp,r7)=>v2 - p) (0,U,r6,rp,r7) (cz.p2.p2) Sub.t (⟨Nat.zero_le _,hB,ao TD,trivial⟩)<|?_;rintro⟨p,U2,r6,rp,r7⟩ qb cv ⟨hp,BH,Mi,_⟩;simp only [CA,NA] at cv hp BH Mi ⊢;have at3:=((As.gs cv.g0)).len;have apb:=BH.le ho;have hj4:j<U2.length:=(List.getElem?_eq_some_iff.1 Mi).1;refine(aZ) (fun aaa=>?_) fun aaa=>?_
  ·
   simp at aaa
   have pT:p<(ks Lb U[j]).length:=by omega
   obtain⟨x,Q9⟩:∃x,(ks Lb U[j])[p]=x:=⟨_,rfl⟩
   have YW:(ks Lb U[j])[p]?=some x:=by rw [ao pT,Q9]
   refine ek ?_;obtain⟨amx,at5,at6,Lp,apc,QJ,Vt,af7⟩:=Rd.at (As.gr cv.g2) pT;have QJ:=RR.cy QJ;subst QJ;have cR:=cv.fg af7 Vt;rw [Q9] at Vt cR;refine nx ?_;refine WP .r (PV.fI fP Lp rfl rfl (by omega))<|(bz) aq (As.nR cR.g0)<|(gu) cR fun b21 tU TN TP bY=>?_;refine(dD) jx bY fun yB U3 U4 cM=>?_;refine(bz) aq cM.b0<|?_;refine WP .r (PV.mM eI kS G2 (As.gm cM.g3) (GM U2 x) rfl rfl)<|(aZ) (fun E0=>?_) fun E0=>?_
   ·
    have TW:x∉U2:=by simpa using E0
    refine WC.dp (m:=6) [] [5] [2,3,4,5,0,1] [(4,.sl 39 1 x.cells)] cM (av.k4 M0 M1 M3 M4<|av.k4 M5 M6 M7 M8<|av.cons M9<|av.nil) mixed (by kernel_rfl) (by kernel_rfl) rfl<|(pd) aq SV.g0<|?_;refine DG.side (s:=.sl 39 1 x.cells) rfl rfl rfl rfl rfl rfl (fun wx Zx Rx Bx fJ=>OX.aR (us:=x.cells) eT rfl rfl rfl rfl fun b wy nw hb=>⟨nw.ext.size,_,rfl,⟨b,rfl⟩,fJ.eF nw hb⟩)<|?_;rintro _ ⟨amT,rfl⟩;refine(iN) (fun tV Rb B5 dR pS=>?_);simp only [CA,NA] at dR;refine OX.oC rV rfl rfl rfl (As.gs dR.g2) (SR.ew (A:=fun _=>True) (x:=x) (show cW _ amT _ _ from dR.ok _ (.tail _ (.tail _ (.tail _ (.tail _ (.tail _ (.tail _ (.tail _ (.tail _ (.tail _ (.tail _ (pS _ (.head _))))))))))))) trivial rfl (by simp [Key.cells,Value.oneCell']) rfl) (by omega) (by omega) (Nat.zero_le _) fun amU af8 xE af9 aga agb apd=>?_;have dz:=dR.p2.jm aga af9 agb;refine⟨aga.size,_,rfl,_,_,_,dz,ay.k4<|ay.k4<|ay.k2<|ay.nil,av.k4 M1 M2 M3 M4<|av.k4 M5 M6 M7 M8<|av.cons M9<|av.nil,?_⟩;refine(pd) aq SV.g0<|(nU)<|?_;intro BR ape dX;simp only [CM,NM,CA,NA,kY.it] at dX;refine WL.go rfl (OX.put eI kS (As.gm dX.g4) rfl rfl rfl fun Bw amV amW=>?_);have cX:=dX.p4.nv amV amW;refine nx ?_;refine WL.nil (EX.np ?_);have dx:=cX.FK (B:=As.map Key.val b89 (oJ (U2++[x]))) (by rw [GN _ TW]);refine ji ?_;refine fH (p+1,U2++[x],amU,(rp+1),af8) ⟨dx.p1.drop.p2.drop.p2.drop.p1,⟨by omega,BH.add hed Mi YW TW,by rw [List.getElem?_append_left hj4];exact Mi,trivial⟩⟩
   have TW:x∈U2:=by simpa using E0
   refine gN ?_;refine fH (p+1,U2,r6,rp,r7) ⟨cM.drop.drop,⟨by omega,BH.has Mi YW TW,Mi,trivial⟩⟩
  simp at aaa
  refine vE ?_;refine fH (j+1,U2,r6,rp,r7) ⟨cv.p2.drop,⟨BH.next Mi (by omega),trivial⟩⟩
 simp at Zq
 have amX:=fun {L'}=>hB.group (L':=L') ho hed (show U.length≤j by omega);refine ji ?_;have amY:=St.fresh bT;have cz:=bT.bN (by omega);refine cS ?_;have cv:=cz;refine(dj) ada (Bo cv.e0 (As.gr cv.g0) (List.ne_nil_of_mem hB.mem) hB.mF (by omega)) ?_;rintro _ qb ⟨o1,o2,o3,L9,rfl,hsl,U5,sD⟩;have cR:=St.lr cv sD;have hL9:=amX hsl U5;subst hL9;refine dW ?_;have rM:St w M _ _ [As.os RR.key 39 2 o1 o2 o3 (aB l rev k)]:=(St.wk cR.k1);refine(cA) ?_;exact⟨o1,o2,o3,rfl,rM.unz (fun _ h=>.inl (.inl h)) (Ow.z (As.gs rM.g0))⟩
theorem Ci(bJ:St w M Z w []) (hW:cW w wb 121 (D.wc v rev ra rn rc)) (hm:KM Key.val w D.m ml) (jH:jW l lf ml) (QI:(As.oX 48 lf l).ok Z w) (l4:∀r∈l,gY r.key) (h6:l.length≤4000) (Rf:∀r∈l,r.reads.length≤4000):Calls prog 58 #[.pointer (some ⟨wb,0,none⟩),k.val] w fun e w'=>∃(a:Option Addr) (n c:Nat),e=.returned (.slice a n c)∧St w M Z w' [As.os RR.key 39 2 a n c (aB l rev k)]:=by
 refine enter func58 rfl ntmps58 rfl<|?_;have bd:=St.rb bJ;refine(fo) bd fun b2 w1 nz fm st1=>?_;refine(fo) st1 fun b3 w2 iR dL st2=>?_;refine(bz) aq st2.b0<|?_;refine WP .r (PV.func (us:=[]) (vs:=[.pointer (some ⟨b2,0,none⟩)]) rfl rfl)<|?_;have aW:=st2;refine(dj) ajg (Fp (k:=k) aW.e0 ajh (fun w1 h1 y=>Kg (cW.ext (As.gb aW.g1) h1) (hW.ext (aV.trans (St.cg aW) h1)) (hm.ext (aV.trans (St.cg aW) h1)) jH (As.exc QI (aV.trans (St.cg aW) h1)) l4 y) h6 Rf) ?_;rintro _ w3 ⟨o1,o2,o3,rfl,eN⟩;have ba:=St.lr aW eN;refine(cA) ?_;exact⟨o1,o2,o3,rfl,(St.wk ba.p1.drop.p1.drop)⟩
theorem Bp{group:List Key}{ag:Option Addr}{g eg:Nat}{A:Nat→Prop}(bJ:St w M Z w []) (hW:cW w wb 121 (D.wc v rev ra rn rc)) (hm:KM Key.val w D.m ml) (jH:jW l lf ml) (QI:(As.oX 48 lf l).ok Z w) (hg:Rd RR.key 2 A w ag g eg group) (cZ:∀m∈group,∃r,aC l m=some r) (hb:∀i,((group.take i).flatMap fun m=>dZ group m (aH l m).reads).length≤100000000):Calls prog 57 #[.pointer (some ⟨wb,0,none⟩),.slice ag g eg] w fun e w'=>∃(a:Option Addr) (n c:Nat),e=.returned (.slice a n c)∧St w M Z w' [As.os RR.LN 126 4 a n c (bP l group)]:=by
 have hlen:=hg.len;have hle:=hg.le;refine enter func57 rfl ntmps57 rfl<|?_;have bd:=St.rb bJ;have st1:=bd.eP RR.LN 126 4;refine bf ?_;refine gN ?_;refine WC.ct (σ:=Nat × (List si) × (Option Addr) × Nat × Nat) (eJ:=fun(i,acc,cF,cm,cG)=>[(0,.pointer (some ⟨wb,0,none⟩)),(1,.slice ag g eg),(5,.slice cF cm cG),(11,.slice ag g eg),(12,.int .i64 (g:Int)),(13,.int .i64 (i:Int))]) (F:=fun(i,acc,cF,cm,cG)=>[As.os RR.LN 126 4 cF cm cG (acc)]) (I:=fun(i,acc,cF,cm,cG)=>(i≤g)∧(acc=(group.take i).flatMap fun m=>dZ group m (aH l m).reads)∧True) (μ:=fun(i,acc,cF,cm,cG)=>g - i) (0,[],none,0,0) (st1) Sub.t (⟨by omega,by simp,trivial⟩)<|?_;rintro⟨i,acc,cF,cm,cG⟩ w1 st2 ⟨hi,eu,_⟩;simp only [CA,NA] at st2 hi eu ⊢;refine(aZ) (fun g14=>?_) fun g14=>?_
 ·
  simp at g14
  have cV:i<group.length:=by omega
  refine ek ?_;obtain⟨ik,kf,jE,aU,fX,bD,cP,dM⟩:=Rd.at hg cV;have bD:=RR.cy bD;subst bD;refine nx ?_;refine WP .r (PV.fI fP aU rfl rfl (by omega))<|(bz) aq (bH cP (St.cg st2) (by simp))<|(gu) st2 fun b7 w2 vq oe aW=>?_;refine(dD) jx aW fun w3 jY j7 ba=>?_;refine dE ?_;obtain⟨r,hr⟩:=cZ _ (List.getElem_mem cV);have hro:aH l group[i]=r:=bC hr;have hqr:=(QI.1 _ _ hr).2.1;have hq4:=(QI.1 _ _ hr).2.2;have bw:=ba.fr (hqr.ext (St.cg ba));have hqn:=hqr.len;have hN5:=bw.cY;refine WC.dS (m:=5) bw mixed<|dE ?_;refine DP .r (fun _ hC=>V1 jw (cW.range (hW.ext (St.cg hC.2))) .r)<|(jj) aq St.g1<|(eh)<|?_;rintro w4 ⟨EW,bj⟩ _;refine WP .r (PV.dJ eI jy jX (hm.ext (St.cg bj)) (jH.yes hr) rfl rfl)<|(aZ) (fun g24=>?_) fun g24=>?_
  ·
   exact gW g24
  refine(bL) gK (cW.range ((QI.1 _ _ hr).1.ext (St.cg bj)))<|ek ?_;refine WC.ct (σ:=Nat × (List si) × (Option Addr) × Nat × Nat) (eJ:=fun(j,jo,cF,cm,cG)=>[(0,.pointer (some ⟨wb,0,none⟩)),(1,.slice ag g eg),(5,.slice cF cm cG),(7,.pointer (some ⟨b7,0,none⟩)),(11,.slice ag g eg),(12,.int .i64 (g:Int)),(13,.int .i64 (i:Int)),(28,.slice (lf group[i]).a (lf group[i]).n (lf group[i]).c),(29,.int .i64 ((lf group[i]).n:Int)),(30,.int .i64 (j:Int))]) (F:=fun(j,jo,cF,cm,cG)=>[As.os RR.LN 126 4 cF cm cG (jo)]) (I:=fun(j,jo,cF,cm,cG)=>(j≤(lf group[i]).n)∧(jo=acc++dZ group group[i] (r.reads.take j))∧True) (μ:=fun(j,jo,cF,cm,cG)=>(lf group[i]).n - j) (0,acc,cF,cm,cG) (bj.p2) Sub.t (⟨by omega,by simp [dZ],trivial⟩)<|?_;rintro⟨j,jo,cF,cm,cG⟩ w5 bX ⟨hj,qQ,_⟩;simp only [CA,NA] at bX hj qQ ⊢;have l4:=((As.gs bX.g0)).len;have Li:=hb i;rw [← eu] at Li;have BM:=mh group group[i] (r.reads.take j)
  have htl:jo.length≤100100000:=by rw [qQ,List.length_append];rw [List.length_take] at BM;omega
  refine(aZ) (fun rW=>?_) fun rW=>?_
  ·
   simp at rW
   have kR:j<r.reads.length:=by omega
   refine ek ?_;obtain⟨wv,JN,Hh,fQ,xD,gB,kD,oP⟩:=Rd.at (As.gr bX.g1) kR;have gB:=RR.cy gB;subst gB;have bV:=bX.fg oP kD;refine nx ?_;refine WP .r (PV.fI fP fQ rfl rfl (by omega))<|(bz) aq (As.nR bV.g0)<|(gu) bV fun iJ w6 lz fE cq=>?_;refine(dD) jx cq fun w7 sC nt aL=>?_;refine(bz) aq aL.b0<|(iz) (oR (k:=r.reads[j]) (hg.ext (St.cg aL))) aL fun w8 s8 aO=>?_;refine(aZ) (fun uQ=>?_) fun uQ=>?_
   ·
    simp at uQ
    have Mv:=lB (group:=group) (m:=group[i]) kR;rw [if_neg uQ] at Mv;refine(bz) aq aO.b4<|(bz) aq aO.b0<|?_;refine WP .r (PV.bW (us:=(si.mk group[i] r.reads[j]).cells) Ux rfl rfl rfl)<|?_;refine WL.go rfl (OX.aR (us:=(si.mk group[i] r.reads[j]).cells) K7 rfl rfl rfl rfl fun b42 w9 amZ am0=>?_);have aS:=aO.eF amZ am0;refine WL.ap rfl rfl aS.p3 (SR.ew (A:=fun _=>True) (x:=si.mk group[i] r.reads[j]) (As.gb aS.g0) trivial rfl (by simp [si.cells,Value.oneCell']) rfl) fun a43 am4 kB aud aue bE=>?_;refine kQ ?_;refine fH (j+1,_,a43,(cm+1),am4) ⟨bE.p5.p5.p2.k3,⟨by omega,by rw [Mv,qQ,List.append_assoc],trivial⟩⟩
   simp at uQ
   have Mv:=lB (group:=group) (m:=group[i]) kR;rw [if_pos uQ] at Mv;refine gN ?_;refine fH (j+1,_,cF,cm,cG) ⟨aO.drop.drop,⟨by omega,by rw [Mv,qQ],trivial⟩⟩
  simp at rW
  have Dk:r.reads.take j=r.reads:=List.take_of_length_le (by omega);refine nT ?_;refine fH (i+1,jo,cF,cm,cG) ⟨bX.p1.drop.p1.drop,⟨by omega,by rw [qQ,Dk,eu,List.take_succ_eq_append_getElem cV];simp only [List.flatMap_append,List.flatMap_cons,List.flatMap_nil,List.append_nil,hro],trivial⟩⟩
 simp at g14
 have agc:group.take i=group:=List.take_of_length_le (by omega);rw [agc] at eu;subst eu;refine(cA) ?_;exact⟨_,_,_,rfl,(St.wk st2)⟩
theorem Fq(hi:Rd RR.aF 4 Z w a1 n1 e1 x.ae):CR prog 132 #[.agg (x.row a1 n1 e1 a2 n2 e2).toArray,k.val] w (.int .i64 (db x.ae k).changed):=by
 refine enter func132 rfl ntmps132 rfl<|?_;have bd:=St.s0 w;refine(fo) bd fun b2 w1 nz fm st1=>?_;refine(fo) st1 fun b3 w2 iR dL st2=>?_;refine(bz) aP st2.b1<|(bz) aq st2.b0<|(dj) UU (u4 (k:=k) (hi.ext (St.cg st2))) ?_;rintro _ w3 ⟨y,rfl,_,hy,s3⟩;have aW:=st2.step s3;refine WP .r (PV.y8 (fs:=[_,_,_]) (f:=2) (off:=3) (T:=102) underlying102 rfl rfl (show ∀w,(isAgg 3).run _ w=.ok false w from isAgg3) rfl rfl)<|(cA) ?_;exact⟨by rw [← hy],(St.cg aW)⟩
theorem Fs{r:Rec}(bJ:St w M Z w [As.map Key.val S.m ml,As.map Key.val S.q [],As.blk wb 121 (D.wc S.s rev ra rn rc),As.map Key.val D.m oT,As.oX 48 lf l]) (hf:(S.FV prog ab x0).p Z w) (pC:Rd RR.aF 4 Z w D.a1 D.n1 D.c1 x0.ae) (hm:bq ab x0.ae ml) (jH:jW l lf oT) (hR:aw ab) (hS:∀k,(valOf ab x0.ae k).size≤1000) (iB:az k=true) (kF:aC l k=none):Calls prog 93 #[.pointer (some ⟨wb,0,none⟩),k.val] w fun e w'=>∃fj,e=.returned (.int .i64 (bp (valOf ab x0.ae) ⟨rev,x0.ae,l⟩ k))∧bq ab x0.ae fj∧jk ml fj∧St w M Z w' [As.map Key.val S.m fj,As.map Key.val S.q [],As.blk wb 121 (D.wc S.s rev ra rn rc),As.map Key.val D.m oT,As.oX 48 lf l]:=by
 refine enter func93 rfl ntmps93 rfl<|?_;have bd:=bJ;have st1:=bd.fr pC;have st2:=st1.fact (B:=As.fz (S.FV prog ab x0)) hf (fun _ hx=>hx);refine(fo) st2 fun b3 w1 iR dL aW=>?_;refine dW ?_;have AA:=aW.cY;refine WC.dS (m:=5) aW mixed<|(lI) jw St.g5<|(jj) aq St.g0<|(eh)<|?_;rintro w2 ⟨fx,ba⟩ _;refine WP .r (PV.mM eI jy jX (As.gm ba.g6) (jH.no kF) rfl rfl)<|(bz) aq ba.b0<|?_;refine WL.c1 (u:=.bool true) (eV (k:=k)) (by rw [iB]) ba fun w3 s3 bw=>?_;refine dE ?_;refine WC.Ck rfl<|nx ?_;have Hi:=bw.cY;refine WC.dS (m:=5) bw mixed<|(Cy) aP St.g5<|(jj) aq St.g0<|(eh)<|?_;rintro w4 ⟨eB,bj⟩ _;refine(iz) (Fq (x:=⟨rev,x0.ae,l⟩) (k:=k) (a2:=D.a2) (n2:=D.n2) (e2:=D.c2) (As.gr bj.g2)) bj fun w5 s5 bX=>?_;refine(cA) ?_;exact⟨ml,by rw [WE iB],hm,jk.refl _,bX.drop.drop.drop⟩
theorem Ft{r:Rec}(bJ:St w M Z w [As.map Key.val S.m ml,As.map Key.val S.q [],As.blk wb 121 (D.wc S.s rev ra rn rc),As.map Key.val D.m oT,As.oX 48 lf l]) (hf:(S.FV prog ab x0).p Z w) (pC:Rd RR.aF 4 Z w D.a1 D.n1 D.c1 x0.ae) (hm:bq ab x0.ae ml) (jH:jW l lf oT) (hR:aw ab) (hS:∀k,(valOf ab x0.ae k).size≤1000) (iB:az k=false) (kF:aC l k=none):Calls prog 93 #[.pointer (some ⟨wb,0,none⟩),k.val] w fun e w'=>∃fj,e=.returned (.int .i64 (bp (valOf ab x0.ae) ⟨rev,x0.ae,l⟩ k))∧bq ab x0.ae fj∧jk ml fj∧St w M Z w' [As.map Key.val S.m fj,As.map Key.val S.q [],As.blk wb 121 (D.wc S.s rev ra rn rc),As.map Key.val D.m oT,As.oX 48 lf l]:=by
 refine enter func93 rfl ntmps93 rfl<|?_;have bd:=bJ;have st1:=bd.fr pC;have st2:=st1.fact (B:=As.fz (S.FV prog ab x0)) hf (fun _ hx=>hx);refine(fo) st2 fun b3 w1 iR dL aW=>?_;refine dW ?_;have AA:=aW.cY;refine WC.dS (m:=5) aW mixed<|(lI) jw St.g5<|(jj) aq St.g0<|(eh)<|?_;rintro w2 ⟨fx,ba⟩ _;refine WP .r (PV.mM eI jy jX (As.gm ba.g6) (jH.no kF) rfl rfl)<|(bz) aq ba.b0<|?_;refine WL.c1 (u:=.bool false) (eV (k:=k)) (by rw [iB]) ba fun w3 s3 bw=>?_;refine dE ?_;refine WC.j0 rfl<|(aZ) (fun g21=>?_) fun g21=>?_
 ·
  refine ji ?_;refine WP .r (PV.ld1 (j:=1) aT bw.b5 rfl rfl)<|(cA) ?_;exact⟨ml,by rw [WG iB kF],hm,jk.refl _,bw.drop.drop.drop⟩
 exact gW g21
theorem Fu(bJ:St w M Z w [As.map Key.val S.m ml,As.map Key.val S.q [],As.blk wb 121 (D.wc S.s rev ra rn rc),As.map Key.val D.m oT,As.oX 48 lf l]) (hf:(S.FV prog ab x0).p Z w) (pC:Rd RR.aF 4 Z w D.a1 D.n1 D.c1 x0.ae) (hm:bq ab x0.ae ml) (jH:jW l lf oT) (hR:aw ab) (hS:∀k,(valOf ab x0.ae k).size≤1000) (iB:az k=false) (kF:aC l k=some r) (hv:r.ax=rev):Calls prog 93 #[.pointer (some ⟨wb,0,none⟩),k.val] w fun e w'=>∃fj,e=.returned (.int .i64 (bp (valOf ab x0.ae) ⟨rev,x0.ae,l⟩ k))∧bq ab x0.ae fj∧jk ml fj∧St w M Z w' [As.map Key.val S.m fj,As.map Key.val S.q [],As.blk wb 121 (D.wc S.s rev ra rn rc),As.map Key.val D.m oT,As.oX 48 lf l]:=by
 refine enter func93 rfl ntmps93 rfl<|?_;have bd:=bJ;have st1:=bd.fr pC;have st2:=st1.fact (B:=As.fz (S.FV prog ab x0)) hf (fun _ hx=>hx);refine(fo) st2 fun b3 w1 iR dL aW=>?_;refine dW ?_;have AA:=aW.cY;refine WC.dS (m:=5) aW mixed<|(lI) jw St.g5<|(jj) aq St.g0<|(eh)<|?_;rintro w2 ⟨fx,ba⟩ _;refine WP .r (PV.dJ eI jy jX (As.gm ba.g6) (jH.yes kF) rfl rfl)<|(bz) aq ba.b0<|?_;refine WL.c1 (u:=.bool false) (eV (k:=k)) (by rw [iB]) ba fun w3 s3 bw=>?_;refine dE ?_;refine WC.j0 rfl<|(aZ) (fun g21=>?_) fun g21=>?_
 ·
  exact gW g21
 refine nx ?_;have Q8:=bw.cY;refine WC.dS (m:=21) bw mixed<|dE ?_;refine DP .r (fun _ hC=>V1 aT (cW.range ((As.KX hC.2.g7).1 _ _ kF).1) .r)<|dW ?_;refine DP .r (fun _ hC=>PV.ld1 (j:=1) aT (cW.range (As.gb hC.2.g5)) rfl rfl)<|DP .r (fun _ hC=>(PV.eqi rfl rfl).cast (v':=.bool true) (congrArg Value.bool (decide_eq_true hv)))<|(eh) ?_;rintro w4 ⟨oQ,bj⟩ _;refine ek ?_;refine WC.Ck rfl<|(bL) aT (cW.range ((As.KX bj.g7).1 _ _ kF).1)<|(cA) ?_;exact⟨ml,by rw [WJ iB kF hv],hm,jk.refl _,bj.drop.drop.drop⟩
theorem Fv(bJ:St w M Z w [As.map Key.val S.m ml,As.map Key.val S.q [],As.blk wb 121 (D.wc S.s rev ra rn rc),As.map Key.val D.m oT,As.oX 48 lf l]) (hf:(S.FV prog ab x0).p Z w) (pC:Rd RR.aF 4 Z w D.a1 D.n1 D.c1 x0.ae) (hm:bq ab x0.ae ml) (jH:jW l lf oT) (hR:aw ab) (hS:∀k,(valOf ab x0.ae k).size≤1000) (iB:az k=false) (kF:aC l k=some r) (hv:¬r.ax=rev) (hk:gA ab k):Calls prog 93 #[.pointer (some ⟨wb,0,none⟩),k.val] w fun e w'=>∃fj,e=.returned (.int .i64 (bp (valOf ab x0.ae) ⟨rev,x0.ae,l⟩ k))∧bq ab x0.ae fj∧jk ml fj∧St w M Z w' [As.map Key.val S.m fj,As.map Key.val S.q [],As.blk wb 121 (D.wc S.s rev ra rn rc),As.map Key.val D.m oT,As.oX 48 lf l]:=by
 refine enter func93 rfl ntmps93 rfl<|?_;have bd:=bJ;have st1:=bd.fr pC;have st2:=st1.fact (B:=As.fz (S.FV prog ab x0)) hf (fun _ hx=>hx);refine(fo) st2 fun b3 w1 iR dL aW=>?_;refine dW ?_;have AA:=aW.cY;refine WC.dS (m:=5) aW mixed<|(lI) jw St.g5<|(jj) aq St.g0<|(eh)<|?_;rintro w2 ⟨fx,ba⟩ _;refine WP .r (PV.dJ eI jy jX (As.gm ba.g6) (jH.yes kF) rfl rfl)<|(bz) aq ba.b0<|?_;refine WL.c1 (u:=.bool false) (eV (k:=k)) (by rw [iB]) ba fun w3 s3 bw=>?_;refine dE ?_;refine WC.j0 rfl<|(aZ) (fun g21=>?_) fun g21=>?_
 ·
  exact gW g21
 refine nx ?_;refine WC.dp (m:=21) [] [16] [0,1,2,3,4,5,6,7,8,9,10,11,12,13,14,15,16,17,18,19,20] [] bw (av.k4 M0 M1 M2 M5<|av.cons M6<|av.cons M7<|av.nil) mixed (by kernel_rfl) (by kernel_rfl) rfl<|?_
 iterate 3 refine DG.a ?_
 refine DQ .r (fun wx Zx Rx _ fJ kU=>V1 aT (cW.range ((As.KX (fJ.sv kU).g5).1 _ _ kF).1) .r)<|?_
 iterate 4 refine DG.a ?_
 refine DQ .r (fun wx Zx Rx _ fJ kU=>PV.ld1 (j:=1) aT (cW.range (As.gb (fJ.sv kU).g3)) rfl rfl)<|DQ .r (fun wx Zx Rx _ fJ kU=>(PV.eqi rfl rfl).cast (v':=.bool false) (congrArg Value.bool (decide_eq_false hv)))<|?_
 iterate 4 refine DG.a ?_
 refine(BA) zZ SV.g3<|(pd) aq SV.g0<|(iN) (fun w4 aln afe bj Zj=>?_);simp only [CA,NA] at bj;have bX:=bj.p4.p4;refine OX.call Po rfl rfl ((Zc hR hS hk _ _ _ _ _ bX.e2 (As.gf bX.g3) hm (fun _=>pg.nil _)).mono ?_);rintro _ w5 ⟨fS,rfl,kM,iS,jF⟩;have bV:=St.lr bX jF;refine⟨_,rfl,jF.cT.size,_,rfl,_,_,_,bV,ay.k4<|ay.k4<|ay.nil,av.k4 M2 M3 M4 M5<|av.cons M6<|av.cons M7<|av.nil,?_⟩
 iterate 3 refine DG.a ?_
 refine DQ .r (fun wx Zx Rx _ fJ kU=>V1 iG (cW.range ((As.KX (fJ.sv kU).g5).1 _ _ kF).1) .r)<|(nU)<|?_;intro w6 oQ cq;simp only [CM,NM,CA,NA,kY.it] at cq;refine dE ?_;refine WL.nil (EX.np ?_);refine(aZ) (fun qj=>?_) fun qj=>?_
 ·
  simp at qj
  refine(bL) aT (cW.range ((As.KX cq.g7).1 _ _ kF).1)<|(cA) ?_;exact⟨fS,by rw [KY iB kF hv,if_pos qj],kM,iS,cq.p2.drop.p2.drop.p2.drop⟩
 simp at qj
 refine qi ?_;refine WP .r (PV.ld1 (j:=1) aT cq.b5 rfl rfl)<|(cA) ?_;exact⟨fS,by rw [KY iB kF hv,if_neg qj],kM,iS,cq.p2.drop.p2.drop.p2.drop⟩
theorem H5(bJ:St w M Z w [As.map Key.val S.m ml,As.map Key.val S.q [],As.blk wb 121 (D.wc S.s rev ra rn rc),As.map Key.val D.m oT,As.oX 48 lf l]) (hf:(S.FV prog ab x0).p Z w) (pC:Rd RR.aF 4 Z w D.a1 D.n1 D.c1 x0.ae) (hm:bq ab x0.ae ml) (jH:jW l lf oT) (hR:aw ab) (hS:∀k,(valOf ab x0.ae k).size≤1000) (hk:gA ab k) (ny:KR ab l):Calls prog 93 #[.pointer (some ⟨wb,0,none⟩),k.val] w fun e w'=>∃fj,e=.returned (.int .i64 (bp (valOf ab x0.ae) ⟨rev,x0.ae,l⟩ k))∧bq ab x0.ae fj∧jk ml fj∧St w M Z w' [As.map Key.val S.m fj,As.map Key.val S.q [],As.blk wb 121 (D.wc S.s rev ra rn rc),As.map Key.val D.m oT,As.oX 48 lf l]:=by
 cases iB:az k with
 | true=>exact Fs (r:=sf) bJ hf pC hm jH hR hS iB (ny.aF iB)
 | false=>
  cases kF:aC l k with
  | none=>exact Ft (r:=sf) bJ hf pC hm jH hR hS iB kF
  | some r=>
   by_cases hv:r.ax=rev
   ·
    exact Fu bJ hf pC hm jH hR hS iB kF hv
   exact Fv bJ hf pC hm jH hR hS iB kF hv hk
theorem Fw{c:si}(bJ:St w M Z w [As.map Key.val S.m ml,As.map Key.val S.q [],As.blk wb 121 (D.wc S.s rev ra rn rc),As.map Key.val D.m oT,As.oX 48 lf l]) (hf:(S.FV prog ab x0).p Z w) (pC:Rd RR.aF 4 Z w D.a1 D.n1 D.c1 x0.ae) (hm:bq ab x0.ae ml) (jH:jW l lf oT) (hR:aw ab) (hS:∀k,(valOf ab x0.ae k).size≤1000) (hk:gA ab c.read) (ny:KR ab l) (kF:aC l c.eR=some r):Calls prog 59 #[.pointer (some ⟨wb,0,none⟩),.agg c.cells.toArray] w fun e w'=>∃fj,e=.returned (.bool (Ii (valOf ab x0.ae) ⟨rev,x0.ae,l⟩ c))∧bq ab x0.ae fj∧jk ml fj∧St w M Z w' [As.map Key.val S.m fj,As.map Key.val S.q [],As.blk wb 121 (D.wc S.s rev ra rn rc),As.map Key.val D.m oT,As.oX 48 lf l]:=by
 refine enter func59 rfl ntmps59 rfl<|?_;have bd:=bJ;have st1:=bd.fr pC;have st2:=st1.fact (B:=As.fz (S.FV prog ab x0)) hf (fun _ hx=>hx);refine(fo) st2 fun b3 w1 iR dL aW=>?_;refine dW ?_;refine WC.dp (m:=14) [] [3] [0,1,2,3,4,5,6,7,8,9,10,11,12,13] [] aW (av.k4 M7 M6 M5 M2<|av.cons M1<|av.cons M0<|av.nil) mixed (by kernel_rfl) (by kernel_rfl) rfl<|?_
 iterate 2 refine DG.a ?_
 refine(LM) aq SV.g5<|(iN) (fun w2 TA EP ba u9=>?_);simp only [CA,NA] at ba;have bw:=ba.p7.p7.p7.p7.p7;refine OX.call ajj rfl rfl ((H5 (k:=c.read) bw.e5 (As.gf bw.g6) (As.gr bw.g7) hm jH hR hS hk ny).mono ?_);rintro _ w3 ⟨fS,rfl,kM,iS,eN⟩;have bj:=St.lr bw eN;refine⟨_,rfl,eN.cT.size,_,rfl,_,_,_,bj,ay.k4<|ay.k4<|ay.nil,av.k4 M4 M3 M2 M7<|av.cons M6<|av.cons M5<|av.nil,?_⟩
 iterate 3 refine DG.a ?_
 refine(BA) jw SV.g2<|(LM) aq SV.g5<|?_;refine DQ .r (fun wx Zx Rx _ fJ kU=>PV.dJ eI jy jX (As.gm (fJ.sv kU).g1) (jH.yes kF) rfl rfl)<|?_
 iterate 2 refine DG.a ?_
 refine DQ .r (fun wx Zx Rx _ fJ kU=>V1 aT (cW.range ((As.KX (fJ.sv kU).g0).1 _ _ kF).1) .r)<|(nU)<|?_;intro w4 fx bX;simp only [CM,NM,CA,NA,kY.it] at bX;refine cS ?_;refine WL.nil (EX.np ?_);refine(cA) ?_;exact⟨fS,by unfold Ii;rw [bC kF],kM,iS,bX.p5.drop.p5.drop.p5.drop⟩
theorem H6{Z:Nat→Prop}(hW:cW w wb 121 (D.wc v rev ra rn rc)) (hm:KM Key.val w D.m ml) (jH:jW l lf ml) (kF:aC l k=none) (iB:az k=true):CR prog 56 #[.pointer (some ⟨wb,0,none⟩),k.val] w (.bool true):=by
 refine enter func56 rfl ntmps56 rfl<|?_;have bd:=St.s0 w;refine(fo) bd fun b3 w1 iR dL st1=>?_;refine dW ?_;have AA:=st1.cY;refine WC.dS (m:=5) st1 mixed<|dE ?_;refine DP .r (fun _ hC=>V1 jw (cW.range (hW.ext (St.cg hC.2))) .r)<|(jj) aq St.g0<|(eh)<|?_;rintro w2 ⟨fx,st2⟩ _;refine WP .r (PV.mM eI jy jX (hm.ext (St.cg st2)) (jH.no kF) rfl rfl)<|dW ?_;have Q3:=st2.cY;refine WC.eQ (m:=15) (E:=dr [(1,fun v _=>v=.bool true)]) st2 (bM (⟨fun _ _ _ _ _ _ _ h=>h,trivial⟩)) mixed (by kernel_rfl)<|(jj) aq St.g0<|?_;refine DW.c1 (u:=.bool true) (fun wx hC hF=>eV (k:=k)) (by rw [iB])<|?_;refine bf ?_;refine(eh) ?_;rintro w3 ⟨pA,aW⟩ ⟨_,_⟩;refine(cA) ?_;exact⟨rfl,(St.cg aW)⟩
theorem H7{Z:Nat→Prop}(hW:cW w wb 121 (D.wc v rev ra rn rc)) (hm:KM Key.val w D.m ml) (jH:jW l lf ml) (kF:aC l k=none) (iB:az k=false):CR prog 56 #[.pointer (some ⟨wb,0,none⟩),k.val] w (.bool false):=by
 refine enter func56 rfl ntmps56 rfl<|?_;have bd:=St.s0 w;refine(fo) bd fun b3 w1 iR dL st1=>?_;refine dW ?_;have AA:=st1.cY;refine WC.dS (m:=5) st1 mixed<|dE ?_;refine DP .r (fun _ hC=>V1 jw (cW.range (hW.ext (St.cg hC.2))) .r)<|(jj) aq St.g0<|(eh)<|?_;rintro w2 ⟨fx,st2⟩ _;refine WP .r (PV.mM eI jy jX (hm.ext (St.cg st2)) (jH.no kF) rfl rfl)<|dW ?_;have Q3:=st2.cY;refine WC.eQ (m:=15) (E:=dr [(1,fun v _=>v=.bool false)]) st2 (bM (⟨fun _ _ _ _ _ _ _ h=>h,trivial⟩)) mixed (by kernel_rfl)<|(jj) aq St.g0<|?_;refine DW.c1 (u:=.bool false) (fun wx hC hF=>eV (k:=k)) (by rw [iB])<|dW ?_;refine DW.i6 (t:=17) rfl (fun g17=>?_) (fun g17=>?_)
 ·
  exact gW g17
 refine(eh) ?_;rintro w3 ⟨pA,aW⟩ ⟨_,_⟩;refine(cA) ?_;exact⟨rfl,(St.cg aW)⟩
theorem H8(hW:cW w wb 121 (D.wc v rev ra rn rc)) (hm:KM Key.val w D.m ml) (jH:jW l lf ml) {r:Rec}(QI:(As.oX 48 lf l).ok Z w) (kF:aC l k=some r) (iB:az k=false):CR prog 56 #[.pointer (some ⟨wb,0,none⟩),k.val] w (.bool (decide (r.ax=rev))):=by
 refine enter func56 rfl ntmps56 rfl<|?_;have bd:=St.s0 w;refine(fo) bd fun b3 w1 iR dL st1=>?_;refine dW ?_;have AA:=st1.cY;refine WC.dS (m:=5) st1 mixed<|dE ?_;refine DP .r (fun _ hC=>V1 jw (cW.range (hW.ext (St.cg hC.2))) .r)<|(jj) aq St.g0<|(eh)<|?_;rintro w2 ⟨fx,st2⟩ _;refine WP .r (PV.dJ eI jy jX (hm.ext (St.cg st2)) (jH.yes kF) rfl rfl)<|dW ?_;have Q3:=st2.cY;refine WC.eQ (m:=15) (E:=dr [(1,fun v _=>v=.bool false)]) st2 (bM (⟨fun _ _ _ _ _ _ _ h=>h,trivial⟩)) mixed (by kernel_rfl)<|(jj) aq St.g0<|?_;refine DW.c1 (u:=.bool false) (fun wx hC hF=>eV (k:=k)) (by rw [iB])<|dW ?_;refine DW.i6 (t:=17) rfl (fun g17=>?_) (fun g17=>?_)
 ·
  refine dE ?_;refine DP .r (fun _ hC=>V1 aT (cW.range ((QI.1 _ _ kF).1.ext (St.cg hC.2))) .r)<|dW ?_;refine DP .r (fun _ hC=>PV.ld1 (j:=1) aT (cW.range (hW.ext (St.cg hC.2))) rfl rfl)<|(eh)<|?_;rintro w3 ⟨pA,aW⟩ ⟨_,_⟩;refine(cA) ?_;exact⟨rfl,(St.cg aW)⟩
 exact gW g17
theorem pE{aF:List dB}(hW:cW w wb 121 (D.wc v rev ra rn rc)) (hm:KM Key.val w D.m ml) (jH:jW l lf ml) (QI:(As.oX 48 lf l).ok Z w) (ny:KR ab l):CR prog 56 #[.pointer (some ⟨wb,0,none⟩),k.val] w (.bool (az k || aK ⟨rev,aF,l⟩ k)):=by
 cases iB:az k with
 | true=>exact H6 (Z:=Z) hW hm jH (ny.aF iB) iB
 | false=>
  cases kF:aC l k with
  | none=>
   have e:aK ⟨rev,aF,l⟩ k=false:=by unfold aK;rw [show(dQ.mk rev aF l).ak=l from rfl,kF];rfl
   rw [e];exact H7 (Z:=Z) hW hm jH kF iB
  | some r=>
   have e:aK ⟨rev,aF,l⟩ k=decide (r.ax=rev):=by unfold aK;rw [show(dQ.mk rev aF l).ak=l from rfl,kF,bC kF];rfl
   rw [e];exact H8 hW hm jH QI kF iB
theorem Fx{r:Rec}(bJ:St w M Z w [As.map Key.val S.m ml,As.map Key.val S.q [],As.blk wb 121 (D.wc S.s rev ra rn rc),As.map Key.val D.m oT,As.oX 48 lf l]) (hf:(S.FV prog ab x0).p Z w) (pC:Rd RR.aF 4 Z w D.a1 D.n1 D.c1 x0.ae) (hm:bq ab x0.ae ml) (jH:jW l lf oT) (hR:aw ab) (hS:∀k,(valOf ab x0.ae k).size≤1000) (ny:KR ab l) (mB:(az k || aK ⟨rev,x0.ae,l⟩ k)=true):Calls prog 28 #[.pointer (some ⟨wb,0,none⟩),k.val] w fun e w'=>∃fj,e=.returned (.agg (rE (gx (valOf ab x0.ae) ⟨rev,x0.ae,l⟩ k)).toArray)∧bq ab x0.ae fj∧jk ml fj∧St w M Z w' [As.map Key.val S.m fj,As.map Key.val S.q [],As.blk wb 121 (D.wc S.s rev ra rn rc),As.map Key.val D.m oT,As.oX 48 lf l]:=by
 refine enter func28 rfl ntmps28 rfl<|?_;have bd:=bJ;have st1:=bd.fr pC;have st2:=st1.fact (B:=As.fz (S.FV prog ab x0)) hf (fun _ hx=>hx);refine(fo) st2 fun b3 w1 iR dL aW=>?_;refine(gu) aW fun b4 w2 jK bG ba=>?_;refine dE ?_;have AA:=ba.cY;refine WC.dS (m:=5) ba mixed<|(lI) jw St.g6<|(jj) aq St.g1<|(eh)<|?_;rintro w3 ⟨fx,bw⟩ _;refine WP .r (PV.look eI jy jX (As.gm bw.g7) rfl rfl)<|(bz) aq bw.b1<|?_;refine WL.c1 (u:=.bool true) (pE (aF:=x0.ae) (As.gb bw.g6) (As.gm bw.g7) jH (As.KX bw.g8) ny) (by rw [mB]) bw fun w4 s4 bj=>?_;refine dE ?_;refine WC.Ck rfl<|(dD) BJ bj fun w5 jY j7 bX=>?_;refine(mz) xn bX.b0<|?_;exact⟨ml,by rw [D5 mB];rfl,hm,jk.refl _,bX.drop.drop.drop.drop⟩
theorem Fy{r:Rec}(bJ:St w M Z w [As.map Key.val S.m ml,As.map Key.val S.q [],As.blk wb 121 (D.wc S.s rev ra rn rc),As.map Key.val D.m oT,As.oX 48 lf l]) (hf:(S.FV prog ab x0).p Z w) (pC:Rd RR.aF 4 Z w D.a1 D.n1 D.c1 x0.ae) (hm:bq ab x0.ae ml) (jH:jW l lf oT) (hR:aw ab) (hS:∀k,(valOf ab x0.ae k).size≤1000) (ny:KR ab l) (mB:(az k || aK ⟨rev,x0.ae,l⟩ k)=false) (kF:aC l k=none):Calls prog 28 #[.pointer (some ⟨wb,0,none⟩),k.val] w fun e w'=>∃fj,e=.returned (.agg (rE (gx (valOf ab x0.ae) ⟨rev,x0.ae,l⟩ k)).toArray)∧bq ab x0.ae fj∧jk ml fj∧St w M Z w' [As.map Key.val S.m fj,As.map Key.val S.q [],As.blk wb 121 (D.wc S.s rev ra rn rc),As.map Key.val D.m oT,As.oX 48 lf l]:=by
 refine enter func28 rfl ntmps28 rfl<|?_;have bd:=bJ;have st1:=bd.fr pC;have st2:=st1.fact (B:=As.fz (S.FV prog ab x0)) hf (fun _ hx=>hx);refine(fo) st2 fun b3 w1 iR dL aW=>?_;refine(gu) aW fun b4 w2 jK bG ba=>?_;refine dE ?_;have AA:=ba.cY;refine WC.dS (m:=5) ba mixed<|(lI) jw St.g6<|(jj) aq St.g1<|(eh)<|?_;rintro w3 ⟨fx,bw⟩ _;refine WP .r (PV.mM eI jy jX (As.gm bw.g7) (jH.no kF) rfl rfl)<|(bz) aq bw.b1<|?_;refine WL.c1 (u:=.bool false) (pE (aF:=x0.ae) (As.gb bw.g6) (As.gm bw.g7) jH (As.KX bw.g8) ny) (by rw [mB]) bw fun w4 s4 bj=>?_;refine dE ?_;refine WC.j0 rfl<|(aZ) (fun g19=>?_) fun g19=>?_
 ·
  refine cS ?_;refine WP .r (PV.bW (us:=[.int .i64 1,.int .i64 0,.string ⟨#[]⟩]) MA rfl rfl rfl)<|(dD) BJ bj fun w5 jY j7 bX=>?_;refine(mz) xn bX.b0<|?_;exact⟨ml,by rw [OT mB kF];rfl,hm,jk.refl _,bX.drop.drop.drop.drop⟩
 exact gW g19
theorem Fz(bJ:St w M Z w [As.map Key.val S.m ml,As.map Key.val S.q [],As.blk wb 121 (D.wc S.s rev ra rn rc),As.map Key.val D.m oT,As.oX 48 lf l]) (hf:(S.FV prog ab x0).p Z w) (pC:Rd RR.aF 4 Z w D.a1 D.n1 D.c1 x0.ae) (hm:bq ab x0.ae ml) (jH:jW l lf oT) (hR:aw ab) (hS:∀k,(valOf ab x0.ae k).size≤1000) (ny:KR ab l) (mB:(az k || aK ⟨rev,x0.ae,l⟩ k)=false) (kF:aC l k=some r) (hd:r.bU=true):Calls prog 28 #[.pointer (some ⟨wb,0,none⟩),k.val] w fun e w'=>∃fj,e=.returned (.agg (rE (gx (valOf ab x0.ae) ⟨rev,x0.ae,l⟩ k)).toArray)∧bq ab x0.ae fj∧jk ml fj∧St w M Z w' [As.map Key.val S.m fj,As.map Key.val S.q [],As.blk wb 121 (D.wc S.s rev ra rn rc),As.map Key.val D.m oT,As.oX 48 lf l]:=by
 refine enter func28 rfl ntmps28 rfl<|?_;have bd:=bJ;have st1:=bd.fr pC;have st2:=st1.fact (B:=As.fz (S.FV prog ab x0)) hf (fun _ hx=>hx);refine(fo) st2 fun b3 w1 iR dL aW=>?_;refine(gu) aW fun b4 w2 jK bG ba=>?_;refine dE ?_;have AA:=ba.cY;refine WC.dS (m:=5) ba mixed<|(lI) jw St.g6<|(jj) aq St.g1<|(eh)<|?_;rintro w3 ⟨fx,bw⟩ _;refine WP .r (PV.dJ eI jy jX (As.gm bw.g7) (jH.yes kF) rfl rfl)<|(bz) aq bw.b1<|?_;refine WL.c1 (u:=.bool false) (pE (aF:=x0.ae) (As.gb bw.g6) (As.gm bw.g7) jH (As.KX bw.g8) ny) (by rw [mB]) bw fun w4 s4 bj=>?_;refine dE ?_;refine WC.j0 rfl<|(aZ) (fun g19=>?_) fun g19=>?_
 ·
  exact gW g19
 refine(bL) ft (cW.range ((As.KX bj.g8).1 _ _ kF).1)<|(aZ) (fun g23=>?_) fun g23=>?_
 ·
  refine cS ?_;refine WP .r (PV.bW (us:=[.int .i64 3,.int .i64 0,.string ⟨#[]⟩]) MA rfl rfl rfl)<|(dD) BJ bj fun w5 jY j7 bX=>?_;refine(mz) xn bX.b0<|?_;exact⟨ml,by rw [C5 mB kF hd];rfl,hm,jk.refl _,bX.drop.drop.drop.drop⟩
 exact gW g23
set_option maxHeartbeats 1600000 in
theorem FB(bJ:St w M Z w [As.map Key.val S.m ml,As.map Key.val S.q [],As.blk wb 121 (D.wc S.s rev ra rn rc),As.map Key.val D.m oT,As.oX 48 lf l]) (hf:(S.FV prog ab x0).p Z w) (pC:Rd RR.aF 4 Z w D.a1 D.n1 D.c1 x0.ae) (hm:bq ab x0.ae ml) (jH:jW l lf oT) (hR:aw ab) (hS:∀k,(valOf ab x0.ae k).size≤1000) (ny:KR ab l) (mB:(az k || aK ⟨rev,x0.ae,l⟩ k)=false) (kF:aC l k=some r) (hd:r.bU=false) (h6:l.length≤4000) (Rf:∀r∈l,r.reads.length≤4000):Calls prog 28 #[.pointer (some ⟨wb,0,none⟩),k.val] w fun e w'=>∃fj,e=.returned (.agg (rE (gx (valOf ab x0.ae) ⟨rev,x0.ae,l⟩ k)).toArray)∧bq ab x0.ae fj∧jk ml fj∧St w M Z w' [As.map Key.val S.m fj,As.map Key.val S.q [],As.blk wb 121 (D.wc S.s rev ra rn rc),As.map Key.val D.m oT,As.oX 48 lf l]:=by
 have cZ:=R9 (rev:=rev) kF
 have Ns:(aB l rev k).length≤4001:=by have:=mS l rev k;omega
 have hcb:=Mj Rf Ns
 have vt:(bP l (aB l rev k)).length≤100000000:=by have:=hcb (aB l rev k).length;rw [List.take_of_length_le (Nat.le_refl _)] at this;exact this
 refine enter func28 rfl ntmps28 rfl<|?_;have bd:=bJ;have st1:=bd.fr pC;have st2:=st1.fact (B:=As.fz (S.FV prog ab x0)) hf (fun _ hx=>hx);refine(fo) st2 fun b3 w1 iR dL aW=>?_;refine(gu) aW fun b4 w2 jK bG ba=>?_;refine dE ?_;have AA:=ba.cY;refine WC.dS (m:=5) ba mixed<|(lI) jw St.g6<|(jj) aq St.g1<|(eh)<|?_;rintro w3 ⟨fx,bw⟩ _;refine WP .r (PV.dJ eI jy jX (As.gm bw.g7) (jH.yes kF) rfl rfl)<|(bz) aq bw.b1<|?_;refine WL.c1 (u:=.bool false) (pE (aF:=x0.ae) (As.gb bw.g6) (As.gm bw.g7) jH (As.KX bw.g8) ny) (by rw [mB]) bw fun w4 s4 bj=>?_;refine dE ?_;refine WC.j0 rfl<|(aZ) (fun g19=>?_) fun g19=>?_
 ·
  exact gW g19
 refine(bL) ft (cW.range ((As.KX bj.g8).1 _ _ kF).1)<|(aZ) (fun g23=>?_) fun g23=>?_
 ·
  exact gW g23
 refine(bz) aq bj.b1<|?_;have bX:=bj;refine(dj) aiT (Ci (k:=k) bX.e0 (As.gb bX.g6) (As.gm bX.g7) jH (As.KX bX.g8) ny.ah0 h6 Rf) ?_;rintro _ w5 ⟨u1,u2,u3,rfl,jF⟩;have bV:=St.lr bX jF;have cq:=bV;refine(dj) aiS (Bp cq.e0 (As.gb cq.g7) (As.gm cq.g8) jH (As.KX cq.g9) (Ow.rd (As.gs cq.g0) (by omega)) cZ hcb) ?_;rintro _ w6 ⟨o1,o2,o3,rfl,og⟩;have aL:=St.lr cq og;have hcn:=((As.gs aL.g0)).len;refine ek ?_;refine WC.ct (σ:=Nat × (List (Key × Value))) (eJ:=fun(q,fS)=>[(0,.pointer (some ⟨wb,0,none⟩)),(3,.pointer (some ⟨b3,0,none⟩)),(4,.pointer (some ⟨b4,0,none⟩)),(33,.slice o1 o2 o3),(34,.int .i64 (o2:Int)),(35,.int .i64 (q:Int))]) (F:=fun(q,fS)=>[As.map Key.val S.m fS]) (I:=fun(q,fS)=>(q≤o2)∧(bq ab x0.ae fS)∧(jk ml fS)∧(∀(j:Nat) (c:si),j<q→(bP l (aB l rev k))[j]?=some c→Ii (valOf ab x0.ae) ⟨rev,x0.ae,l⟩ c=false)∧True) (μ:=fun(q,fS)=>o2 - q) (0,ml) (aL.p6) Sub.t (⟨Nat.zero_le _,hm,jk.refl _,fun j c h=>by omega,trivial⟩)<|?_;rintro⟨q,fS⟩ w7 aO ⟨hq,kM,iS,gV,_⟩;simp only [CA,NA] at aO hq kM iS gV ⊢;refine(aZ) (fun gT=>?_) fun gT=>?_
 ·
  simp at gT
  have Qt:q<(bP l (aB l rev k)).length:=by omega
  obtain⟨c0,Nv⟩:∃c0,(bP l (aB l rev k))[q]?=some c0:=⟨_,ao Qt⟩;obtain⟨Bu,agd,_⟩:=eH.1 (List.mem_of_getElem? Nv);obtain⟨rm,hrm⟩:=cZ _ Bu;rw [bC hrm] at agd;have hkc:=(ny rm (aX hrm).1).2.2 _ agd;refine ek ?_;obtain⟨ik,aU⟩:=Ow.addr (As.gs aO.g1) Nv;refine nx ?_;refine WP .r (PV.fI La aU rfl rfl (by omega))<|(bz) Ec (Ow.qu (As.gs aO.g1) (by omega) aU Nv)<|(gu) aO fun b7 w8 vq oe aS=>?_;refine(dD) Ph aS fun w9 jY j7 bE=>?_;refine(bz) Ec bE.b0<|?_;have bs:=bE.oW.oW.oW.oW.p5;refine(dj) aiU (Fw (c:=c0) bs.e5 (As.gf bs.g10) (As.gr bs.g11) kM jH hR hS hkc ny hrm) ?_;rintro _ kB ⟨kN,rfl,Ny,yj,iq⟩;have aY:=St.lr bs iq;refine(aZ) (fun lW=>?_) fun lW=>?_
  ·
   refine kQ ?_
   refine fH (q+1,kN) ⟨aY.p5.drop.pK.pK.pK.pK.pK.pK.p6,⟨by omega,Ny,iS.trans yj,fun j c hj hc=>by
      rcases Nat.lt_or_ge j q with h1 | h1
      ·
       exact gV j c h1 hc
      have e:j=q:=by omega
      subst e;rw [Nv] at hc
      cases hc
      simpa using lW,trivial⟩⟩
  have Us:Ii (valOf ab x0.ae) ⟨rev,x0.ae,l⟩ c0=true:=by simpa using lW
  have hwc:=R8 (x:=⟨rev,x0.ae,l⟩) mB kF hd Nv gV Us;refine(j3) aq aY.b5<|(bz) aq (cW.range (As.gb aY.g9))<|?_;refine WP .r (PV.Kp gS (p:=c0.eR) (q:=k) rfl rfl)<|(aZ) (fun Ik=>?_) fun Ik=>?_
  ·
   simp at Ik
   rw [if_pos Ik] at hwc;refine(j3) aq aY.b5<|?_;refine WP .r (PV.bW (us:=[.int .i64 2,.int .i64 c0.read.kind,.string c0.read.text]) MA rfl rfl rfl)<|(dD) BJ aY.p8 fun kC sC nt aQ=>?_;refine(mz) xn aQ.b0<|?_;exact⟨kN,by rw [hwc];rfl,Ny,iS.trans yj,aQ.drop.p5.drop.p5.drop.p5.drop.p5.drop.p5.drop.p5.drop⟩
  simp at Ik
  rw [if_neg Ik] at hwc;refine(j3) aq aY.b5<|?_;refine WP .r (PV.bW (us:=[.int .i64 3,.int .i64 c0.read.kind,.string c0.read.text]) MA rfl rfl rfl)<|(dD) BJ aY.p8 fun kC BO ry aQ=>?_;refine(mz) xn aQ.b0<|?_;exact⟨kN,by rw [hwc];rfl,Ny,iS.trans yj,aQ.drop.p5.drop.p5.drop.p5.drop.p5.drop.p5.drop.p5.drop⟩
 simp at gT
 have hns:=GS (val:=(valOf ab x0.ae)) (x:=⟨rev,x0.ae,l⟩) mB kF hd (fun j c hj hc=>gV j c (by have h1:j<(bP l (aB l rev k)).length:=hj;omega) hc);refine(dD) BJ aO.p3 fun w8 Q5 vJ aS=>?_;refine(mz) xn aS.b0<|?_;exact⟨fS,by rw [hns];rfl,kM,iS,aS.drop.p1.drop.p1.drop.p1.drop.p1.drop.p1.drop⟩
theorem qY(bJ:St w M Z w [As.map Key.val S.m ml,As.map Key.val S.q [],As.blk wb 121 (D.wc S.s rev ra rn rc),As.map Key.val D.m oT,As.oX 48 lf l]) (hf:(S.FV prog ab x0).p Z w) (pC:Rd RR.aF 4 Z w D.a1 D.n1 D.c1 x0.ae) (hm:bq ab x0.ae ml) (jH:jW l lf oT) (hR:aw ab) (hS:∀k,(valOf ab x0.ae k).size≤1000) (ny:KR ab l) (h6:l.length≤4000) (Rf:∀r∈l,r.reads.length≤4000):Calls prog 28 #[.pointer (some ⟨wb,0,none⟩),k.val] w fun e w'=>∃fj,e=.returned (.agg (rE (gx (valOf ab x0.ae) ⟨rev,x0.ae,l⟩ k)).toArray)∧bq ab x0.ae fj∧jk ml fj∧St w M Z w' [As.map Key.val S.m fj,As.map Key.val S.q [],As.blk wb 121 (D.wc S.s rev ra rn rc),As.map Key.val D.m oT,As.oX 48 lf l]:=by
 cases mB:(az k || aK ⟨rev,x0.ae,l⟩ k) with
 | true=>exact Fx (r:=sf) bJ hf pC hm jH hR hS ny mB
 | false=>
  cases kF:aC l k with
  | none=>exact Fy (r:=sf) bJ hf pC hm jH hR hS ny mB kF
  | some r=>
   cases hd:r.bU with
   | true=>exact Fz bJ hf pC hm jH hR hS ny mB kF hd
   | false=>exact FB bJ hf pC hm jH hR hS ny mB kF hd h6 Rf
set_option maxHeartbeats 1600000 in
theorem E4{ar:Option Addr}{r cr:Nat}(bJ:St w M Z w []) (ht:nQ prog Z w) (hu:Rd RR.gQ 4 Z w ar r cr ab) (pC:Rd RR.aF 4 Z w a1 n1 e1 x.ae) (hr:Rd RR.fV 8 Z w a2 n2 e2 x.ak) (h6:x.ak.length≤4000) (h7:x.ae.length≤4000) (hS:vK x.ak):Calls prog 55 #[.slice ar r cr,.agg (x.row a1 n1 e1 a2 n2 e2).toArray] w fun e w'=>∃(D:WD) (S:SD) (wb:Nat) (lf:Key→RL) (ml:List (Key × Value)) (Z':Nat→Prop),e=.returned (.pointer (some ⟨wb,0,none⟩))∧jW x.ak lf ml∧cN w.heap.size Z Z'∧(S.FV prog ab x).p Z' w'∧Rd RR.aF 4 Z' w' D.a1 D.n1 D.c1 x.ae∧Rd RR.gQ 4 Z' w' D.ar D.r D.cr ab∧St w M Z' w' [As.map Key.val S.m [],As.map Key.val S.q [],As.blk wb 121 (D.wc S.s x.ad none 0 0),As.map Key.val D.m ml,As.oX 48 lf x.ak]:=by
 refine enter func55 rfl ntmps55 rfl<|?_;have bd:=bJ;have st1:=bd.fr hu;have st2:=st1.fr pC;have aW:=st2.fr hr;have ba:=aW.fact (B:=As.fz (FZ.Kx prog)) ht (fun _ hx=>hx);refine(fo) ba fun b3 w1 iR dL bw=>?_;refine dW ?_;refine WC.dp (m:=7) [] [2,6] [1,2,4,5,6,0,3] [(3,.map)] bw (av.k4 M0 M1 M2 M3<|av.cons M4<|av.nil) mixed (by kernel_rfl) (by kernel_rfl) rfl<|(pd) aP SV.g0<|(iN) (fun w2 Tx EN bj uZ=>?_);simp only [CA,NA] at bj;have bX:=bj;refine OX.call ajd rfl rfl ((AW (x:=x) bX.e0 (As.gr bX.g3) (As.gr bX.g2) (by omega) (by omega)).mono ?_);rintro _ w3 ⟨f1,f2,f3,f4,f5,f6,Z1,rfl,gq,eN⟩;have bV:=St.lv bX eN gq;have F7:=St.cH eN.p1;have J3:=St.cH eN;have fx:=bX.size;have oO:=gq.le fx;have Mf:f5=x.ak.length:=((As.gs bV.g1)).len;have auf:f2=x.ae.length:=((As.gs bV.g0)).len;have cq:=bV.p1.bN (by omega);have aL:=cq.p1.bN (by omega);have lA:=(oO.trans (cN.fh (F:=fun x=>x∈aI f4) F7) fx).trans (cN.fh (F:=fun x=>x∈aI f1) J3) fx;refine⟨_,rfl,eN.cT.size,_,rfl,_,_,_,aL,ay.k4<|ay.k2<|ay.cons<|ay.nil,av.k4 M2 M3 M4 M5<|av.cons M6<|av.nil,?_⟩;refine(pd) aP SV.g0<|(iN) (fun w4 R6x Na aO vd=>?_);simp only [CA,NA] at aO;have aS:=aO;refine OX.call aje rfl rfl ((HE (x:=x) aS.e0).mono ?_);rintro _ w5 ⟨d1,d2,d3,rfl,jF⟩;have bE:=St.lr aS jF;have hgv:=St.cH jF;have am5:=aS.size;have bs:=bE;have aY:=bs.freeze (B:=As.fz (SD.FV (⟨ar,a1,a2,r,cr,n1,e1,n2,e2,d2,d3,d1⟩:SD) prog ab x)) ⟨(SD.F (⟨ar,a1,a2,r,cr,n1,e1,n2,e2,d2,d3,d1⟩:SD) prog ab x).mono (fun _ h=>.inl h) ⟨(As.gr bs.g9),(As.gr bs.g8),(As.gr bs.g7),(As.gf bs.g6)⟩,.inr rfl,((As.gb bs.g0)).lt,cW.range (As.gb bs.g0)⟩ (fun _ hx=>hx);have sF:=lA.trans (cN.fh (F:=fun x=>x=d1) hgv) am5;refine⟨_,rfl,jF.cT.size,_,rfl,_,_,_,aY,ay.k4<|ay.k4<|ay.k2<|ay.nil,av.k4 M5 M6 M7 M8<|av.cons M9<|av.nil,?_⟩;refine DG.a<|?_;refine DG.side (s:=.map) rfl rfl rfl rfl rfl rfl (fun wx Zx Rx Bx fJ=>OX.makeMap Key.val rfl fun b wy nw hb=>⟨nw.ext.size,_,rfl,⟨b,rfl⟩,fJ.RA nw hb⟩)<|?_;rintro _ ⟨xQ,rfl⟩;refine(nU) ?_;intro w6 fx aQ;simp only [CM,NM,CA,NA,kY.it] at aQ;refine WP .r (PV.bW (us:=(WD.wc ⟨ar,f1,f4,r,cr,f2,f3,f5,f6,xQ,d1⟩ d1 x.ad none 0 0)) acq rfl rfl rfl)<|(fo) aQ fun xR w7 Tn YJ bF=>?_;refine nx ?_;refine WL.nil (EX.np ?_);refine kQ ?_;refine WP .r (PV.ld1 (j:=3) eW bF.b0 rfl rfl)<|ek ?_;have lf0:Key→RL:=fun _=>⟨0,none,0,0⟩;have bK:=St.ahU bF 48 lf0;refine WC.ct (σ:=Nat × (Key→RL) × (List (Key × Value))) (eJ:=fun(i,lf,ml)=>[(5,.pointer (some ⟨xR,0,none⟩)),(21,.slice f4 f5 f6),(22,.int .i64 (f5:Int)),(23,.int .i64 (i:Int))]) (F:=fun(i,lf,ml)=>[As.map Key.val xQ ml,As.oX 48 lf (x.ak.take i)]) (I:=fun(i,lf,ml)=>(i≤x.ak.length)∧(jW (x.ak.take i) lf ml)∧True) (μ:=fun(i,lf,ml)=>x.ak.length - i) (0,lf0,[]) (bK.p2) Sub.t (⟨Nat.zero_le _,jW.nil _,trivial⟩)<|?_;rintro⟨i,lf,ml⟩ w8 br ⟨hi,EB,_⟩;simp only [CA,NA] at br hi EB ⊢;refine(aZ) (fun g24=>?_) fun g24=>?_
 ·
  simp at g24
  have cV:i<x.ak.length:=by omega
  have hfx:∀y,aC (x.ak.take (i+1)) y=if y=x.ak[i].key then some x.ak[i] else aC (x.ak.take i) y:=fun y=>by rw [List.take_succ_eq_append_getElem cV];exact Jd (hS.ne cV) y
  refine ek ?_;obtain⟨ik,kf,jE,aU,fX,bD,cP,dM⟩:=Rd.at (As.gr br.g7) cV;obtain⟨q1,q2,q3,rfl,rJ,qP⟩:=bD;have bT:=br.fg dM cP;have cz:=bT.fr rJ;refine nx ?_;refine WP .r (PV.fI ky aU rfl rfl (by omega))<|(bz) ey (As.nR cz.g1)<|(gu) cz fun b7 w9 vq oe cv=>?_;refine(dD) iH cv fun kB jY j7 cR=>?_;refine cS ?_;have hN5:=cR.cY;refine WC.dS (m:=6) cR mixed<|(lI) jw St.g5<|(Cy) aq St.g0<|(eh)<|?_;rintro kC ⟨EW,bY⟩ _;refine WL.go rfl (OX.put eI jy (As.gm bY.g3) rfl rfl rfl fun qb PR JR=>?_);have cM:=bY.p3.nv PR JR;refine dE ?_;have dR:=cM.p4.p2;have dz:=St.Wx (q:=⟨b7,q1,q2,q3⟩) dR (As.gr dR.g3) qP hfx;refine dW ?_;refine fH (i+1,_,_) ⟨dz.p2.drop.p2.drop.p1,⟨by omega,EB.put (q:=⟨b7,q1,q2,q3⟩) hfx,trivial⟩⟩
 simp at g24
 have hie:x.ak.take i=x.ak:=List.take_of_length_le (by omega);rw [hie] at EB;have bT:=br.p1.FK (B:=As.oX 48 lf x.ak) (by rw [hie]);refine(cA) ?_;exact⟨⟨ar,f1,f4,r,cr,f2,f3,f5,f6,xQ,d1⟩,(⟨ar,a1,a2,r,cr,n1,e1,n2,e2,d2,d3,d1⟩:SD),xR,lf,ml,_,rfl,EB,sF,(As.gf bT.g3),(As.gr bT.g6),(As.gr bT.g12),bT.p3.drop.p5.drop.p5.drop.p5.drop.p5.drop.p5.drop.p5.drop.p5.drop.p1.p2.p4.p4⟩
end Go.Rc

