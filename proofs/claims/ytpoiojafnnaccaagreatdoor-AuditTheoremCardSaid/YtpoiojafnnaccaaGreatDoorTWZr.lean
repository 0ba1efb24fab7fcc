/- Walks over the program, part WZr. Conditions: as each theorem says. -/
import Derived.Test.YtpoiojafnnaccaaGreatDoorTFacts
import Derived.Test.YtpoiojafnnaccaaGreatDoorTWZl
import Derived.Test.YtpoiojafnnaccaaGreatDoorTWZb
import Derived.Test.YtpoiojafnnaccaaGreatDoorTBh
set_option linter.all false
namespace Go.Rc
open Go Go.Proofs Go.Proofs.Tryz
variable {r:Rec}{rev:Int}{w:World}{D:WD}{v rn rc wb pb n1 e1 n2 e2:Nat}{ra a1 a2:Option Addr}{k:Key}{ml mO:List (Key × Value)}{Z M:Nat→Prop}{l:List Rec}{lf:Key→RL}{x x0:dT}{ab:List aJ}{S:SD}
set_option maxHeartbeats 400000
theorem Gz{a:Option Addr}{n c:Nat}(hk:gY r.key):CR prog 146 #[.agg (r.row a n c).toArray,.int .i64 rev] w (.bool (aC r.key && (decide (r.az<rev) && !r.ct))):=by
 refine enter func146 rfl ntmps146 rfl<|?_;have aW:=St.s0 w;refine(ef) aW fun b2 w1 lA eZ st1=>?_;refine dC ?_;refine WC.mC (t:=4) (v:=.bool (aC r.key && (decide (r.az<rev) && !r.ct))) st1 ?_<|?_
 ·
  refine(kF) av st1.b0<|?_;refine WL.c1 (u:=.bool (aC r.key)) (l4 (k:=r.key) hk) (by rw [acY hk]) st1 fun w2 s2 st2=>?_;refine(dW) (fun g8=>?_) (fun g8=>?_)
  ·
   refine(bO) aZ st2.b0<|(dW) (fun g14=>?_) (fun g14=>?_)
   ·
    refine(bO) fH st2.b0<|?_;exact(iu) (tG (aj g8 g14)) (st2)
   exact(iu) (tG (aj g8 g14)) (st2)
  exact(iu) (tG g8) (st2)
 intro w2 st2;refine(cj) ?_;exact⟨rfl,(St.cg st2)⟩
theorem GA(hB:cI w pb 108 [.pointer (some ⟨wb,0,none⟩)]) (hW:cI w wb 154 (D.wc v rev ra rn rc)) (hm:KM Key.val w D.m ml) (hg:(cq ml k).getD (.pointer none)=.pointer none):CR prog 145 #[k.val,.pointer (some ⟨pb,0,none⟩)] w (.tuple #[.slice none 0 0,.bool false]):=by
 refine enter func145 rfl ntmps145 rfl<|?_;have aW:=St.s0 w;refine(ef) aW fun b2 w1 lA eZ st1=>?_;refine jx ?_;have zo:=st1.dc;refine WC.dS (m:=5) st1 mixed<|?_;refine DP .r (fun _ hC=>PV.pT FE (cI.range (hB.ext (St.cg hC.2))) rfl rfl)<|cV ?_;refine DP .r (fun _ hC=>V1 iQ (cI.range (hW.ext (St.cg hC.2))) .r)<|(ju) av St.g0<|(eu)<|?_;rintro w2 ⟨fh,st2⟩ _;refine WP .r (PV.mJ eD iR jB (hm.ext (St.cg st2)) (hg) rfl rfl)<|dC ?_;have QX:=st2.dc;refine WC.dS (m:=11) st2 mixed<|dy ?_;refine DW.gi (t:=14) rfl (fun g14=>?_) (fun g14=>?_)
 ·
  exact gw g14
 refine(eu) ?_;rintro w3 ⟨pK,aP⟩ _;refine dC ?_;refine WC.gT rfl<|(CH) ?_;exact⟨rfl,(St.cg aP)⟩
theorem GB{q:RL}(hB:cI w pb 108 [.pointer (some ⟨wb,0,none⟩)]) (hW:cI w wb 154 (D.wc v rev ra rn rc)) (hm:KM Key.val w D.m ml) (hg:cq ml k=some (.pointer (some ⟨q.b,0,none⟩))) (hR:cI w q.b 60 (r.row q.a q.n q.c)) (hk:gY r.key):Calls prog 145 #[k.val,.pointer (some ⟨pb,0,none⟩)] w fun e w'=>∃(a:Option Addr) (n c:Nat),e=.returned (.tuple #[.slice a n c,.bool (aC r.key && (decide (r.az<rev) && !r.ct))])∧((aC r.key && (decide (r.az<rev) && !r.ct))=true→a=q.a∧n=q.n∧c=q.c)∧bm [] w w':=by
 refine enter func145 rfl ntmps145 rfl<|?_;have aW:=St.s0 w;refine(ef) aW fun b2 w1 lA eZ st1=>?_;refine jx ?_;have zo:=st1.dc;refine WC.dS (m:=5) st1 mixed<|?_;refine DP .r (fun _ hC=>PV.pT FE (cI.range (hB.ext (St.cg hC.2))) rfl rfl)<|cV ?_;refine DP .r (fun _ hC=>V1 iQ (cI.range (hW.ext (St.cg hC.2))) .r)<|(ju) av St.g0<|(eu)<|?_;rintro w2 ⟨fh,st2⟩ _;refine WP .r (PV.dG eD iR jB (hm.ext (St.cg st2)) (hg) rfl rfl)<|dC ?_;have QX:=st2.dc;refine WC.dS (m:=11) st2 mixed<|dy ?_;refine DW.gi (t:=14) rfl (fun g14=>?_) (fun g14=>?_)
 ·
  refine cV ?_;refine DP .r (fun _ hC=>VA dn (cI.range (hR.ext (St.cg hC.2))) .r)<|DP .r (fun _ hC=>PV.pT FE (cI.range (hB.ext (St.cg hC.2))) rfl rfl)<|dy ?_;refine DP .r (fun _ hC=>PV.ld1 (j:=1) aZ (cI.range (hW.ext (St.cg hC.2))) rfl rfl)<|(eu)<|?_;rintro w3 ⟨pK,aP⟩ _;refine(gg) (Gz (r:=r) hk) aP fun w4 s4 aU=>?_;refine(br) (fun g24=>?_) fun g24=>?_
  ·
   have hoo:(aC r.key && (decide (r.az<rev) && !r.ct))=true:=by first | exact g24 | simpa using g24
   refine(bO) fA (cI.range (hR.ext (St.cg aU)))<|(CH) ?_;exact⟨q.a,q.n,q.c,by rw [hoo],fun _=>⟨rfl,rfl,rfl⟩,(St.cg aU)⟩
  have hoo:(aC r.key && (decide (r.az<rev) && !r.ct))=false:=by first | exact g24 | simpa using g24
  refine(CH) ?_;exact⟨none,0,0,by rw [hoo],(fun h=>by rw [hoo] at h;cases h),(St.cg aU)⟩
 exact gw g14
theorem LH(hB:cI w pb 108 [.pointer (some ⟨wb,0,none⟩)]) (hW:cI w wb 154 (D.wc v rev ra rn rc)) (hm:KM Key.val w D.m ml) (jV:kH l lf ml) (MQ:(As.qn 60 lf l).ok Z w) (l8:∀r∈l,gY r.key) (k:Key):Calls prog 145 #[k.val,.pointer (some ⟨pb,0,none⟩)] w fun e w'=>∃(a:Option Addr) (n c:Nat),e=.returned (.tuple #[.slice a n c,.bool (cY l rev k)])∧(cY l rev k=true→Rd RR.key 2 Z w' a n c (aG l k).reads)∧bm [] w w':=by
 cases hf:aD l k with
 | none=>
  refine(GA hB hW hm (jV.no hf)).mono<|?_;rintro e w' ⟨rfl,hc⟩
  have ho:cY l rev k=false:=by unfold cY;rw [hf];rfl
  exact⟨none,0,0,by rw [ho],(fun h=>by rw [ho] at h;cases h),hc⟩
 | some r=>
  obtain⟨hR,oR,_⟩:=MQ.1 k r hf;obtain⟨hr,hk⟩:=bq hf;refine(GB (k:=k) hB hW hm (jV.yes hf) hR (l8 r hr)).mono<|?_;rintro e w' ⟨a,n,c,rfl,ha,hc⟩
  have ho:cY l rev k=(aC r.key && (decide (r.az<rev) && !r.ct)):=by
   unfold cY
   rw [bY hf,hf,← hk]
   rfl
  refine⟨a,n,c,by rw [ho],fun h=>?_,hc⟩;rw [ho] at h;obtain⟨rfl,rfl,rfl⟩:=ha h;rw [bY hf];exact oR.ext hc
set_option maxHeartbeats 1600000 in
theorem GC{f:FuncId}{cap:Value}(bF:St w M Z w []) (zG:CF prog f) (hop:∀w1,bm [] w w1→∀y:Key,Calls prog f #[y.val,cap] w1 fun e w'=>∃(a:Option Addr) (n c:Nat),e=.returned (.tuple #[.slice a n c,.bool (cY l rev y)])∧(cY l rev y=true→Rd RR.key 2 Z w' a n c (aG l y).reads)∧bm [] w1 w') (h6:l.length≤4000) (UO:∀r∈l,r.reads.length≤4000):Calls prog 144 #[k.val,.func (.func f) #[] #[cap]] w fun e w'=>∃(a:Option Addr) (n c:Nat),e=.returned (.slice a n c)∧St w M Z w' [As.os RR.key 58 2 a n c (aF l rev k)]:=by
 refine enter func144 rfl ntmps144 rfl<|?_;have aW:=St.rb bF;refine(ef) aW fun b2 w1 lA eZ st1=>?_;refine(bA) av st1.b0<|?_;refine WL.go rfl (OX.qM zG rfl rfl rfl ((Calls.cap (hop _ (St.cg st1) k)).mono ?_));rintro _ w2 ⟨f1,f2,f3,rfl,_,s2⟩;refine⟨_,rfl,?_⟩;have st2:=st1.step s2;refine bC ?_;refine(br) (fun n0=>?_) fun n0=>?_
 ·
  have ho:cY l rev k=false:=by simpa using n0
  have hv:aF l rev k=[k]:=by unfold aF;rw [if_neg (by rw [ho];simp)]
  refine(bA) av st2.b0<|?_;refine WL.go rfl (OX.bB (us:=k.cells) fS rfl rfl rfl rfl fun b31 w3 ag6 anT=>?_);have aP:=St.xf (R:=RR.key) (E:=58) (k:=2) (a:=some ⟨b31,0,none⟩) (n:=1) (c:=1) (xs:=[k]) st2 ag6.ext (OR.eP anT (Nat.zero_le _) rfl (by simp [Key.cells,Value.oneCell']) rfl) (fun x hx=>by simp [aO] at hx;subst hx;exact ag6.ge);refine(cj) ?_;exact⟨_,_,_,rfl,by rw [hv];exact(St.wk aP.p1.drop)⟩
 have ho:cY l rev k=true:=by simpa using n0
 refine dC ?_;refine WL.mm Key.val st2 fun Wt w3 au8 au9 aP=>?_;refine ew ?_;refine WL.mm Key.val aP fun Wl w4 aak ava aU=>?_;refine(bA) av aU.b2<|?_;refine WL.go rfl (OX.ins eD kB (As.gm aU.g0) rfl rfl rfl fun w5 QY Li=>?_);have aY:=aU.mS QY Li;refine dy ?_;have bj:=aY.CE (B:=As.map Key.val Wl (pB [k])) (rfl);refine(bA) av bj.b2<|?_;refine WL.go rfl (OX.bB (us:=k.cells) fS rfl rfl rfl rfl fun b37 w6 anU anV=>?_);have bP:=bj.fb anU anV;refine cV ?_;have bQ:=bP;have bV:=bQ.conv (B:=As.os RR.key 58 2 (some ⟨b37,0,none⟩) 1 1 [k]) (OR.eP (As.gb bQ.g0) (Nat.zero_le _) rfl (by simp [Key.cells,Value.oneCell']) rfl) (fun x h=>by show x=b37;change x∈aO (some ⟨b37,0,none⟩) at h;simpa [aO] using h);refine kE ?_;have aL:=bV.acI;refine WC.bU (σ:=Nat × (List Key) × (List (Key × Value)) × (List RE) × (Option Addr) × Nat × Nat) (eI:=fun(i,L,mlb,Lb,sL,rA,sM)=>[(1,.func (.func f) #[] #[cap]),(2,.pointer (some ⟨b2,0,none⟩)),(7,.map (some Wt)),(8,.map (some Wl)),(9,.slice sL rA sM),(10,.int .i64 (i:Int))]) (F:=fun(i,L,mlb,Lb,sL,rA,sM)=>[As.os RR.key 58 2 sL rA sM (L),As.map Key.val Wl (pB L),As.map Key.val Wt mlb,As.many (Lb.map (RE.as 58))]) (I:=fun(i,L,mlb,Lb,sL,rA,sM)=>(i≤L.length)∧(zj l rev k (kV Lb) L i 0)∧(zh Lb mlb)∧((Lb.map (·.key)).Nodup)∧True) (μ:=fun(i,L,mlb,Lb,sL,rA,sM)=>4001 - i) (0,[k],[],[],(some ⟨b37,0,none⟩),1,1) (aL.p3.p3.p3) Sub.t (⟨Nat.zero_le _,zj.start fun _=>rfl,zh.nil,by simp,trivial⟩)<|?_;rintro⟨i,L,mlb,Lb,sL,rA,sM⟩ w7 aQ ⟨zI,hF,jV,rB,_⟩;simp only [CA,NA] at aQ zI hF jV rB ⊢;have hln:=((As.gs aQ.g0)).len;have hle:=hF.le ho;refine(br) (fun BC=>?_) fun BC=>?_
 ·
  simp at BC
  have cX:i<L.length:=by omega
  have hoi:=hF.op ho (List.getElem_mem cX);obtain⟨ri,lP,_⟩:=cN.1 hoi;have hrq:aG l L[i]=ri:=bY lP;have avb:=UO ri (bq lP).1;refine ew ?_;obtain⟨gF,aT⟩:=Ow.addr (As.gs aQ.g0) (aq cX);refine dC ?_;refine WP .r (PV.fC fP aT rfl rfl (by omega))<|(bA) av (Ow.rS (As.gs aQ.g0) (by omega) aT (aq cX))<|?_;refine WL.go rfl (OX.qM zG rfl rfl rfl ((Calls.cap (hop _ (St.cg aQ) L[i])).mono ?_));rintro _ w8 ⟨f4,f5,f6,rfl,hq4,s8⟩;refine⟨_,rfl,?_⟩;have aV:=aQ.step s8;have hq5:=hq4 hoi;rw [hrq] at hq5;have bD:=aV.fr (hq5);have hqn:=((As.gr bD.g0)).len;refine bC ?_;refine dy ?_;refine WC.bU (σ:=Nat × (List Key) × (List (Key × Value)) × (List RE) × (Option Addr) × Nat × Nat) (eI:=fun(q,L2,Js,LI,sL,rA,sM)=>[(1,.func (.func f) #[] #[cap]),(2,.pointer (some ⟨b2,0,none⟩)),(7,.map (some Wt)),(8,.map (some Wl)),(9,.slice sL rA sM),(10,.int .i64 (i:Int)),(53,.slice f4 f5 f6),(54,.int .i64 (f5:Int)),(55,.int .i64 (q:Int))]) (F:=fun(q,L2,Js,LI,sL,rA,sM)=>[As.os RR.key 58 2 sL rA sM (L2),As.map Key.val Wl (pB L2),As.map Key.val Wt Js,As.many (LI.map (RE.as 58))]) (I:=fun(q,L2,Js,LI,sL,rA,sM)=>(q≤f5)∧(zj l rev k (kV LI) L2 i q)∧(zh LI Js)∧((LI.map (·.key)).Nodup)∧(L2[i]?=some L[i])∧True) (μ:=fun(q,L2,Js,LI,sL,rA,sM)=>f5 - q) (0,L,mlb,Lb,sL,rA,sM) (bD.p4.p4.p4.p4) Sub.t (⟨Nat.zero_le _,hF,jV,rB,aq cX,trivial⟩)<|?_;rintro⟨q,L2,Js,LI,sL,rA,sM⟩ w9 bp ⟨hq,hF2,Fg,py,tF,_⟩;simp only [CA,NA] at bp hq hF2 Fg py tF ⊢;have avc:=((As.gs bp.g0)).len;have fT:=hF2.le ho;have yF:i<L2.length:=(List.getElem?_eq_some_iff.1 tF).1;refine(br) (fun JM=>?_) fun JM=>?_
  ·
   simp at JM
   have lF:q<ri.reads.length:=by omega
   obtain⟨x,MK⟩:∃x,ri.reads[q]=x:=⟨_,rfl⟩
   have hj0:(aG l L[i]).reads[q]?=some x:=by rw [hrq,aq lF,MK]
   refine ew ?_;obtain⟨vV,Ix,FU,fO,vW,gN,j4,pJ⟩:=Rd.at (As.gr bp.g4) lF;have gN:=RR.cL gN;subst gN;have ba:=bp.fg pJ j4;rw [MK] at j4 ba;refine nx ?_;refine WP .r (PV.fC fP fO rfl rfl (by omega))<|(bA) av (As.om ba.g0)<|(fU) ba fun CB kN aft UK aX=>?_;refine(dA) jT aX fun kO sr nc bN=>?_;refine(bA) av bN.b0<|?_;refine WL.go rfl (OX.qM zG rfl rfl rfl ((Calls.cap (hop _ (St.cg bN) x)).mono ?_));rintro _ qW ⟨f7,f8,f9,rfl,_,s12⟩;refine⟨_,rfl,?_⟩;have bR:=bN.step s12;refine bC ?_;refine(br) (fun g66=>?_) fun g66=>?_
   ·
    have hox:cY l rev x=false:=by simpa using g66
    refine kE ?_;refine fx (q+1,L2,Js,LI,sL,rA,sM) ⟨bR.drop.drop,⟨by omega,hF2.skip tF hj0 hox,Fg,py,tF,trivial⟩⟩
   have hox:cY l rev x=true:=by simpa using g66
   refine dy ?_;obtain⟨Q3,mN⟩:=Ow.addr (As.gs bR.g2) tF;have bE:=bR.p5;obtain⟨ea,en,ec,dP,anW⟩:=St.ac2 (EK:=58) py Fg x bE;have bZ:=anW;have hen:=((As.gs bZ.g0)).len;have Xj:=hF2.len x;refine WC.df (m:=11) [] [7,9] [0,1,2,3,4,5,6,7,8,9,10] [(6,.sl 58 1 L[i].cells)] bZ (ax.k4 M1 M2 M3 M4<|ax.cons M5<|ax.cons M7<|ax.cons M8<|ax.nil) mixed (by kernel_rfl) (by kernel_rfl) rfl<|(nj) av SV.g1<|?_
   iterate 2 refine DG.a ?_
   refine DQ .r (fun wx Zx Rx _ fV l5=>PV.fC fP mN rfl rfl (by omega))<|DQ .r (fun wx Zx Rx _ fV l5=>VA av (Ow.rS (As.gs (fV.sv l5).g3) (by omega) mN tF) .r)<|?_;refine DG.side (s:=.sl 58 1 L[i].cells) rfl rfl rfl rfl rfl rfl (fun wx Zx Rx Cc fV=>OX.bB (us:=L[i].cells) fS rfl rfl rfl rfl fun b wy nw hb=>⟨nw.ext.size,_,rfl,⟨b,rfl⟩,fV.fb nw hb⟩)<|?_;rintro _ ⟨b74,rfl⟩;refine(jg) (fun uX R7x afW cG Rn=>?_);simp only [CA,NA] at cG;refine OX.mapEntry eD Qt VH (As.gm cG.g6) (dP) rfl rfl rfl fun z75 zN s75 ag7=>?_;have cF:=cG.p6.ac0 s75 ag7;refine⟨s75.size,_,rfl,_,_,_,cF,aA.k4<|aA.k4<|aA.cons<|aA.nil,ax.k4 M2 M3 M4 M5<|ax.cons M6<|ax.cons M7<|ax.cons M8<|ax.nil,?_⟩;refine(jg) (fun uY R9x Oq cP yT=>?_);simp only [CA,NA] at cP;refine OX.oM tn rfl rfl rfl (As.gs cP.g1) (SR.eP (A:=fun _=>True) (x:=L[i]) (show cI _ b74 _ _ from cP.ok _ (.tail _ (.tail _ (.tail _ (.tail _ (.tail _ (.tail _ (.tail _ (.tail _ (.tail _ (yT _ (.head _)))))))))))) trivial rfl (by simp [Key.cells,Value.oneCell']) rfl) (by omega) (by omega) (Nat.zero_le _) fun a76 Ol zw ZS s76 ZT alQ=>?_;have cv:=cP.p1.iY s76 ZS ZT;refine⟨s76.size,_,rfl,_,_,_,cv,aA.k4<|aA.k4<|aA.cons<|aA.nil,ax.k4 M2 M3 M4 M5<|ax.cons M6<|ax.cons M7<|ax.cons M8<|ax.nil,?_⟩;refine(nk) ?_;intro C9 Rg cK;simp only [CM,NM,CA,NA,kL.it] at cK;refine WL.go rfl (OX.entryStore (As.gmb cK.g2) rfl rfl rfl fun CN F1 F2=>?_);have ey:=cK.p2.ac1 F1 F2;refine WL.nil (EX.np ?_);have dz:=ey.p3.p3;have eC:=St.aju dz;obtain⟨Lb3,hL3⟩:∃Lb3:List RE,Lb3=⟨x,a76,(en+1),Ol,kV LI x++[L[i]]⟩::rest LI x:=⟨_,rfl⟩;have dh:=eC.CE (B:=As.many (Lb3.map (RE.as 58))) (by rw [hL3]);have aa5:=Fg.put (x:=x) (v:=.slice ea en ec) (a:=a76) (n:=en+1) (c:=Ol) (kV LI x++[L[i]]);have Uw:=KA (x:=x) (a:=a76) (n:=en+1) (c:=Ol) py (kV LI x++[L[i]])
   have ag8:kV Lb3=vE (kV LI) x L[i]:=by rw [hL3];exact Ti
   rw [← hL3] at aa5 Uw;refine(bA) av dh.b3<|?_;refine WP .r (PV.mJ eD kB FJ (As.gm dh.g6) (HU L2 x) rfl rfl)<|(br) (fun g81=>?_) fun g81=>?_
   ·
    have UX:x∉L2:=by simpa using g81
    refine WC.df (m:=6) [] [5] [2,3,4,5,0,1] [(4,.sl 58 1 x.cells)] dh (ax.k4 M0 M1 M2 M3<|ax.k4 M4 M6 M7 M8<|ax.nil) mixed (by kernel_rfl) (by kernel_rfl) rfl<|(nj) av SV.g3<|?_;refine DG.side (s:=.sl 58 1 x.cells) rfl rfl rfl rfl rfl rfl (fun wx Zx Rx Cc fV=>OX.bB (us:=x.cells) fS rfl rfl rfl rfl fun b wy nw hb=>⟨nw.ext.size,_,rfl,⟨b,rfl⟩,fV.fb nw hb⟩)<|?_;rintro _ ⟨b86,rfl⟩;refine(jg) (fun IF UF Gb dV sC=>?_);simp only [CA,NA] at dV;refine OX.oM tn rfl rfl rfl (As.gs dV.g5) (SR.eP (A:=fun _=>True) (x:=x) (show cI _ b86 _ _ from dV.ok _ (.tail _ (.tail _ (.tail _ (.tail _ (.tail _ (.tail _ (.tail _ (.tail _ (.tail _ (sC _ (.head _)))))))))))) trivial rfl (by simp [Key.cells,Value.oneCell']) rfl) (by omega) (by omega) (Nat.zero_le _) fun a87 anZ MJ an0 s87 an1 avf=>?_;have db:=dV.p5.iY s87 an0 an1;refine⟨s87.size,_,rfl,_,_,_,db,aA.k4<|aA.k4<|aA.cons<|aA.nil,ax.k4 M1 M2 M3 M4<|ax.k4 M5 M6 M7 M8<|ax.nil,?_⟩;refine(nj) av SV.g3<|(nk)<|?_;intro Ot aqn dt;simp only [CM,NM,CA,NA,kL.it] at dt;refine WL.go rfl (OX.put eD kB (As.gm dt.g7) rfl rfl rfl fun Rp ZW ZX=>?_);have du:=dt.p7.mS ZW ZX;refine nx ?_;refine WL.nil (EX.np ?_);have eK:=du.CE (B:=As.map Key.val Wl (pB (L2++[x]))) (by rw [HV _ UX]);refine jx ?_;refine fx (q+1,L2++[x],_,Lb3,a87,(rA+1),anZ) ⟨eK.p1.drop.p4.drop.p4.drop.p4.drop.p3.p1.p2,⟨by omega,by rw [ag8];exact hF2.new tF hj0 hox UX,aa5,Uw,by rw [List.getElem?_append_left yF];exact tF,trivial⟩⟩
   have UX:x∈L2:=by simpa using g81
   refine gp ?_;refine fx (q+1,L2,_,Lb3,sL,rA,sM) ⟨dh.p2.drop.p2.drop.p2.drop.p1.p3.p3,⟨by omega,by rw [ag8];exact hF2.wT tF hj0 hox UX,aa5,Uw,tF,trivial⟩⟩
  simp at JM
  refine rT ?_;refine fx (i+1,L2,Js,LI,sL,rA,sM) ⟨bp.p4.drop,⟨by show i+1≤L2.length;omega,hF2.next tF (by rw [hrq];omega) (by omega),Fg,py,trivial⟩⟩
 simp at BC
 refine jx ?_;have hed:=hF.ajw (show L.length≤i by omega)
 have LZ:∀e∈Lb,e.reads.length≤140737488355328:=fun e he=>by
  have h1:=hF.len e.key
  have h2:i≤4001:=by omega
  rw [P7 rB he] at h1
  omega
 refine nx ?_;refine WL.mm Key.val aQ fun b89 w8 avg avh aV=>?_;refine(bA) av aV.b5<|?_;refine WL.go rfl (OX.ins eD kB (As.gm aV.g0) rfl rfl rfl fun w9 ZA ZB=>?_);have bD:=aV.mS ZA ZB;refine dy ?_;have bp:=bD.CE (B:=As.map Key.val b89 (pB [k])) (rfl);refine(bA) av bp.b5<|?_;refine WL.go rfl (OX.bB (us:=k.cells) fS rfl rfl rfl rfl fun b93 kN aad aae=>?_);have ba:=bp.fb aad aae;refine cV ?_;have aX:=ba;have bN:=aX.conv (B:=As.os RR.key 58 2 (some ⟨b93,0,none⟩) 1 1 [k]) (OR.eP (As.gb aX.g0) (Nat.zero_le _) rfl (by simp [Key.cells,Value.oneCell']) rfl) (fun x h=>by show x=b93;change x∈aO (some ⟨b93,0,none⟩) at h;simpa [aO] using h);refine kE ?_;have bR:=bN.p5;have bE:=St.bkF LZ bR;refine WC.bU (σ:=Nat × (List Key) × (Option Addr) × Nat × Nat) (eI:=fun(j,U,tz,sO,tA)=>[(7,.map (some Wt)),(17,.map (some b89)),(18,.slice tz sO tA),(19,.int .i64 (j:Int))]) (F:=fun(j,U,tz,sO,tA)=>[As.os RR.key 58 2 tz sO tA (U),As.map Key.val b89 (pB U)]) (I:=fun(j,U,tz,sO,tA)=>(Em l rev k (kV Lb) U j 0)∧True) (μ:=fun(j,U,tz,sO,tA)=>4001 - j) (0,[k],(some ⟨b93,0,none⟩),1,1) (bE.p2.p2) Sub.t (⟨Em.start,trivial⟩)<|?_;rintro⟨j,U,tz,sO,tA⟩ kO bZ ⟨hB,_⟩;simp only [CA,NA] at bZ hB ⊢;have hun:=((As.gs bZ.g0)).len;have avi:=hB.le ho;refine(br) (fun g97=>?_) fun g97=>?_
 ·
  simp at g97
  have UI:j<U.length:=by omega
  refine ew ?_;obtain⟨v1,v2,v3,r9,nO⟩:=zh.read jV (As.gf bZ.g2) U[j];have cG:=bZ.fr (nO);have hsn:=((As.gr cG.g0)).len;have hbq:=hF.len U[j];obtain⟨afl,yL⟩:=Ow.addr (As.gs cG.g1) (aq UI);refine dC ?_;refine WP .r (PV.fC fP yL rfl rfl (by omega))<|(bA) av (Ow.rS (As.gs cG.g1) (by omega) yL (aq UI))<|?_;refine WP .r (PV.mJ eD Qt VH (As.gm cG.g6) (r9) rfl rfl)<|ew ?_;refine WC.bU (σ:=Nat × (List Key) × (Option Addr) × Nat × Nat) (eI:=fun(p,U2,tz,sO,tA)=>[(7,.map (some Wt)),(17,.map (some b89)),(18,.slice tz sO tA),(19,.int .i64 (j:Int)),(105,.slice v1 v2 v3),(106,.int .i64 (v2:Int)),(107,.int .i64 (p:Int))]) (F:=fun(p,U2,tz,sO,tA)=>[As.os RR.key 58 2 tz sO tA (U2),As.map Key.val b89 (pB U2)]) (I:=fun(p,U2,tz,sO,tA)=>(p≤v2)∧(Em l rev k (kV Lb) U2 j p)∧(U2[j]?=some U[j])∧True) (μ:=fun(p,U2,tz,sO,tA)=>v2 - p) (0,U,tz,sO,tA) (cG.p2.p2) Sub.t (⟨Nat.zero_le _,hB,aq UI,trivial⟩)<|?_;rintro⟨p,U2,tz,sO,tA⟩ qW cF ⟨hp,C0,NN,_⟩;simp only [CA,NA] at cF hp C0 NN ⊢;have avj:=((As.gs cF.g0)).len;have aqp:=C0.le ho;have hj4:j<U2.length:=(List.getElem?_eq_some_iff.1 NN).1;refine(br) (fun aa6=>?_) fun aa6=>?_
  ·
   simp at aa6
   have qZ:p<(kV Lb U[j]).length:=by omega
   obtain⟨x,MK⟩:∃x,(kV Lb U[j])[p]=x:=⟨_,rfl⟩
   have hp0:(kV Lb U[j])[p]?=some x:=by rw [aq qZ,MK]
   refine ew ?_;obtain⟨anA,avk,avl,MR,aqq,RW,WG,ag9⟩:=Rd.at (As.gr cF.g2) qZ;have RW:=RR.cL RW;subst RW;have cP:=cF.fg ag9 WG;rw [MK] at WG cP;refine nx ?_;refine WP .r (PV.fC fP MR rfl rfl (by omega))<|(bA) av (As.om cP.g0)<|(fU) cP fun b21 uX aaS aaT cv=>?_;refine(dA) jT cv fun zN Wb Wc cK=>?_;refine(bA) av cK.b0<|?_;refine WP .r (PV.mJ eD kB FJ (As.gm cK.g3) (HU U2 x) rfl rfl)<|(br) (fun Ck=>?_) fun Ck=>?_
   ·
    have UX:x∉U2:=by simpa using Ck
    refine WC.df (m:=6) [] [5] [2,3,4,5,0,1] [(4,.sl 58 1 x.cells)] cK (ax.k4 M0 M1 M3 M4<|ax.k4 M5 M6 M7 M8<|ax.cons M9<|ax.nil) mixed (by kernel_rfl) (by kernel_rfl) rfl<|(nj) av SV.g0<|?_;refine DG.side (s:=.sl 58 1 x.cells) rfl rfl rfl rfl rfl rfl (fun wx Zx Rx Cc fV=>OX.bB (us:=x.cells) fS rfl rfl rfl rfl fun b wy nw hb=>⟨nw.ext.size,_,rfl,⟨b,rfl⟩,fV.fb nw hb⟩)<|?_;rintro _ ⟨an2,rfl⟩;refine(jg) (fun uY UF Gb ey sC=>?_);simp only [CA,NA] at ey;refine OX.oM tn rfl rfl rfl (As.gs ey.g2) (SR.eP (A:=fun _=>True) (x:=x) (show cI _ an2 _ _ from ey.ok _ (.tail _ (.tail _ (.tail _ (.tail _ (.tail _ (.tail _ (.tail _ (.tail _ (.tail _ (.tail _ (sC _ (.head _))))))))))))) trivial rfl (by simp [Key.cells,Value.oneCell']) rfl) (by omega) (by omega) (Nat.zero_le _) fun an3 aha zw ahb ahc ahd aqr=>?_;have dz:=ey.p2.iY ahc ahb ahd;refine⟨ahc.size,_,rfl,_,_,_,dz,aA.k4<|aA.k4<|aA.k2<|aA.nil,ax.k4 M1 M2 M3 M4<|ax.k4 M5 M6 M7 M8<|ax.cons M9<|ax.nil,?_⟩;refine(nj) av SV.g0<|(nk)<|?_;intro C9 aqs eC;simp only [CM,NM,CA,NA,kL.it] at eC;refine WL.go rfl (OX.put eD kB (As.gm eC.g4) rfl rfl rfl fun CN an4 an5=>?_);have dh:=eC.p4.mS an4 an5;refine nx ?_;refine WL.nil (EX.np ?_);have dV:=dh.CE (B:=As.map Key.val b89 (pB (U2++[x]))) (by rw [HV _ UX]);refine jx ?_;refine fx (p+1,U2++[x],an3,(sO+1),aha) ⟨dV.p1.drop.p2.drop.p2.drop.p1,⟨by omega,C0.add hed NN hp0 UX,by rw [List.getElem?_append_left hj4];exact NN,trivial⟩⟩
   have UX:x∈U2:=by simpa using Ck
   refine gp ?_;refine fx (p+1,U2,tz,sO,tA) ⟨cK.drop.drop,⟨by omega,C0.has NN hp0 UX,NN,trivial⟩⟩
  simp at aa6
  refine rT ?_;refine fx (j+1,U2,tz,sO,tA) ⟨cF.p2.drop,⟨C0.next NN (by omega),trivial⟩⟩
 simp at g97
 have an6:=fun {L'}=>hB.group (L':=L') ho hed (show U.length≤j by omega);refine jx ?_;have an7:=St.fresh bZ;have cG:=bZ.bX (by omega);refine cV ?_;have cF:=cG;refine(cW) aeK (Cv cF.e0 (As.gr cF.g0) (List.ne_nil_of_mem hB.mem) hB.ou (by omega)) ?_;rintro _ qW ⟨o1,o2,o3,L9,rfl,hsl,Sk,tR⟩;have cP:=St.lr cF tR;have hL9:=an6 hsl Sk;subst hL9;refine dC ?_;have CQ:St w M _ _ [As.os RR.key 58 2 o1 o2 o3 (aF l rev k)]:=(St.wk cP.k1);refine(cj) ?_;exact⟨o1,o2,o3,rfl,CQ.unz (fun _ h=>.inl (.inl h)) (Ow.z (As.gs CQ.g0))⟩
theorem DA(bF:St w M Z w []) (hW:cI w wb 154 (D.wc v rev ra rn rc)) (hm:KM Key.val w D.m ml) (jV:kH l lf ml) (MQ:(As.qn 60 lf l).ok Z w) (l8:∀r∈l,gY r.key) (h6:l.length≤4000) (UO:∀r∈l,r.reads.length≤4000):Calls prog 94 #[.pointer (some ⟨wb,0,none⟩),k.val] w fun e w'=>∃(a:Option Addr) (n c:Nat),e=.returned (.slice a n c)∧St w M Z w' [As.os RR.key 58 2 a n c (aF l rev k)]:=by
 refine enter func94 rfl ntmps94 rfl<|?_;have aW:=St.rb bF;refine(ef) aW fun b2 w1 lA eZ st1=>?_;refine(ef) st1 fun b3 w2 gO dB st2=>?_;refine(bA) av st2.b0<|?_;refine WP .r (PV.func (us:=[]) (vs:=[.pointer (some ⟨b2,0,none⟩)]) rfl rfl)<|?_;have aP:=st2;refine(cW) aes (GC (k:=k) aP.e0 aet (fun w1 h1 y=>LH (cI.ext (As.gb aP.g1) h1) (hW.ext (bm.trans (St.cg aP) h1)) (hm.ext (bm.trans (St.cg aP) h1)) jV (As.exc MQ (bm.trans (St.cg aP) h1)) l8 y) h6 UO) ?_;rintro _ w3 ⟨o1,o2,o3,rfl,eE⟩;have aU:=St.lr aP eE;refine(cj) ?_;exact⟨o1,o2,o3,rfl,(St.wk aU.p1.drop.p1.drop)⟩
theorem Cy{group:List Key}{ag:Option Addr}{g eg:Nat}{A:Nat→Prop}(bF:St w M Z w []) (hW:cI w wb 154 (D.wc v rev ra rn rc)) (hm:KM Key.val w D.m ml) (jV:kH l lf ml) (MQ:(As.qn 60 lf l).ok Z w) (hg:Rd RR.key 2 A w ag g eg group) (cx:∀m∈group,∃r,aD l m=some r) (hb:∀i,((group.take i).flatMap fun m=>eB group m (aG l m).reads).length≤100000000):Calls prog 93 #[.pointer (some ⟨wb,0,none⟩),.slice ag g eg] w fun e w'=>∃(a:Option Addr) (n c:Nat),e=.returned (.slice a n c)∧St w M Z w' [As.os RR.Ni 160 4 a n c (cC l group)]:=by
 have hlen:=hg.len;have hle:=hg.le;refine enter func93 rfl ntmps93 rfl<|?_;have aW:=St.rb bF;have st1:=aW.fc RR.Ni 160 4;refine bC ?_;refine gp ?_;refine WC.bU (σ:=Nat × (List tI) × (Option Addr) × Nat × Nat) (eI:=fun(i,acc,cO,cB,cS)=>[(0,.pointer (some ⟨wb,0,none⟩)),(1,.slice ag g eg),(5,.slice cO cB cS),(11,.slice ag g eg),(12,.int .i64 (g:Int)),(13,.int .i64 (i:Int))]) (F:=fun(i,acc,cO,cB,cS)=>[As.os RR.Ni 160 4 cO cB cS (acc)]) (I:=fun(i,acc,cO,cB,cS)=>(i≤g)∧(acc=(group.take i).flatMap fun m=>eB group m (aG l m).reads)∧True) (μ:=fun(i,acc,cO,cB,cS)=>g - i) (0,[],none,0,0) (st1) Sub.t (⟨by omega,by simp,trivial⟩)<|?_;rintro⟨i,acc,cO,cB,cS⟩ w1 st2 ⟨hi,eJ,_⟩;simp only [CA,NA] at st2 hi eJ ⊢;refine(br) (fun g14=>?_) fun g14=>?_
 ·
  simp at g14
  have cX:i<group.length:=by omega
  refine ew ?_;obtain⟨gF,js,iU,aT,fl,bz,ck,di⟩:=Rd.at hg cX;have bz:=RR.cL bz;subst bz;refine nx ?_;refine WP .r (PV.fC fP aT rfl rfl (by omega))<|(bA) av (bG ck (St.cg st2) (by simp))<|(fU) st2 fun b7 w2 uR oo aP=>?_;refine(dA) jT aP fun w3 jv jC aU=>?_;refine dy ?_;obtain⟨r,hr⟩:=cx _ (List.getElem_mem cX);have hro:aG l group[i]=r:=bY hr;have hqr:=(MQ.1 _ _ hr).2.1;have hq4:=(MQ.1 _ _ hr).2.2;have aY:=aU.fr (hqr.ext (St.cg aU));have hqn:=hqr.len;have hN5:=aY.dc;refine WC.dS (m:=5) aY mixed<|dy ?_;refine DP .r (fun _ hC=>V1 iQ (cI.range (hW.ext (St.cg hC.2))) .r)<|(ju) av St.g1<|(eu)<|?_;rintro w4 ⟨Gh,bj⟩ _;refine WP .r (PV.dG eD iR jB (hm.ext (St.cg bj)) (jV.yes hr) rfl rfl)<|(br) (fun g24=>?_) fun g24=>?_
  ·
   exact gw g24
  refine(bO) fA (cI.range ((MQ.1 _ _ hr).1.ext (St.cg bj)))<|ew ?_;refine WC.bU (σ:=Nat × (List tI) × (Option Addr) × Nat × Nat) (eI:=fun(j,jJ,cO,cB,cS)=>[(0,.pointer (some ⟨wb,0,none⟩)),(1,.slice ag g eg),(5,.slice cO cB cS),(7,.pointer (some ⟨b7,0,none⟩)),(11,.slice ag g eg),(12,.int .i64 (g:Int)),(13,.int .i64 (i:Int)),(28,.slice (lf group[i]).a (lf group[i]).n (lf group[i]).c),(29,.int .i64 ((lf group[i]).n:Int)),(30,.int .i64 (j:Int))]) (F:=fun(j,jJ,cO,cB,cS)=>[As.os RR.Ni 160 4 cO cB cS (jJ)]) (I:=fun(j,jJ,cO,cB,cS)=>(j≤(lf group[i]).n)∧(jJ=acc++eB group group[i] (r.reads.take j))∧True) (μ:=fun(j,jJ,cO,cB,cS)=>(lf group[i]).n - j) (0,acc,cO,cB,cS) (bj.p2) Sub.t (⟨by omega,by simp [eB],trivial⟩)<|?_;rintro⟨j,jJ,cO,cB,cS⟩ w5 bP ⟨hj,ss,_⟩;simp only [CA,NA] at bP hj ss ⊢;have l8:=((As.gs bP.g0)).len;have GW:=hb i;rw [← eJ] at GW;have C5:=mV group group[i] (r.reads.take j)
  have htl:jJ.length≤100100000:=by rw [ss,List.length_append];rw [List.length_take] at C5;omega
  refine(br) (fun pF=>?_) fun pF=>?_
  ·
   simp at pF
   have lF:j<r.reads.length:=by omega
   refine ew ?_;obtain⟨vV,Ix,FU,fO,vW,gN,j4,pJ⟩:=Rd.at (As.gr bP.g1) lF;have gN:=RR.cL gN;subst gN;have bQ:=bP.fg pJ j4;refine nx ?_;refine WP .r (PV.fC fP fO rfl rfl (by omega))<|(bA) av (As.om bQ.g0)<|(fU) bQ fun iI w6 lV fN bV=>?_;refine(dA) jT bV fun w7 sr nc aL=>?_;refine(bA) av aL.b0<|(gg) (pM (k:=r.reads[j]) (hg.ext (St.cg aL))) aL fun w8 s8 aQ=>?_;refine(br) (fun vS=>?_) fun vS=>?_
   ·
    simp at vS
    have Mu:=lY (group:=group) (m:=group[i]) lF;rw [if_neg vS] at Mu;refine(bA) av aQ.b4<|(bA) av aQ.b0<|?_;refine WP .r (PV.cD (us:=(tI.mk group[i] r.reads[j]).cells) VB rfl rfl rfl)<|?_;refine WL.go rfl (OX.bB (us:=(tI.mk group[i] r.reads[j]).cells) My rfl rfl rfl rfl fun b42 w9 an8 an9=>?_);have aV:=aQ.fb an8 an9;refine WL.ap rfl rfl aV.p3 (SR.eP (A:=fun _=>True) (x:=tI.mk group[i] r.reads[j]) (As.gb aV.g0) trivial rfl (by simp [tI.cells,Value.oneCell']) rfl) fun a43 aoa kN avp avq bD=>?_;refine kE ?_;refine fx (j+1,_,a43,(cB+1),aoa) ⟨bD.p5.p5.p2.k3,⟨by omega,by rw [Mu,ss,List.append_assoc],trivial⟩⟩
   simp at vS
   have Mu:=lY (group:=group) (m:=group[i]) lF;rw [if_pos vS] at Mu;refine gp ?_;refine fx (j+1,_,cO,cB,cS) ⟨aQ.drop.drop,⟨by omega,by rw [Mu,ss],trivial⟩⟩
  simp at pF
  have EE:r.reads.take j=r.reads:=List.take_of_length_le (by omega);refine mT ?_;refine fx (i+1,jJ,cO,cB,cS) ⟨bP.p1.drop.p1.drop,⟨by omega,by rw [ss,EE,eJ,List.take_succ_eq_append_getElem cX];simp only [List.flatMap_append,List.flatMap_cons,List.flatMap_nil,List.append_nil,hro],trivial⟩⟩
 simp at g14
 have ahe:group.take i=group:=List.take_of_length_le (by omega);rw [ahe] at eJ;subst eJ;refine(cj) ?_;exact⟨_,_,_,rfl,(St.wk st2)⟩
theorem GD(hi:Rd RR.aH 4 Z w a1 n1 e1 x.ah):CR prog 173 #[.agg (x.row a1 n1 e1 a2 n2 e2).toArray,k.val] w (.int .i64 (dX x.ah k).changed):=by
 refine enter func173 rfl ntmps173 rfl<|?_;have aW:=St.s0 w;refine(ef) aW fun b2 w1 lA eZ st1=>?_;refine(ef) st1 fun b3 w2 gO dB st2=>?_;refine(bA) aM st2.b1<|(bA) av st2.b0<|(cW) VV (wt (k:=k) (hi.ext (St.cg st2))) ?_;rintro _ w3 ⟨y,rfl,_,hy,s3⟩;have aP:=st2.step s3;refine WP .r (PV.xj (fs:=[_,_,_]) (f:=2) (off:=3) (T:=83) underlying83 rfl rfl (show ∀w,(isAgg 3).run _ w=.ok false w from isAgg3) rfl rfl)<|(cj) ?_;exact⟨by rw [← hy],(St.cg aP)⟩
theorem GF{r:Rec}(bF:St w M Z w [As.map Key.val S.m ml,As.map Key.val S.q [],As.blk wb 154 (D.wc S.s rev ra rn rc),As.map Key.val D.m mO,As.qn 60 lf l]) (hf:(S.FV prog ab x0).p Z w) (mF:Rd RR.aH 4 Z w D.a1 D.n1 D.c1 x0.ah) (hm:bd ab x0.ah ml) (jV:kH l lf mO) (hR:ay ab) (hS:∀k,(valOf ab x0.ah k).size≤1000) (gk:aB k=true) (k8:aD l k=none):Calls prog 147 #[.pointer (some ⟨wb,0,none⟩),k.val] w fun e w'=>∃ed,e=.returned (.int .i64 (bT (valOf ab x0.ah) ⟨rev,x0.ah,l⟩ k))∧bd ab x0.ah ed∧iJ ml ed∧St w M Z w' [As.map Key.val S.m ed,As.map Key.val S.q [],As.blk wb 154 (D.wc S.s rev ra rn rc),As.map Key.val D.m mO,As.qn 60 lf l]:=by
 refine enter func147 rfl ntmps147 rfl<|?_;have aW:=bF;have st1:=aW.fr mF;have st2:=st1.fact (B:=As.fz (S.FV prog ab x0)) hf (fun _ hx=>hx);refine(ef) st2 fun b3 w1 gO dB aP=>?_;refine dC ?_;have zo:=aP.dc;refine WC.dS (m:=5) aP mixed<|(lX) iQ St.g5<|(ju) av St.g0<|(eu)<|?_;rintro w2 ⟨fh,aU⟩ _;refine WP .r (PV.mJ eD iR jB (As.gm aU.g6) (jV.no k8) rfl rfl)<|(bA) av aU.b0<|?_;refine WL.c1 (u:=.bool true) (dF (k:=k)) (by rw [gk]) aU fun w3 s3 aY=>?_;refine dy ?_;refine WC.zP rfl<|nx ?_;have Iy:=aY.dc;refine WC.dS (m:=5) aY mixed<|(CS) aM St.g5<|(ju) av St.g0<|(eu)<|?_;rintro w4 ⟨eQ,bj⟩ _;refine(gg) (GD (x:=⟨rev,x0.ah,l⟩) (k:=k) (a2:=D.a2) (n2:=D.n2) (e2:=D.c2) (As.gr bj.g2)) bj fun w5 s5 bP=>?_;refine(cj) ?_;exact⟨ml,by rw [XP gk],hm,iJ.refl _,bP.drop.drop.drop⟩
theorem GG{r:Rec}(bF:St w M Z w [As.map Key.val S.m ml,As.map Key.val S.q [],As.blk wb 154 (D.wc S.s rev ra rn rc),As.map Key.val D.m mO,As.qn 60 lf l]) (hf:(S.FV prog ab x0).p Z w) (mF:Rd RR.aH 4 Z w D.a1 D.n1 D.c1 x0.ah) (hm:bd ab x0.ah ml) (jV:kH l lf mO) (hR:ay ab) (hS:∀k,(valOf ab x0.ah k).size≤1000) (gk:aB k=false) (k8:aD l k=none):Calls prog 147 #[.pointer (some ⟨wb,0,none⟩),k.val] w fun e w'=>∃ed,e=.returned (.int .i64 (bT (valOf ab x0.ah) ⟨rev,x0.ah,l⟩ k))∧bd ab x0.ah ed∧iJ ml ed∧St w M Z w' [As.map Key.val S.m ed,As.map Key.val S.q [],As.blk wb 154 (D.wc S.s rev ra rn rc),As.map Key.val D.m mO,As.qn 60 lf l]:=by
 refine enter func147 rfl ntmps147 rfl<|?_;have aW:=bF;have st1:=aW.fr mF;have st2:=st1.fact (B:=As.fz (S.FV prog ab x0)) hf (fun _ hx=>hx);refine(ef) st2 fun b3 w1 gO dB aP=>?_;refine dC ?_;have zo:=aP.dc;refine WC.dS (m:=5) aP mixed<|(lX) iQ St.g5<|(ju) av St.g0<|(eu)<|?_;rintro w2 ⟨fh,aU⟩ _;refine WP .r (PV.mJ eD iR jB (As.gm aU.g6) (jV.no k8) rfl rfl)<|(bA) av aU.b0<|?_;refine WL.c1 (u:=.bool false) (dF (k:=k)) (by rw [gk]) aU fun w3 s3 aY=>?_;refine dy ?_;refine WC.gT rfl<|(br) (fun g21=>?_) fun g21=>?_
 ·
  refine jx ?_;refine WP .r (PV.ld1 (j:=1) aZ aY.b5 rfl rfl)<|(cj) ?_;exact⟨ml,by rw [XQ gk k8],hm,iJ.refl _,aY.drop.drop.drop⟩
 exact gw g21
theorem GH(bF:St w M Z w [As.map Key.val S.m ml,As.map Key.val S.q [],As.blk wb 154 (D.wc S.s rev ra rn rc),As.map Key.val D.m mO,As.qn 60 lf l]) (hf:(S.FV prog ab x0).p Z w) (mF:Rd RR.aH 4 Z w D.a1 D.n1 D.c1 x0.ah) (hm:bd ab x0.ah ml) (jV:kH l lf mO) (hR:ay ab) (hS:∀k,(valOf ab x0.ah k).size≤1000) (gk:aB k=false) (k8:aD l k=some r) (hv:r.az=rev):Calls prog 147 #[.pointer (some ⟨wb,0,none⟩),k.val] w fun e w'=>∃ed,e=.returned (.int .i64 (bT (valOf ab x0.ah) ⟨rev,x0.ah,l⟩ k))∧bd ab x0.ah ed∧iJ ml ed∧St w M Z w' [As.map Key.val S.m ed,As.map Key.val S.q [],As.blk wb 154 (D.wc S.s rev ra rn rc),As.map Key.val D.m mO,As.qn 60 lf l]:=by
 refine enter func147 rfl ntmps147 rfl<|?_;have aW:=bF;have st1:=aW.fr mF;have st2:=st1.fact (B:=As.fz (S.FV prog ab x0)) hf (fun _ hx=>hx);refine(ef) st2 fun b3 w1 gO dB aP=>?_;refine dC ?_;have zo:=aP.dc;refine WC.dS (m:=5) aP mixed<|(lX) iQ St.g5<|(ju) av St.g0<|(eu)<|?_;rintro w2 ⟨fh,aU⟩ _;refine WP .r (PV.dG eD iR jB (As.gm aU.g6) (jV.yes k8) rfl rfl)<|(bA) av aU.b0<|?_;refine WL.c1 (u:=.bool false) (dF (k:=k)) (by rw [gk]) aU fun w3 s3 aY=>?_;refine dy ?_;refine WC.gT rfl<|(br) (fun g21=>?_) fun g21=>?_
 ·
  exact gw g21
 refine nx ?_;have Sm:=aY.dc;refine WC.dS (m:=21) aY mixed<|dy ?_;refine DP .r (fun _ hC=>V1 aZ (cI.range ((As.Mr hC.2.g7).1 _ _ k8).1) .r)<|dC ?_;refine DP .r (fun _ hC=>PV.ld1 (j:=1) aZ (cI.range (As.gb hC.2.g5)) rfl rfl)<|DP .r (fun _ hC=>(PV.eqi rfl rfl).cast (v':=.bool true) (congrArg Value.bool (decide_eq_true hv)))<|(eu) ?_;rintro w4 ⟨pL,bj⟩ _;refine ew ?_;refine WC.zP rfl<|(bO) aZ (cI.range ((As.Mr bj.g7).1 _ _ k8).1)<|(cj) ?_;exact⟨ml,by rw [XR gk k8 hv],hm,iJ.refl _,bj.drop.drop.drop⟩
theorem GI(bF:St w M Z w [As.map Key.val S.m ml,As.map Key.val S.q [],As.blk wb 154 (D.wc S.s rev ra rn rc),As.map Key.val D.m mO,As.qn 60 lf l]) (hf:(S.FV prog ab x0).p Z w) (mF:Rd RR.aH 4 Z w D.a1 D.n1 D.c1 x0.ah) (hm:bd ab x0.ah ml) (jV:kH l lf mO) (hR:ay ab) (hS:∀k,(valOf ab x0.ah k).size≤1000) (gk:aB k=false) (k8:aD l k=some r) (hv:¬r.az=rev) (hk:gH ab k):Calls prog 147 #[.pointer (some ⟨wb,0,none⟩),k.val] w fun e w'=>∃ed,e=.returned (.int .i64 (bT (valOf ab x0.ah) ⟨rev,x0.ah,l⟩ k))∧bd ab x0.ah ed∧iJ ml ed∧St w M Z w' [As.map Key.val S.m ed,As.map Key.val S.q [],As.blk wb 154 (D.wc S.s rev ra rn rc),As.map Key.val D.m mO,As.qn 60 lf l]:=by
 refine enter func147 rfl ntmps147 rfl<|?_;have aW:=bF;have st1:=aW.fr mF;have st2:=st1.fact (B:=As.fz (S.FV prog ab x0)) hf (fun _ hx=>hx);refine(ef) st2 fun b3 w1 gO dB aP=>?_;refine dC ?_;have zo:=aP.dc;refine WC.dS (m:=5) aP mixed<|(lX) iQ St.g5<|(ju) av St.g0<|(eu)<|?_;rintro w2 ⟨fh,aU⟩ _;refine WP .r (PV.dG eD iR jB (As.gm aU.g6) (jV.yes k8) rfl rfl)<|(bA) av aU.b0<|?_;refine WL.c1 (u:=.bool false) (dF (k:=k)) (by rw [gk]) aU fun w3 s3 aY=>?_;refine dy ?_;refine WC.gT rfl<|(br) (fun g21=>?_) fun g21=>?_
 ·
  exact gw g21
 refine nx ?_;refine WC.df (m:=21) [] [16] [0,1,2,3,4,5,6,7,8,9,10,11,12,13,14,15,16,17,18,19,20] [] aY (ax.k4 M0 M1 M2 M5<|ax.cons M6<|ax.cons M7<|ax.nil) mixed (by kernel_rfl) (by kernel_rfl) rfl<|?_
 iterate 3 refine DG.a ?_
 refine DQ .r (fun wx Zx Rx _ fV l5=>V1 aZ (cI.range ((As.Mr (fV.sv l5).g5).1 _ _ k8).1) .r)<|?_
 iterate 4 refine DG.a ?_
 refine DQ .r (fun wx Zx Rx _ fV l5=>PV.ld1 (j:=1) aZ (cI.range (As.gb (fV.sv l5).g3)) rfl rfl)<|DQ .r (fun wx Zx Rx _ fV l5=>(PV.eqi rfl rfl).cast (v':=.bool false) (congrArg Value.bool (decide_eq_false hv)))<|?_
 iterate 4 refine DG.a ?_
 refine(xh) uF SV.g3<|(nj) av SV.g0<|(jg) (fun w4 avr aqu bj aob=>?_);simp only [CA,NA] at bj;have bP:=bj.p4.p4;refine OX.call N4 rfl rfl ((Cj hR hS hk _ _ _ _ _ bP.e2 (As.gf bP.g3) hm (fun _=>nI.nil _)).mono ?_);rintro _ w5 ⟨fm,rfl,jf,fT,ic⟩;have bQ:=St.lr bP ic;refine⟨_,rfl,ic.cT.size,_,rfl,_,_,_,bQ,aA.k4<|aA.k4<|aA.nil,ax.k4 M2 M3 M4 M5<|ax.cons M6<|ax.cons M7<|ax.nil,?_⟩
 iterate 3 refine DG.a ?_
 refine DQ .r (fun wx Zx Rx _ fV l5=>V1 iq (cI.range ((As.Mr (fV.sv l5).g5).1 _ _ k8).1) .r)<|(nk)<|?_;intro w6 pL bV;simp only [CM,NM,CA,NA,kL.it] at bV;refine dy ?_;refine WL.nil (EX.np ?_);refine(br) (fun n0=>?_) fun n0=>?_
 ·
  simp at n0
  refine(bO) aZ (cI.range ((As.Mr bV.g7).1 _ _ k8).1)<|(cj) ?_;exact⟨fm,by rw [Ms gk k8 hv,if_pos n0],jf,fT,bV.p2.drop.p2.drop.p2.drop⟩
 simp at n0
 refine pQ ?_;refine WP .r (PV.ld1 (j:=1) aZ bV.b5 rfl rfl)<|(cj) ?_;exact⟨fm,by rw [Ms gk k8 hv,if_neg n0],jf,fT,bV.p2.drop.p2.drop.p2.drop⟩
theorem Jt(bF:St w M Z w [As.map Key.val S.m ml,As.map Key.val S.q [],As.blk wb 154 (D.wc S.s rev ra rn rc),As.map Key.val D.m mO,As.qn 60 lf l]) (hf:(S.FV prog ab x0).p Z w) (mF:Rd RR.aH 4 Z w D.a1 D.n1 D.c1 x0.ah) (hm:bd ab x0.ah ml) (jV:kH l lf mO) (hR:ay ab) (hS:∀k,(valOf ab x0.ah k).size≤1000) (hk:gH ab k) (oh:KR ab l):Calls prog 147 #[.pointer (some ⟨wb,0,none⟩),k.val] w fun e w'=>∃ed,e=.returned (.int .i64 (bT (valOf ab x0.ah) ⟨rev,x0.ah,l⟩ k))∧bd ab x0.ah ed∧iJ ml ed∧St w M Z w' [As.map Key.val S.m ed,As.map Key.val S.q [],As.blk wb 154 (D.wc S.s rev ra rn rc),As.map Key.val D.m mO,As.qn 60 lf l]:=by
 cases gk:aB k with
 | true=>exact GF (r:=qN) bF hf mF hm jV hR hS gk (oh.aH gk)
 | false=>
  cases k8:aD l k with
  | none=>exact GG (r:=qN) bF hf mF hm jV hR hS gk k8
  | some r=>
   by_cases hv:r.az=rev
   ·
    exact GH bF hf mF hm jV hR hS gk k8 hv
   exact GI bF hf mF hm jV hR hS gk k8 hv hk
theorem GJ{c:tI}(bF:St w M Z w [As.map Key.val S.m ml,As.map Key.val S.q [],As.blk wb 154 (D.wc S.s rev ra rn rc),As.map Key.val D.m mO,As.qn 60 lf l]) (hf:(S.FV prog ab x0).p Z w) (mF:Rd RR.aH 4 Z w D.a1 D.n1 D.c1 x0.ah) (hm:bd ab x0.ah ml) (jV:kH l lf mO) (hR:ay ab) (hS:∀k,(valOf ab x0.ah k).size≤1000) (hk:gH ab c.read) (oh:KR ab l) (k8:aD l c.ft=some r):Calls prog 95 #[.pointer (some ⟨wb,0,none⟩),.agg c.cells.toArray] w fun e w'=>∃ed,e=.returned (.bool (OP (valOf ab x0.ah) ⟨rev,x0.ah,l⟩ c))∧bd ab x0.ah ed∧iJ ml ed∧St w M Z w' [As.map Key.val S.m ed,As.map Key.val S.q [],As.blk wb 154 (D.wc S.s rev ra rn rc),As.map Key.val D.m mO,As.qn 60 lf l]:=by
 refine enter func95 rfl ntmps95 rfl<|?_;have aW:=bF;have st1:=aW.fr mF;have st2:=st1.fact (B:=As.fz (S.FV prog ab x0)) hf (fun _ hx=>hx);refine(ef) st2 fun b3 w1 gO dB aP=>?_;refine dC ?_;refine WC.df (m:=14) [] [3] [0,1,2,3,4,5,6,7,8,9,10,11,12,13] [] aP (ax.k4 M7 M6 M5 M2<|ax.cons M1<|ax.cons M0<|ax.nil) mixed (by kernel_rfl) (by kernel_rfl) rfl<|?_
 iterate 2 refine DG.a ?_
 refine(J7) av SV.g5<|(jg) (fun w2 Sp Dj aU tX=>?_);simp only [CA,NA] at aU;have aY:=aU.p7.p7.p7.p7.p7;refine OX.call aev rfl rfl ((Jt (k:=c.read) aY.e5 (As.gf aY.g6) (As.gr aY.g7) hm jV hR hS hk oh).mono ?_);rintro _ w3 ⟨fm,rfl,jf,fT,eE⟩;have bj:=St.lr aY eE;refine⟨_,rfl,eE.cT.size,_,rfl,_,_,_,bj,aA.k4<|aA.k4<|aA.nil,ax.k4 M4 M3 M2 M7<|ax.cons M6<|ax.cons M5<|ax.nil,?_⟩
 iterate 3 refine DG.a ?_
 refine(xh) iQ SV.g2<|(J7) av SV.g5<|?_;refine DQ .r (fun wx Zx Rx _ fV l5=>PV.dG eD iR jB (As.gm (fV.sv l5).g1) (jV.yes k8) rfl rfl)<|?_
 iterate 2 refine DG.a ?_
 refine DQ .r (fun wx Zx Rx _ fV l5=>V1 aZ (cI.range ((As.Mr (fV.sv l5).g0).1 _ _ k8).1) .r)<|(nk)<|?_;intro w4 fh bP;simp only [CM,NM,CA,NA,kL.it] at bP;refine cV ?_;refine WL.nil (EX.np ?_);refine(cj) ?_;exact⟨fm,by unfold OP;rw [bY k8],jf,fT,bP.p5.drop.p5.drop.p5.drop⟩
theorem Ju{Z:Nat→Prop}(hW:cI w wb 154 (D.wc v rev ra rn rc)) (hm:KM Key.val w D.m ml) (jV:kH l lf ml) (k8:aD l k=none) (gk:aB k=true):CR prog 92 #[.pointer (some ⟨wb,0,none⟩),k.val] w (.bool true):=by
 refine enter func92 rfl ntmps92 rfl<|?_;have aW:=St.s0 w;refine(ef) aW fun b3 w1 gO dB st1=>?_;refine dC ?_;have zo:=st1.dc;refine WC.dS (m:=5) st1 mixed<|dy ?_;refine DP .r (fun _ hC=>V1 iQ (cI.range (hW.ext (St.cg hC.2))) .r)<|(ju) av St.g0<|(eu)<|?_;rintro w2 ⟨fh,st2⟩ _;refine WP .r (PV.mJ eD iR jB (hm.ext (St.cg st2)) (jV.no k8) rfl rfl)<|dC ?_;have QX:=st2.dc;refine WC.eU (m:=15) (E:=dx [(1,fun v _=>v=.bool true)]) st2 (bS (⟨fun _ _ _ _ _ _ _ h=>h,trivial⟩)) mixed (by kernel_rfl)<|(ju) av St.g0<|?_;refine DW.c1 (u:=.bool true) (fun wx hC hF=>dF (k:=k)) (by rw [gk])<|?_;refine bC ?_;refine(eu) ?_;rintro w3 ⟨pK,aP⟩ ⟨_,_⟩;refine(cj) ?_;exact⟨rfl,(St.cg aP)⟩
theorem Jv{Z:Nat→Prop}(hW:cI w wb 154 (D.wc v rev ra rn rc)) (hm:KM Key.val w D.m ml) (jV:kH l lf ml) (k8:aD l k=none) (gk:aB k=false):CR prog 92 #[.pointer (some ⟨wb,0,none⟩),k.val] w (.bool false):=by
 refine enter func92 rfl ntmps92 rfl<|?_;have aW:=St.s0 w;refine(ef) aW fun b3 w1 gO dB st1=>?_;refine dC ?_;have zo:=st1.dc;refine WC.dS (m:=5) st1 mixed<|dy ?_;refine DP .r (fun _ hC=>V1 iQ (cI.range (hW.ext (St.cg hC.2))) .r)<|(ju) av St.g0<|(eu)<|?_;rintro w2 ⟨fh,st2⟩ _;refine WP .r (PV.mJ eD iR jB (hm.ext (St.cg st2)) (jV.no k8) rfl rfl)<|dC ?_;have QX:=st2.dc;refine WC.eU (m:=15) (E:=dx [(1,fun v _=>v=.bool false)]) st2 (bS (⟨fun _ _ _ _ _ _ _ h=>h,trivial⟩)) mixed (by kernel_rfl)<|(ju) av St.g0<|?_;refine DW.c1 (u:=.bool false) (fun wx hC hF=>dF (k:=k)) (by rw [gk])<|dC ?_;refine DW.gi (t:=17) rfl (fun g17=>?_) (fun g17=>?_)
 ·
  exact gw g17
 refine(eu) ?_;rintro w3 ⟨pK,aP⟩ ⟨_,_⟩;refine(cj) ?_;exact⟨rfl,(St.cg aP)⟩
theorem Jw(hW:cI w wb 154 (D.wc v rev ra rn rc)) (hm:KM Key.val w D.m ml) (jV:kH l lf ml) {r:Rec}(MQ:(As.qn 60 lf l).ok Z w) (k8:aD l k=some r) (gk:aB k=false):CR prog 92 #[.pointer (some ⟨wb,0,none⟩),k.val] w (.bool (decide (r.az=rev))):=by
 refine enter func92 rfl ntmps92 rfl<|?_;have aW:=St.s0 w;refine(ef) aW fun b3 w1 gO dB st1=>?_;refine dC ?_;have zo:=st1.dc;refine WC.dS (m:=5) st1 mixed<|dy ?_;refine DP .r (fun _ hC=>V1 iQ (cI.range (hW.ext (St.cg hC.2))) .r)<|(ju) av St.g0<|(eu)<|?_;rintro w2 ⟨fh,st2⟩ _;refine WP .r (PV.dG eD iR jB (hm.ext (St.cg st2)) (jV.yes k8) rfl rfl)<|dC ?_;have QX:=st2.dc;refine WC.eU (m:=15) (E:=dx [(1,fun v _=>v=.bool false)]) st2 (bS (⟨fun _ _ _ _ _ _ _ h=>h,trivial⟩)) mixed (by kernel_rfl)<|(ju) av St.g0<|?_;refine DW.c1 (u:=.bool false) (fun wx hC hF=>dF (k:=k)) (by rw [gk])<|dC ?_;refine DW.gi (t:=17) rfl (fun g17=>?_) (fun g17=>?_)
 ·
  refine dy ?_;refine DP .r (fun _ hC=>V1 aZ (cI.range ((MQ.1 _ _ k8).1.ext (St.cg hC.2))) .r)<|dC ?_;refine DP .r (fun _ hC=>PV.ld1 (j:=1) aZ (cI.range (hW.ext (St.cg hC.2))) rfl rfl)<|(eu)<|?_;rintro w3 ⟨pK,aP⟩ ⟨_,_⟩;refine(cj) ?_;exact⟨rfl,(St.cg aP)⟩
 exact gw g17
theorem qI{aH:List dE}(hW:cI w wb 154 (D.wc v rev ra rn rc)) (hm:KM Key.val w D.m ml) (jV:kH l lf ml) (MQ:(As.qn 60 lf l).ok Z w) (oh:KR ab l):CR prog 92 #[.pointer (some ⟨wb,0,none⟩),k.val] w (.bool (aB k || aK ⟨rev,aH,l⟩ k)):=by
 cases gk:aB k with
 | true=>exact Ju (Z:=Z) hW hm jV (oh.aH gk) gk
 | false=>
  cases k8:aD l k with
  | none=>
   have e:aK ⟨rev,aH,l⟩ k=false:=by unfold aK;rw [show(dT.mk rev aH l).ao=l from rfl,k8];rfl
   rw [e];exact Jv (Z:=Z) hW hm jV k8 gk
  | some r=>
   have e:aK ⟨rev,aH,l⟩ k=decide (r.az=rev):=by unfold aK;rw [show(dT.mk rev aH l).ao=l from rfl,k8,bY k8];rfl
   rw [e];exact Jw hW hm jV MQ k8 gk
theorem GK{r:Rec}(bF:St w M Z w [As.map Key.val S.m ml,As.map Key.val S.q [],As.blk wb 154 (D.wc S.s rev ra rn rc),As.map Key.val D.m mO,As.qn 60 lf l]) (hf:(S.FV prog ab x0).p Z w) (mF:Rd RR.aH 4 Z w D.a1 D.n1 D.c1 x0.ah) (hm:bd ab x0.ah ml) (jV:kH l lf mO) (hR:ay ab) (hS:∀k,(valOf ab x0.ah k).size≤1000) (oh:KR ab l) (j8:(aB k || aK ⟨rev,x0.ah,l⟩ k)=true):Calls prog 49 #[.pointer (some ⟨wb,0,none⟩),k.val] w fun e w'=>∃ed,e=.returned (.agg (vG (mb (valOf ab x0.ah) ⟨rev,x0.ah,l⟩ k)).toArray)∧bd ab x0.ah ed∧iJ ml ed∧St w M Z w' [As.map Key.val S.m ed,As.map Key.val S.q [],As.blk wb 154 (D.wc S.s rev ra rn rc),As.map Key.val D.m mO,As.qn 60 lf l]:=by
 refine enter func49 rfl ntmps49 rfl<|?_;have aW:=bF;have st1:=aW.fr mF;have st2:=st1.fact (B:=As.fz (S.FV prog ab x0)) hf (fun _ hx=>hx);refine(ef) st2 fun b3 w1 gO dB aP=>?_;refine(fU) aP fun b4 w2 jE bM aU=>?_;refine dy ?_;have zo:=aU.dc;refine WC.dS (m:=5) aU mixed<|(lX) iQ St.g6<|(ju) av St.g1<|(eu)<|?_;rintro w3 ⟨fh,aY⟩ _;refine WP .r (PV.look eD iR jB (As.gm aY.g7) rfl rfl)<|(bA) av aY.b1<|?_;refine WL.c1 (u:=.bool true) (qI (aH:=x0.ah) (As.gb aY.g6) (As.gm aY.g7) jV (As.Mr aY.g8) oh) (by rw [j8]) aY fun w4 s4 bj=>?_;refine dy ?_;refine WC.zP rfl<|(dA) Bq bj fun w5 jv jC bP=>?_;refine(mU) uD bP.b0<|?_;exact⟨ml,by rw [P8 j8];rfl,hm,iJ.refl _,bP.drop.drop.drop.drop⟩
theorem GL{r:Rec}(bF:St w M Z w [As.map Key.val S.m ml,As.map Key.val S.q [],As.blk wb 154 (D.wc S.s rev ra rn rc),As.map Key.val D.m mO,As.qn 60 lf l]) (hf:(S.FV prog ab x0).p Z w) (mF:Rd RR.aH 4 Z w D.a1 D.n1 D.c1 x0.ah) (hm:bd ab x0.ah ml) (jV:kH l lf mO) (hR:ay ab) (hS:∀k,(valOf ab x0.ah k).size≤1000) (oh:KR ab l) (j8:(aB k || aK ⟨rev,x0.ah,l⟩ k)=false) (k8:aD l k=none):Calls prog 49 #[.pointer (some ⟨wb,0,none⟩),k.val] w fun e w'=>∃ed,e=.returned (.agg (vG (mb (valOf ab x0.ah) ⟨rev,x0.ah,l⟩ k)).toArray)∧bd ab x0.ah ed∧iJ ml ed∧St w M Z w' [As.map Key.val S.m ed,As.map Key.val S.q [],As.blk wb 154 (D.wc S.s rev ra rn rc),As.map Key.val D.m mO,As.qn 60 lf l]:=by
 refine enter func49 rfl ntmps49 rfl<|?_;have aW:=bF;have st1:=aW.fr mF;have st2:=st1.fact (B:=As.fz (S.FV prog ab x0)) hf (fun _ hx=>hx);refine(ef) st2 fun b3 w1 gO dB aP=>?_;refine(fU) aP fun b4 w2 jE bM aU=>?_;refine dy ?_;have zo:=aU.dc;refine WC.dS (m:=5) aU mixed<|(lX) iQ St.g6<|(ju) av St.g1<|(eu)<|?_;rintro w3 ⟨fh,aY⟩ _;refine WP .r (PV.mJ eD iR jB (As.gm aY.g7) (jV.no k8) rfl rfl)<|(bA) av aY.b1<|?_;refine WL.c1 (u:=.bool false) (qI (aH:=x0.ah) (As.gb aY.g6) (As.gm aY.g7) jV (As.Mr aY.g8) oh) (by rw [j8]) aY fun w4 s4 bj=>?_;refine dy ?_;refine WC.gT rfl<|(br) (fun g19=>?_) fun g19=>?_
 ·
  refine cV ?_;refine WP .r (PV.cD (us:=[.int .i64 1,.int .i64 0,.string ⟨#[]⟩]) Ie rfl rfl rfl)<|(dA) Bq bj fun w5 jv jC bP=>?_;refine(mU) uD bP.b0<|?_;exact⟨ml,by rw [KB j8 k8];rfl,hm,iJ.refl _,bP.drop.drop.drop.drop⟩
 exact gw g19
theorem GM(bF:St w M Z w [As.map Key.val S.m ml,As.map Key.val S.q [],As.blk wb 154 (D.wc S.s rev ra rn rc),As.map Key.val D.m mO,As.qn 60 lf l]) (hf:(S.FV prog ab x0).p Z w) (mF:Rd RR.aH 4 Z w D.a1 D.n1 D.c1 x0.ah) (hm:bd ab x0.ah ml) (jV:kH l lf mO) (hR:ay ab) (hS:∀k,(valOf ab x0.ah k).size≤1000) (oh:KR ab l) (j8:(aB k || aK ⟨rev,x0.ah,l⟩ k)=false) (k8:aD l k=some r) (hd:r.ct=true):Calls prog 49 #[.pointer (some ⟨wb,0,none⟩),k.val] w fun e w'=>∃ed,e=.returned (.agg (vG (mb (valOf ab x0.ah) ⟨rev,x0.ah,l⟩ k)).toArray)∧bd ab x0.ah ed∧iJ ml ed∧St w M Z w' [As.map Key.val S.m ed,As.map Key.val S.q [],As.blk wb 154 (D.wc S.s rev ra rn rc),As.map Key.val D.m mO,As.qn 60 lf l]:=by
 refine enter func49 rfl ntmps49 rfl<|?_;have aW:=bF;have st1:=aW.fr mF;have st2:=st1.fact (B:=As.fz (S.FV prog ab x0)) hf (fun _ hx=>hx);refine(ef) st2 fun b3 w1 gO dB aP=>?_;refine(fU) aP fun b4 w2 jE bM aU=>?_;refine dy ?_;have zo:=aU.dc;refine WC.dS (m:=5) aU mixed<|(lX) iQ St.g6<|(ju) av St.g1<|(eu)<|?_;rintro w3 ⟨fh,aY⟩ _;refine WP .r (PV.dG eD iR jB (As.gm aY.g7) (jV.yes k8) rfl rfl)<|(bA) av aY.b1<|?_;refine WL.c1 (u:=.bool false) (qI (aH:=x0.ah) (As.gb aY.g6) (As.gm aY.g7) jV (As.Mr aY.g8) oh) (by rw [j8]) aY fun w4 s4 bj=>?_;refine dy ?_;refine WC.gT rfl<|(br) (fun g19=>?_) fun g19=>?_
 ·
  exact gw g19
 refine(bO) fH (cI.range ((As.Mr bj.g8).1 _ _ k8).1)<|(br) (fun g23=>?_) fun g23=>?_
 ·
  refine cV ?_;refine WP .r (PV.cD (us:=[.int .i64 3,.int .i64 0,.string ⟨#[]⟩]) Ie rfl rfl rfl)<|(dA) Bq bj fun w5 jv jC bP=>?_;refine(mU) uD bP.b0<|?_;exact⟨ml,by rw [En j8 k8 hd];rfl,hm,iJ.refl _,bP.drop.drop.drop.drop⟩
 exact gw g23
set_option maxHeartbeats 1600000 in
theorem GN(bF:St w M Z w [As.map Key.val S.m ml,As.map Key.val S.q [],As.blk wb 154 (D.wc S.s rev ra rn rc),As.map Key.val D.m mO,As.qn 60 lf l]) (hf:(S.FV prog ab x0).p Z w) (mF:Rd RR.aH 4 Z w D.a1 D.n1 D.c1 x0.ah) (hm:bd ab x0.ah ml) (jV:kH l lf mO) (hR:ay ab) (hS:∀k,(valOf ab x0.ah k).size≤1000) (oh:KR ab l) (j8:(aB k || aK ⟨rev,x0.ah,l⟩ k)=false) (k8:aD l k=some r) (hd:r.ct=false) (h6:l.length≤4000) (UO:∀r∈l,r.reads.length≤4000):Calls prog 49 #[.pointer (some ⟨wb,0,none⟩),k.val] w fun e w'=>∃ed,e=.returned (.agg (vG (mb (valOf ab x0.ah) ⟨rev,x0.ah,l⟩ k)).toArray)∧bd ab x0.ah ed∧iJ ml ed∧St w M Z w' [As.map Key.val S.m ed,As.map Key.val S.q [],As.blk wb 154 (D.wc S.s rev ra rn rc),As.map Key.val D.m mO,As.qn 60 lf l]:=by
 have cx:=Tk (rev:=rev) k8
 have OI:(aF l rev k).length≤4001:=by have:=qh l rev k;omega
 have hcb:=NQ UO OI
 have u6:(cC l (aF l rev k)).length≤100000000:=by have:=hcb (aF l rev k).length;rw [List.take_of_length_le (Nat.le_refl _)] at this;exact this
 refine enter func49 rfl ntmps49 rfl<|?_;have aW:=bF;have st1:=aW.fr mF;have st2:=st1.fact (B:=As.fz (S.FV prog ab x0)) hf (fun _ hx=>hx);refine(ef) st2 fun b3 w1 gO dB aP=>?_;refine(fU) aP fun b4 w2 jE bM aU=>?_;refine dy ?_;have zo:=aU.dc;refine WC.dS (m:=5) aU mixed<|(lX) iQ St.g6<|(ju) av St.g1<|(eu)<|?_;rintro w3 ⟨fh,aY⟩ _;refine WP .r (PV.dG eD iR jB (As.gm aY.g7) (jV.yes k8) rfl rfl)<|(bA) av aY.b1<|?_;refine WL.c1 (u:=.bool false) (qI (aH:=x0.ah) (As.gb aY.g6) (As.gm aY.g7) jV (As.Mr aY.g8) oh) (by rw [j8]) aY fun w4 s4 bj=>?_;refine dy ?_;refine WC.gT rfl<|(br) (fun g19=>?_) fun g19=>?_
 ·
  exact gw g19
 refine(bO) fH (cI.range ((As.Mr bj.g8).1 _ _ k8).1)<|(br) (fun g23=>?_) fun g23=>?_
 ·
  exact gw g23
 refine(bA) av bj.b1<|?_;have bP:=bj;refine(cW) akE (DA (k:=k) bP.e0 (As.gb bP.g6) (As.gm bP.g7) jV (As.Mr bP.g8) oh.ajy h6 UO) ?_;rintro _ w5 ⟨u1,u2,u3,rfl,ic⟩;have bQ:=St.lr bP ic;have bV:=bQ;refine(cW) akD (Cy bV.e0 (As.gb bV.g7) (As.gm bV.g8) jV (As.Mr bV.g9) (Ow.rd (As.gs bV.g0) (by omega)) cx hcb) ?_;rintro _ w6 ⟨o1,o2,o3,rfl,mE⟩;have aL:=St.lr bV mE;have hcn:=((As.gs aL.g0)).len;refine ew ?_;refine WC.bU (σ:=Nat × (List (Key × Value))) (eI:=fun(q,fm)=>[(0,.pointer (some ⟨wb,0,none⟩)),(3,.pointer (some ⟨b3,0,none⟩)),(4,.pointer (some ⟨b4,0,none⟩)),(33,.slice o1 o2 o3),(34,.int .i64 (o2:Int)),(35,.int .i64 (q:Int))]) (F:=fun(q,fm)=>[As.map Key.val S.m fm]) (I:=fun(q,fm)=>(q≤o2)∧(bd ab x0.ah fm)∧(iJ ml fm)∧(∀(j:Nat) (c:tI),j<q→(cC l (aF l rev k))[j]?=some c→OP (valOf ab x0.ah) ⟨rev,x0.ah,l⟩ c=false)∧True) (μ:=fun(q,fm)=>o2 - q) (0,ml) (aL.p6) Sub.t (⟨Nat.zero_le _,hm,iJ.refl _,fun j c h=>by omega,trivial⟩)<|?_;rintro⟨q,fm⟩ w7 aQ ⟨hq,jf,fT,gh,_⟩;simp only [CA,NA] at aQ hq jf fT gh ⊢;refine(br) (fun ir=>?_) fun ir=>?_
 ·
  simp at ir
  have zz:q<(cC l (aF l rev k)).length:=by omega
  obtain⟨c0,OM⟩:∃c0,(cC l (aF l rev k))[q]?=some c0:=⟨_,aq zz⟩;obtain⟨CK,ahg,_⟩:=eS.1 (List.mem_of_getElem? OM);obtain⟨rm,hrm⟩:=cx _ CK;rw [bY hrm] at ahg;have hkc:=(oh rm (bq hrm).1).2.2 _ ahg;refine ew ?_;obtain⟨gF,aT⟩:=Ow.addr (As.gs aQ.g1) OM;refine nx ?_;refine WP .r (PV.fC MB aT rfl rfl (by omega))<|(bA) FC (Ow.rS (As.gs aQ.g1) (by omega) aT OM)<|(fU) aQ fun b7 w8 uR oo aV=>?_;refine(dA) Qq aV fun w9 jv jC bD=>?_;refine(bA) FC bD.b0<|?_;have bp:=bD.pP.pP.pP.pP.p5;refine(cW) akF (GJ (c:=c0) bp.e5 (As.gf bp.g10) (As.gr bp.g11) jf jV hR hS hkc oh hrm) ?_;rintro _ kN ⟨kM,rfl,IE,zt,iL⟩;have ba:=St.lr bp iL;refine(br) (fun jP=>?_) fun jP=>?_
  ·
   refine kE ?_
   refine fx (q+1,kM) ⟨ba.p5.drop.q0.q0.q0.q0.q0.q0.p6,⟨by omega,IE,fT.trans zt,fun j c hj hc=>by
      rcases Nat.lt_or_ge j q with h1 | h1
      ·
       exact gh j c h1 hc
      have e:j=q:=by omega
      subst e;rw [OM] at hc
      cases hc
      simpa using jP,trivial⟩⟩
  have hdf:OP (valOf ab x0.ah) ⟨rev,x0.ah,l⟩ c0=true:=by simpa using jP
  have hwc:=Tj (x:=⟨rev,x0.ah,l⟩) j8 k8 hd OM gh hdf;refine(kF) av ba.b5<|(bA) av (cI.range (As.gb ba.g9))<|?_;refine WP .r (PV.JD im (p:=c0.ft) (q:=k) rfl rfl)<|(br) (fun BD=>?_) fun BD=>?_
  ·
   simp at BD
   rw [if_pos BD] at hwc;refine(kF) av ba.b5<|?_;refine WP .r (PV.cD (us:=[.int .i64 2,.int .i64 c0.read.kind,.string c0.read.text]) Ie rfl rfl rfl)<|(dA) Bq ba.p8 fun kO sr nc aX=>?_;refine(mU) uD aX.b0<|?_;exact⟨kM,by rw [hwc];rfl,IE,fT.trans zt,aX.drop.p5.drop.p5.drop.p5.drop.p5.drop.p5.drop.p5.drop⟩
  simp at BD
  rw [if_neg BD] at hwc;refine(kF) av ba.b5<|?_;refine WP .r (PV.cD (us:=[.int .i64 3,.int .i64 c0.read.kind,.string c0.read.text]) Ie rfl rfl rfl)<|(dA) Bq ba.p8 fun kO ED tj aX=>?_;refine(mU) uD aX.b0<|?_;exact⟨kM,by rw [hwc];rfl,IE,fT.trans zt,aX.drop.p5.drop.p5.drop.p5.drop.p5.drop.p5.drop.p5.drop⟩
 simp at ir
 have hns:=H4 (val:=(valOf ab x0.ah)) (x:=⟨rev,x0.ah,l⟩) j8 k8 hd (fun j c hj hc=>gh j c (by have h1:j<(cC l (aF l rev k)).length:=hj;omega) hc);refine(dA) Bq aQ.p3 fun w8 Sj xt aV=>?_;refine(mU) uD aV.b0<|?_;exact⟨fm,by rw [hns];rfl,jf,fT,aV.drop.p1.drop.p1.drop.p1.drop.p1.drop.p1.drop⟩
theorem Jx(bF:St w M Z w [As.map Key.val S.m ml,As.map Key.val S.q [],As.blk wb 154 (D.wc S.s rev ra rn rc),As.map Key.val D.m mO,As.qn 60 lf l]) (hf:(S.FV prog ab x0).p Z w) (mF:Rd RR.aH 4 Z w D.a1 D.n1 D.c1 x0.ah) (hm:bd ab x0.ah ml) (jV:kH l lf mO) (hR:ay ab) (hS:∀k,(valOf ab x0.ah k).size≤1000) (oh:KR ab l) (h6:l.length≤4000) (UO:∀r∈l,r.reads.length≤4000):Calls prog 49 #[.pointer (some ⟨wb,0,none⟩),k.val] w fun e w'=>∃ed,e=.returned (.agg (vG (mb (valOf ab x0.ah) ⟨rev,x0.ah,l⟩ k)).toArray)∧bd ab x0.ah ed∧iJ ml ed∧St w M Z w' [As.map Key.val S.m ed,As.map Key.val S.q [],As.blk wb 154 (D.wc S.s rev ra rn rc),As.map Key.val D.m mO,As.qn 60 lf l]:=by
 cases j8:(aB k || aK ⟨rev,x0.ah,l⟩ k) with
 | true=>exact GK (r:=qN) bF hf mF hm jV hR hS oh j8
 | false=>
  cases k8:aD l k with
  | none=>exact GL (r:=qN) bF hf mF hm jV hR hS oh j8 k8
  | some r=>
   cases hd:r.ct with
   | true=>exact GM bF hf mF hm jV hR hS oh j8 k8 hd
   | false=>exact GN bF hf mF hm jV hR hS oh j8 k8 hd h6 UO
set_option maxHeartbeats 1600000 in
theorem GO{ar:Option Addr}{r cr:Nat}(bF:St w M Z w []) (ht:oj prog Z w) (hu:Rd RR.gx 4 Z w ar r cr ab) (mF:Rd RR.aH 4 Z w a1 n1 e1 x.ah) (hr:Rd RR.ff 8 Z w a2 n2 e2 x.ao) (h6:x.ao.length≤4000) (h7:x.ah.length≤4000) (hS:qj x.ao):Calls prog 48 #[.slice ar r cr,.agg (x.row a1 n1 e1 a2 n2 e2).toArray] w fun e w'=>∃(D:WD) (S:SD) (wb:Nat) (lf:Key→RL) (ml:List (Key × Value)) (Z':Nat→Prop),e=.returned (.pointer (some ⟨wb,0,none⟩))∧kH x.ao lf ml∧cQ w.heap.size Z Z'∧(S.FV prog ab x).p Z' w'∧Rd RR.aH 4 Z' w' D.a1 D.n1 D.c1 x.ah∧St w M Z' w' [As.map Key.val S.m [],As.map Key.val S.q [],As.blk wb 154 (D.wc S.s x.ae none 0 0),As.map Key.val D.m ml,As.qn 60 lf x.ao]:=by
 refine enter func48 rfl ntmps48 rfl<|?_;have aW:=bF;have st1:=aW.fr hu;have st2:=st1.fr mF;have aP:=st2.fr hr;have aU:=aP.fact (B:=As.fz (FZ.JG prog)) ht (fun _ hx=>hx);refine(ef) aU fun b3 w1 gO dB aY=>?_;refine dC ?_;refine WC.df (m:=7) [] [2,6] [1,2,4,5,6,0,3] [(3,.map)] aY (ax.k4 M0 M1 M2 M3<|ax.cons M4<|ax.nil) mixed (by kernel_rfl) (by kernel_rfl) rfl<|(nj) aM SV.g0<|(jg) (fun w2 Lt u4 bj oa=>?_);simp only [CA,NA] at bj;have bP:=bj;refine OX.call ad4 rfl rfl ((sB (x:=x) bP.e0 (As.gr bP.g3) (As.gr bP.g2) (by omega) (by omega)).mono ?_);rintro _ w3 ⟨f1,f2,f3,f4,f5,f6,Z1,rfl,gQ,eE⟩;have bQ:=St.lv bP eE gQ;have EW:=St.cH eE.p1;have Ls:=St.cH eE;have fh:=bP.size;have oZ:=gQ.le fh;have NK:f5=x.ao.length:=((As.gs bQ.g1)).len;have avs:f2=x.ah.length:=((As.gs bQ.g0)).len;have bV:=bQ.p1.bX (by omega);have aL:=bV.p1.bX (by omega);have kZ:=(oZ.trans (cQ.fo (F:=fun x=>x∈aO f4) EW) fh).trans (cQ.fo (F:=fun x=>x∈aO f1) Ls) fh;refine⟨_,rfl,eE.cT.size,_,rfl,_,_,_,aL,aA.k4<|aA.k2<|aA.cons<|aA.nil,ax.k4 M2 M3 M4 M5<|ax.cons M6<|ax.nil,?_⟩;refine(nj) aM SV.g0<|(jg) (fun w4 Wn I4 aQ sD=>?_);simp only [CA,NA] at aQ;have aV:=aQ;refine OX.call Qy rfl rfl ((mq (x:=x) aV.e0).mono ?_);rintro _ w5 ⟨d1,d2,d3,rfl,ic⟩;have bD:=St.lr aV ic;have hgv:=St.cH ic;have UP:=aV.size;have bp:=bD;have ba:=bp.freeze (B:=As.fz (SD.FV (⟨ar,a1,a2,r,cr,n1,e1,n2,e2,d2,d3,d1⟩:SD) prog ab x)) ⟨(SD.F (⟨ar,a1,a2,r,cr,n1,e1,n2,e2,d2,d3,d1⟩:SD) prog ab x).mono (fun _ h=>.inl h) ⟨(As.gr bp.g9),(As.gr bp.g8),(As.gr bp.g7),(As.gf bp.g6)⟩,.inr rfl,((As.gb bp.g0)).lt,cI.range (As.gb bp.g0)⟩ (fun _ hx=>hx);have qX:=kZ.trans (cQ.fo (F:=fun x=>x=d1) hgv) UP;refine⟨_,rfl,ic.cT.size,_,rfl,_,_,_,ba,aA.k4<|aA.k4<|aA.k2<|aA.nil,ax.k4 M5 M6 M7 M8<|ax.cons M9<|ax.nil,?_⟩;refine DG.a<|?_;refine DG.side (s:=.map) rfl rfl rfl rfl rfl rfl (fun wx Zx Rx Cc fV=>OX.makeMap Key.val rfl fun b wy nw hb=>⟨nw.ext.size,_,rfl,⟨b,rfl⟩,fV.Pq nw hb⟩)<|?_;rintro _ ⟨rI,rfl⟩;refine(nk) ?_;intro w6 fh aX;simp only [CM,NM,CA,NA,kL.it] at aX;refine WP .r (PV.cD (us:=(WD.wc ⟨ar,f1,f4,r,cr,f2,f3,f5,f6,rI,d1⟩ d1 x.ae none 0 0)) Vz rfl rfl rfl)<|(ef) aX fun tB w7 Q6 Uv bN=>?_;refine nx ?_;refine WL.nil (EX.np ?_);refine kE ?_;refine WP .r (PV.ld1 (j:=3) eN bN.b0 rfl rfl)<|ew ?_;have lf0:Key→RL:=fun _=>⟨0,none,0,0⟩;have bR:=St.ajs bN 60 lf0;refine WC.bU (σ:=Nat × (Key→RL) × (List (Key × Value))) (eI:=fun(i,lf,ml)=>[(5,.pointer (some ⟨tB,0,none⟩)),(21,.slice f4 f5 f6),(22,.int .i64 (f5:Int)),(23,.int .i64 (i:Int))]) (F:=fun(i,lf,ml)=>[As.map Key.val rI ml,As.qn 60 lf (x.ao.take i)]) (I:=fun(i,lf,ml)=>(i≤x.ao.length)∧(kH (x.ao.take i) lf ml)∧True) (μ:=fun(i,lf,ml)=>x.ao.length - i) (0,lf0,[]) (bR.p2) Sub.t (⟨Nat.zero_le _,kH.nil _,trivial⟩)<|?_;rintro⟨i,lf,ml⟩ w8 bE ⟨hi,xT,_⟩;simp only [CA,NA] at bE hi xT ⊢;refine(br) (fun g24=>?_) fun g24=>?_
 ·
  simp at g24
  have cX:i<x.ao.length:=by omega
  have hfx:∀y,aD (x.ao.take (i+1)) y=if y=x.ao[i].key then some x.ao[i] else aD (x.ao.take i) y:=fun y=>by rw [List.take_succ_eq_append_getElem cX];exact Ky (hS.ne cX) y
  refine ew ?_;obtain⟨gF,js,iU,aT,fl,bz,ck,di⟩:=Rd.at (As.gr bE.g7) cX;obtain⟨q1,q2,q3,rfl,qz,pg⟩:=bz;have bZ:=bE.fg di ck;have cG:=bZ.fr qz;refine nx ?_;refine WP .r (PV.fC jk aT rfl rfl (by omega))<|(bA) dn (As.om cG.g1)<|(fU) cG fun b7 w9 uR oo cF=>?_;refine(dA) gJ cF fun kN jv jC cP=>?_;refine cV ?_;have hN5:=cP.dc;refine WC.dS (m:=6) cP mixed<|(lX) iQ St.g5<|(CS) av St.g0<|(eu)<|?_;rintro kO ⟨Gh,cv⟩ _;refine WL.go rfl (OX.put eD iR (As.gm cv.g3) rfl rfl rfl fun qW FX BZ=>?_);have cK:=cv.p3.mS FX BZ;refine dy ?_;have ey:=cK.p4.p2;have dz:=St.XM (q:=⟨b7,q1,q2,q3⟩) ey (As.gr ey.g3) pg hfx;refine dC ?_;refine fx (i+1,_,_) ⟨dz.p2.drop.p2.drop.p1,⟨by omega,xT.put (q:=⟨b7,q1,q2,q3⟩) hfx,trivial⟩⟩
 simp at g24
 have Gi:x.ao.take i=x.ao:=List.take_of_length_le (by omega);rw [Gi] at xT;have bZ:=bE.p1.CE (B:=As.qn 60 lf x.ao) (by rw [Gi]);refine(cj) ?_;exact⟨⟨ar,f1,f4,r,cr,f2,f3,f5,f6,rI,d1⟩,(⟨ar,a1,a2,r,cr,n1,e1,n2,e2,d2,d3,d1⟩:SD),tB,lf,ml,_,rfl,xT,qX,(As.gf bZ.g3),(As.gr bZ.g6),bZ.p3.drop.p5.drop.p5.drop.p5.drop.p5.drop.p5.drop.p5.drop.p5.drop.p1.p2.p4.p4⟩
end Go.Rc

