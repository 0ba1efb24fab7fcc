/- Walks over the program, part WZl. Conditions: as each theorem says. -/
import Derived.Test.YtpoiojafnnaccaaGreatDoorUFacts
import Derived.Test.YtpoiojafnnaccaaGreatDoorUWZi
import Derived.Test.YtpoiojafnnaccaaGreatDoorUWZh
import Derived.Test.YtpoiojafnnaccaaGreatDoorUBg
import Derived.Test.YtpoiojafnnaccaaGreatDoorUBh
import Derived.Test.YtpoiojafnnaccaaGreatDoorUWY
import Derived.Test.YtpoiojafnnaccaaGreatDoorUWUa
import Derived.Test.YtpoiojafnnaccaaGreatDoorUWZb
set_option linter.all false
namespace Go.Rc
open Go Go.Proofs Go.Proofs.Tryz
variable {ab:List aJ}{x:dV}{t:xa}{n r cr d c:Nat}{w:World}{M Z:Nat→Prop}{ar a:Option Addr}{m:Int}{l:List Key}
set_option maxHeartbeats 400000
set_option maxHeartbeats 4000000 in
theorem I9{rev:Int}{D:SD}{A:Nk}(hR:ay ab) (bF:St w M Z w [As.mx prog 144 ab x D]) (ht:oy prog Z w) (hA:t.In A Z w) (hk:TR ab x.ah rev n t) (hn:n≤90000):Calls prog 40 #[.pointer (some ⟨D.s,0,none⟩),.agg (t.row A).toArray] w fun e w'=>∃(t':xa) (A':Nk) (d:Bool) (er:Int) (Z':Nat→Prop),e=.returned (.tuple #[.agg (t'.row A').toArray,.bool d,.int .i64 er])∧TR ab x.ah rev (n+1) t'∧(TO ab x t→er=0∧TO ab x t')∧t'.In A' Z' w'∧cQ w.heap.size Z Z'∧St w M Z' w' [As.mx prog 144 ab x D]:=by
 have hsz:=hk.sz hR (by omega);obtain⟨hu,hi,hr,hg,hf,hp⟩:=id hA;have lp:=hp.len;have lf:=hf.len;have lg:=hg.len;refine enter func40 rfl ntmps40 rfl<|?_;have aW:=bF;have st1:=aW.fr hu;have st2:=st1.fr hi;have aP:=st2.fr hr;have aV:=aP.fr hg;have bf:=aV.fr hf;have br:=bf.fr hp;have bP:=br.fact (B:=As.fz (FZ.LH prog)) ht (fun _ hx=>hx);refine(eD) bP fun b3 w1 ic dA bS=>?_;refine(fT) bS fun b4 w2 jS bL bX=>?_;refine(bz) iE bX.b1<|?_;have aM:=bX;refine(df) YE (sB aM.e0 ⟨(As.gr aM.g8),(As.gr aM.g7),(As.gr aM.g6),(As.gr aM.g5),(As.gr aM.g4),(As.gr aM.g3)⟩ hsz) ?_;rintro _ w3 ⟨A1,Z1,rfl,I6,gP,eG⟩;have aT:=St.lv aM eG gP;have Mw:=St.cK eG;have tk:=aM.size;have oN:=gP.le tk;have aY:=aT.fr (I6.u);have bG:=aY.fr (I6.i);have bB:=bG.fr (I6.r);have bd:=bB.fr (I6.g);have aU:=bd.fr (I6.f);have lnp:=((As.gs aU.g5)).len;have lgg:=((As.gr aU.g1)).len;have lgf:=((As.gr aU.g0)).len;have hnr:=hk.nr;have hns:=hk.ns;have hng:=hk.ng;have bM:=aU.O1.drop;have bO:=bM.yH.drop;have bD:=bO.Lv.drop;have cx:=bD.pJ.drop;have cG:=cx.sL.drop;have cF:=cG.p9.drop;refine(dB) rY cF.p7 fun w4 jC jI cM=>?_;refine(bN) HY cM.b0<|(bp) (fun g18=>?_) fun g18=>?_
 ·
  simp at g18
  have mR:t.stack=[]:=List.eq_nil_of_length_eq_zero (by omega);refine(bN) fE cM.b0<|(bp) (fun g22=>?_) fun g22=>?_
  ·
   skip
   refine(bz) iE cM.b0<|(dB) rY cM.p7 fun w5 r7 mR cv=>?_;refine gp ?_;have cI:=cv.p7.bV (by omega);have pH:=oN.trans (cQ.fo (F:=fun x=>x∈aL A1.p) Mw) tk;refine EX.je rfl (RS.cell iE rfl cI.b1 rfl<|RS.tmp rfl<|RS.tmp rfl<|RS.nil) rfl<|?_;exact⟨t,A1,false,0,_,rfl,hk.mono (by omega),(fun h=>⟨rfl,h⟩),⟨(As.gr cI.g7),(As.gr cI.g6),(As.gr cI.g5),(As.gr cI.g4),(As.gr cI.g3),(As.gr cI.g0)⟩,pH,cI.p9.k1⟩
  simp at g22
  have hg0:0<t.goals.length:=by omega
  have LM:=hk.ok.goals t.goals[0] (List.getElem_mem hg0);refine dw ?_;obtain⟨gE,js,iT,aS,fi,bq,bY,di⟩:=Rd.at (As.gr cM.g2) hg0;have bq:=RR.cH bq;subst bq;have cv:=cM.fg di bY;refine(bN) fE cv.b1<|?_;refine WP .r (PV.Ls fL (0) aS rfl rfl (by omega) (by omega))<|(bz) av (As.nh cv.g0)<|(fT) cv fun b7 w5 tJ nT cI=>?_;refine(dB) jH cI fun w6 Ej td ef=>?_;refine(bN) fE ef.b2<|?_;refine WP .r (PV.zN fL (i:=1) (As.gr ef.g4) rfl rfl (by omega))<|nx ?_;refine WL.s1 ef.p2 fun w7 _ dh=>?_;refine nx ?_;have eC:=dh.fr (SR.drop (i:=1) (As.gr dh.g4) (by omega));refine(kl) aN eC.b1<|(bz) av eC.b2<|(gw) (vO (k:=t.goals[0]) (As.gr eC.g7) (As.gr eC.g6) (Rd.nil _ _ _ _)) eC fun w8 s8 cT=>?_;refine(bp) (fun NN=>?_) fun NN=>?_
  ·
   have rj:=Fb NN;have Ri:=cT.size;refine(bz) av cT.b2<|?_;refine WP .r (PV.cD (us:=((⟨t.goals[0],false,0,[],[]⟩:eH).row none 0 0 none 0 0)) Yk rfl rfl rfl)<|?_;refine WL.go rfl (OX.bA (us:=((⟨t.goals[0],false,0,[],[]⟩:eH).row none 0 0 none 0 0)) AV rfl rfl rfl rfl fun b38 w9 agx ane=>?_);have dO:=cT.eW agx ane;refine nx ?_;refine WL.s1 dO.p2 fun kM _ cU=>?_;refine(bz) iE cU.b0<|(dB) rY cU.pJ fun kN RZ wX dz=>?_;refine jo ?_;have dt:=dz.pJ.bV (by omega);have pH:=oN.trans (cQ.fo (F:=fun x=>x∈aL A1.p) Mw) tk;have eK:=dt.p3;have dD:=eK.conv (B:=As.os RR.qU 96 6 (some ⟨b38,0,none⟩) 1 1 [⟨t.goals[0],false,0,[],[]⟩]) (OR.eP (As.gb eK.g0) (Nat.zero_le _) rfl (eH.one _ _ _ _ _ _ _) ⟨none,0,0,none,0,0,rfl,Rd.nil _ _ _ _,Rd.nil _ _ _ _,by simp,by simp⟩) (fun x h=>by show x=b38;change x∈aL (some ⟨b38,0,none⟩) at h;simpa [aL] using h)
   have anf:∀x∈aL (some ⟨b38,0,none⟩:Option Addr),w.heap.size≤x:=fun x h=>by
    obtain rfl:x=b38:=by simpa [aL] using h
    have:=agx.ge
    omega
   have ew:=dD.bV (by simp);have Lh:=pH.trans (cQ.fo (F:=fun x=>x∈aL (some ⟨b38,0,none⟩)) anf) (Nat.le_refl _);refine EX.je rfl (RS.cell iE rfl ew.b2 rfl<|RS.tmp rfl<|RS.tmp rfl<|RS.nil) rfl<|?_;exact⟨{t with goals:=t.goals.drop 1,stack:=[⟨t.goals[0],false,0,[],[]⟩]},{A1 with g:=kR A1.g 1 2 A1.cg,ng:=A1.ng - 1,cg:=A1.cg - 1,f:=some ⟨b38,0,none⟩,nf:=1,cf:=1},true,0,_,rfl,(hk.mono (by omega)).begin LM rj (by omega),(fun h=>⟨rfl,h.begin hR mR LM NN _⟩),⟨(As.gr ew.g11),(As.gr ew.g10),(As.gr ew.g9),(As.gr ew.g4),(As.gr ew.g0),(As.gr ew.g1)⟩,Lh,ew.yH.k1⟩
  skip
  refine(bz) iE cT.b1<|(dB) rY cT.sL fun w9 R6 Hf dO=>?_;refine jo ?_;have cU:=dO.sL.bV (by omega);have pH:=oN.trans (cQ.fo (F:=fun x=>x∈aL A1.p) Mw) tk;refine EX.je rfl (RS.cell iE rfl cU.b1 rfl<|RS.tmp rfl<|RS.tmp rfl<|RS.nil) rfl<|?_;exact⟨{t with goals:=t.goals.drop 1},{A1 with g:=kR A1.g 1 2 A1.cg,ng:=A1.ng - 1,cg:=A1.cg - 1},true,0,_,rfl,(hk.mono (by omega)).acA,(fun h=>⟨rfl,h.goals _⟩),⟨(As.gr cU.g10),(As.gr cU.g9),(As.gr cU.g8),(As.gr cU.g2),(As.gr cU.g6),(As.gr cU.g0)⟩,pH,cU.Lv.k1⟩
 simp at g18
 have jI:t.stack≠[]:=by intro h;rw [h] at lgf;simp at lgf;omega
 refine(kl) aN cM.b0<|(bN) HY cM.b0<|?_;have cv:=cM.p9;refine(df) ajZ (Gi hR cv.e1 (As.gf cv.g9) (As.gr cv.g5) (As.gr cv.g4) (As.gr cv.g2) hk.ok.base hk.ok.stack jI (by omega)) ?_;rintro _ w5 ⟨b2,l2,rk2,d2,er2,b1,b3,bl,bk,m1,d1,m3,d3,ml,dl,mk,dk,Z2,rfl,eZ,pP,ang,h1k,h1l,agy,anh,ani,anj,BL,ja⟩;have cI:=St.lv cv ja BL;have pC:=cv.size;have kZ:=oN.trans BL pC;have auu:∀x∈aL A1.p,w.heap.size≤x:=fun x hx=>Nat.le_trans tk (Mw x hx);have ef:=cI.fr (anh);have dh:=ef.fr (ani);have eC:=dh.fr (anj);have lnk:=((As.gs eC.g4)).len;refine(fT) eC fun b8 w6 Bn jm cT=>?_;refine(dB) gg cT fun w7 VW VX dO=>?_;refine bC ?_;refine(bp) (fun uG=>?_) fun uG=>?_
 ·
  skip
  refine(bz) iE (cJ.range (As.gb dO.g6))<|(dB) rY dO.yH fun w8 Zo Zp cU=>?_;refine jo ?_;have dz:=cU.yH.bV (by omega);have pH:=kZ.trans (cQ.fo (F:=fun x=>x∈aL A1.p) Mw) tk;refine EX.je rfl (RS.cell iE rfl dz.b1 rfl<|RS.tmp rfl<|RS.tmp rfl<|RS.nil) rfl<|?_;exact⟨t,A1,false,er2,_,rfl,hk.mono (by omega),(fun h=>⟨(h.PN hR hk.ok.base.kC agy).1,h⟩),⟨(As.gr dz.g13),(As.gr dz.g12),(As.gr dz.g11),(As.gr dz.g10),(As.gr dz.g9),(As.gr dz.g0)⟩,pH,dz.p6.k1⟩
 skip
 refine dw ?_;have Ri:=dO.size;refine WC.dq (m:=7) [1] [5] [2,3,4,5,0,1,6] [] dO (ax.k4 M0 M1 M2 M3<|ax.k4 M4 M5 M6 M7<|ax.k4 M8 M9 mF nP<|ax.cons zt<|ax.cons GL<|ax.nil) mixed (by kernel_rfl) (by kernel_rfl) rfl<|(wS) fE SV.g6<|(jD) (fun w8 R7 CY cU qO=>?_);simp only [CA,NA] at cU;refine OX.pa tg rfl rfl rfl (As.gs cU.g12) (Ow.rd (As.gs cU.g5) (by omega)) (by show(A1.np+mk)*_≤_;omega) (by show A1.np+mk≤_;omega) (Nat.zero_le _) fun a62 anl w9 anm s62 agz auv=>?_;have dz:=cU.Lv.iY s62 anm agz;refine⟨s62.size,_,rfl,_,_,_,dz,aC.k4<|aC.k4<|aC.k4<|aC.k2<|aC.cons<|aC.nil,ax.k4 M1 M2 M3 M4<|ax.k4 M5 M6 M7 M8<|ax.k4 M9 mF nP uS<|ax.cons zt<|ax.cons GL<|ax.nil,?_⟩;refine(oz) aN SV.g0<|?_
 iterate 2 refine DG.a ?_
 refine(oa) ?_;intro kM Ix dt;simp only [CM,NM,CA,NA,lA.it] at dt;refine WL.go rfl (OX.W3 gg (As.gb dt.g7) rfl rfl rfl rfl rfl fun kN ss7 hs7=>?_);have eK:=dt.p7.Hc ss7 hs7;refine nx ?_;refine WL.s1 eK fun qL _ dD=>?_;refine nx ?_;refine WL.s1 dD fun uN _ ew=>?_;refine WL.nil (EX.np ?_);refine(bz) iE ew.b0<|(dB) rY ew.yH fun yX ss8 hs8 fk=>?_;refine eA ?_;have eY:=fk.p2.bV (by rw [List.length_append];omega)
 have Wb:∀x∈aL a62,w.heap.size≤x:=fun x hx=>by rcases agz x hx with h | h;exact Nat.le_trans tk (Mw x h);omega
 have pH:=kZ.trans (cQ.fo (F:=fun x=>x∈aL a62) Wb) (Nat.le_refl _);refine EX.je rfl (RS.cell iE rfl eY.b1 rfl<|RS.tmp rfl<|RS.tmp rfl<|RS.nil) rfl<|?_;exact⟨{t with base:=b2,stack:=l2,bU:=t.bU++rk2},{A1 with i:=b1,ni:=m1,ci:=d1,r:=b3,nr:=m3,cr:=d3,f:=bl,nf:=ml,cf:=dl,p:=a62,np:=A1.np+mk,cp:=anl},d2,0,_,rfl,hk.next eZ pP ang h1k h1l,(fun h=>⟨rfl,(h.PN hR hk.ok.base.kC agy).2⟩),⟨(As.gr eY.g13),(As.gr eY.g6),(As.gr eY.g5),(As.gr eY.g10),(As.gr eY.g4),(As.gr eY.g0)⟩,pH,eY.p7.k1⟩
set_option maxHeartbeats 4000000 in
theorem Li{A:Nk}{most:Nat}(hR:ay ab) (bF:St w M Z w []) (ht:oy prog Z w) (hA:t.In A Z w) (hk:TR ab t.base.ah t.base.ae 0 t) (Ai:iC t.ab t.base t.goals=0) (hm:most≤80000):Calls prog 14 #[.agg (t.row A).toArray,.int .i64 (most:Int)] w fun e w'=>∃(t':xa) (A':Nk) (i er:Int) (Z':Nat→Prop),e=.returned (.tuple #[.agg (t'.row A').toArray,.int .i64 i,.int .i64 er])∧TR ab t.base.ah t.base.ae 80000 t'∧(Bh ab t.base→er=0∧TO ab t.base t')∧t'.In A' Z' w'∧cQ w.heap.size Z Z'∧St w M Z' w' []:=by
 have hsz:=hk.sz hR (by omega);obtain⟨hu,hi,hr,hg,hf,hp⟩:=id hA;have agA:t.stack=[]:=List.eq_nil_of_length_eq_zero (by have:=hk.ns;omega);have ann:t.bU=[]:=List.eq_nil_of_length_eq_zero (by have:=hk.nr;omega);have agB:Bh ab t.base→TO ab t.base t:=fun h=>TO.of h agA ann;refine enter func14 rfl ntmps14 rfl<|?_;have aW:=St.rb bF;have st1:=aW.fr hu;have st2:=st1.fr hi;have aP:=st2.fr hr;have aV:=aP.fr hg;have bf:=aV.fr hf;have br:=bf.fr hp;have bP:=br.fact (B:=As.fz (FZ.LH prog)) ht (fun _ hx=>hx);refine(eD) bP fun b2 w1 lB eZ bS=>?_;refine(fT) bS fun b4 w2 jS bL bX=>?_;refine(bz) iE bX.b1<|?_;have aM:=bX;refine(df) YE (sB aM.e0 ⟨(As.gr aM.g8),(As.gr aM.g7),(As.gr aM.g6),(As.gr aM.g5),(As.gr aM.g4),(As.gr aM.g3)⟩ hsz) ?_;rintro _ w3 ⟨A1,Z1,rfl,I6,gP,eG⟩;have aT:=St.lv aM eG gP;have Mw:=St.cK eG;have tk:=aM.size;have oN:=gP.le tk;have aY:=aT.fr (I6.u);have bG:=aY.fr (I6.i);have bB:=bG.fr (I6.r);have bd:=bB.fr (I6.g);have aU:=bd.fr (I6.f);have aat:=St.fresh aU.p5;have bM:=aU.p5.bV (by have:=hk.nr;omega);have kZ:=oN.trans (cQ.fo (F:=fun x=>x∈aL A1.p) Mw) tk;have bO:=bM.O1.drop;have bD:=bO.yH.drop;have cx:=bD.Lv.drop;have cG:=cx.pJ.drop;have cF:=cG.sL.drop;have cM:=cF.p9.drop;refine(dB) rY cM.p7 fun w4 jC jI cv=>?_;refine(bp) (fun g15=>?_) fun g15=>?_
 ·
  simp at g15
  obtain rfl:most=0:=by omega
  refine(bz) iE cv.b0<|(dB) rY cv.p7 fun w5 r7 mR cI=>?_;refine jo ?_;refine EX.je rfl (RS.cell iE rfl cI.b0 rfl<|RS.tmp rfl<|RS.tmp rfl<|RS.nil) rfl<|?_;exact⟨t,A1,0,0,_,rfl,hk.mono (by omega),(fun h=>⟨rfl,agB h⟩),⟨(As.gr cI.g7),(As.gr cI.g6),(As.gr cI.g5),(As.gr cI.g4),(As.gr cI.g3),(As.gr cI.g2)⟩,kZ,(St.wk cI.k0)⟩
 skip
 refine(bz) iE cv.b0<|?_;have cI:=cv;refine(df) ajE (Db cI.e0 ⟨(As.gr cI.g6),(As.gr cI.g5),(As.gr cI.g4),(As.gr cI.g3),(As.gr cI.g2),(As.gr cI.g1)⟩ agA Ai) ?_;rintro _ w5 ⟨rfl,ja⟩;have ef:=St.lr cI ja;refine dw ?_;refine WC.iu rfl<|(bN) nE ef.b0<|(kl) aN ef.b0<|?_;have dh:=ef;refine(df) adC (BC (x:=t.base) dh.e0) ?_;rintro _ w6 ⟨d1,d2,d3,rfl,nL⟩;have eC:=St.lr dh nL;refine db ?_;have cT:=eC.p1.p1;have dO:=cT.join (C:=As.mx prog 144 ab t.base ⟨A1.u,A1.i,A1.r,A1.nu,A1.cu,A1.ni,A1.ci,A1.nr,A1.cr,d2,d3,d1⟩) ⟨cT.acr,(As.gb cT.g0),⟨[],ba.nil,(As.gm cT.g1)⟩,⟨hk.ok.U5 ▸ (As.gr cT.g9),(As.gr cT.g8),(As.gr cT.g7),(As.gf cT.g11)⟩⟩ (fun y h=>h);have cU:=dO.p1.drop;refine kJ ?_;refine WC.kj (σ:=Nat × xa × Nk × (Nat→Prop)) (eI:=fun(i,tt,A2,Z5)=>[(1,.int .i64 (most:Int)),(2,.pointer (some ⟨b2,0,none⟩)),(4,.pointer (some ⟨b4,0,none⟩)),(7,.pointer (some ⟨d1,0,none⟩)),(8,.int .i64 (i:Int))]) (F:=fun(i,tt,A2,Z5)=>[As.mx prog 144 ab t.base ⟨A1.u,A1.i,A1.r,A1.nu,A1.cu,A1.ni,A1.ci,A1.nr,A1.cr,d2,d3,d1⟩,As.blk b2 45 (tt.row A2),As.ro RR.gN 4 A2.u A2.nu A2.cu tt.ab,As.ro RR.aH 4 A2.i A2.ni A2.ci tt.base.ah,As.ro RR.fl 8 A2.r A2.nr A2.cr tt.base.ak,As.ro RR.key 2 A2.g A2.ng A2.cg tt.goals,As.ro RR.qU 6 A2.f A2.nf A2.cf tt.stack,As.ro RR.key 2 A2.p A2.np A2.cp tt.bU]) (I:=fun(i,tt,A2,Z5)=>(i≤most)∧(TR ab t.base.ah t.base.ae i tt)∧(Bh ab t.base→TO ab t.base tt)∧(cQ w.heap.size Z Z5)∧True) (μ:=fun(i,tt,A2,Z5)=>most - i) (Zf:=fun(i,tt,A2,Z5)=>Z5) (0,t,A1,_) (cU.p2.p3.p4.p5.p6.p7.p7.p7) Sub.t (⟨Nat.zero_le _,hk,agB,kZ,trivial⟩)<|?_;rintro⟨i,tt,A2,Z5⟩ w7 dz ⟨Uh,hk5,Eh,nV,_⟩;simp only [CA,NA] at dz Uh hk5 Eh nV ⊢;refine(bp) (fun iU=>?_) fun iU=>?_
 ·
  simp at iU
  refine(bz) iE dz.b1<|?_;have dt:=dz;refine(df) ajF (I9 hR dt.e1 (As.gf dt.g9) ⟨(As.gr dt.g2),(As.gr dt.g3),(As.gr dt.g4),(As.gr dt.g5),(As.gr dt.g6),(As.gr dt.g7)⟩ hk5 (by omega)) ?_;rintro _ w8 ⟨t6,A6,d6,er6,Z6,rfl,hk6,aaL,hA6,IM,kF⟩;have eK:=St.lv dt kF IM;have B5:=nV.trans IM dt.size;have dD:=eK.fr (hA6.u);have ew:=dD.fr (hA6.i);have fk:=ew.fr (hA6.r);have eY:=fk.fr (hA6.g);have gu:=eY.fr (hA6.f);have gF:=gu.fr (hA6.p);refine(fT) gF fun b9 w9 QE Bw jb=>?_;refine(dB) rY jb fun kM Ej td gG=>?_;refine(bp) (fun vL=>?_) fun vL=>?_
  ·
   skip
   refine(bz) iE (cJ.range (As.gb gG.g8))<|(dB) rY gG.p15 fun kN RZ wX ig=>?_;refine nj ?_;refine EX.je rfl (RS.cell iE rfl ig.b0 rfl<|RS.tmp rfl<|RS.tmp rfl<|RS.nil) rfl<|?_;exact⟨tt,A2,(i:Int),er6,_,rfl,hk5.mono (by omega),(fun h=>⟨(aaL (Eh h)).1,Eh h⟩),⟨(As.gr ig.g10),(As.gr ig.g11),(As.gr ig.g12),(As.gr ig.g13),(As.gr ig.g14),(As.gr ig.g15)⟩,B5,(St.wk ig.k0)⟩
  skip
  refine(bp) (fun kE=>?_) fun kE=>?_
  ·
   skip
   refine(bz) iE gG.b0<|(dB) rY gG.p15 fun kN R6 Hf ig=>?_;refine nj ?_;refine EX.je rfl (RS.cell iE rfl ig.b0 rfl<|RS.tmp rfl<|RS.tmp rfl<|RS.nil) rfl<|?_;exact⟨t6,A6,(i:Int),0,_,rfl,hk6.mono (by omega),(fun h=>⟨rfl,(aaL (Eh h)).2⟩),⟨(As.gr ig.g7),(As.gr ig.g6),(As.gr ig.g5),(As.gr ig.g4),(As.gr ig.g3),(As.gr ig.g2)⟩,B5,(St.wk ig.k0)⟩
  have ig:=gG.p9.drop;have tm:=ig.p9.drop;have nX:=tm.p9.drop;have lS:=nX.p9.drop;have De:=lS.p9.drop;have xJ:=De.p9.drop;refine(bz) iE xJ.b0<|(dB) rY xJ.p8 fun kN VW VX Cg=>?_;refine dw ?_;refine fx (i+1,t6,A6,Z6) ⟨Cg.p1.drop.p2.p3.p4.p5.p6.p5.p7,⟨by omega,hk6,fun h=>(aaL (Eh h)).2,B5,trivial⟩⟩
 skip
 refine(bz) iE dz.b1<|(dB) rY dz.p8 fun w8 Zo Zp dt=>?_;refine eA ?_;refine EX.je rfl (RS.cell iE rfl dt.b0 rfl<|RS.tmp rfl<|RS.tmp rfl<|RS.nil) rfl<|?_;exact⟨tt,A2,(i:Int),0,_,rfl,hk5.mono (by omega),(fun h=>⟨rfl,Eh h⟩),⟨(As.gr dt.g3),(As.gr dt.g4),(As.gr dt.g5),(As.gr dt.g6),(As.gr dt.g7),(As.gr dt.g8)⟩,nV,(St.wk dt.k0)⟩
set_option maxHeartbeats 400000
theorem Ja(bF:St w M Z w [As.jR 74 d]) (hu:Rd RR.gN 4 Z w ar r cr ab) (h0:1≤ab.length) (h9:ab.length≤100):Calls prog 35 #[.pointer (some ⟨d,0,none⟩),.slice ar r cr] w fun e w'=>∃k:Key,e=.returned k.val∧pU ab k∧St w M Z w' [As.jR 74 d]:=by
 have hlen:=hu.len;refine enter func35 rfl ntmps35 rfl<|?_;have aW:=bF;have st1:=aW.fr hu;refine(fT) st1 fun b4 w1 jS bL st2=>?_;refine jo ?_;have aP:=st2.p2;refine(df) l7 (bZ aP.e1 (m:=8) (by omega)) ?_;rintro _ w2 ⟨z7,rfl,afP,IY,tj⟩;have aV:=St.lr aP tj;have IY:=IY (by omega);refine(bp) (fun g7=>?_) fun g7=>?_
 ·
  skip
  refine dw ?_;have bf:=aV;refine(df) l7 (bZ bf.e1 (m:=4) (by omega)) ?_;rintro _ w3 ⟨z4,rfl,Q6,IU,eG⟩;have br:=St.lr bf eG;have IU:=IU (by omega);refine(gw) (qn (n:=z4)) br fun w4 s4 bP=>?_;refine(dB) jH bP.p1 fun w5 jC jI bS=>?_;refine(mI) av bS.b0<|?_;exact⟨_,rfl,.inl ⟨z4,Q6,by omega,rfl⟩,bS.drop.p1.drop⟩
 skip
 refine jo ?_;have bf:=aV;refine(df) l7 (bZ bf.e1 (m:=2) (by omega)) ?_;rintro _ w3 ⟨z2,rfl,afK,IV,eG⟩;have br:=St.lr bf eG;have IV:=IV (by omega);refine(bp) (fun g13=>?_) fun g13=>?_
 ·
  skip
  refine qC ?_;refine WP .r (PV.Sp rfl rfl)<|?_;have bP:=br;refine(df) l7 (bZ bP.e1 (m:=min 3 (r:Int)) (by omega)) ?_;rintro _ w4 ⟨z22,rfl,ano,Rv,fN⟩;have bS:=St.lr bP fN;have Rv:=Rv (by omega);refine(gw) (l8 (n:=(r:Int) - 1 - z22) (As.gr bS.g2)) bS fun w5 s5 bX=>?_;refine(dB) jH bX.p1 fun w6 r7 mR aM=>?_;refine(mI) av aM.b0<|?_;obtain⟨i,hi⟩:∃i:Nat,(r:Int) - 1 - z22=i:=⟨((r:Int) - 1 - z22).toNat,by omega⟩;exact⟨_,rfl,.inr ⟨i,by omega,by rw [hi]⟩,aM.drop.p1.drop⟩
 skip
 refine kJ ?_;have bP:=br;refine(df) l7 (bZ bP.e1 (m:=(r:Int)) (by omega)) ?_;rintro _ w4 ⟨z5,rfl,apS,Wn,fN⟩;have bS:=St.lr bP fN;have Wn:=Wn (by omega);refine(gw) (l8 (n:=z5) (As.gr bS.g2)) bS fun w5 s5 bX=>?_;refine(dB) jH bX.p1 fun w6 Ej td aM=>?_;refine(mI) av aM.b0<|?_;obtain⟨i,rfl⟩:∃i:Nat,z5=i:=⟨z5.toNat,by omega⟩;exact⟨_,rfl,.inr ⟨i,by omega,rfl⟩,aM.drop.p1.drop⟩
theorem qv(bF:St w M Z w [As.jR 74 d]) (hu:Rd RR.gN 4 Z w ar r cr ab) (h0:1≤ab.length) (h9:ab.length≤100) (hm:1≤m) (jg:m≤1000):Calls prog 12 #[.pointer (some ⟨d,0,none⟩),.slice ar r cr,.int .i64 m] w fun e w'=>∃a n c,∃l:List Key,e=.returned (.slice a n c)∧(l.length:Int)≤m∧(∀x∈l,pU ab x)∧St w M Z w' [As.jR 74 d,As.os RR.key 58 2 a n c l]:=by
 have hlen:=hu.len;refine enter func12 rfl ntmps12 rfl<|?_;have aW:=bF;have st1:=aW.fr hu;have st2:=st1.eX RR.key 58 2;refine bC ?_;refine dw ?_;have aP:=st2.p2;refine(df) l7 (bZ aP.e1 (m:=m) (by omega)) ?_;rintro _ w1 ⟨z0,rfl,Q7,sr,BV⟩;have aV:=St.lr aP BV;have sr:=sr (by omega);obtain⟨z,rfl⟩:∃z:Nat,z0=z:=⟨z0.toNat,by omega⟩;refine eA ?_;refine WC.bQ (σ:=Nat × (List Key) × (Option Addr) × Nat × Nat) (eI:=fun(i,l,kf,gJ,kg)=>[(0,.pointer (some ⟨d,0,none⟩)),(1,.slice ar r cr),(7,.slice kf gJ kg),(8,.int .i64 (i:Int))]) (F:=fun(i,l,kf,gJ,kg)=>[As.os RR.key 58 2 kf gJ kg (l),As.jR 74 d]) (I:=fun(i,l,kf,gJ,kg)=>(l.length+i≤z+1)∧(∀x∈l,pU ab x)∧True) (μ:=fun(i,l,kf,gJ,kg)=>i) (z+1,[],none,0,0) (aV.p1) Sub.t (⟨by simp,by simp,trivial⟩)<|?_;rintro⟨i,l,kf,gJ,kg⟩ w2 bf ⟨hlz,En,_⟩;simp only [CA,NA] at bf hlz En ⊢;have Vd:=((As.gs bf.g0)).len;refine(bp) (fun g14=>?_) fun g14=>?_
 ·
  simp at g14
  refine kJ ?_;have br:=bf.p1;refine(df) ajD (Ja br.e1 (As.gr br.g2) h0 h9) ?_;rintro _ w3 ⟨x,rfl,hx,eG⟩;have bP:=St.lr br eG;refine WL.go rfl (OX.bA (us:=x.cells) fK rfl rfl rfl rfl fun b21 w4 aaG aaH=>?_);have bS:=bP.eW aaG aaH;refine WL.ap rfl rfl bS.p2 (SR.eP (A:=fun _=>True) (x:=x) (As.gb bS.g0) trivial rfl (by simp [Key.cells,Value.oneCell']) rfl) fun a22 anp w5 auy auz bX=>?_;refine qC ?_;refine fx (i - 1,l++[x],a22,(gJ+1),anp) ⟨bX.p1.drop,⟨by simp;omega,fun y hy=>by rcases List.mem_append.1 hy with h | h;exact En y h;simp at h;subst h;exact hx,trivial⟩⟩
 simp at g14
 refine(cm) ?_;exact⟨_,_,_,l,rfl,by omega,En,bf.p2.drop.p1⟩
set_option maxHeartbeats 4000000 in
theorem Gl{a1 a2:Option Addr}{n1 e1 n2 e2:Nat}(hR:ay ab) (bF:St w M Z w [As.jR 74 d]) (ht:oy prog Z w) (hu:Rd RR.gN 4 Z w ar r cr ab) (h0:1≤ab.length) (h9:ab.length≤100) (ri:Rd RR.aH 4 Z w a1 n1 e1 x.ah) (rc:Rd RR.fl 8 Z w a2 n2 e2 x.ak) (y8:LC ab x) (hm:0≤m) (jg:m≤1000):Calls prog 28 #[.pointer (some ⟨d,0,none⟩),.slice ar r cr,.agg (x.row a1 n1 e1 a2 n2 e2).toArray,.int .i64 m] w fun e w'=>∃(y:dV) (b1 b2:Option Addr) (m1 d1 m2 d2:Nat) (Z':Nat→Prop),e=.returned (.agg (y.row b1 m1 d1 b2 m2 d2).toArray)∧LC ab y∧y.ae≤x.ae+m∧Rd RR.aH 4 Z' w' b1 m1 d1 y.ah∧Rd RR.fl 8 Z' w' b2 m2 d2 y.ak∧cQ w.heap.size Z Z'∧St w M Z' w' [As.jR 74 d]:=by
 refine enter func28 rfl ntmps28 rfl<|?_;have aW:=bF;have st1:=aW.fr hu;have st2:=st1.fr ri;have aP:=st2.fr rc;have aV:=aP.fact (B:=As.fz (FZ.LH prog)) ht (fun _ hx=>hx);refine(eD) aV fun b6 w1 mV eM bf=>?_;refine(fT) bf fun b8 w2 Bn jm br=>?_;refine kJ ?_;have bP:=br.p6;refine(df) l7 (bZ bP.e1 (m:=m+1) (by omega)) ?_;rintro _ w3 ⟨z0,rfl,Q7,sr,eG⟩;have bS:=St.lr bP eG;have sr:=sr (by omega);obtain⟨z,rfl⟩:∃z:Nat,z0=z:=⟨z0.toNat,by omega⟩;refine dF ?_;refine WC.kj (σ:=Nat × dV × (Option Addr) × Nat × Nat × (Option Addr) × Nat × Nat × (Nat→Prop)) (eI:=fun(i,y,a1,n1,e1,a2,n2,e2,Z5)=>[(0,.pointer (some ⟨d,0,none⟩)),(1,.slice ar r cr),(6,.pointer (some ⟨b6,0,none⟩)),(8,.pointer (some ⟨b8,0,none⟩)),(9,.int .i64 (i:Int))]) (F:=fun(i,y,a1,n1,e1,a2,n2,e2,Z5)=>[As.jR 74 d,As.blk b6 31 (y.row a1 n1 e1 a2 n2 e2),As.ro RR.aH 4 a1 n1 e1 y.ah,As.ro RR.fl 8 a2 n2 e2 y.ak]) (I:=fun(i,y,a1,n1,e1,a2,n2,e2,Z5)=>(LC ab y)∧(i≤z)∧(y.ae≤x.ae+((z:Int) - i))∧(cQ w.heap.size Z Z5)∧True) (μ:=fun(i,y,a1,n1,e1,a2,n2,e2,Z5)=>i) (Zf:=fun(i,y,a1,n1,e1,a2,n2,e2,Z5)=>Z5) (z,x,a1,n1,e1,a2,n2,e2,Z) (bS.p4.p5.p4.p3) Sub.t (⟨y8,Nat.le_refl _,by omega,cQ.refl _ _,trivial⟩)<|?_;rintro⟨i,y,a1,n1,e1,a2,n2,e2,Z5⟩ w4 bX ⟨y8,hiz,Xs,nV,_⟩;simp only [CA,NA] at bX y8 hiz Xs nV ⊢;have MB:=y8.lb.ok.yM;have hyr:y.ak.length≤4000:=y8.lb.ok.kC.len;refine(bp) (fun g17=>?_) fun g17=>?_
 ·
  simp at g17
  refine gp ?_;have aM:=bX;refine(df) l7 (bZ aM.e1 (m:=8) (by omega)) ?_;rintro _ w5 ⟨z8,rfl,afQ,IZ,ja⟩;have aT:=St.lr aM ja;have IZ:=IZ (by omega);refine nj ?_;have aY:=aT;refine WC.nk (σ:=Bool) [] (fun pk=>[(0,.pointer (some ⟨d,0,none⟩)),(1,.slice ar r cr),(6,.pointer (some ⟨b6,0,none⟩)),(8,.pointer (some ⟨b8,0,none⟩)),(9,.int .i64 (i:Int)),(21,.int .i64 z8),(32,.bool pk)]) (fun pk=>[]) (fun pk=>True) aY ?_ ?_
  ·
   refine(bp) (fun uV=>?_) fun uV=>?_
   ·
    skip
    refine nx ?_;exact tw (decide (z8=0)) ⟨aY,trivial⟩
   skip
   refine(bp) (fun uV=>?_) fun uV=>?_
   ·
    skip
    refine nx ?_;exact tw (decide (z8=1)) ⟨aY,trivial⟩
   skip
   refine dF ?_;exact tw (decide (z8=2)) ⟨aY,trivial⟩
  rintro pk w6 bG _;simp only [CA,NA] at bG ⊢;refine(bp) (fun uV=>?_) fun uV=>?_
  ·
   skip
   refine WC.dq (m:=7) [6] [2,3] [1,2,0,3,4,5,6] [] bG (ax.k4 M1 M2 M3 M4<|ax.cons M5<|ax.cons M6<|ax.nil) mixed (by kernel_rfl) (by kernel_rfl) rfl<|(jD) (fun w7 Q1 BW bB sj=>?_);simp only [CA,NA] at bB;have bd:=bB;refine OX.call adx rfl rfl ((sq bd.e1 (by decide) (by decide)).mono ?_);rintro _ w8 ⟨ca,cn,cc,ch,rfl,ru,En,kF⟩;have aU:=St.lr bd kF;have QV:=St.AB kF;have Lj:=bd.size;have UE:=((As.gs aU.g1)).len;have bM:=aU.p1.bV (by omega);have B5:=nV.trans (cQ.fo (F:=fun x=>x∈aL ca) QV) Lj;refine⟨_,rfl,kF.cX.size,_,rfl,_,_,_,bM,aC.k4<|aC.k4<|aC.nil,ax.k4 M2 M3 M4 M5<|ax.cons M6<|ax.cons M7<|ax.nil,?_⟩;refine(oz) aN SV.g0<|(jD) (fun w9 ZU La bO BZ=>?_);simp only [CA,NA] at bO;have bD:=bO;refine OX.call cf9 rfl rfl ((wi (x:=y) bD.e0 (As.gr bD.g3) (As.gr bD.g4) (As.gr bD.g0) y8.lb.ok.mB y8.lb.aH En (by omega)).mono ?_);rintro _ kM ⟨y2,b1,b2,m1,d1,m2,d2,er,Z8,rfl,aaM,hv0,Jt,hG,aaN,R0,hap,_,Mq,hbc,sC,jy⟩;have cx:=St.lv bD jy sC;have Lh:=B5.trans sC bD.size;have cG:=cx.fr (Mq);have cF:=cG.fr (hbc);refine⟨_,rfl,jy.cX.size,_,rfl,_,_,_,cF,aC.k4<|aC.k4<|aC.k2<|aC.nil,ax.k4 M4 M5 M6 M7<|ax.cons M8<|ax.cons M9<|ax.nil,?_⟩
   iterate 3 refine DG.a ?_
   refine(oa) ?_;intro kN Uc cM;simp only [CM,NM,CA,NA,lA.it] at cM;refine(dB) gg cM.p4 fun qL jC jI cv=>?_;refine WL.nil (EX.np ?_);have cI:=cv.p5.drop;have ef:=cI.p5.drop;refine kJ ?_;refine fx (i - 1,y2,b1,m1,d1,b2,m2,d2,Z8) ⟨ef.p3.drop.p2.p1.p3,⟨y8.apply hap aaM hv0 Jt hG aaN,by omega,by show y2.ae≤x.ae+((z:Int) - ((i - 1:Nat):Int));omega,Lh,trivial⟩⟩
  skip
  refine(bp) (fun oh=>?_) fun oh=>?_
  ·
   skip
   refine nx ?_;refine WC.dq (m:=10) [8] [4,5] [2,3,4,0,1,5,6,7,8,9] [(9,.blk 45 [.slice none 0 0,.int .i64 0,.slice none 0 0,.slice none 0 0,.slice none 0 0,.slice none 0 0,.slice none 0 0])] bG (ax.k4 M1 M2 M3 M4<|ax.cons M5<|ax.cons M6<|ax.nil) mixed (by kernel_rfl) (by kernel_rfl) rfl<|?_
   iterate 2 refine DG.a ?_
   refine(jD) (fun w7 Up FX bB sk=>?_);simp only [CA,NA] at bB;have bd:=bB;refine OX.call Yz rfl rfl ((qv bd.e1 (As.gr bd.g6) (by omega) (by omega) (by decide) (by decide)).mono ?_);rintro _ w8 ⟨ga,gn,gc,gl,rfl,agD,xT,kF⟩;have aU:=St.lr bd kF;have QV:=St.AB kF;have Lj:=bd.size;have UE:=((As.gs aU.g1)).len;have bM:=aU.p1.bV (by omega);have B5:=nV.trans (cQ.fo (F:=fun x=>x∈aL ga) QV) Lj;obtain⟨f,s',Ai,uj,yF,dR,qY,UF,hrq,_⟩:=y8.req hR xT (by omega);refine⟨_,rfl,kF.cX.size,_,rfl,_,_,_,bM,aC.k4<|aC.k4<|aC.nil,ax.k4 M2 M3 M4 M5<|ax.cons M6<|ax.cons M7<|ax.nil,?_⟩;refine(oz) aN SV.g0<|(jD) (fun w9 R7 CY bO qO=>?_);simp only [CA,NA] at bO;have bD:=bO;refine OX.call aju rfl rfl ((Gd bD.e0 (As.gr bD.g7) (As.gr bD.g3) (As.gr bD.g4) (As.gr bD.g0) ((y8.lb.start yF (by omega)).sz hR (by omega)) Ai).mono ?_);rintro _ kM ⟨A7,Z7,rfl,hA7,Rn,jy⟩;have cx:=St.lv bD jy Rn;have N9:=B5.trans Rn bD.size;have cG:=cx.fr (hA7.u);have cF:=cG.fr (hA7.i);have cM:=cF.fr (hA7.r);have cv:=cM.fr (hA7.g);have cI:=cv.fr (hA7.f);have ef:=cI.fr (hA7.p);refine⟨_,rfl,jy.cX.size,_,rfl,_,_,_,ef,aC.k4<|aC.k4<|aC.k4<|aC.k2<|aC.nil,ax.k4 M8 M9 mF nP<|ax.cons uS<|ax.cons zt<|ax.nil,?_⟩
   iterate 3 refine DG.a ?_
   refine DG.side (s:=.blk 45 [.slice none 0 0,.int .i64 0,.slice none 0 0,.slice none 0 0,.slice none 0 0,.slice none 0 0,.slice none 0 0]) rfl rfl rfl rfl rfl rfl (fun wx Zx Rx BX fV=>OX.alloc adp rfl fun b wy nw hb=>⟨nw.ext.size,_,rfl,⟨b,rfl⟩,fV.eW nw hb⟩)<|?_;rintro _ ⟨jd,rfl⟩;refine(oa) ?_;intro kN Q3 dh;simp only [CM,NM,CA,NA,lA.it] at dh;refine(dB) rY dh fun qL r7 mR eC=>?_;refine nx ?_;refine WL.nil (EX.np ?_);refine(bp) (fun Be=>?_) fun Be=>?_
   ·
    skip
    refine nx ?_;refine WC.dq (m:=8) [6,7] [2,3] [1,2,0,3,4,5,6,7] [] eC (ax.k4 M0 M1 M2 M3<|ax.k4 M4 M5 M6 M7<|ax.k4 M9 mF nP uS<|ax.cons zt<|ax.cons GL<|ax.nil) mixed (by kernel_rfl) (by kernel_rfl) rfl<|(jD) (fun uN Q1 BW cT sj=>?_);simp only [CA,NA] at cT;have dO:=cT.p8;refine OX.call l7 rfl rfl ((bZ dO.e1 (m:=30) (by omega)).mono ?_);rintro _ yX ⟨z3,rfl,afL,IW,B6⟩;have cU:=St.lr dO B6;have IW:=IW (by omega);obtain⟨mo,rfl⟩:∃mo:Nat,z3=mo:=⟨z3.toNat,by omega⟩;refine⟨_,rfl,B6.cX.size,_,rfl,_,_,_,cU,aC.k4<|aC.k4<|aC.k4<|aC.k2<|aC.cons<|aC.nil,ax.k4 M1 M2 M3 M4<|ax.k4 M5 M6 M7 M8<|ax.k4 M9 mF nP uS<|ax.cons zt<|ax.cons GL<|ax.nil,?_⟩;refine(oz) iE SV.g0<|(jD) (fun uO ZU La dz BZ=>?_);simp only [CA,NA] at dz;have dt:=dz;refine OX.call ajv rfl rfl ((Li hR dt.e0 (As.gf dt.g13) ⟨(As.gr dt.g7),(As.gr dt.g6),(As.gr dt.g5),(As.gr dt.g4),(As.gr dt.g3),(As.gr dt.g2)⟩ (y8.lb.start yF (by omega)) Ai (by omega)).mono ?_);rintro _ yY ⟨t8,A8,i8,er8,Z9,rfl,hk8,anr,hA8,agE,Wo⟩;have eK:=St.lv dt Wo agE;have pH:=N9.trans agE dt.size;have dD:=eK.fr (hA8.u);have ew:=dD.fr (hA8.i);have fk:=ew.fr (hA8.r);have eY:=fk.fr (hA8.g);have gu:=eY.fr (hA8.f);have gF:=gu.fr (hA8.p);refine⟨_,rfl,Wo.cX.size,_,rfl,_,_,_,gF,aC.k4<|aC.k4<|aC.k4<|aC.k4<|aC.k4<|aC.cons<|aC.nil,ax.k4 M7 M8 M9 mF<|ax.k4 nP uS zt GL<|ax.k4 UH M16 M17 M18<|ax.cons M19<|ax.cons M20<|ax.nil,?_⟩
    iterate 4 refine DG.a ?_
    refine(oa) ?_;intro El Ix jb;simp only [CM,NM,CA,NA,lA.it] at jb;refine(dB) rY jb.p7 fun Cr Ej td gG=>?_;refine WL.nil (EX.np ?_);refine nx ?_;have ig:=gG.yH.drop;have tm:=ig.Lv.drop;have nX:=tm.pJ.drop;have lS:=nX.sL.drop;have De:=lS.p9.drop;have xJ:=De.p8.drop;have Cg:=xJ.p8.drop;refine(bz) iE Cg.b0<|?_;have qu:=Cg;refine(df) ajw (Da qu.e0 ⟨(As.gr qu.g6),(As.gr qu.g5),(As.gr qu.g4),(As.gr qu.g3),(As.gr qu.g2),(As.gr qu.g1)⟩ (hk8.sz hR (by omega))) ?_;rintro _ Ip ⟨rs,b1,b2,m1,d1,m2,d2,Z8,rfl,j4,ant,Mq,hbc,sC,I1⟩;have Gj:=St.lv qu I1 sC;have Lh:=pH.trans sC qu.size;have y9:=Gj.fr (Mq);have Rt:=y9.fr (hbc);refine(dB) gg Rt.sL fun Mt RZ wX Gk=>?_;refine nx ?_;have Oa:=Gk.pJ.drop;have UD:=Oa.pJ.drop;refine kJ ?_;refine fx (i - 1,⟨t8.base.ae,t8.base.ah,rs⟩,b1,m1,d1,b2,m2,d2,Z8) ⟨UD.p3.drop.p3.drop.p3.drop.p3.drop.p3.drop.p3.drop.p3.drop.p2.p1.p3,⟨by rw [ant];exact y8.task hk8.ok.base (anr y8.bh).2,by omega,by have h9:t8.base.ae=y.ae:=hk8.ok.base.rv;show t8.base.ae≤x.ae+((z:Int) - ((i - 1:Nat):Int));omega,Lh,trivial⟩⟩
   exact absurd Be (by simp)
  skip
  refine(bp) (fun g66=>?_) fun g66=>?_
  ·
   skip
   refine dw ?_;have bB:=bG;refine(df) l7 (bZ bB.e1 (m:=3) (by omega)) ?_;rintro _ w7 ⟨z9,rfl,afR,I0,ke⟩;have bd:=St.lr bB ke;have I0:=I0 (by omega);refine(bp) (fun g70=>?_) fun g70=>?_
   ·
    skip
    refine WC.dq (m:=8) [6,7] [2,3] [1,2,0,3,4,5,6,7] [] bd (ax.k4 M1 M2 M3 M4<|ax.cons M5<|ax.cons M6<|ax.nil) mixed (by kernel_rfl) (by kernel_rfl) rfl<|(jD) (fun w8 Q1 BW aU sj=>?_);simp only [CA,NA] at aU;have bM:=aU;refine OX.call l7 rfl rfl ((bZ bM.e1 (m:=200) (by omega)).mono ?_);rintro _ w9 ⟨zb,rfl,apT,Wp,my⟩;have bO:=St.lr bM my;have Wp:=Wp (by omega);refine⟨_,rfl,my.cX.size,_,rfl,_,_,_,bO,aC.k4<|aC.k2<|aC.cons<|aC.nil,ax.k4 M1 M2 M3 M4<|ax.cons M5<|ax.cons M6<|ax.nil,?_⟩;refine(oz) aN SV.g0<|(jD) (fun kM ZU La bD BZ=>?_);simp only [CA,NA] at bD;have cx:=bD;refine OX.call ajy rfl rfl ((I5 cx.e0 (As.gr cx.g2) (As.gr cx.g3) y8.lb.ok.mB y8.lb.ok.small (by omega) (by omega)).mono ?_);rintro _ kN ⟨rs,b1,b2,m1,d1,m2,d2,va,vn,vc,Z8,rfl,j4,Mq,hbc,sC,wm⟩;have cG:=St.lv cx wm sC;have Lh:=nV.trans sC cx.size;have cF:=cG.fr (Mq);have cM:=cF.fr (hbc);refine⟨_,rfl,wm.cX.size,_,rfl,_,_,_,cM,aC.k4<|aC.k4<|aC.cons<|aC.nil,ax.k4 M3 M4 M5 M6<|ax.cons M7<|ax.cons M8<|ax.nil,?_⟩
    iterate 4 refine DG.a ?_
    refine(oa) ?_;intro qL aff cv;simp only [CM,NM,CA,NA,lA.it] at cv;refine(dB) gg cv.p3 fun uN R6 Hf cI=>?_;refine WL.nil (EX.np ?_);have ef:=cI.p4.drop;have dh:=ef.p4.drop;refine kJ ?_;refine fx (i - 1,⟨y.ae,y.ah,rs⟩,b1,m1,d1,b2,m2,d2,Z8) ⟨dh.p2.p1.p3,⟨y8.sub j4,by omega,by show y.ae≤x.ae+((z:Int) - ((i - 1:Nat):Int));omega,Lh,trivial⟩⟩
   skip
   refine qC ?_;refine fx (i - 1,y,a1,n1,e1,a2,n2,e2,Z5) ⟨bd,⟨y8,by omega,by show y.ae≤x.ae+((z:Int) - ((i - 1:Nat):Int));omega,nV,trivial⟩⟩
  skip
  refine WC.dq (m:=10) [8,9] [4,5] [2,3,4,0,1,5,6,7,8,9] [] bG (ax.k4 M1 M2 M3 M4<|ax.cons M5<|ax.cons M6<|ax.nil) mixed (by kernel_rfl) (by kernel_rfl) rfl<|?_
  iterate 2 refine DG.a ?_
  refine(jD) (fun w7 Up FX bB sk=>?_);simp only [CA,NA] at bB;have bd:=bB;refine OX.call Yz rfl rfl ((qv bd.e1 (As.gr bd.g6) (by omega) (by omega) (by decide) (by decide)).mono ?_);rintro _ w8 ⟨ga,gn,gc,gl,rfl,agD,xT,kF⟩;have aU:=St.lr bd kF;have QV:=St.AB kF;have Lj:=bd.size;have UE:=((As.gs aU.g1)).len;have bM:=aU.p1.bV (by omega);have B5:=nV.trans (cQ.fo (F:=fun x=>x∈aL ga) QV) Lj;obtain⟨f,s',Ai,uj,yF,dR,qY,UF,hrq,_⟩:=y8.req hR xT (by omega);refine⟨_,rfl,kF.cX.size,_,rfl,_,_,_,bM,aC.k4<|aC.k4<|aC.nil,ax.k4 M2 M3 M4 M5<|ax.cons M6<|ax.cons M7<|ax.nil,?_⟩;refine(oz) aN SV.g0<|(jD) (fun w9 R7 CY bO qO=>?_);simp only [CA,NA] at bO;have bD:=bO;refine OX.call YA rfl rfl ((oV (x:=y) (s':=s') hR bD.e0 (As.gr bD.g7) (As.gr bD.g3) (As.gr bD.g4) (As.gr bD.g0) (As.gf bD.g6) Ai uj yF (by omega) dR qY).mono ?_);rintro _ kM ⟨q1,q2,q3,q4,q5,q6,o1,o2,o3,Z8,rfl,sC,RU,hqc,jy⟩;have cx:=St.lv bD jy sC;have Lh:=B5.trans sC bD.size;have cG:=cx.fr (RU);have cF:=cG.fr (hqc);refine⟨_,rfl,jy.cX.size,_,rfl,_,_,_,cF,aC.k4<|aC.k4<|aC.k2<|aC.cons<|aC.nil,ax.k4 M5 M6 M7 M8<|ax.cons M9<|ax.cons mF<|ax.nil,?_⟩
  iterate 4 refine DG.a ?_
  refine(oa) ?_;intro kN C1 cM;simp only [CM,NM,CA,NA,lA.it] at cM;refine(dB) gg cM.p5 fun qL VW VX cv=>?_;refine WL.nil (EX.np ?_);have cI:=cv.p6.drop;have ef:=cI.p6.drop;refine kJ ?_;refine fx (i - 1,(s'.base y),q1,q2,q3,q4,q5,q6,Z8) ⟨ef.p3.drop.p3.drop.p2.p1.p3,⟨UF,by omega,by show(s'.base y).ae≤x.ae+((z:Int) - ((i - 1:Nat):Int));rw [hrq];omega,Lh,trivial⟩⟩
 skip
 refine(bz) aN bX.b1<|(dB) gg bX.p4 fun w5 Zo Zp aM=>?_;refine(mI) aN aM.b0<|?_;exact⟨y,a1,a2,n1,e1,n2,e2,Z5,rfl,y8,by omega,(As.gr aM.g3),(As.gr aM.g4),nV,aM.p1.k1⟩
set_option maxHeartbeats 1600000 in
theorem Jb(bF:St w M Z w [As.jR 74 d]) (ht:oy prog Z w) (hm:0≤m) (jg:m≤1000):Calls prog 8 #[.pointer (some ⟨d,0,none⟩),.int .i64 m] w fun e w'=>∃(ab:List aJ) (x:dV) (ar a1 a2:Option Addr) (r cr n1 e1 n2 e2:Nat) (Z':Nat→Prop),e=.returned (.tuple #[.slice ar r cr,.agg (x.row a1 n1 e1 a2 n2 e2).toArray])∧ay ab∧2≤ab.length∧ab.length≤8∧LC ab x∧x.ae≤1+m∧Rd RR.gN 4 Z' w' ar r cr ab∧Rd RR.aH 4 Z' w' a1 n1 e1 x.ah∧Rd RR.fl 8 Z' w' a2 n2 e2 x.ak∧cQ w.heap.size Z Z'∧St w M Z' w' [As.jR 74 d]:=by
 refine enter func8 rfl ntmps8 rfl<|?_;have aW:=bF;have st1:=aW.fact (B:=As.fz (FZ.LH prog)) ht (fun _ hx=>hx);refine(fT) st1 fun b5 w1 nH gI st2=>?_;refine eA ?_;have aP:=st2.p2;refine(df) ajA (F3 aP.e1) ?_;rintro _ w2 ⟨ra,rn,rc,ab,Z1,rfl,hR,zd,hr8,gP,tj⟩;have aV:=St.lv aP tj gP;have Ov:=St.AB tj;have Rk:=aP.size;have oN:=gP.le Rk;have U5:=((As.gs aV.g1)).len;have bf:=aV.p1.bV (by omega);have kZ:=oN.trans (cQ.fo (F:=fun x=>x∈aL ra) Ov) Rk;refine eA ?_;refine WP .r (PV.cD (us:=((⟨0,[],[]⟩:dV).row none 0 0 none 0 0)) Yi rfl rfl rfl)<|nx ?_;have br:=bf.p1;refine(df) adx (sq br.e1 (by decide) (by decide)) ?_;rintro _ w3 ⟨ca,cn,cc,ch,rfl,ru,En,eG⟩;have bP:=St.lr br eG;have QV:=St.AB eG;have Lj:=br.size;have UE:=((As.gs bP.g1)).len;have bS:=bP.p1.bV (by omega);have qN:=kZ.trans (cQ.fo (F:=fun x=>x∈aL ca) QV) Lj;have bX:=bS;refine(df) cf9 (wi (x:=⟨0,[],[]⟩) bX.e0 (Rd.nil _ _ _ _) (Rd.nil _ _ _ _) (As.gr bX.g0) Xr (l4.nil _) En (by omega)) ?_;rintro _ w4 ⟨y2,b1,b2,m1,d1,m2,d2,er,Z4,rfl,aaM,hv0,Jt,hG,aaN,R0,hap,_,Mq,hbc,BM,fN⟩;have aM:=St.lv bX fN BM;have xE:=qN.trans BM bX.size;have aT:=aM.fr (Mq);have aY:=aT.fr (hbc);refine(fT) aY fun b7 w5 tJ nT bG=>?_;refine(dB) gg bG fun w6 jC jI bB=>?_;refine(bz) aN bB.b0<|nx ?_;have bd:=bB.p4;refine(df) ajB (Gl hR bd.e1 (As.gf bd.g7) (As.gr bd.g5) (by omega) (by omega) (As.gr bd.g3) (As.gr bd.g2) (LC.nil ab y2 aaM hv0 Jt hG aaN) hm jg) ?_;rintro _ w7 ⟨y,q1,q2,p1,j1,p2,j2,Z5,rfl,y8,Xs,RU,hqc,vR,ke⟩;have aU:=St.lv bd ke vR;have nV:=xE.trans vR bd.size;have bM:=aU.fr (RU);have bO:=bM.fr (hqc);refine(dB) gg bO.p8 fun w8 r7 mR bD=>?_;refine dw ?_;refine EX.je rfl (RS.tmp rfl<|RS.cell aN rfl bD.b0 rfl<|RS.nil) rfl<|?_;exact⟨ab,y,ra,q1,q2,rn,rc,p1,j1,p2,j2,Z5,rfl,hR,zd,hr8,y8,by have h0:y2.ae≤0+1:=R0;omega,(As.gr bD.g8),(As.gr bD.g2),(As.gr bD.g1),nV,bD.p3.k1⟩
set_option maxHeartbeats 400000
theorem zc{A:Nat→Prop}(hl:Rd RR.key 2 A w a n c l) (hd:l.Nodup):CR prog 191 #[.slice a n c] w (.slice a n c):=by
 have hle:=SR.le hl;have hlen:=SR.len hl;refine enter func191 rfl ntmps191 rfl<|?_;have aW:=St.s0 w;refine bC ?_;refine(bp) (fun g8=>?_) fun g8=>?_
 ·
  skip
  refine(cm) ?_;exact⟨rfl,(St.cg aW)⟩
 simp at g8
 refine qC ?_;refine WC.bQ (σ:=Nat) (eI:=fun i=>[(0,.slice a n c),(3,.int .i64 (i:Int))]) (F:=fun i=>[]) (I:=fun i=>(1≤i)∧(i≤n)∧True) (μ:=fun i=>n - i) (1) (aW) Sub.t (⟨Nat.le_refl _,by omega,trivial⟩)<|?_;rintro i w1 st1 ⟨hi,gQ,_⟩;simp only [CA,NA] at st1 hi gQ ⊢;refine(bp) (fun g13=>?_) fun g13=>?_
 ·
  simp at g13
  have cV:i<l.length:=by omega
  have yo:i - 1<l.length:=by omega
  obtain⟨Ul,Um,Un,mg,_,hRx,oT,_⟩:=Rd.at hl cV;have hRx:=RR.cH hRx;subst hRx;obtain⟨b_y,o_y,r_y,BQ,_,hRy,xF,_⟩:=Rd.at hl yo;have hRy:=RR.cH hRy;subst hRy
  have kh:l[i]≠l[i - 1]:=fun e=>by
   exact List.pairwise_iff_getElem.1 hd (i - 1) i yo cV (by omega) e.symm
  refine eA ?_;have R2:=st1.dc;refine WC.dS (m:=9) st1 mixed<|db ?_;refine DP .r (fun _ hC=>PV.fm fL (i:=i) mg rfl rfl (by omega))<|DP .r (fun _ hC=>VA av (bE oT (St.cg hC.2) (by simp)) .r)<|db ?_;refine DP .r (fun _ hC=>(PV.sub rfl rfl (by omega) (by omega)).cast (v':=.int .i64 ((i - 1:Nat):Int)) (congrArg (Value.int .i64) (by omega)))<|DP .r (fun _ hC=>PV.fm fL (i:=i - 1) BQ rfl rfl (by omega))<|DP .r (fun _ hC=>VA av (bE xF (St.cg hC.2) (by simp)) .r)<|(ey)<|?_;rintro w2 ⟨pE,st2⟩ _;refine WP .r (PV.G3 gB (p:=l[i]) (q:=l[i - 1]) rfl rfl)<|(bp) (fun fB=>?_) fun fB=>?_
  ·
   exact absurd fB (by simpa using kh)
  skip
  refine kJ ?_;refine fx (i+1) ⟨st2,⟨by omega,by omega,trivial⟩⟩
 simp at g13
 refine(cm) ?_;exact⟨rfl,(St.cg st1)⟩
theorem Ch(bF:St w M Z w []) (hl:Rd RR.key 2 Z w a n c l) (h0:l≠[]) (hd:l.Nodup) (hn:l.length≤1000000):Calls prog 172 #[.slice a n c] w fun e w'=>∃a' n' c',∃l':List Key,e=.returned (.slice a' n' c')∧Xt l'∧l'.Perm l∧St w M Z w' [As.os RR.key 58 2 a' n' c' l']:=by
 refine enter func172 rfl ntmps172 rfl<|?_;have aW:=bF;have st1:=aW.fr hl;refine kJ ?_;have st2:=st1;refine(df) VK (tO st2.e0 (As.gr st2.g0) hn) ?_;rintro _ w1 ⟨b1,b2,c1,rfl,BV⟩;have aP:=St.lr st2 BV;refine jo ?_;have aV:=aP;refine(df) aeE (IL aV.e1 h0 hn) ?_;rintro _ w2 ⟨rfl,l2,qP,td,tj⟩;have bf:=St.lr aV tj;have pP:l2.length=l.length:=qP.length_eq;have RF:l2.Nodup:=qP.nodup_iff.2 hd;have wX:=SN qP hd td;refine(gw) (zc (Ow.rd (As.gs bf.g0) (by omega)) RF) bf fun w3 s3 br=>?_;refine(cm) ?_;exact⟨b1,_,c1,l2,rfl,wX,qP,br.p1.drop⟩
end Go.Rc

