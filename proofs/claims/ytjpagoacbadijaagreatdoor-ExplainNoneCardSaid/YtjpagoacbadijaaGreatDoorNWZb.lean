/- Walks over the program, part WZb. Conditions: as each theorem says. -/
import Derived.Test.YtjpagoacbadijaaGreatDoorNFacts
import Derived.Test.YtjpagoacbadijaaGreatDoorNWZi
import Derived.Test.YtjpagoacbadijaaGreatDoorNWZg
import Derived.Test.YtjpagoacbadijaaGreatDoorNBf
import Derived.Test.YtjpagoacbadijaaGreatDoorNBh
import Derived.Test.YtjpagoacbadijaaGreatDoorNWX
import Derived.Test.YtjpagoacbadijaaGreatDoorNWF
set_option linter.all false
namespace Go.Rc
open Go Go.Proofs Go.Proofs.Tryz
variable {ab:List aG}{x:dQ}{t:vO}{w:World}{M Z:Nat→Prop}
set_option maxHeartbeats 400000
set_option maxHeartbeats 4000000 in
theorem HW{rev:Int}{D:SD}{A:Ma}{n:Nat}(hR:aw ab) (bJ:St w M Z w [As.l3 prog 134 ab x D]) (ht:nQ prog Z w) (hA:t.In A Z w) (hk:TR ab x.ae rev n t) (hn:n≤90000):Calls prog 78 #[.pointer (some ⟨D.s,0,none⟩),.agg (t.row A).toArray] w fun e w'=>∃(t':vO) (A':Ma) (d:Bool) (er:Int) (Z':Nat→Prop),e=.returned (.tuple #[.agg (t'.row A').toArray,.bool d,.int .i64 er])∧TR ab x.ae rev (n+1) t'∧(TO ab x t→er=0∧TO ab x t')∧t'.In A' Z' w'∧cN w.heap.size Z Z'∧St w M Z' w' [As.l3 prog 134 ab x D]:=by
 have hsz:=hk.sz hR (by omega);obtain⟨hu,hi,hr,hg,hf,hp⟩:=id hA;have lp:=hp.len;have lf:=hf.len;have lg:=hg.len;refine enter func78 rfl ntmps78 rfl<|?_;have bd:=bJ;have st1:=bd.fr hu;have st2:=st1.fr hi;have aW:=st2.fr hr;have ba:=aW.fr hg;have bw:=ba.fr hf;have bj:=bw.fr hp;have bX:=bj.fact (B:=As.fz (FZ.Kx prog)) ht (fun _ hx=>hx);refine(fo) bX fun b3 w1 iR dL bV=>?_;refine(gu) bV fun b4 w2 jK bG cq=>?_;refine(bz) fk cq.b1<|?_;have aL:=cq;refine(dj) XP (re aL.e0 ⟨(As.gr aL.g8),(As.gr aL.g7),(As.gr aL.g6),(As.gr aL.g5),(As.gr aL.g4),(As.gr aL.g3)⟩ hsz) ?_;rintro _ w3 ⟨A1,Z1,rfl,HX,gq,eN⟩;have aO:=St.lv aL eN gq;have Lm:=St.cH eN;have r5:=aL.size;have oO:=gq.le r5;have aS:=aO.fr (HX.u);have bE:=aS.fr (HX.i);have bs:=bE.fr (HX.r);have aY:=bs.fr (HX.g);have aQ:=aY.fr (HX.f);have lnp:=((As.gs aQ.g5)).len;have lgg:=((As.gr aQ.g1)).len;have lgf:=((As.gr aQ.g0)).len;have hnr:=hk.nr;have hns:=hk.ns;have hng:=hk.ng;have bF:=aQ.Oa.drop;have bK:=bF.xV.drop;have br:=bK.Ks.drop;have bT:=br.oW.drop;have cz:=bT.pK.drop;have cv:=cz.p9.drop;refine(dD) lO cv.p7 fun w4 jY j7 cR=>?_;refine(bL) zY cR.b0<|(aZ) (fun g18=>?_) fun g18=>?_
 ·
  simp at g18
  have nt:t.stack=[]:=List.eq_nil_of_length_eq_zero (by omega);refine(bL) gK cR.b0<|(aZ) (fun g22=>?_) fun g22=>?_
  ·
   skip
   refine(bz) fk cR.b0<|(dD) lO cR.p7 fun w5 sC nt bY=>?_;refine gN ?_;have cM:=bY.p7.bN (by omega);have oU:=oO.trans (cN.fh (F:=fun x=>x∈aI A1.p) Lm) r5;refine EX.iV rfl (RS.cell fk rfl cM.b1 rfl<|RS.tmp rfl<|RS.tmp rfl<|RS.nil) rfl<|?_;exact⟨t,A1,false,0,_,rfl,hk.mono (by omega),(fun h=>⟨rfl,h⟩),⟨(As.gr cM.g7),(As.gr cM.g6),(As.gr cM.g5),(As.gr cM.g4),(As.gr cM.g3),(As.gr cM.g0)⟩,oU,cM.p9.k1⟩
  simp at g22
  have hg0:0<t.goals.length:=by omega
  have KC:=hk.ok.goals t.goals[0] (List.getElem_mem hg0);refine dE ?_;obtain⟨ik,kf,jE,aU,fX,bD,cP,dM⟩:=Rd.at (As.gr cR.g2) hg0;have bD:=RR.cy bD;subst bD;have bY:=cR.fg dM cP;refine(bL) gK bY.b1<|?_;refine WP .r (PV.Ko fP (0) aU rfl rfl (by omega) (by omega))<|(bz) aq (As.nR bY.g0)<|(gu) bY fun b7 w5 vq oe cM=>?_;refine(dD) jx cM fun w6 BO ry dR=>?_;refine(bL) gK dR.b2<|?_;refine WP .r (PV.DA fP (i:=1) (As.gr dR.g4) rfl rfl (by omega))<|nx ?_;refine WL.s1 dR.p2 fun w7 _ dz=>?_;refine nx ?_;have dX:=dz.fr (SR.drop (i:=1) (As.gr dz.g4) (by omega));refine(j3) aP dX.b1<|(bz) aq dX.b2<|(iz) (uT (k:=t.goals[0]) (As.gr dX.g7) (As.gr dX.g6) (Rd.nil _ _ _ _)) dX fun w8 s8 cX=>?_;refine(aZ) (fun MJ=>?_) fun MJ=>?_
  ·
   have qv:=DY MJ;have Qw:=cX.size;refine(bz) aq cX.b2<|?_;refine WP .r (PV.bW (us:=((⟨t.goals[0],false,0,[],[]⟩:et).row none 0 0 none 0 0)) Pd rfl rfl rfl)<|?_;refine WL.go rfl (OX.aR (us:=((⟨t.goals[0],false,0,[],[]⟩:et).row none 0 0 none 0 0)) uM rfl rfl rfl rfl fun Zn w9 afr alE=>?_);have dx:=cX.eF afr alE;refine nx ?_;refine WL.s1 dx.p2 fun kB _ cJ=>?_;refine(bz) fk cJ.b0<|(dD) lO cJ.oW fun kC Q5 vJ dc=>?_;refine ji ?_;have df:=dc.oW.bN (by omega);have oU:=oO.trans (cN.fh (F:=fun x=>x∈aI A1.p) Lm) r5;have ez:=df.p3;have dA:=ez.conv (B:=As.os RR.pX 151 6 (some ⟨Zn,0,none⟩) 1 1 [⟨t.goals[0],false,0,[],[]⟩]) (OR.ew (As.gb ez.g0) (Nat.zero_le _) rfl (et.one _ _ _ _ _ _ _) ⟨none,0,0,none,0,0,rfl,Rd.nil _ _ _ _,Rd.nil _ _ _ _,by simp,by simp⟩) (fun x h=>by show x=Zn;change x∈aI (some ⟨Zn,0,none⟩) at h;simpa [aI] using h)
   have alF:∀x∈aI (some ⟨Zn,0,none⟩:Option Addr),w.heap.size≤x:=fun x h=>by
    obtain rfl:x=Zn:=by simpa [aI] using h
    have:=afr.ge
    omega
   have eC:=dA.bN (by simp);have Ka:=oU.trans (cN.fh (F:=fun x=>x∈aI (some ⟨Zn,0,none⟩)) alF) (Nat.le_refl _);refine EX.iV rfl (RS.cell fk rfl eC.b2 rfl<|RS.tmp rfl<|RS.tmp rfl<|RS.nil) rfl<|?_;exact⟨{t with goals:=t.goals.drop 1,stack:=[⟨t.goals[0],false,0,[],[]⟩]},{A1 with g:=pJ A1.g 1 2 A1.cg,ng:=A1.ng - 1,cg:=A1.cg - 1,f:=some ⟨Zn,0,none⟩,nf:=1,cf:=1},true,0,_,rfl,(hk.mono (by omega)).begin KC qv (by omega),(fun h=>⟨rfl,h.begin hR nt KC MJ _⟩),⟨(As.gr eC.g11),(As.gr eC.g10),(As.gr eC.g9),(As.gr eC.g4),(As.gr eC.g0),(As.gr eC.g1)⟩,Ka,eC.xV.k1⟩
  skip
  refine(bz) fk cX.b1<|(dD) lO cX.pK fun w9 Ra Gk dx=>?_;refine ji ?_;have cJ:=dx.pK.bN (by omega);have oU:=oO.trans (cN.fh (F:=fun x=>x∈aI A1.p) Lm) r5;refine EX.iV rfl (RS.cell fk rfl cJ.b1 rfl<|RS.tmp rfl<|RS.tmp rfl<|RS.nil) rfl<|?_;exact⟨{t with goals:=t.goals.drop 1},{A1 with g:=pJ A1.g 1 2 A1.cg,ng:=A1.ng - 1,cg:=A1.cg - 1},true,0,_,rfl,(hk.mono (by omega)).abK,(fun h=>⟨rfl,h.goals _⟩),⟨(As.gr cJ.g10),(As.gr cJ.g9),(As.gr cJ.g8),(As.gr cJ.g2),(As.gr cJ.g6),(As.gr cJ.g0)⟩,oU,cJ.Ks.k1⟩
 simp at g18
 have j7:t.stack≠[]:=by intro h;rw [h] at lgf;simp at lgf;omega
 refine(j3) aP cR.b0<|(bL) zY cR.b0<|?_;have bY:=cR.p9;refine(dj) acX (E9 hR bY.e1 (As.gf bY.g9) (As.gr bY.g5) (As.gr bY.g4) (As.gr bY.g2) hk.ok.base hk.ok.stack j7 (by omega)) ?_;rintro _ w5 ⟨b2,l2,rk2,d2,er2,b1,b3,bl,bk,m1,d1,m3,d3,ml,dl,mk,dk,Z2,rfl,fm,qo,alG,h1k,h1l,afs,alH,alI,alJ,AH,jF⟩;have cM:=St.lv bY jF AH;have pA:=bY.size;have lA:=oO.trans AH pA;have asV:∀x∈aI A1.p,w.heap.size≤x:=fun x hx=>Nat.le_trans r5 (Lm x hx);have dR:=cM.fr (alH);have dz:=dR.fr (alI);have dX:=dz.fr (alJ);have lnk:=((As.gs dX.g4)).len;refine(gu) dX fun b8 w6 BN iX cX=>?_;refine(dD) fT cX fun w7 U3 U4 dx=>?_;refine bf ?_;refine(aZ) (fun tM=>?_) fun tM=>?_
 ·
  skip
  refine(bz) fk (cW.range (As.gb dx.g6))<|(dD) lO dx.xV fun w8 Yy Yz cJ=>?_;refine ji ?_;have dc:=cJ.xV.bN (by omega);have oU:=lA.trans (cN.fh (F:=fun x=>x∈aI A1.p) Lm) r5;refine EX.iV rfl (RS.cell fk rfl dc.b1 rfl<|RS.tmp rfl<|RS.tmp rfl<|RS.nil) rfl<|?_;exact⟨t,A1,false,er2,_,rfl,hk.mono (by omega),(fun h=>⟨(h.OU hR hk.ok.base.ke afs).1,h⟩),⟨(As.gr dc.g13),(As.gr dc.g12),(As.gr dc.g11),(As.gr dc.g10),(As.gr dc.g9),(As.gr dc.g0)⟩,oU,dc.p6.k1⟩
 skip
 refine dE ?_;have Qw:=dx.size;refine WC.dp (m:=7) [1] [5] [2,3,4,5,0,1,6] [] dx (av.k4 M0 M1 M2 M3<|av.k4 M4 M5 M6 M7<|av.k4 M8 M9 jL kK<|av.cons vm<|av.cons FC<|av.nil) mixed (by kernel_rfl) (by kernel_rfl) rfl<|(BA) gK SV.g6<|(iN) (fun w8 Rb B5 cJ pS=>?_);simp only [CA,NA] at cJ;refine OX.oC rV rfl rfl rfl (As.gs cJ.g12) (Ow.rd (As.gs cJ.g5) (by omega)) (by show(A1.np+mk)*_≤_;omega) (by show A1.np+mk≤_;omega) (Nat.zero_le _) fun a62 alL w9 alM s62 aft asW=>?_;have dc:=cJ.Ks.jm s62 alM aft;refine⟨s62.size,_,rfl,_,_,_,dc,ay.k4<|ay.k4<|ay.k4<|ay.k2<|ay.cons<|ay.nil,av.k4 M1 M2 M3 M4<|av.k4 M5 M6 M7 M8<|av.k4 M9 jL kK qf<|av.cons vm<|av.cons FC<|av.nil,?_⟩;refine(pd) aP SV.g0<|?_
 iterate 2 refine DG.a ?_
 refine(nU) ?_;intro kB Hv df;simp only [CM,NM,CA,NA,kY.it] at df;refine WL.go rfl (OX.VX fT (As.gb df.g7) rfl rfl rfl rfl rfl fun kC ss7 hs7=>?_);have ez:=df.p7.Gh ss7 hs7;refine nx ?_;refine WL.s1 ez fun qb _ dA=>?_;refine nx ?_;refine WL.s1 dA fun tU _ eC=>?_;refine WL.nil (EX.np ?_);refine(bz) fk eC.b0<|(dD) lO eC.xV fun yB ss8 hs8 eO=>?_;refine ek ?_;have fc:=eO.p2.bN (by rw [List.length_append];omega)
 have TE:∀x∈aI a62,w.heap.size≤x:=fun x hx=>by rcases aft x hx with h | h;exact Nat.le_trans r5 (Lm x h);omega
 have oU:=lA.trans (cN.fh (F:=fun x=>x∈aI a62) TE) (Nat.le_refl _);refine EX.iV rfl (RS.cell fk rfl fc.b1 rfl<|RS.tmp rfl<|RS.tmp rfl<|RS.nil) rfl<|?_;exact⟨{t with base:=b2,stack:=l2,cU:=t.cU++rk2},{A1 with i:=b1,ni:=m1,ci:=d1,r:=b3,nr:=m3,cr:=d3,f:=bl,nf:=ml,cf:=dl,p:=a62,np:=A1.np+mk,cp:=alL},d2,0,_,rfl,hk.next fm qo alG h1k h1l,(fun h=>⟨rfl,(h.OU hR hk.ok.base.ke afs).2⟩),⟨(As.gr fc.g13),(As.gr fc.g6),(As.gr fc.g5),(As.gr fc.g10),(As.gr fc.g4),(As.gr fc.g0)⟩,oU,fc.p7.k1⟩
set_option maxHeartbeats 4000000 in
theorem Kb{A:Ma}{most:Nat}(hR:aw ab) (bJ:St w M Z w []) (ht:nQ prog Z w) (hA:t.In A Z w) (hk:TR ab t.base.ae t.base.ad 0 t) (CE:ia t.ab t.base t.goals=0) (hm:most≤80000):Calls prog 51 #[.agg (t.row A).toArray,.int .i64 (most:Int)] w fun e w'=>∃(t':vO) (A':Ma) (i er:Int) (Z':Nat→Prop),e=.returned (.tuple #[.agg (t'.row A').toArray,.int .i64 i,.int .i64 er])∧TR ab t.base.ae t.base.ad 80000 t'∧(Bh ab t.base→er=0∧TO ab t.base t')∧t'.In A' Z' w'∧cN w.heap.size Z Z'∧St w M Z' w' []:=by
 have hsz:=hk.sz hR (by omega);obtain⟨hu,hi,hr,hg,hf,hp⟩:=id hA;have afu:t.stack=[]:=List.eq_nil_of_length_eq_zero (by have:=hk.ns;omega);have alN:t.cU=[]:=List.eq_nil_of_length_eq_zero (by have:=hk.nr;omega);have afv:Bh ab t.base→TO ab t.base t:=fun h=>TO.of h afu alN;refine enter func51 rfl ntmps51 rfl<|?_;have bd:=St.rb bJ;have st1:=bd.fr hu;have st2:=st1.fr hi;have aW:=st2.fr hr;have ba:=aW.fr hg;have bw:=ba.fr hf;have bj:=bw.fr hp;have bX:=bj.fact (B:=As.fz (FZ.Kx prog)) ht (fun _ hx=>hx);refine(fo) bX fun b2 w1 nz fm bV=>?_;refine(gu) bV fun b4 w2 jK bG cq=>?_;refine(bz) fk cq.b1<|?_;have aL:=cq;refine(dj) XP (re aL.e0 ⟨(As.gr aL.g8),(As.gr aL.g7),(As.gr aL.g6),(As.gr aL.g5),(As.gr aL.g4),(As.gr aL.g3)⟩ hsz) ?_;rintro _ w3 ⟨A1,Z1,rfl,HX,gq,eN⟩;have aO:=St.lv aL eN gq;have Lm:=St.cH eN;have r5:=aL.size;have oO:=gq.le r5;have aS:=aO.fr (HX.u);have bE:=aS.fr (HX.i);have bs:=bE.fr (HX.r);have aY:=bs.fr (HX.g);have aQ:=aY.fr (HX.f);have Zo:=St.fresh aQ.p5;have bF:=aQ.p5.bN (by have:=hk.nr;omega);have lA:=oO.trans (cN.fh (F:=fun x=>x∈aI A1.p) Lm) r5;have bK:=bF.Oa.drop;have br:=bK.xV.drop;have bT:=br.Ks.drop;have cz:=bT.oW.drop;have cv:=cz.pK.drop;have cR:=cv.p9.drop;refine(dD) lO cR.p7 fun w4 jY j7 bY=>?_;refine(aZ) (fun g15=>?_) fun g15=>?_
 ·
  simp at g15
  obtain rfl:most=0:=by omega
  refine(bz) fk bY.b0<|(dD) lO bY.p7 fun w5 sC nt cM=>?_;refine ji ?_;refine EX.iV rfl (RS.cell fk rfl cM.b0 rfl<|RS.tmp rfl<|RS.tmp rfl<|RS.nil) rfl<|?_;exact⟨t,A1,0,0,_,rfl,hk.mono (by omega),(fun h=>⟨rfl,afv h⟩),⟨(As.gr cM.g7),(As.gr cM.g6),(As.gr cM.g5),(As.gr cM.g4),(As.gr cM.g3),(As.gr cM.g2)⟩,lA,(St.wk cM.k0)⟩
 skip
 refine(bz) fk bY.b0<|?_;have cM:=bY;refine(dj) ai4 (Cb cM.e0 ⟨(As.gr cM.g6),(As.gr cM.g5),(As.gr cM.g4),(As.gr cM.g3),(As.gr cM.g2),(As.gr cM.g1)⟩ afu CE) ?_;rintro _ w5 ⟨rfl,jF⟩;have dR:=St.lr cM jF;refine dE ?_;refine WC.j0 rfl<|(bL) mf dR.b0<|(j3) aP dR.b0<|?_;have dz:=dR;refine(dj) acG (Az (x:=t.base) dz.e0) ?_;rintro _ w6 ⟨d1,d2,d3,rfl,og⟩;have dX:=St.lr dz og;refine cS ?_;have cX:=dX.p1.p1;have dx:=cX.join (C:=As.l3 prog 134 ab t.base ⟨A1.u,A1.i,A1.r,A1.nu,A1.cu,A1.ni,A1.ci,A1.nr,A1.cr,d2,d3,d1⟩) ⟨cX.abC,(As.gb cX.g0),⟨[],bq.nil,(As.gm cX.g1)⟩,⟨hk.ok.Uk ▸ (As.gr cX.g9),(As.gr cX.g8),(As.gr cX.g7),(As.gf cX.g11)⟩⟩ (fun y h=>h);have cJ:=dx.p1.drop;refine kQ ?_;refine WC.jC (σ:=Nat × vO × Ma × (Nat→Prop)) (eJ:=fun(i,tt,A2,Z5)=>[(1,.int .i64 (most:Int)),(2,.pointer (some ⟨b2,0,none⟩)),(4,.pointer (some ⟨b4,0,none⟩)),(7,.pointer (some ⟨d1,0,none⟩)),(8,.int .i64 (i:Int))]) (F:=fun(i,tt,A2,Z5)=>[As.l3 prog 134 ab t.base ⟨A1.u,A1.i,A1.r,A1.nu,A1.cu,A1.ni,A1.ci,A1.nr,A1.cr,d2,d3,d1⟩,As.blk b2 109 (tt.row A2),As.ro RR.gQ 4 A2.u A2.nu A2.cu tt.ab,As.ro RR.aF 4 A2.i A2.ni A2.ci tt.base.ae,As.ro RR.fV 8 A2.r A2.nr A2.cr tt.base.ak,As.ro RR.key 2 A2.g A2.ng A2.cg tt.goals,As.ro RR.pX 6 A2.f A2.nf A2.cf tt.stack,As.ro RR.key 2 A2.p A2.np A2.cp tt.cU]) (I:=fun(i,tt,A2,Z5)=>(i≤most)∧(TR ab t.base.ae t.base.ad i tt)∧(Bh ab t.base→TO ab t.base tt)∧(cN w.heap.size Z Z5)∧True) (μ:=fun(i,tt,A2,Z5)=>most - i) (Zf:=fun(i,tt,A2,Z5)=>Z5) (0,t,A1,_) (cJ.p2.p3.p4.p5.p6.p7.p7.p7) Sub.t (⟨Nat.zero_le _,hk,afv,lA,trivial⟩)<|?_;rintro⟨i,tt,A2,Z5⟩ w7 dc ⟨Tq,hk5,Dj,nA,_⟩;simp only [CA,NA] at dc Tq hk5 Dj nA ⊢;refine(aZ) (fun iP=>?_) fun iP=>?_
 ·
  simp at iP
  refine(bz) fk dc.b1<|?_;have df:=dc;refine(dj) ai5 (HW hR df.e1 (As.gf df.g9) ⟨(As.gr df.g2),(As.gr df.g3),(As.gr df.g4),(As.gr df.g5),(As.gr df.g6),(As.gr df.g7)⟩ hk5 (by omega)) ?_;rintro _ w8 ⟨t6,A6,d6,er6,Z6,rfl,hk6,Zp,hA6,HJ,jZ⟩;have ez:=St.lv df jZ HJ;have Bf:=nA.trans HJ df.size;have dA:=ez.fr (hA6.u);have eC:=dA.fr (hA6.i);have eO:=eC.fr (hA6.r);have fc:=eO.fr (hA6.g);have gU:=fc.fr (hA6.f);have jz:=gU.fr (hA6.p);refine(gu) jz fun b9 w9 Q1 Bv l7=>?_;refine(dD) lO l7 fun kB BO ry iT=>?_;refine(aZ) (fun uQ=>?_) fun uQ=>?_
  ·
   skip
   refine(bz) fk (cW.range (As.gb iT.g8))<|(dD) lO iT.p15 fun kC Q5 vJ fU=>?_;refine nT ?_;refine EX.iV rfl (RS.cell fk rfl fU.b0 rfl<|RS.tmp rfl<|RS.tmp rfl<|RS.nil) rfl<|?_;exact⟨tt,A2,(i:Int),er6,_,rfl,hk5.mono (by omega),(fun h=>⟨(Zp (Dj h)).1,Dj h⟩),⟨(As.gr fU.g10),(As.gr fU.g11),(As.gr fU.g12),(As.gr fU.g13),(As.gr fU.g14),(As.gr fU.g15)⟩,Bf,(St.wk fU.k0)⟩
  skip
  refine(aZ) (fun lW=>?_) fun lW=>?_
  ·
   skip
   refine(bz) fk iT.b0<|(dD) lO iT.p15 fun kC Ra Gk fU=>?_;refine nT ?_;refine EX.iV rfl (RS.cell fk rfl fU.b0 rfl<|RS.tmp rfl<|RS.tmp rfl<|RS.nil) rfl<|?_;exact⟨t6,A6,(i:Int),0,_,rfl,hk6.mono (by omega),(fun h=>⟨rfl,(Zp (Dj h)).2⟩),⟨(As.gr fU.g7),(As.gr fU.g6),(As.gr fU.g5),(As.gr fU.g4),(As.gr fU.g3),(As.gr fU.g2)⟩,Bf,(St.wk fU.k0)⟩
  have fU:=iT.p9.drop;have qd:=fU.p9.drop;have l8:=qd.p9.drop;have kg:=l8.p9.drop;have qZ:=kg.p9.drop;have tZ:=qZ.p9.drop;refine(bz) fk tZ.b0<|(dD) lO tZ.p8 fun kC U3 U4 wH=>?_;refine dE ?_;refine fH (i+1,t6,A6,Z6) ⟨wH.p1.drop.p2.p3.p4.p5.p6.p5.p7,⟨by omega,hk6,fun h=>(Zp (Dj h)).2,Bf,trivial⟩⟩
 skip
 refine(bz) fk dc.b1<|(dD) lO dc.p8 fun w8 Yy Yz df=>?_;refine ek ?_;refine EX.iV rfl (RS.cell fk rfl df.b0 rfl<|RS.tmp rfl<|RS.tmp rfl<|RS.nil) rfl<|?_;exact⟨tt,A2,(i:Int),0,_,rfl,hk5.mono (by omega),(fun h=>⟨rfl,Dj h⟩),⟨(As.gr df.g3),(As.gr df.g4),(As.gr df.g5),(As.gr df.g6),(As.gr df.g7),(As.gr df.g8)⟩,nA,(St.wk df.k0)⟩
set_option maxHeartbeats 400000
set_option maxHeartbeats 1600000 in
set_option maxRecDepth 8000 in
theorem vh{l:List Change}{a1 a2 al:Option Addr}{n1 e1 n2 e2 nl el:Nat}(bJ:St w M Z w []) (hi:Rd RR.aF 4 Z w a1 n1 e1 x.ae) (hr:Rd RR.fV 8 Z w a2 n2 e2 x.ak) (hl:Rd RR.cT 3 Z w al nl el l) (hb:lJ x) (hx:lK x.ad x.ae) (hs:∀c∈l,c.small) (hl4:l.length≤32):Calls prog 21 #[.agg (x.row a1 n1 e1 a2 n2 e2).toArray,.slice al nl el] w fun e w'=>∃(y:dQ) (b1 b2:Option Addr) (m1 d1 m2 d2:Nat) (er:Int) (Z':Nat→Prop),e=.returned (.tuple #[.agg (y.row b1 m1 d1 b2 m2 d2).toArray,.int .i64 er])∧y.ak=x.ak∧x.ad≤y.ad∧y.ad≤1073741824∧lK y.ad y.ae∧y.ae.length≤64∧y.ad≤x.ad+1∧ApR x l y∧AO x l y∧(x.ad+1≤1073741824→er=0)∧Rd RR.aF 4 Z' w' b1 m1 d1 y.ae∧Rd RR.fV 8 Z' w' b2 m2 d2 y.ak∧cN w.heap.size Z Z'∧St w M Z' w' []:=by
 have hln:=hl.len;have h7a:=hb.2.2.2.2.1;have h6a:=hb.2.2.2.2.2.1
 have h6:x.ak.length≤1000000:=by omega
 have h7:x.ae.length≤1000000:=by omega
 have hv0:=hb.2.2.1;have Im:=hb.2.2.2.1;refine enter func21 rfl ntmps21 rfl<|?_;have bd:=St.rb bJ;have st1:=bd.fr hi;have st2:=st1.fr hr;have aW:=st2.fr hl;refine(fo) aW fun b2 w1 nz fm ba=>?_;refine(gu) ba fun b4 w2 jK bG bw=>?_;refine(bz) aP bw.b1<|?_;have bj:=bw;refine(dj) El (gL (x:=x) bj.e0 (As.gr bj.g4) (As.gr bj.g3) h6 h7) ?_;rintro _ w3 ⟨f1,f2,f3,f4,f5,f6,Z1,rfl,gq,eN⟩;have bX:=St.lv bj eN gq;have alO:=St.cH eN;have alP:=St.cH eN.p1;have fx:=bj.size;have oO:=gq.le fx;have alQ:=St.fresh bX;have bV:=bX.bN (by omega);have alR:=St.fresh bV.p1;have cq:=bV.p1.bN (by omega);have alS:=(oO.trans (cN.fh (F:=fun x=>x∈aI f1) alO) fx).trans (cN.fh (F:=fun x=>x∈aI f4) alP) fx;refine(dD) fT cq.p3 fun w4 jY j7 aL=>?_;refine(bz) aP aL.b0<|(dj) XN (pz (x:=x) (As.gr aL.g2) (As.gr aL.g1)) ?_;rintro _ w5 ⟨bb,rfl,hbb,s5⟩;have aO:=aL.step s5;obtain rfl:bb=true:=hbb.2 hb;refine(aZ) (fun g24=>?_) fun g24=>?_
 ·
  exact gW g24
 ·
  refine(aZ) (fun qj=>?_) fun qj=>?_
  ·
   exact gW qj
  refine bf ?_;refine WC.ct (σ:=Nat) (eJ:=fun i=>[(1,.slice al nl el),(2,.pointer (some ⟨b2,0,none⟩)),(4,.pointer (some ⟨b4,0,none⟩)),(34,.slice al nl el),(35,.int .i64 (nl:Int)),(36,.int .i64 (i:Int))]) (F:=fun i=>[]) (I:=fun i=>(i≤l.length)∧True) (μ:=fun i=>l.length - i) (0) (aO) Sub.t (⟨by omega,trivial⟩)<|?_;rintro i w6 aS ⟨iB,_⟩;simp only [CA,NA] at aS iB ⊢;refine(aZ) (fun uQ=>?_) fun uQ=>?_
  ·
   simp at uQ
   have cV:i<l.length:=by omega
   have Dm:=hs _ (List.getElem_mem cV);have hsk:=Dm.ok;have Tm:=Dm.2;refine ek ?_;obtain⟨ik,kf,jE,aU,fX,bD,cP,dM⟩:=Rd.at (As.gr aS.g4) cV;have bD:=RR.cy bD;subst bD;have bE:=aS.fg dM cP;refine nx ?_;refine WP .r (PV.fI MB aU rfl rfl (by omega))<|(bz) G1 (As.nR bE.g0)<|(gu) bE fun b7 w7 vq oe bs=>?_;refine(dD) Pg bs fun w8 sC nt aY=>?_;refine(j3) aq aY.b0<|?_;refine WL.c1 (u:=.bool true) (kA (k:=l[i].key)) (by rw [hsk.1]) aY fun w9 s9 aQ=>?_;refine(j3) aq aQ.b0<|?_;refine WL.c1 (u:=.bool true) (fD (k:=l[i].key)) (by rw [hsk.2]) aQ fun kB ob bF=>?_;refine dW ?_;refine WC.j0 rfl<|gN ?_;refine fH (i+1) ⟨bF.drop.drop,⟨by omega,trivial⟩⟩
  skip
  refine bf ?_;refine cS ?_;refine WC.ct (σ:=Nat) (eJ:=fun i=>[(1,.slice al nl el),(2,.pointer (some ⟨b2,0,none⟩)),(4,.pointer (some ⟨b4,0,none⟩)),(52,.slice al nl el),(53,.int .i64 (nl:Int)),(54,.int .i64 (i:Int))]) (F:=fun i=>[]) (I:=fun i=>(i≤l.length)∧True) (μ:=fun i=>l.length - i) (0) (aS) Sub.t (⟨by omega,trivial⟩)<|?_;rintro i w7 bE ⟨iB,_⟩;simp only [CA,NA] at bE iB ⊢;refine(aZ) (fun Ag=>?_) fun Ag=>?_
  ·
   simp at Ag
   have cV:i<l.length:=by omega
   have Dm:=hs _ (List.getElem_mem cV);have Tm:=Dm.2;refine ek ?_;obtain⟨ik,kf,jE,aU,fX,bD,cP,dM⟩:=Rd.at (As.gr bE.g4) cV;have bD:=RR.cy bD;subst bD;have bs:=bE.fg dM cP;refine nx ?_;refine WP .r (PV.fI MB aU rfl rfl (by omega))<|(bz) G1 (As.nR bs.g0)<|(gu) bs fun b9 w8 Q1 Bv aY=>?_;refine(dD) Pg aY fun w9 BO ry aQ=>?_;refine(bL) iG aQ.b0<|(aZ) (fun Th=>?_) fun Th=>?_
   ·
    exact gW Th
   refine gN ?_;refine fH (i+1) ⟨aQ.drop.drop,⟨by omega,trivial⟩⟩
  skip
  refine(bz) aP bE.b0<|?_;have bs:=bE;refine(dj) El (gL (x:=x) bs.e0 (As.gr bs.g2) (As.gr bs.g1) h6 h7) ?_;rintro _ w8 ⟨k1,k2,k3,k4,k5,k6,Z2,rfl,AH,jZ⟩;have aY:=St.lv bs jZ AH;have alT:=St.cH jZ;have alU:=St.cH jZ.p1;have pA:=bs.size;have lA:=alS.trans AH pA;have alV:=St.fresh aY;have aQ:=aY.bN (by omega);have alW:=St.fresh aQ.p1;have bF:=aQ.p1.bN (by omega);have alX:=(lA.trans (cN.fh (F:=fun x=>x∈aI k1) alT) pA).trans (cN.fh (F:=fun x=>x∈aI k4) alU) pA;refine(gu) bF fun iJ w9 lz fE bK=>?_;refine(dD) fT bK fun kB Q5 vJ br=>?_;refine(bL) aT br.b0<|cS ?_;refine WL.s1 br fun kC _ bT=>?_;refine bf ?_;refine dW ?_;refine WC.jC (σ:=Nat × Bool × (List dB) × (Option Addr) × Nat × Nat × (Nat→Prop)) (eJ:=fun(i,ch,li,ai,ni,ei,Z3)=>[(1,.slice al nl el),(2,.pointer (some ⟨b2,0,none⟩)),(4,.pointer (some ⟨b4,0,none⟩)),(10,.pointer (some ⟨iJ,0,none⟩)),(11,.bool ch),(70,.slice al nl el),(71,.int .i64 (nl:Int)),(72,.int .i64 (i:Int))]) (F:=fun(i,ch,li,ai,ni,ei,Z3)=>[As.blk iJ 31 [.int .i64 (x.ad+1),.slice ai ni ei,.slice k4 k5 k6],As.ro RR.aF 4 ai ni ei li]) (I:=fun(i,ch,li,ai,ni,ei,Z3)=>(i≤l.length)∧(lK (x.ad+1) li)∧(li.length≤x.ae.length+i)∧(∀k,(∀c∈l,c.key≠k)→db li k=db x.ae k)∧(∀k,db li k=db x.ae k∨(db li k).changed=x.ad+1)∧(cN w.heap.size Z Z3)∧(Mk x l i ch li)∧True) (μ:=fun(i,ch,li,ai,ni,ei,Z3)=>l.length - i) (Zf:=fun(i,ch,li,ai,ni,ei,Z3)=>Z3) (0,false,x.ae,k1,k2,k3,_) (bT.p2.p1) Sub.t (⟨by omega,hx.mono (by omega),by omega,fun _ _=>rfl,fun _=>.inl rfl,alX,.start,trivial⟩)<|?_;rintro⟨i,ch,li,ai,ni,ei,Z3⟩ qb cz ⟨iB,hG,alY,T9,hfc,sF,Qx,_⟩;simp only [CA,NA] at cz iB hG alY T9 hfc sF Qx ⊢;refine(aZ) (fun Re=>?_) fun Re=>?_
  ·
   have alZ:=((As.gr cz.g1)).len
   simp at Re
   have cV:i<l.length:=by omega
   have Dm:=hs _ (List.getElem_mem cV);refine ek ?_;obtain⟨ik,kf,jE,aU,fX,bD,cP,dM⟩:=Rd.at (As.gr cz.g7) cV;have bD:=RR.cy bD;subst bD;have cv:=cz.fg dM cP;refine cS ?_;refine WP .r (PV.fI MB aU rfl rfl (by omega))<|(bz) G1 (As.nR cv.g0)<|(gu) cv fun sO tU P1 aj7 cR=>?_;refine(dD) Pg cR fun yB Ra Gk bY=>?_;refine bf ?_;refine nx ?_;refine WP .r (PV.DA MB (i:=i+1) (As.gr bY.g9) rfl rfl (by omega))<|dE ?_;have cM:=bY.fr (SR.drop (i:=i+1) (As.gr bY.g9) (by omega));refine cS ?_;refine WC.ct (σ:=Nat × Bool) (eJ:=fun(q,la)=>[(1,.slice al nl el),(2,.pointer (some ⟨b2,0,none⟩)),(4,.pointer (some ⟨b4,0,none⟩)),(10,.pointer (some ⟨iJ,0,none⟩)),(11,.bool ch),(13,.pointer (some ⟨sO,0,none⟩)),(14,.bool la),(70,.slice al nl el),(71,.int .i64 (nl:Int)),(72,.int .i64 (i:Int)),(80,.slice (pJ al (i+1) 3 el) (nl - (i+1)) (el - (i+1))),(81,.int .i64 ((nl - (i+1):Nat):Int)),(82,.int .i64 (q:Int))]) (F:=fun(q,la)=>[]) (I:=fun(q,la)=>(q≤nl - (i+1))∧(q=0→la=true)∧True) (μ:=fun(q,la)=>nl - (i+1) - q) (0,true) (cM) Sub.t (⟨by omega,fun _=>rfl,trivial⟩)<|?_;rintro⟨q,la⟩ tV dR ⟨hq,hla,_⟩;simp only [CA,NA] at dR hq hla ⊢;refine(aZ) (fun g83=>?_) fun g83=>?_
   ·
    simp at g83
    have Qt:q<(l.drop (i+1)).length:=by rw [List.length_drop];omega
    refine ek ?_;obtain⟨wv,JN,Hh,fQ,xD,gB,kD,oP⟩:=Rd.at (As.gr dR.g0) Qt;have gB:=RR.cy gB;subst gB;have dz:=dR.fg oP kD;refine nx ?_;refine WP .r (PV.fI MB fQ rfl rfl (by omega))<|(bz) G1 (As.nR dz.g0)<|(gu) dz fun xR xE Tn YJ dX=>?_;refine(dD) Pg dX fun BR U3 U4 cX=>?_;refine cS ?_;have dx:=cX;refine WC.mN (σ:=Bool) [] (fun Y6=>[(1,.slice al nl el),(2,.pointer (some ⟨b2,0,none⟩)),(4,.pointer (some ⟨b4,0,none⟩)),(10,.pointer (some ⟨iJ,0,none⟩)),(11,.bool ch),(13,.pointer (some ⟨sO,0,none⟩)),(14,.bool Y6),(70,.slice al nl el),(71,.int .i64 (nl:Int)),(72,.int .i64 (i:Int)),(80,.slice (pJ al (i+1) 3 el) (nl - (i+1)) (el - (i+1))),(81,.int .i64 ((nl - (i+1):Nat):Int)),(82,.int .i64 (q:Int))]) (fun Y6=>[]) (fun Y6=>True) dx ?_ ?_
    ·
     refine(dY) (fun P6=>?_) (fun P6=>?_)
     ·
      refine(j3) aq dx.b0<|(j3) aq dx.b3<|?_;refine WP .r (PV.Nj gS (p:=(l.drop (i+1))[q].key) (q:=l[i].key) rfl rfl)<|dE ?_;exact sg (_) ⟨dx,trivial⟩
     refine kQ ?_;exact sg (_) ⟨dx,trivial⟩
    rintro Y6 Bw cJ _;simp only [CA,NA] at cJ ⊢;refine ji ?_;refine fH (q+1,_) ⟨cJ.drop.drop,⟨by omega,fun h=>absurd h (Nat.succ_ne_zero _),trivial⟩⟩
   skip
   refine gN ?_;refine WC.fL (t:=105) (v:=.bool (!la || decide ((db x.ae l[i].key).value=l[i].value))) dR ?_<|?_
   ·
    have asZ:=dR.cY;refine WC.eQ (m:=9) (E:=dr [(6,fun v _=>v=.string (db x.ae l[i].key).value)]) dR (bM (⟨fun _ _ _ _ _ _ _ h=>h,trivial⟩)) mixed (by kernel_rfl)<|(rS) (fun Zq=>?_) (fun Zq=>?_)
    ·
     refine(eh) ?_;rintro xE ⟨afw,dz⟩ _;exact(dt) (tG Zq) (dz)
    refine(jj) aP St.g6<|(Cy) aq St.g1<|?_;refine DW.c0 (fun wx hC hF=>wt (x:=x) (k:=l[i].key) (As.gr hC.2.g8) (As.gr hC.2.g7))<|(lI) iG St.g1<|(eh)<|?_;rintro xE ⟨afw,dz⟩ ⟨_,_⟩;exact(dt) (tG Zq) (dz)
   intro xE dz;refine(aZ) (fun Kc=>?_) fun Kc=>?_
   ·
    refine kQ ?_;refine fH (i+1,ch,li,ai,ni,ei,Z3) ⟨dz.drop.drop.drop,⟨by omega,hG,by show li.length≤x.ae.length+(i+1);omega,T9,hfc,sF,Qx.skip cV (fun e=>hla (by omega)) Kc,trivial⟩⟩
   refine bf ?_;refine(bL) oM dz.b3<|ek ?_;have dX:=dz.eP RR.aF 102 4;refine WC.ct (σ:=Nat × Bool × (List dB) × (Option Addr) × Nat × Nat) (eJ:=fun(q,put,acc,mw,lV,nh)=>[(1,.slice al nl el),(2,.pointer (some ⟨b2,0,none⟩)),(4,.pointer (some ⟨b4,0,none⟩)),(10,.pointer (some ⟨iJ,0,none⟩)),(11,.bool true),(13,.pointer (some ⟨sO,0,none⟩)),(17,.slice mw lV nh),(18,.bool put),(70,.slice al nl el),(71,.int .i64 (nl:Int)),(72,.int .i64 (i:Int)),(107,.slice ai ni ei),(108,.int .i64 (ni:Int)),(109,.int .i64 (q:Int))]) (F:=fun(q,put,acc,mw,lV,nh)=>[As.os RR.aF 102 4 mw lV nh (acc)]) (I:=fun(q,put,acc,mw,lV,nh)=>(q≤li.length)∧(acc++ij (⟨l[i].key,l[i].value,x.ad+1⟩:dB) (li.drop q) put=ij (⟨l[i].key,l[i].value,x.ad+1⟩:dB) li false)∧True) (μ:=fun(q,put,acc,mw,lV,nh)=>li.length - q) (0,false,[],none,0,0) (dX) Sub.t (⟨by omega,rfl,trivial⟩)<|?_;rintro⟨q,put,acc,mw,lV,nh⟩ BR cX ⟨hq,HY,_⟩;simp only [CA,NA] at cX hq HY ⊢;have afx:=RV HY;have al0:=((As.gs cX.g0)).len;refine(aZ) (fun rY=>?_) fun rY=>?_
   ·
    simp at rY
    have Qt:q<li.length:=by omega
    have MO:=RU Qt HY
    dsimp only at MO
    refine ek ?_;obtain⟨MQ,alB,aei,kT,Va,xL,Ll,Qv⟩:=Rd.at (As.gr cX.g5) Qt;have xL:=RR.cy xL;subst xL;have dx:=cX.fg Qv Ll;refine nx ?_;refine WP .r (PV.fI ya kT rfl rfl (by omega))<|(bz) l6 (As.nR dx.g0)<|(gu) dx fun b20 Bw Te Tf cJ=>?_;refine(dD) xu cJ fun Il Yy Yz dc=>?_;refine(j3) aq dc.b0<|(j3) aq dc.b4<|(iz) (mE (k:=li[q].key) (q:=l[i].key)) dc fun Nz s20 df=>?_;refine ek ?_;have ez:=df;refine WC.mN (σ:=Bool) [] (fun Nc=>[(1,.slice al nl el),(2,.pointer (some ⟨b2,0,none⟩)),(4,.pointer (some ⟨b4,0,none⟩)),(10,.pointer (some ⟨iJ,0,none⟩)),(11,.bool true),(13,.pointer (some ⟨sO,0,none⟩)),(17,.slice mw lV nh),(18,.bool put),(20,.pointer (some ⟨b20,0,none⟩)),(21,.int .i64 (cw li[q].key l[i].key)),(70,.slice al nl el),(71,.int .i64 (nl:Int)),(72,.int .i64 (i:Int)),(107,.slice ai ni ei),(108,.int .i64 (ni:Int)),(109,.int .i64 (q:Int)),(123,.bool Nc)]) (fun Nc=>[]) (fun Nc=>(Nc=(decide (0≤cw li[q].key l[i].key) && !put))∧True) ez ?_ ?_
    ·
     refine(dY) (fun Zr=>?_) (fun Zr=>?_)
     ·
      refine dW ?_;exact sg (!put) ⟨ez,⟨by rw [decide_eq_true (show 0≤cw li[q].key l[i].key by simp at Zr;omega)];rfl,trivial⟩⟩
     refine dW ?_;exact sg (false) ⟨ez,⟨by rw [decide_eq_false (show ¬0≤cw li[q].key l[i].key by simp at Zr;omega)];rfl,trivial⟩⟩
    rintro Nc Qj dA ⟨Zs,_⟩;simp only [CA,NA] at dA Zs ⊢;refine nx ?_;have eC:=dA.p2;refine WC.mN (σ:=Bool × (List dB) × (Option Addr) × Nat × Nat) [_] (fun(Zt,jo,mw,lV,nh)=>[(1,.slice al nl el),(2,.pointer (some ⟨b2,0,none⟩)),(4,.pointer (some ⟨b4,0,none⟩)),(10,.pointer (some ⟨iJ,0,none⟩)),(11,.bool true),(13,.pointer (some ⟨sO,0,none⟩)),(17,.slice mw lV nh),(18,.bool Zt),(20,.pointer (some ⟨b20,0,none⟩)),(21,.int .i64 (cw li[q].key l[i].key)),(70,.slice al nl el),(71,.int .i64 (nl:Int)),(72,.int .i64 (i:Int)),(107,.slice ai ni ei),(108,.int .i64 (ni:Int)),(109,.int .i64 (q:Int))]) (fun(Zt,jo,mw,lV,nh)=>[As.os RR.aF 102 4 mw lV nh (jo)]) (fun(Zt,jo,mw,lV,nh)=>(jo++(if cw li[q].key l[i].key=0 then [] else [li[q]])++ij (⟨l[i].key,l[i].value,x.ad+1⟩:dB) (li.drop (q+1)) Zt=ij (⟨l[i].key,l[i].value,x.ad+1⟩:dB) li false)∧True) eC ?_ ?_
    ·
     refine(aZ) (fun JY=>?_) fun JY=>?_
     ·
      refine(j3) aq eC.b4<|(bL) iG eC.b4<|(bL) aT (cW.range (As.gb eC.g6))<|?_;refine WP .r (PV.bW (us:=(⟨l[i].key,l[i].value,x.ad+1⟩:dB).cells) K8 rfl rfl rfl)<|?_;refine WL.go rfl (OX.aR (us:=(⟨l[i].key,l[i].value,x.ad+1⟩:dB).cells) Jq rfl rfl rfl rfl fun as0 TB afy afz=>?_);have eO:=eC.eF afy afz;refine WL.ap rfl rfl eO.p1 (SR.ew (A:=fun _=>True) (x:=(⟨l[i].key,l[i].value,x.ad+1⟩:dB)) (As.gb eO.g0) trivial rfl (by simp [dB.cells,Value.oneCell']) rfl) fun al1 afA Y7 aoJ aoK fc=>?_;refine dE ?_;exact sg (true,acc++[(⟨l[i].key,l[i].value,x.ad+1⟩:dB)],al1,(lV+1),afA) ⟨fc.p1.drop,⟨by have h2:(decide (0≤cw li[q].key l[i].key) && !put)=true:=(by rw [← Zs];simpa using JY);have h3:(put || decide (0≤cw li[q].key l[i].key))=true:=(by revert h2;cases put <;> simp);rw [if_pos h2,h3] at MO;exact MO,trivial⟩⟩
     refine nx ?_;exact sg (put,acc,mw,lV,nh) ⟨eC,⟨by have h2:(decide (0≤cw li[q].key l[i].key) && !put)=false:=(by rw [← Zs];simpa using JY);have h3:(put || decide (0≤cw li[q].key l[i].key))=put:=(by revert h2;cases put <;> simp);rw [if_neg (by rw [h2];simp),h3,List.append_nil] at MO;exact MO,trivial⟩⟩
    rintro⟨Zt,jo,mw,lV,nh⟩ TB eO ⟨pT,_⟩;simp only [CA,NA] at eO pT ⊢
    have aoL:jo.length≤li.length+1:=by have h1:=congrArg List.length pT;rw [List.length_append,List.length_append] at h1;have:=qB (⟨l[i].key,l[i].value,x.ad+1⟩:dB) li false;omega
    have aoM:=((As.gs eO.g0)).len;refine(aZ) (fun Qy=>?_) fun Qy=>?_
    ·
     simp at Qy
     refine(bz) l6 eO.b1<|?_;refine WL.go rfl (OX.aR (us:=li[q].cells) Jq rfl rfl rfl rfl fun as1 Y7 afB afC=>?_);have fc:=eO.eF afB afC;refine WL.ap rfl rfl fc.p1 (SR.ew (A:=fun _=>True) (x:=li[q]) (As.gb fc.g0) trivial rfl (by simp [dB.cells,Value.oneCell']) rfl) fun a139 afD Y8 aoN aoO gU=>?_;refine kQ ?_;refine fH (q+1,Zt,jo++[li[q]],a139,(lV+1),afD) ⟨gU.p1.drop.p1.drop.p1.drop,⟨by omega,by rw [← pT,if_neg Qy],trivial⟩⟩
    simp at Qy
    refine gN ?_;refine fH (q+1,Zt,jo,mw,lV,nh) ⟨eO.p1.drop.p1.drop,⟨by omega,by rw [← pT,if_pos Qy,List.append_nil],trivial⟩⟩
   simp at rY
   rw [List.drop_eq_nil_of_le (by omega)] at HY;refine bf ?_;have dx:=cX;refine WC.mN (σ:=(List dB) × (Option Addr) × Nat × Nat) [_] (fun(jo,mw,lV,nh)=>[(1,.slice al nl el),(2,.pointer (some ⟨b2,0,none⟩)),(4,.pointer (some ⟨b4,0,none⟩)),(10,.pointer (some ⟨iJ,0,none⟩)),(11,.bool true),(17,.slice mw lV nh),(70,.slice al nl el),(71,.int .i64 (nl:Int)),(72,.int .i64 (i:Int))]) (fun(jo,mw,lV,nh)=>[As.os RR.aF 102 4 mw lV nh (jo)]) (fun(jo,mw,lV,nh)=>(jo=ij (⟨l[i].key,l[i].value,x.ad+1⟩:dB) li false)∧True) dx ?_ ?_
   ·
    refine(aZ) (fun Zu=>?_) fun Zu=>?_
    ·
     refine(j3) aq dx.b2<|(bL) iG dx.b2<|(bL) aT dx.b4<|?_;refine WP .r (PV.bW (us:=(⟨l[i].key,l[i].value,x.ad+1⟩:dB).cells) K8 rfl rfl rfl)<|?_;refine WL.go rfl (OX.aR (us:=(⟨l[i].key,l[i].value,x.ad+1⟩:dB).cells) Jq rfl rfl rfl rfl fun as2 Bw afE afF=>?_);have cJ:=dx.eF afE afF;refine WL.ap rfl rfl cJ.p1 (SR.ew (A:=fun _=>True) (x:=(⟨l[i].key,l[i].value,x.ad+1⟩:dB)) (As.gb cJ.g0) trivial rfl (by simp [dB.cells,Value.oneCell']) rfl) fun a152 afG Il aoP aoR dc=>?_;refine cS ?_;exact sg (acc++[(⟨l[i].key,l[i].value,x.ad+1⟩:dB)],a152,(lV+1),afG) ⟨dc.p1.drop,⟨by have hp:put=false:=(by simpa using Zu);rw [hp] at HY;exact HY,trivial⟩⟩
    refine nx ?_;exact sg (acc,mw,lV,nh) ⟨dx,⟨by have hp:put=true:=(by simpa using Zu);rw [hp] at HY;exact(List.append_nil acc).symm.trans HY,trivial⟩⟩
   rintro⟨jo,mw,lV,nh⟩ Bw cJ ⟨Ke,_⟩;simp only [CA,NA] at cJ Ke ⊢;refine nx ?_;have afx:=qB (⟨l[i].key,l[i].value,x.ad+1⟩:dB) li false;have al0:=((As.gs cJ.g0)).len;rw [← Ke] at afx;have Zv:=St.fresh cJ;have dc:=cJ.bN (by omega);have AK:=sF.trans (cN.fh (F:=fun x=>x∈aI mw) Zv) (Nat.le_refl _);have df:=dc.p5.drop;refine dE ?_;refine WL.s1 df.p4 fun Il _ ez=>?_;refine gN ?_;refine fH (i+1,true,jo,mw,lV,nh,_) ⟨ez.p2.drop.p2.drop.p2.drop,⟨by omega,by rw [Ke];exact hG.put Dm (by omega),by show jo.length≤x.ae.length+(i+1);rw [Ke];have:=qB (⟨l[i].key,l[i].value,x.ad+1⟩:dB) li false;omega,fun k hk=>by rw [Ke,vN (hk _ (List.getElem_mem cV))];exact T9 k hk,by rw [Ke];exact Sa hfc _ rfl,AK,by rw [Ke];exact Qx.put cV Kc,trivial⟩⟩
  have alZ:=((As.gr cz.g1)).len
  simp at Re
  refine bf ?_;refine(aZ) (fun al2=>?_) fun al2=>?_
  ·
   refine(bz) aP cz.b3<|(dD) fT cz.p6 fun tU ss7 hs7 cv=>?_;refine ji ?_;refine EX.iV rfl (RS.cell aP rfl cv.b0 rfl<|RS.tmp rfl<|RS.nil) rfl<|?_;exact⟨x,_,_,_,_,_,_,_,_,rfl,rfl,Int.le_refl _,Im,hx,h7a,by omega,.refl _ _,Qx.same (by omega) (by simp_all),fun _=>rfl,(As.gr cv.g6),(As.gr cv.g5),sF,(St.wk cv.k0)⟩
  refine(bL) oM cz.b0<|(aZ) (fun Zw=>?_) fun Zw=>?_
  ·
   refine(bz) aP cz.b3<|(dD) fT cz.p6 fun tU ss8 hs8 cv=>?_;refine ji ?_;refine EX.iV rfl (RS.cell aP rfl cv.b0 rfl<|RS.tmp rfl<|RS.nil) rfl<|?_;exact absurd Zw (by have:=hG.len;simp;omega)
  refine(bL) aT cz.b0<|(aZ) (fun TQ=>?_) fun TQ=>?_
  ·
   refine(bz) aP cz.b3<|(dD) fT cz.p6 fun tU ss9 hs9 cv=>?_;refine ji ?_;refine EX.iV rfl (RS.cell aP rfl cv.b0 rfl<|RS.tmp rfl<|RS.nil) rfl<|?_;exact⟨x,_,_,_,_,_,_,_,_,rfl,rfl,Int.le_refl _,Im,hx,h7a,by omega,.refl _ _,⟨fun c _ _ h=>by(simp at TQ;omega),fun _=>.inl rfl⟩,fun h=>by(simp at TQ;omega),(As.gr cv.g6),(As.gr cv.g5),sF,(St.wk cv.k0)⟩
  refine(bz) aP cz.b0<|(dD) fT cz.p6 fun tU al3 al4 cv=>?_;refine dW ?_;refine EX.iV rfl (RS.cell aP rfl cv.b0 rfl<|RS.tmp rfl<|RS.nil) rfl<|?_;exact⟨⟨x.ad+1,li,x.ak⟩,_,_,_,_,_,_,_,_,rfl,rfl,by show x.ad≤x.ad+1;omega,by simp at TQ;show x.ad+1≤_;omega,hG,by simp at Zw;show li.length≤64;omega,Int.le_refl _,⟨T9,.inr ⟨rfl,hfc⟩⟩,Qx.done (by omega),fun _=>rfl,(As.gr cv.g2),(As.gr cv.g3),sF,(St.wk cv.k0)⟩
 -- tN jf C49
theorem vj{{x:dQ}} {{l:List Change}} {{a1 a2 al:Option Addr}} {{n1 e1 n2 e2 nl el:Nat}} {{w:World}} {{M Z:Nat→Prop}} (bJ:St w M Z w []) (hi:Rd RR.aF 4 Z w a1 n1 e1 x.ae) (hr:Rd RR.fV 8 Z w a2 n2 e2 x.ak) (hl:Rd RR.cT 3 Z w al nl el l) (hb:lJ x) (hx:lK x.ad x.ae) (hs:∀c∈l,c.small) (hl4:l.length≤32):Calls prog 21 #[.agg (x.row a1 n1 e1 a2 n2 e2).toArray,.slice al nl el] w fun e w'=>∃(y:dQ) (b1 b2:Option Addr) (m1 d1 m2 d2:Nat) (er:Int) (Z':Nat→Prop),e=.returned (.tuple #[.agg (y.row b1 m1 d1 b2 m2 d2).toArray,.int .i64 er])∧y.ak=x.ak∧x.ad≤y.ad∧y.ad≤1073741824∧lK y.ad y.ae∧y.ae.length≤64∧y.ad≤x.ad+1∧ApR x l y∧(x.ad+1≤1073741824→er=0)∧Rd RR.aF 4 Z' w' b1 m1 d1 y.ae∧Rd RR.fV 8 Z' w' b2 m2 d2 y.ak∧cN w.heap.size Z Z'∧St w M Z' w' []:=
 (vh bJ hi hr hl hb hx hs hl4).mono fun _ _ ⟨y,b1,b2,m1,d1,m2,d2,er,Z',g1,g2,g3,g4,g5,g6,g7,g8,_,g⟩=>⟨y,b1,b2,m1,d1,m2,d2,er,Z',g1,g2,g3,g4,g5,g6,g7,g8,g⟩
end Go.Rc

