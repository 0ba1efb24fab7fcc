/- Walks over the program, part WZl. Conditions: as each theorem says. -/
import Derived.Test.YtjpagoacbadijaaGreatDoorVFacts
import Derived.Test.YtjpagoacbadijaaGreatDoorVWZi
import Derived.Test.YtjpagoacbadijaaGreatDoorVWZh
import Derived.Test.YtjpagoacbadijaaGreatDoorVBf
import Derived.Test.YtjpagoacbadijaaGreatDoorVBh
import Derived.Test.YtjpagoacbadijaaGreatDoorVWX
import Derived.Test.YtjpagoacbadijaaGreatDoorVWZe
import Derived.Test.YtjpagoacbadijaaGreatDoorVBg
set_option linter.all false
namespace Go.Rc
open Go Go.Proofs Go.Proofs.Tryz
variable {ab:List aG}{x:dP}{t:vJ}{n r cr d c:Nat}{w:World}{M Z:Nat→Prop}{ar a:Option Addr}{m:Int}{l:List Key}
set_option maxHeartbeats 400000
set_option maxHeartbeats 4000000 in
theorem HR{rev:Int}{D:SD}{A:L8}(hR:aw ab) (bJ:St w M Z w [As.l3 prog 134 ab x D]) (ht:nO prog Z w) (hA:t.In A Z w) (hk:TR ab x.ad rev n t) (hn:n≤90000):Calls prog 78 #[.pointer (some ⟨D.s,0,none⟩),.agg (t.row A).toArray] w fun e w'=>∃(t':vJ) (A':L8) (d:Bool) (er:Int) (Z':Nat→Prop),e=.returned (.tuple #[.agg (t'.row A').toArray,.bool d,.int .i64 er])∧TR ab x.ad rev (n+1) t'∧(TO ab x t→er=0∧TO ab x t')∧t'.In A' Z' w'∧cI w.heap.size Z Z'∧St w M Z' w' [As.l3 prog 134 ab x D]:=by
 have hsz:=hk.sz hR (by omega);obtain⟨hu,hi,hr,hg,hf,hp⟩:=id hA;have lp:=hp.len;have lf:=hf.len;have lg:=hg.len;refine enter func78 rfl ntmps78 rfl<|?_;have bd:=bJ;have st1:=bd.fr hu;have st2:=st1.fr hi;have aW:=st2.fr hr;have ba:=aW.fr hg;have bs:=ba.fr hf;have bj:=bs.fr hp;have bV:=bj.fact (B:=As.fz (FZ.Kt prog)) ht (fun _ hx=>hx);refine(fm) bV fun b3 w1 iO dJ bT=>?_;refine(gy) bT fun b4 w2 jG bE cm=>?_;refine(bA) fi cm.b1<|?_;have aM:=cm;refine(dh) XA (qW aM.e0 ⟨(As.gr aM.g8),(As.gr aM.g7),(As.gr aM.g6),(As.gr aM.g5),(As.gr aM.g4),(As.gr aM.g3)⟩ hsz) ?_;rintro _ w3 ⟨A1,Z1,rfl,HO,gq,eN⟩;have aO:=St.lv aM eN gq;have Ll:=St.cH eN;have rZ:=aM.size;have oL:=gq.le rZ;have aS:=aO.fr (HO.u);have bC:=aS.fr (HO.i);have br:=bC.fr (HO.r);have aY:=br.fr (HO.g);have aQ:=aY.fr (HO.f);have lnp:=((As.gs aQ.g5)).len;have lgg:=((As.gr aQ.g1)).len;have lgf:=((As.gr aQ.g0)).len;have hnr:=hk.nr;have hns:=hk.ns;have hng:=hk.ng;have bB:=aQ.N6.drop;have bL:=bB.xM.drop;have bG:=bL.Ko.drop;have ck:=bG.oR.drop;have cw:=ck.pF.drop;have cx:=cw.p9.drop;refine(dB) lM cx.p7 fun w4 jV j0 cU=>?_;refine(bM) zP cU.b0<|(aZ) (fun g18=>?_) fun g18=>?_
 ·
  simp at g18
  have nj:t.stack=[]:=List.eq_nil_of_length_eq_zero (by omega);refine(bM) gJ cU.b0<|(aZ) (fun g22=>?_) fun g22=>?_
  ·
   skip
   refine(bA) fi cU.b0<|(dB) lM cU.p7 fun w5 sC nj ct=>?_;refine gM ?_;have cN:=ct.p7.bN (by omega);have oO:=oL.trans (cI.fc (F:=fun x=>x∈aI A1.p) Ll) rZ;refine EX.iT rfl (RS.cell fi rfl cN.b1 rfl<|RS.tmp rfl<|RS.tmp rfl<|RS.nil) rfl<|?_;exact⟨t,A1,false,0,_,rfl,hk.mono (by omega),(fun h=>⟨rfl,h⟩),⟨(As.gr cN.g7),(As.gr cN.g6),(As.gr cN.g5),(As.gr cN.g4),(As.gr cN.g3),(As.gr cN.g0)⟩,oO,cN.p9.k1⟩
  simp at g22
  have hg0:0<t.goals.length:=by omega
  have Ky:=hk.ok.goals t.goals[0] (List.getElem_mem hg0);refine dA ?_;obtain⟨iz,ku,jW,aX,gk,bF,cQ,dO⟩:=Rd.at (As.gr cU.g2) hg0;have bF:=RR.cG bF;subst bF;have ct:=cU.fg dO cQ;refine(bM) gJ ct.b1<|?_;refine WP .r (PV.Kk fV (0) aX rfl rfl (by omega) (by omega))<|(bA) aq (As.oS ct.g0)<|(gy) ct fun b7 w5 vZ om cN=>?_;refine(dB) jz cN fun w6 BC rq ef=>?_;refine(bM) gJ ef.b2<|?_;refine WP .r (PV.Dt fV (i:=1) (As.gr ef.g4) rfl rfl (by omega))<|nx ?_;refine WL.s1 ef.p2 fun w7 _ dq=>?_;refine nx ?_;have ew:=dq.fr (SR.drop (i:=1) (As.gr dq.g4) (by omega));refine(kB) aP ew.b1<|(bA) aq ew.b2<|(iu) (uO (k:=t.goals[0]) (As.gr ew.g7) (As.gr ew.g6) (Rd.nil _ _ _ _)) ew fun w8 s8 db=>?_;refine(aZ) (fun H9=>?_) fun H9=>?_
  ·
   have qt:=DO H9;have Qs:=db.size;refine(bA) aq db.b2<|?_;refine WP .r (PV.bU (us:=((⟨t.goals[0],false,0,[],[]⟩:et).row none 0 0 none 0 0)) O9 rfl rfl rfl)<|?_;refine WL.go rfl (OX.aR (us:=((⟨t.goals[0],false,0,[],[]⟩:et).row none 0 0 none 0 0)) uH rfl rfl rfl rfl fun Zv w9 afv al0=>?_);have dM:=db.eI afv al0;refine nx ?_;refine WL.s1 dM.p2 fun kE _ cR=>?_;refine(bA) fi cR.b0<|(dB) lM cR.oR fun kF QW vE di=>?_;refine jo ?_;have dr:=di.oR.bN (by omega);have oO:=oL.trans (cI.fc (F:=fun x=>x∈aI A1.p) Ll) rZ;have eQ:=dr.p3;have dR:=eQ.conv (B:=As.os RR.pT 151 6 (some ⟨Zv,0,none⟩) 1 1 [⟨t.goals[0],false,0,[],[]⟩]) (OR.ek (As.gb eQ.g0) (Nat.zero_le _) rfl (et.one _ _ _ _ _ _ _) ⟨none,0,0,none,0,0,rfl,Rd.nil _ _ _ _,Rd.nil _ _ _ _,by simp,by simp⟩) (fun x h=>by show x=Zv;change x∈aI (some ⟨Zv,0,none⟩) at h;simpa [aI] using h)
   have al1:∀x∈aI (some ⟨Zv,0,none⟩:Option Addr),w.heap.size≤x:=fun x h=>by
    obtain rfl:x=Zv:=by simpa [aI] using h
    have:=afv.ge
    omega
   have eA:=dR.bN (by simp);have J8:=oO.trans (cI.fc (F:=fun x=>x∈aI (some ⟨Zv,0,none⟩)) al1) (Nat.le_refl _);refine EX.iT rfl (RS.cell fi rfl eA.b2 rfl<|RS.tmp rfl<|RS.tmp rfl<|RS.nil) rfl<|?_;exact⟨{t with goals:=t.goals.drop 1,stack:=[⟨t.goals[0],false,0,[],[]⟩]},{A1 with g:=pE A1.g 1 2 A1.cg,ng:=A1.ng - 1,cg:=A1.cg - 1,f:=some ⟨Zv,0,none⟩,nf:=1,cf:=1},true,0,_,rfl,(hk.mono (by omega)).begin Ky qt (by omega),(fun h=>⟨rfl,h.begin hR nj Ky H9 _⟩),⟨(As.gr eA.g11),(As.gr eA.g10),(As.gr eA.g9),(As.gr eA.g4),(As.gr eA.g0),(As.gr eA.g1)⟩,J8,eA.xM.k1⟩
  skip
  refine(bA) fi db.b1<|(dB) lM db.pF fun w9 Q1 Gd dM=>?_;refine jo ?_;have cR:=dM.pF.bN (by omega);have oO:=oL.trans (cI.fc (F:=fun x=>x∈aI A1.p) Ll) rZ;refine EX.iT rfl (RS.cell fi rfl cR.b1 rfl<|RS.tmp rfl<|RS.tmp rfl<|RS.nil) rfl<|?_;exact⟨{t with goals:=t.goals.drop 1},{A1 with g:=pE A1.g 1 2 A1.cg,ng:=A1.ng - 1,cg:=A1.cg - 1},true,0,_,rfl,(hk.mono (by omega)).abA,(fun h=>⟨rfl,h.goals _⟩),⟨(As.gr cR.g10),(As.gr cR.g9),(As.gr cR.g8),(As.gr cR.g2),(As.gr cR.g6),(As.gr cR.g0)⟩,oO,cR.Ko.k1⟩
 simp at g18
 have j0:t.stack≠[]:=by intro h;rw [h] at lgf;simp at lgf;omega
 refine(kB) aP cU.b0<|(bM) zP cU.b0<|?_;have ct:=cU.p9;refine(dh) acO (E7 hR ct.e1 (As.gf ct.g9) (As.gr ct.g5) (As.gr ct.g4) (As.gr ct.g2) hk.ok.base hk.ok.stack j0 (by omega)) ?_;rintro _ w5 ⟨b2,l2,rk2,d2,er2,b1,b3,bl,bk,m1,d1,m3,d3,ml,dl,mk,dk,Z2,rfl,fl,qm,al2,h1k,h1l,afw,al3,al4,al5,AD,jB⟩;have cN:=St.lv ct jB AD;have pw:=ct.size;have ly:=oL.trans AD pw;have atk:∀x∈aI A1.p,w.heap.size≤x:=fun x hx=>Nat.le_trans rZ (Ll x hx);have ef:=cN.fr (al3);have dq:=ef.fr (al4);have ew:=dq.fr (al5);have lnk:=((As.gs ew.g4)).len;refine(gy) ew fun b8 w6 Da iY db=>?_;refine(dB) fR db fun w7 Yj Yk dM=>?_;refine bf ?_;refine(aZ) (fun tI=>?_) fun tI=>?_
 ·
  skip
  refine(bA) fi (cV.range (As.gb dM.g6))<|(dB) lM dM.xM fun w8 ss6 hs6 cR=>?_;refine jo ?_;have di:=cR.xM.bN (by omega);have oO:=ly.trans (cI.fc (F:=fun x=>x∈aI A1.p) Ll) rZ;refine EX.iT rfl (RS.cell fi rfl di.b1 rfl<|RS.tmp rfl<|RS.tmp rfl<|RS.nil) rfl<|?_;exact⟨t,A1,false,er2,_,rfl,hk.mono (by omega),(fun h=>⟨(h.OO hR hk.ok.base.ki afw).1,h⟩),⟨(As.gr di.g13),(As.gr di.g12),(As.gr di.g11),(As.gr di.g10),(As.gr di.g9),(As.gr di.g0)⟩,oO,di.p6.k1⟩
 skip
 refine dA ?_;have Qs:=dM.size;refine WC.du (m:=7) [1] [5] [2,3,4,5,0,1,6] [] dM (av.k4 M0 M1 M2 M3<|av.k4 M4 M5 M6 M7<|av.k4 M8 M9 j7 lz<|av.cons vk<|av.cons Ft<|av.nil) mixed (by kernel_rfl) (by kernel_rfl) rfl<|(Bo) gJ SV.g6<|(jb) (fun w8 To ED cR qS=>?_);simp only [CA,NA] at cR;refine OX.ox rU rfl rfl rfl (As.gs cR.g12) (Ow.rd (As.gs cR.g5) (by omega)) (by show(A1.np+mk)*_≤_;omega) (by show A1.np+mk≤_;omega) (Nat.zero_le _) fun a62 al7 w9 al8 s62 afx atl=>?_;have di:=cR.Ko.jk s62 al8 afx;refine⟨s62.size,_,rfl,_,_,_,di,ay.k4<|ay.k4<|ay.k4<|ay.k2<|ay.cons<|ay.nil,av.k4 M1 M2 M3 M4<|av.k4 M5 M6 M7 M8<|av.k4 M9 j7 lz qh<|av.cons vk<|av.cons Ft<|av.nil,?_⟩;refine(pS) aP SV.g0<|?_
 iterate 2 refine DG.a ?_
 refine(oD) ?_;intro kE Hm dr;simp only [CM,NM,CA,NA,lG.it] at dr;refine WL.go rfl (OX.VJ fR (As.gb dr.g7) rfl rfl rfl rfl rfl fun kF ss7 hs7=>?_);have eQ:=dr.p7.Ga ss7 hs7;refine nx ?_;refine WL.s1 eQ fun qf _ dR=>?_;refine nx ?_;refine WL.s1 dR fun tU _ eA=>?_;refine WL.nil (EX.np ?_);refine(bA) fi eA.b0<|(dB) lM eA.xM fun Ay ss8 hs8 eO=>?_;refine eC ?_;have fH:=eO.p2.bN (by rw [List.length_append];omega)
 have UZ:∀x∈aI a62,w.heap.size≤x:=fun x hx=>by rcases afx x hx with h | h;exact Nat.le_trans rZ (Ll x h);omega
 have oO:=ly.trans (cI.fc (F:=fun x=>x∈aI a62) UZ) (Nat.le_refl _);refine EX.iT rfl (RS.cell fi rfl fH.b1 rfl<|RS.tmp rfl<|RS.tmp rfl<|RS.nil) rfl<|?_;exact⟨{t with base:=b2,stack:=l2,cP:=t.cP++rk2},{A1 with i:=b1,ni:=m1,ci:=d1,r:=b3,nr:=m3,cr:=d3,f:=bl,nf:=ml,cf:=dl,p:=a62,np:=A1.np+mk,cp:=al7},d2,0,_,rfl,hk.next fl qm al2 h1k h1l,(fun h=>⟨rfl,(h.OO hR hk.ok.base.ki afw).2⟩),⟨(As.gr fH.g13),(As.gr fH.g6),(As.gr fH.g5),(As.gr fH.g10),(As.gr fH.g4),(As.gr fH.g0)⟩,oO,fH.p7.k1⟩
set_option maxHeartbeats 4000000 in
theorem J9{A:L8}{most:Nat}(hR:aw ab) (bJ:St w M Z w []) (ht:nO prog Z w) (hA:t.In A Z w) (hk:TR ab t.base.ad t.base.ae 0 t) (Cu:gV t.ab t.base t.goals=0) (hm:most≤80000):Calls prog 51 #[.agg (t.row A).toArray,.int .i64 (most:Int)] w fun e w'=>∃(t':vJ) (A':L8) (i er:Int) (Z':Nat→Prop),e=.returned (.tuple #[.agg (t'.row A').toArray,.int .i64 i,.int .i64 er])∧TR ab t.base.ad t.base.ae 80000 t'∧(Bh ab t.base→er=0∧TO ab t.base t')∧t'.In A' Z' w'∧cI w.heap.size Z Z'∧St w M Z' w' []:=by
 have hsz:=hk.sz hR (by omega);obtain⟨hu,hi,hr,hg,hf,hp⟩:=id hA;have afy:t.stack=[]:=List.eq_nil_of_length_eq_zero (by have:=hk.ns;omega);have al9:t.cP=[]:=List.eq_nil_of_length_eq_zero (by have:=hk.nr;omega);have afz:Bh ab t.base→TO ab t.base t:=fun h=>TO.of h afy al9;refine enter func51 rfl ntmps51 rfl<|?_;have bd:=St.rb bJ;have st1:=bd.fr hu;have st2:=st1.fr hi;have aW:=st2.fr hr;have ba:=aW.fr hg;have bs:=ba.fr hf;have bj:=bs.fr hp;have bV:=bj.fact (B:=As.fz (FZ.Kt prog)) ht (fun _ hx=>hx);refine(fm) bV fun b2 w1 nv fl bT=>?_;refine(gy) bT fun b4 w2 jG bE cm=>?_;refine(bA) fi cm.b1<|?_;have aM:=cm;refine(dh) XA (qW aM.e0 ⟨(As.gr aM.g8),(As.gr aM.g7),(As.gr aM.g6),(As.gr aM.g5),(As.gr aM.g4),(As.gr aM.g3)⟩ hsz) ?_;rintro _ w3 ⟨A1,Z1,rfl,HO,gq,eN⟩;have aO:=St.lv aM eN gq;have Ll:=St.cH eN;have rZ:=aM.size;have oL:=gq.le rZ;have aS:=aO.fr (HO.u);have bC:=aS.fr (HO.i);have br:=bC.fr (HO.r);have aY:=br.fr (HO.g);have aQ:=aY.fr (HO.f);have Za:=St.fresh aQ.p5;have bB:=aQ.p5.bN (by have:=hk.nr;omega);have ly:=oL.trans (cI.fc (F:=fun x=>x∈aI A1.p) Ll) rZ;have bL:=bB.N6.drop;have bG:=bL.xM.drop;have ck:=bG.Ko.drop;have cw:=ck.oR.drop;have cx:=cw.pF.drop;have cU:=cx.p9.drop;refine(dB) lM cU.p7 fun w4 jV j0 ct=>?_;refine(aZ) (fun g15=>?_) fun g15=>?_
 ·
  simp at g15
  obtain rfl:most=0:=by omega
  refine(bA) fi ct.b0<|(dB) lM ct.p7 fun w5 sC nj cN=>?_;refine jo ?_;refine EX.iT rfl (RS.cell fi rfl cN.b0 rfl<|RS.tmp rfl<|RS.tmp rfl<|RS.nil) rfl<|?_;exact⟨t,A1,0,0,_,rfl,hk.mono (by omega),(fun h=>⟨rfl,afz h⟩),⟨(As.gr cN.g7),(As.gr cN.g6),(As.gr cN.g5),(As.gr cN.g4),(As.gr cN.g3),(As.gr cN.g2)⟩,ly,(St.wk cN.k0)⟩
 skip
 refine(bA) fi ct.b0<|?_;have cN:=ct;refine(dh) aiT (B2 cN.e0 ⟨(As.gr cN.g6),(As.gr cN.g5),(As.gr cN.g4),(As.gr cN.g3),(As.gr cN.g2),(As.gr cN.g1)⟩ afy Cu) ?_;rintro _ w5 ⟨rfl,jB⟩;have ef:=St.lr cN jB;refine dA ?_;refine WC.ke rfl<|(bM) me ef.b0<|(kB) aP ef.b0<|?_;have dq:=ef;refine(dh) acx (Ar (x:=t.base) dq.e0) ?_;rintro _ w6 ⟨d1,d2,d3,rfl,mY⟩;have ew:=St.lr dq mY;refine cS ?_;have db:=ew.p1.p1;have dM:=db.join (C:=As.l3 prog 134 ab t.base ⟨A1.u,A1.i,A1.r,A1.nu,A1.cu,A1.ni,A1.ci,A1.nr,A1.cr,d2,d3,d1⟩) ⟨db.abr,(As.gb db.g0),⟨[],bq.nil,(As.gm db.g1)⟩,⟨hk.ok.T3 ▸ (As.gr db.g9),(As.gr db.g8),(As.gr db.g7),(As.gf db.g11)⟩⟩ (fun y h=>h);have cR:=dM.p1.drop;refine kP ?_;refine WC.kh (σ:=Nat × vJ × L8 × (Nat→Prop)) (eP:=fun(i,tt,A2,Z5)=>[(1,.int .i64 (most:Int)),(2,.pointer (some ⟨b2,0,none⟩)),(4,.pointer (some ⟨b4,0,none⟩)),(7,.pointer (some ⟨d1,0,none⟩)),(8,.int .i64 (i:Int))]) (F:=fun(i,tt,A2,Z5)=>[As.l3 prog 134 ab t.base ⟨A1.u,A1.i,A1.r,A1.nu,A1.cu,A1.ni,A1.ci,A1.nr,A1.cr,d2,d3,d1⟩,As.blk b2 109 (tt.row A2),As.ro RR.gF 4 A2.u A2.nu A2.cu tt.ab,As.ro RR.aF 4 A2.i A2.ni A2.ci tt.base.ad,As.ro RR.fT 8 A2.r A2.nr A2.cr tt.base.ak,As.ro RR.key 2 A2.g A2.ng A2.cg tt.goals,As.ro RR.pT 6 A2.f A2.nf A2.cf tt.stack,As.ro RR.key 2 A2.p A2.np A2.cp tt.cP]) (I:=fun(i,tt,A2,Z5)=>(i≤most)∧(TR ab t.base.ad t.base.ae i tt)∧(Bh ab t.base→TO ab t.base tt)∧(cI w.heap.size Z Z5)∧True) (μ:=fun(i,tt,A2,Z5)=>most - i) (Zf:=fun(i,tt,A2,Z5)=>Z5) (0,t,A1,_) (cR.p2.p3.p4.p5.p6.p7.p7.p7) Sub.t (⟨Nat.zero_le _,hk,afz,ly,trivial⟩)<|?_;rintro⟨i,tt,A2,Z5⟩ w7 di ⟨Tg,hk5,Db,nz,_⟩;simp only [CA,NA] at di Tg hk5 Db nz ⊢;refine(aZ) (fun iN=>?_) fun iN=>?_
 ·
  simp at iN
  refine(bA) fi di.b1<|?_;have dr:=di;refine(dh) aiU (HR hR dr.e1 (As.gf dr.g9) ⟨(As.gr dr.g2),(As.gr dr.g3),(As.gr dr.g4),(As.gr dr.g5),(As.gr dr.g6),(As.gr dr.g7)⟩ hk5 (by omega)) ?_;rintro _ w8 ⟨t6,A6,d6,er6,Z6,rfl,hk6,Zw,hA6,HC,kM⟩;have eQ:=St.lv dr kM HC;have BW:=nz.trans HC dr.size;have dR:=eQ.fr (hA6.u);have eA:=dR.fr (hA6.i);have eO:=eA.fr (hA6.r);have fH:=eO.fr (hA6.g);have iG:=fH.fr (hA6.f);have jw:=iG.fr (hA6.p);refine(gy) jw fun b9 w9 PI Al l7=>?_;refine(dB) lM l7 fun kE BC rq iR=>?_;refine(aZ) (fun uL=>?_) fun uL=>?_
  ·
   skip
   refine(bA) fi (cV.range (As.gb iR.g8))<|(dB) lM iR.p15 fun kF QW vE fS=>?_;refine oC ?_;refine EX.iT rfl (RS.cell fi rfl fS.b0 rfl<|RS.tmp rfl<|RS.tmp rfl<|RS.nil) rfl<|?_;exact⟨tt,A2,(i:Int),er6,_,rfl,hk5.mono (by omega),(fun h=>⟨(Zw (Db h)).1,Db h⟩),⟨(As.gr fS.g10),(As.gr fS.g11),(As.gr fS.g12),(As.gr fS.g13),(As.gr fS.g14),(As.gr fS.g15)⟩,BW,(St.wk fS.k0)⟩
  skip
  refine(aZ) (fun lW=>?_) fun lW=>?_
  ·
   skip
   refine(bA) fi iR.b0<|(dB) lM iR.p15 fun kF Q1 Gd fS=>?_;refine oC ?_;refine EX.iT rfl (RS.cell fi rfl fS.b0 rfl<|RS.tmp rfl<|RS.tmp rfl<|RS.nil) rfl<|?_;exact⟨t6,A6,(i:Int),0,_,rfl,hk6.mono (by omega),(fun h=>⟨rfl,(Zw (Db h)).2⟩),⟨(As.gr fS.g7),(As.gr fS.g6),(As.gr fS.g5),(As.gr fS.g4),(As.gr fS.g3),(As.gr fS.g2)⟩,BW,(St.wk fS.k0)⟩
  have fS:=iR.p9.drop;have pZ:=fS.p9.drop;have l8:=pZ.p9.drop;have j6:=l8.p9.drop;have qY:=j6.p9.drop;have tS:=qY.p9.drop;refine(bA) fi tS.b0<|(dB) lM tS.p8 fun kF Yj Yk wC=>?_;refine dA ?_;refine fJ (i+1,t6,A6,Z6) ⟨wC.p1.drop.p2.p3.p4.p5.p6.p5.p7,⟨by omega,hk6,fun h=>(Zw (Db h)).2,BW,trivial⟩⟩
 skip
 refine(bA) fi di.b1<|(dB) lM di.p8 fun w8 ss6 hs6 dr=>?_;refine eC ?_;refine EX.iT rfl (RS.cell fi rfl dr.b0 rfl<|RS.tmp rfl<|RS.tmp rfl<|RS.nil) rfl<|?_;exact⟨tt,A2,(i:Int),0,_,rfl,hk5.mono (by omega),(fun h=>⟨rfl,Db h⟩),⟨(As.gr dr.g3),(As.gr dr.g4),(As.gr dr.g5),(As.gr dr.g6),(As.gr dr.g7),(As.gr dr.g8)⟩,nz,(St.wk dr.k0)⟩
set_option maxHeartbeats 400000
theorem HS(bJ:St w M Z w [As.jt 74 d]) (hu:Rd RR.gF 4 Z w ar r cr ab) (h0:1≤ab.length) (h9:ab.length≤100):Calls prog 39 #[.pointer (some ⟨d,0,none⟩),.slice ar r cr] w fun e w'=>∃k:Key,e=.returned k.val∧o4 ab k∧St w M Z w' [As.jt 74 d]:=by
 have hlen:=hu.len;refine enter func39 rfl ntmps39 rfl<|?_;have bd:=bJ;have st1:=bd.fr hu;refine(gy) st1 fun b4 w1 jG bE st2=>?_;refine jo ?_;have aW:=st2.p2;refine(dh) lN (bP aW.e1 (m:=8) (by omega)) ?_;rintro _ w2 ⟨z7,rfl,aeM,HJ,uY⟩;have ba:=St.lr aW uY;have HJ:=HJ (by omega);refine(aZ) (fun g7=>?_) fun g7=>?_
 ·
  skip
  refine dA ?_;have bs:=ba;refine(dh) lN (bP bs.e1 (m:=4) (by omega)) ?_;rintro _ w3 ⟨z4,rfl,Qi,HF,eN⟩;have bj:=St.lr bs eN;have HF:=HF (by omega);refine(iu) (jU (n:=z4)) bj fun w4 s4 bV=>?_;refine(dB) jz bV.p1 fun w5 jV j0 bT=>?_;refine(my) aq bT.b0<|?_;exact⟨_,rfl,.inl ⟨z4,Qi,by omega,rfl⟩,bT.drop.p1.drop⟩
 skip
 refine jo ?_;have bs:=ba;refine(dh) lN (bP bs.e1 (m:=2) (by omega)) ?_;rintro _ w3 ⟨z2,rfl,aeH,HG,eN⟩;have bj:=St.lr bs eN;have HG:=HG (by omega);refine(aZ) (fun g13=>?_) fun g13=>?_
 ·
  skip
  refine qd ?_;refine WP .r (PV.Rm rfl rfl)<|?_;have bV:=bj;refine(dh) lN (bP bV.e1 (m:=min 3 (r:Int)) (by omega)) ?_;rintro _ w4 ⟨z22,rfl,ama,QB,iV⟩;have bT:=St.lr bV iV;have QB:=QB (by omega);refine(iu) (gZ (n:=(r:Int) - 1 - z22) (As.gr bT.g2)) bT fun w5 s5 cm=>?_;refine(dB) jz cm.p1 fun w6 sC nj aM=>?_;refine(my) aq aM.b0<|?_;obtain⟨i,hi⟩:∃i:Nat,(r:Int) - 1 - z22=i:=⟨((r:Int) - 1 - z22).toNat,by omega⟩;exact⟨_,rfl,.inr ⟨i,by omega,by rw [hi]⟩,aM.drop.p1.drop⟩
 skip
 refine kP ?_;have bV:=bj;refine(dh) lN (bP bV.e1 (m:=(r:Int)) (by omega)) ?_;rintro _ w4 ⟨z5,rfl,aoN,Vc,iV⟩;have bT:=St.lr bV iV;have Vc:=Vc (by omega);refine(iu) (gZ (n:=z5) (As.gr bT.g2)) bT fun w5 s5 cm=>?_;refine(dB) jz cm.p1 fun w6 BC rq aM=>?_;refine(my) aq aM.b0<|?_;obtain⟨i,rfl⟩:∃i:Nat,z5=i:=⟨z5.toNat,by omega⟩;exact⟨_,rfl,.inr ⟨i,by omega,rfl⟩,aM.drop.p1.drop⟩
theorem vj(bJ:St w M Z w [As.jt 74 d]) (hu:Rd RR.gF 4 Z w ar r cr ab) (h0:1≤ab.length) (h9:ab.length≤100) (hm:1≤m) (kI:m≤1000):Calls prog 17 #[.pointer (some ⟨d,0,none⟩),.slice ar r cr,.int .i64 m] w fun e w'=>∃a n c,∃l:List Key,e=.returned (.slice a n c)∧(l.length:Int)≤m∧(∀x∈l,o4 ab x)∧St w M Z w' [As.jt 74 d,As.os RR.key 39 2 a n c l]:=by
 have hlen:=hu.len;refine enter func17 rfl ntmps17 rfl<|?_;have bd:=bJ;have st1:=bd.fr hu;have st2:=st1.eR RR.key 39 2;refine bf ?_;refine dA ?_;have aW:=st2.p2;refine(dh) lN (bP aW.e1 (m:=m) (by omega)) ?_;rintro _ w1 ⟨z0,rfl,Qj,qU,AL⟩;have ba:=St.lr aW AL;have qU:=qU (by omega);obtain⟨z,rfl⟩:∃z:Nat,z0=z:=⟨z0.toNat,by omega⟩;refine eC ?_;refine WC.cq (σ:=Nat × (List Key) × (Option Addr) × Nat × Nat) (eP:=fun(i,l,fW,ey,fX)=>[(0,.pointer (some ⟨d,0,none⟩)),(1,.slice ar r cr),(7,.slice fW ey fX),(8,.int .i64 (i:Int))]) (F:=fun(i,l,fW,ey,fX)=>[As.os RR.key 39 2 fW ey fX (l),As.jt 74 d]) (I:=fun(i,l,fW,ey,fX)=>(l.length+i≤z+1)∧(∀x∈l,o4 ab x)∧True) (μ:=fun(i,l,fW,ey,fX)=>i) (z+1,[],none,0,0) (ba.p1) Sub.t (⟨by simp,by simp,trivial⟩)<|?_;rintro⟨i,l,fW,ey,fX⟩ w2 bs ⟨hlz,Df,_⟩;simp only [CA,NA] at bs hlz Df ⊢;have Ua:=((As.gs bs.g0)).len;refine(aZ) (fun g14=>?_) fun g14=>?_
 ·
  simp at g14
  refine kP ?_;have bj:=bs.p1;refine(dh) aiw (HS bj.e1 (As.gr bj.g2) h0 h9) ?_;rintro _ w3 ⟨x,rfl,hx,eN⟩;have bV:=St.lr bj eN;refine WL.go rfl (OX.aR (us:=x.cells) eM rfl rfl rfl rfl fun b21 w4 Zq Zr=>?_);have bT:=bV.eI Zq Zr;refine WL.ap rfl rfl bT.p2 (SR.ek (A:=fun _=>True) (x:=x) (As.gb bT.g0) trivial rfl (by simp [Key.cells,Value.oneCell']) rfl) fun a22 amb w5 atn ato cm=>?_;refine qd ?_;refine fJ (i - 1,l++[x],a22,(ey+1),amb) ⟨cm.p1.drop,⟨by simp;omega,fun y hy=>by rcases List.mem_append.1 hy with h | h;exact Df y h;simp at h;subst h;exact hx,trivial⟩⟩
 simp at g14
 refine(cy) ?_;exact⟨_,_,_,l,rfl,by omega,Df,bs.p2.drop.p1⟩
set_option maxHeartbeats 4000000 in
theorem Fa{a1 a2:Option Addr}{n1 e1 n2 e2:Nat}(hR:aw ab) (bJ:St w M Z w [As.jt 74 d]) (ht:nO prog Z w) (hu:Rd RR.gF 4 Z w ar r cr ab) (h0:1≤ab.length) (h9:ab.length≤100) (ri:Rd RR.aF 4 Z w a1 n1 e1 x.ad) (rc:Rd RR.fT 8 Z w a2 n2 e2 x.ak) (yd:LC ab x) (hm:0≤m) (kI:m≤1000):Calls prog 26 #[.pointer (some ⟨d,0,none⟩),.slice ar r cr,.agg (x.row a1 n1 e1 a2 n2 e2).toArray,.int .i64 m] w fun e w'=>∃(y:dP) (b1 b2:Option Addr) (m1 d1 m2 d2:Nat) (Z':Nat→Prop),e=.returned (.agg (y.row b1 m1 d1 b2 m2 d2).toArray)∧LC ab y∧y.ae≤x.ae+m∧Rd RR.aF 4 Z' w' b1 m1 d1 y.ad∧Rd RR.fT 8 Z' w' b2 m2 d2 y.ak∧cI w.heap.size Z Z'∧St w M Z' w' [As.jt 74 d]:=by
 refine enter func26 rfl ntmps26 rfl<|?_;have bd:=bJ;have st1:=bd.fr hu;have st2:=st1.fr ri;have aW:=st2.fr rc;have ba:=aW.fact (B:=As.fz (FZ.Kt prog)) ht (fun _ hx=>hx);refine(fm) ba fun b6 w1 mC eE bs=>?_;refine(gy) bs fun b8 w2 Da iY bj=>?_;refine kP ?_;have bV:=bj.p6;refine(dh) lN (bP bV.e1 (m:=m+1) (by omega)) ?_;rintro _ w3 ⟨z0,rfl,Qj,qU,eN⟩;have bT:=St.lr bV eN;have qU:=qU (by omega);obtain⟨z,rfl⟩:∃z:Nat,z0=z:=⟨z0.toNat,by omega⟩;refine dV ?_;refine WC.kh (σ:=Nat × dP × (Option Addr) × Nat × Nat × (Option Addr) × Nat × Nat × (Nat→Prop)) (eP:=fun(i,y,a1,n1,e1,a2,n2,e2,Z5)=>[(0,.pointer (some ⟨d,0,none⟩)),(1,.slice ar r cr),(6,.pointer (some ⟨b6,0,none⟩)),(8,.pointer (some ⟨b8,0,none⟩)),(9,.int .i64 (i:Int))]) (F:=fun(i,y,a1,n1,e1,a2,n2,e2,Z5)=>[As.jt 74 d,As.blk b6 31 (y.row a1 n1 e1 a2 n2 e2),As.ro RR.aF 4 a1 n1 e1 y.ad,As.ro RR.fT 8 a2 n2 e2 y.ak]) (I:=fun(i,y,a1,n1,e1,a2,n2,e2,Z5)=>(LC ab y)∧(i≤z)∧(y.ae≤x.ae+((z:Int) - i))∧(cI w.heap.size Z Z5)∧True) (μ:=fun(i,y,a1,n1,e1,a2,n2,e2,Z5)=>i) (Zf:=fun(i,y,a1,n1,e1,a2,n2,e2,Z5)=>Z5) (z,x,a1,n1,e1,a2,n2,e2,Z) (bT.p4.p5.p4.p3) Sub.t (⟨yd,Nat.le_refl _,by omega,cI.refl _ _,trivial⟩)<|?_;rintro⟨i,y,a1,n1,e1,a2,n2,e2,Z5⟩ w4 cm ⟨yd,hiz,V8,nz,_⟩;simp only [CA,NA] at cm yd hiz V8 nz ⊢;have Nb:=yd.lb.ok.zx;have hyr:y.ak.length≤4000:=yd.lb.ok.ki.len;refine(aZ) (fun g17=>?_) fun g17=>?_
 ·
  simp at g17
  refine gM ?_;have aM:=cm;refine(dh) lN (bP aM.e1 (m:=8) (by omega)) ?_;rintro _ w5 ⟨z8,rfl,aeO,HK,jB⟩;have aO:=St.lr aM jB;have HK:=HK (by omega);refine oC ?_;have aS:=aO;refine WC.mM (σ:=Bool) [] (fun pk=>[(0,.pointer (some ⟨d,0,none⟩)),(1,.slice ar r cr),(6,.pointer (some ⟨b6,0,none⟩)),(8,.pointer (some ⟨b8,0,none⟩)),(9,.int .i64 (i:Int)),(21,.int .i64 z8),(32,.bool pk)]) (fun pk=>[]) (fun pk=>True) aS ?_ ?_
  ·
   refine(aZ) (fun rH=>?_) fun rH=>?_
   ·
    skip
    refine nx ?_;exact sf (decide (z8=0)) ⟨aS,trivial⟩
   skip
   refine(aZ) (fun rH=>?_) fun rH=>?_
   ·
    skip
    refine nx ?_;exact sf (decide (z8=1)) ⟨aS,trivial⟩
   skip
   refine dV ?_;exact sf (decide (z8=2)) ⟨aS,trivial⟩
  rintro pk w6 bC _;simp only [CA,NA] at bC ⊢;refine(aZ) (fun rH=>?_) fun rH=>?_
  ·
   skip
   refine WC.du (m:=7) [6] [2,3] [1,2,0,3,4,5,6] [] bC (av.k4 M1 M2 M3 M4<|av.cons M5<|av.cons M6<|av.nil) mixed (by kernel_rfl) (by kernel_rfl) rfl<|(jb) (fun w7 UT Hu br xD=>?_);simp only [CA,NA] at br;have aY:=br;refine OX.call acw rfl rfl ((qT aY.e1 (by decide) (by decide)).mono ?_);rintro _ w8 ⟨ca,cn,cc,ch,rfl,pP,Df,kM⟩;have aQ:=St.lr aY kM;have P3:=St.zz kM;have Ka:=aY.size;have Zy:=((As.gs aQ.g1)).len;have bB:=aQ.p1.bN (by omega);have BW:=nz.trans (cI.fc (F:=fun x=>x∈aI ca) P3) Ka;refine⟨_,rfl,kM.cW.size,_,rfl,_,_,_,bB,ay.k4<|ay.k4<|ay.nil,av.k4 M2 M3 M4 M5<|av.cons M6<|av.cons M7<|av.nil,?_⟩;refine(pS) aP SV.g0<|(jb) (fun w9 UX Hz bL xF=>?_);simp only [CA,NA] at bL;have bG:=bL;refine OX.call Xt rfl rfl ((vd (x:=y) bG.e0 (As.gr bG.g3) (As.gr bG.g4) (As.gr bG.g0) yd.lb.ok.lH yd.lb.aF Df (by omega)).mono ?_);rintro _ kE ⟨y2,b1,b2,m1,d1,m2,d2,er,Z8,rfl,Zz,hv0,Ic,hG,ZA,QX,hap,_,Lh,ZB,qX,jf⟩;have ck:=St.lv bG jf qX;have J8:=BW.trans qX bG.size;have cw:=ck.fr (Lh);have cx:=cw.fr (ZB);refine⟨_,rfl,jf.cW.size,_,rfl,_,_,_,cx,ay.k4<|ay.k4<|ay.k2<|ay.nil,av.k4 M4 M5 M6 M7<|av.cons M8<|av.cons M9<|av.nil,?_⟩
   iterate 3 refine DG.a ?_
   refine(oD) ?_;intro kF Tc cU;simp only [CM,NM,CA,NA,lG.it] at cU;refine(dB) fR cU.p4 fun qf jV j0 ct=>?_;refine WL.nil (EX.np ?_);have cN:=ct.p5.drop;have ef:=cN.p5.drop;refine kP ?_;refine fJ (i - 1,y2,b1,m1,d1,b2,m2,d2,Z8) ⟨ef.p3.drop.p2.p1.p3,⟨yd.apply hap Zz hv0 Ic hG ZA,by omega,by show y2.ae≤x.ae+((z:Int) - ((i - 1:Nat):Int));omega,J8,trivial⟩⟩
  skip
  refine(aZ) (fun nI=>?_) fun nI=>?_
  ·
   skip
   refine nx ?_;refine WC.du (m:=10) [8] [4,5] [2,3,4,0,1,5,6,7,8,9] [(9,.blk 109 [.slice none 0 0,.int .i64 0,.slice none 0 0,.slice none 0 0,.slice none 0 0,.slice none 0 0,.slice none 0 0])] bC (av.k4 M1 M2 M3 M4<|av.cons M5<|av.cons M6<|av.nil) mixed (by kernel_rfl) (by kernel_rfl) rfl<|?_
   iterate 2 refine DG.a ?_
   refine(jb) (fun w7 Q3 BV br pN=>?_);simp only [CA,NA] at br;have aY:=br;refine OX.call acv rfl rfl ((vj aY.e1 (As.gr aY.g6) (by omega) (by omega) (by decide) (by decide)).mono ?_);rintro _ w8 ⟨ga,gn,gc,gl,rfl,amc,ym,kM⟩;have aQ:=St.lr aY kM;have P3:=St.zz kM;have Ka:=aY.size;have Zy:=((As.gs aQ.g1)).len;have bB:=aQ.p1.bN (by omega);have BW:=nz.trans (cI.fc (F:=fun x=>x∈aI ga) P3) Ka;obtain⟨f,s',Cu,tm,yt,dL,pX,ZC,ZD,_⟩:=yd.Z0 hR ym (by omega);refine⟨_,rfl,kM.cW.size,_,rfl,_,_,_,bB,ay.k4<|ay.k4<|ay.nil,av.k4 M2 M3 M4 M5<|av.cons M6<|av.cons M7<|av.nil,?_⟩;refine(pS) aP SV.g0<|(jb) (fun w9 To ED bL qS=>?_);simp only [CA,NA] at bL;have bG:=bL;refine OX.call aiA rfl rfl ((EW bG.e0 (As.gr bG.g7) (As.gr bG.g3) (As.gr bG.g4) (As.gr bG.g0) ((yd.lb.start yt (by omega)).sz hR (by omega)) Cu).mono ?_);rintro _ kE ⟨A7,Z7,rfl,hA7,Qx,jf⟩;have ck:=St.lv bG jf Qx;have MZ:=BW.trans Qx bG.size;have cw:=ck.fr (hA7.u);have cx:=cw.fr (hA7.i);have cU:=cx.fr (hA7.r);have ct:=cU.fr (hA7.g);have cN:=ct.fr (hA7.f);have ef:=cN.fr (hA7.p);refine⟨_,rfl,jf.cW.size,_,rfl,_,_,_,ef,ay.k4<|ay.k4<|ay.k4<|ay.k2<|ay.nil,av.k4 M8 M9 j7 lz<|av.cons qh<|av.cons vk<|av.nil,?_⟩
   iterate 3 refine DG.a ?_
   refine DG.side (s:=.blk 109 [.slice none 0 0,.int .i64 0,.slice none 0 0,.slice none 0 0,.slice none 0 0,.slice none 0 0,.slice none 0 0]) rfl rfl rfl rfl rfl rfl (fun wx Zx Rx BU fN=>OX.alloc Un rfl fun b wy nw hb=>⟨nw.ext.size,_,rfl,⟨b,rfl⟩,fN.eI nw hb⟩)<|?_;rintro _ ⟨iA,rfl⟩;refine(oD) ?_;intro kF Qc dq;simp only [CM,NM,CA,NA,lG.it] at dq;refine(dB) lM dq fun qf sC nj ew=>?_;refine nx ?_;refine WL.nil (EX.np ?_);refine(aZ) (fun zX=>?_) fun zX=>?_
   ·
    skip
    refine nx ?_;refine WC.du (m:=8) [6,7] [2,3] [1,2,0,3,4,5,6,7] [] ew (av.k4 M0 M1 M2 M3<|av.k4 M4 M5 M6 M7<|av.k4 M9 j7 lz qh<|av.cons vk<|av.cons Ft<|av.nil) mixed (by kernel_rfl) (by kernel_rfl) rfl<|(jb) (fun tU UT Hu db xD=>?_);simp only [CA,NA] at db;have dM:=db.p8;refine OX.call lN rfl rfl ((bP dM.e1 (m:=30) (by omega)).mono ?_);rintro _ Ay ⟨z3,rfl,aeI,HH,xG⟩;have cR:=St.lr dM xG;have HH:=HH (by omega);obtain⟨mo,rfl⟩:∃mo:Nat,z3=mo:=⟨z3.toNat,by omega⟩;refine⟨_,rfl,xG.cW.size,_,rfl,_,_,_,cR,ay.k4<|ay.k4<|ay.k4<|ay.k2<|ay.cons<|ay.nil,av.k4 M1 M2 M3 M4<|av.k4 M5 M6 M7 M8<|av.k4 M9 j7 lz qh<|av.cons vk<|av.cons Ft<|av.nil,?_⟩;refine(pS) fi SV.g0<|(jb) (fun uP UX Hz di xF=>?_);simp only [CA,NA] at di;have dr:=di;refine OX.call aiB rfl rfl ((J9 hR dr.e0 (As.gf dr.g13) ⟨(As.gr dr.g7),(As.gr dr.g6),(As.gr dr.g5),(As.gr dr.g4),(As.gr dr.g3),(As.gr dr.g2)⟩ (yd.lb.start yt (by omega)) Cu (by omega)).mono ?_);rintro _ yq ⟨t8,A8,i8,er8,Z9,rfl,hk8,ame,hA8,afA,Vd⟩;have eQ:=St.lv dr Vd afA;have oO:=MZ.trans afA dr.size;have dR:=eQ.fr (hA8.u);have eA:=dR.fr (hA8.i);have eO:=eA.fr (hA8.r);have fH:=eO.fr (hA8.g);have iG:=fH.fr (hA8.f);have jw:=iG.fr (hA8.p);refine⟨_,rfl,Vd.cW.size,_,rfl,_,_,_,jw,ay.k4<|ay.k4<|ay.k4<|ay.k4<|ay.k4<|ay.cons<|ay.nil,av.k4 M7 M8 M9 j7<|av.k4 lz qh vk Ft<|av.k4 Vg M16 M17 M18<|av.cons M19<|av.cons M20<|av.nil,?_⟩
    iterate 4 refine DG.a ?_
    refine(oD) ?_;intro En Hm l7;simp only [CM,NM,CA,NA,lG.it] at l7;refine(dB) lM l7.p7 fun De BC rq iR=>?_;refine WL.nil (EX.np ?_);refine nx ?_;have fS:=iR.xM.drop;have pZ:=fS.Ko.drop;have l8:=pZ.oR.drop;have j6:=l8.pF.drop;have qY:=j6.p9.drop;have tS:=qY.p8.drop;have wC:=tS.p8.drop;refine(bA) fi wC.b0<|?_;have nA:=wC;refine(dh) aiC (B1 nA.e0 ⟨(As.gr nA.g6),(As.gr nA.g5),(As.gr nA.g4),(As.gr nA.g3),(As.gr nA.g2),(As.gr nA.g1)⟩ (hk8.sz hR (by omega))) ?_;rintro _ JT ⟨rs,b1,b2,m1,d1,m2,d2,Z8,rfl,j4,amf,Lh,ZB,qX,Ql⟩;have wD:=St.lv nA Ql qX;have J8:=oO.trans qX nA.size;have vi:=wD.fr (Lh);have E8:=vi.fr (ZB);refine(dB) fR E8.pF fun MM QW vE Ba=>?_;refine nx ?_;have E9:=Ba.oR.drop;have Na:=E9.oR.drop;refine kP ?_;refine fJ (i - 1,⟨t8.base.ae,t8.base.ad,rs⟩,b1,m1,d1,b2,m2,d2,Z8) ⟨Na.p3.drop.p3.drop.p3.drop.p3.drop.p3.drop.p3.drop.p3.drop.p2.p1.p3,⟨by rw [amf];exact yd.task hk8.ok.base (ame yd.bh).2,by omega,by have h9:t8.base.ae=y.ae:=hk8.ok.base.rv;show t8.base.ae≤x.ae+((z:Int) - ((i - 1:Nat):Int));omega,J8,trivial⟩⟩
   exact absurd zX (by simp)
  skip
  refine(aZ) (fun g66=>?_) fun g66=>?_
  ·
   skip
   refine dA ?_;have br:=bC;refine(dh) lN (bP br.e1 (m:=3) (by omega)) ?_;rintro _ w7 ⟨z9,rfl,aeP,HL,n9⟩;have aY:=St.lr br n9;have HL:=HL (by omega);refine(aZ) (fun g70=>?_) fun g70=>?_
   ·
    skip
    refine WC.du (m:=8) [6,7] [2,3] [1,2,0,3,4,5,6,7] [] aY (av.k4 M1 M2 M3 M4<|av.cons M5<|av.cons M6<|av.nil) mixed (by kernel_rfl) (by kernel_rfl) rfl<|(jb) (fun w8 UT Hu aQ xD=>?_);simp only [CA,NA] at aQ;have bB:=aQ;refine OX.call lN rfl rfl ((bP bB.e1 (m:=200) (by omega)).mono ?_);rintro _ w9 ⟨zb,rfl,aoP,Ve,ny⟩;have bL:=St.lr bB ny;have Ve:=Ve (by omega);refine⟨_,rfl,ny.cW.size,_,rfl,_,_,_,bL,ay.k4<|ay.k2<|ay.cons<|ay.nil,av.k4 M1 M2 M3 M4<|av.cons M5<|av.cons M6<|av.nil,?_⟩;refine(pS) aP SV.g0<|(jb) (fun kE UX Hz bG xF=>?_);simp only [CA,NA] at bG;have ck:=bG;refine OX.call aiD rfl rfl ((HN ck.e0 (As.gr ck.g2) (As.gr ck.g3) yd.lb.ok.lH yd.lb.ok.small (by omega) (by omega)).mono ?_);rintro _ kF ⟨rs,b1,b2,m1,d1,m2,d2,va,vn,vc,Z8,rfl,j4,Lh,ZB,qX,ve⟩;have cw:=St.lv ck ve qX;have J8:=nz.trans qX ck.size;have cx:=cw.fr (Lh);have cU:=cx.fr (ZB);refine⟨_,rfl,ve.cW.size,_,rfl,_,_,_,cU,ay.k4<|ay.k4<|ay.cons<|ay.nil,av.k4 M3 M4 M5 M6<|av.cons M7<|av.cons M8<|av.nil,?_⟩
    iterate 4 refine DG.a ?_
    refine(oD) ?_;intro qf ad6 ct;simp only [CM,NM,CA,NA,lG.it] at ct;refine(dB) fR ct.p3 fun tU Q1 Gd cN=>?_;refine WL.nil (EX.np ?_);have ef:=cN.p4.drop;have dq:=ef.p4.drop;refine kP ?_;refine fJ (i - 1,⟨y.ae,y.ad,rs⟩,b1,m1,d1,b2,m2,d2,Z8) ⟨dq.p2.p1.p3,⟨yd.sub j4,by omega,by show y.ae≤x.ae+((z:Int) - ((i - 1:Nat):Int));omega,J8,trivial⟩⟩
   skip
   refine qd ?_;refine fJ (i - 1,y,a1,n1,e1,a2,n2,e2,Z5) ⟨aY,⟨yd,by omega,by show y.ae≤x.ae+((z:Int) - ((i - 1:Nat):Int));omega,nz,trivial⟩⟩
  skip
  refine WC.du (m:=10) [8,9] [4,5] [2,3,4,0,1,5,6,7,8,9] [] bC (av.k4 M1 M2 M3 M4<|av.cons M5<|av.cons M6<|av.nil) mixed (by kernel_rfl) (by kernel_rfl) rfl<|?_
  iterate 2 refine DG.a ?_
  refine(jb) (fun w7 Q3 BV br pN=>?_);simp only [CA,NA] at br;have aY:=br;refine OX.call acv rfl rfl ((vj aY.e1 (As.gr aY.g6) (by omega) (by omega) (by decide) (by decide)).mono ?_);rintro _ w8 ⟨ga,gn,gc,gl,rfl,amc,ym,kM⟩;have aQ:=St.lr aY kM;have P3:=St.zz kM;have Ka:=aY.size;have Zy:=((As.gs aQ.g1)).len;have bB:=aQ.p1.bN (by omega);have BW:=nz.trans (cI.fc (F:=fun x=>x∈aI ga) P3) Ka;obtain⟨f,s',Cu,tm,yt,dL,pX,ZC,ZD,_⟩:=yd.Z0 hR ym (by omega);refine⟨_,rfl,kM.cW.size,_,rfl,_,_,_,bB,ay.k4<|ay.k4<|ay.nil,av.k4 M2 M3 M4 M5<|av.cons M6<|av.cons M7<|av.nil,?_⟩;refine(pS) aP SV.g0<|(jb) (fun w9 To ED bL qS=>?_);simp only [CA,NA] at bL;have bG:=bL;refine OX.call Xs rfl rfl ((oi (x:=y) (s':=s') hR bG.e0 (As.gr bG.g7) (As.gr bG.g3) (As.gr bG.g4) (As.gr bG.g0) (As.gf bG.g6) Cu tm yt (by omega) dL pX).mono ?_);rintro _ kE ⟨q1,q2,q3,q4,q5,q6,o1,o2,o3,Z8,rfl,qX,RV,hqc,jf⟩;have ck:=St.lv bG jf qX;have J8:=BW.trans qX bG.size;have cw:=ck.fr (RV);have cx:=cw.fr (hqc);refine⟨_,rfl,jf.cW.size,_,rfl,_,_,_,cx,ay.k4<|ay.k4<|ay.k2<|ay.cons<|ay.nil,av.k4 M5 M6 M7 M8<|av.cons M9<|av.cons j7<|av.nil,?_⟩
  iterate 4 refine DG.a ?_
  refine(oD) ?_;intro kF EL cU;simp only [CM,NM,CA,NA,lG.it] at cU;refine(dB) fR cU.p5 fun qf Yj Yk ct=>?_;refine WL.nil (EX.np ?_);have cN:=ct.p6.drop;have ef:=cN.p6.drop;refine kP ?_;refine fJ (i - 1,(s'.base y),q1,q2,q3,q4,q5,q6,Z8) ⟨ef.p3.drop.p3.drop.p2.p1.p3,⟨ZC,by omega,by show(s'.base y).ae≤x.ae+((z:Int) - ((i - 1:Nat):Int));rw [ZD];omega,J8,trivial⟩⟩
 skip
 refine(bA) aP cm.b1<|(dB) fR cm.p4 fun w5 ss6 hs6 aM=>?_;refine(my) aP aM.b0<|?_;exact⟨y,a1,a2,n1,e1,n2,e2,Z5,rfl,yd,by omega,(As.gr aM.g3),(As.gr aM.g4),nz,aM.p1.k1⟩
set_option maxHeartbeats 1600000 in
theorem HT(bJ:St w M Z w [As.jt 74 d]) (ht:nO prog Z w) (hm:0≤m) (kI:m≤1000):Calls prog 9 #[.pointer (some ⟨d,0,none⟩),.int .i64 m] w fun e w'=>∃(ab:List aG) (x:dP) (ar a1 a2:Option Addr) (r cr n1 e1 n2 e2:Nat) (Z':Nat→Prop),e=.returned (.tuple #[.slice ar r cr,.agg (x.row a1 n1 e1 a2 n2 e2).toArray])∧aw ab∧2≤ab.length∧ab.length≤8∧LC ab x∧x.ae≤1+m∧Rd RR.gF 4 Z' w' ar r cr ab∧Rd RR.aF 4 Z' w' a1 n1 e1 x.ad∧Rd RR.fT 8 Z' w' a2 n2 e2 x.ak∧cI w.heap.size Z Z'∧St w M Z' w' [As.jt 74 d]:=by
 refine enter func9 rfl ntmps9 rfl<|?_;have bd:=bJ;have st1:=bd.fact (B:=As.fz (FZ.Kt prog)) ht (fun _ hx=>hx);refine(gy) st1 fun b5 w1 nh gw st2=>?_;refine eC ?_;have aW:=st2.p2;refine(dh) air (EM aW.e1) ?_;rintro _ w2 ⟨ra,rn,rc,ab,Z1,rfl,hR,yj,hr8,gq,uY⟩;have ba:=St.lv aW uY gq;have NB:=St.zz uY;have Qu:=aW.size;have oL:=gq.le Qu;have T3:=((As.gs ba.g1)).len;have bs:=ba.p1.bN (by omega);have ly:=oL.trans (cI.fc (F:=fun x=>x∈aI ra) NB) Qu;refine eC ?_;refine WP .r (PV.bU (us:=((⟨0,[],[]⟩:dP).row none 0 0 none 0 0)) acb rfl rfl rfl)<|nx ?_;have bj:=bs.p1;refine(dh) acw (qT bj.e1 (by decide) (by decide)) ?_;rintro _ w3 ⟨ca,cn,cc,ch,rfl,pP,Df,eN⟩;have bV:=St.lr bj eN;have P3:=St.zz eN;have Ka:=bj.size;have Zy:=((As.gs bV.g1)).len;have bT:=bV.p1.bN (by omega);have sE:=ly.trans (cI.fc (F:=fun x=>x∈aI ca) P3) Ka;have cm:=bT;refine(dh) Xt (vd (x:=⟨0,[],[]⟩) cm.e0 (Rd.nil _ _ _ _) (Rd.nil _ _ _ _) (As.gr cm.g0) V7 (lI.nil _) Df (by omega)) ?_;rintro _ w4 ⟨y2,b1,b2,m1,d1,m2,d2,er,Z4,rfl,Zz,hv0,Ic,hG,ZA,QX,hap,_,Lh,ZB,AE,iV⟩;have aM:=St.lv cm iV AE;have AF:=sE.trans AE cm.size;have aO:=aM.fr (Lh);have aS:=aO.fr (ZB);refine(gy) aS fun b7 w5 vZ om bC=>?_;refine(dB) fR bC fun w6 jV j0 br=>?_;refine(bA) aP br.b0<|nx ?_;have aY:=br.p4;refine(dh) aiu (Fa hR aY.e1 (As.gf aY.g7) (As.gr aY.g5) (by omega) (by omega) (As.gr aY.g3) (As.gr aY.g2) (LC.nil ab y2 Zz hv0 Ic hG ZA) hm kI) ?_;rintro _ w7 ⟨y,q1,q2,p1,j1,p2,j2,Z5,rfl,yd,V8,RV,hqc,uS,n9⟩;have aQ:=St.lv aY n9 uS;have nz:=AF.trans uS aY.size;have bB:=aQ.fr (RV);have bL:=bB.fr (hqc);refine(dB) fR bL.p8 fun w8 sC nj bG=>?_;refine dA ?_;refine EX.iT rfl (RS.tmp rfl<|RS.cell aP rfl bG.b0 rfl<|RS.nil) rfl<|?_;exact⟨ab,y,ra,q1,q2,rn,rc,p1,j1,p2,j2,Z5,rfl,hR,yj,hr8,yd,by have h0:y2.ae≤0+1:=QX;omega,(As.gr bG.g8),(As.gr bG.g2),(As.gr bG.g1),nz,bG.p3.k1⟩
set_option maxHeartbeats 400000
theorem ye{A:Nat→Prop}(hl:Rd RR.key 2 A w a n c l) (hd:l.Nodup):CR prog 159 #[.slice a n c] w (.slice a n c):=by
 have hle:=SR.le hl;have hlen:=SR.len hl;refine enter func159 rfl ntmps159 rfl<|?_;have bd:=St.s0 w;refine bf ?_;refine(aZ) (fun g8=>?_) fun g8=>?_
 ·
  skip
  refine(cy) ?_;exact⟨rfl,(St.cg bd)⟩
 simp at g8
 refine qd ?_;refine WC.cq (σ:=Nat) (eP:=fun i=>[(0,.slice a n c),(3,.int .i64 (i:Int))]) (F:=fun i=>[]) (I:=fun i=>(1≤i)∧(i≤n)∧True) (μ:=fun i=>n - i) (1) (bd) Sub.t (⟨Nat.le_refl _,by omega,trivial⟩)<|?_;rintro i w1 st1 ⟨hi,ij,_⟩;simp only [CA,NA] at st1 hi ij ⊢;refine(aZ) (fun g13=>?_) fun g13=>?_
 ·
  simp at g13
  have cT:i<l.length:=by omega
  have Ia:i - 1<l.length:=by omega
  obtain⟨Tk,Tl,Tm,lT,_,hRx,oh,_⟩:=Rd.at hl cT;have hRx:=RR.cG hRx;subst hRx;obtain⟨b_y,o_y,r_y,AH,_,hRy,AJ,_⟩:=Rd.at hl Ia;have hRy:=RR.cG hRy;subst hRy
  have kV:l[i]≠l[i - 1]:=fun e=>by
   exact List.pairwise_iff_getElem.1 hd (i - 1) i Ia cT (by omega) e.symm
  refine eC ?_;have QZ:=st1.cX;refine WC.dS (m:=9) st1 mixed<|cS ?_;refine DP .r (fun _ hC=>PV.fO fV (i:=i) lT rfl rfl (by omega))<|DP .r (fun _ hC=>VA aq (bH oh (St.cg hC.2) (by simp)) .r)<|cS ?_;refine DP .r (fun _ hC=>(PV.sub rfl rfl (by omega) (by omega)).cast (v':=.int .i64 ((i - 1:Nat):Int)) (congrArg (Value.int .i64) (by omega)))<|DP .r (fun _ hC=>PV.fO fV (i:=i - 1) AH rfl rfl (by omega))<|DP .r (fun _ hC=>VA aq (bH AJ (St.cg hC.2) (by simp)) .r)<|(eb)<|?_;rintro w2 ⟨oM,st2⟩ _;refine WP .r (PV.Kl gY (p:=l[i]) (q:=l[i - 1]) rfl rfl)<|(aZ) (fun eZ=>?_) fun eZ=>?_
  ·
   exact absurd eZ (by simpa using kV)
  skip
  refine kP ?_;refine fJ (i+1) ⟨st2,⟨by omega,by omega,trivial⟩⟩
 simp at g13
 refine(cy) ?_;exact⟨rfl,(St.cg st1)⟩
theorem Bb(bJ:St w M Z w []) (hl:Rd RR.key 2 Z w a n c l) (h0:l≠[]) (hd:l.Nodup) (hn:l.length≤1000000):Calls prog 130 #[.slice a n c] w fun e w'=>∃a' n' c',∃l':List Key,e=.returned (.slice a' n' c')∧Wa l'∧l'.Perm l∧St w M Z w' [As.os RR.key 39 2 a' n' c' l']:=by
 refine enter func130 rfl ntmps130 rfl<|?_;have bd:=bJ;have st1:=bd.fr hl;refine kP ?_;have st2:=st1;refine(dh) UC (sG st2.e0 (As.gr st2.g0) hn) ?_;rintro _ w1 ⟨b1,b2,c1,rfl,AL⟩;have aW:=St.lr st2 AL;refine jo ?_;have ba:=aW;refine(dh) adj (HB ba.e1 h0 hn) ?_;rintro _ w2 ⟨rfl,l2,pO,rq,uY⟩;have bs:=St.lr ba uY;have qm:l2.length=l.length:=pO.length_eq;have QH:l2.Nodup:=pO.nodup_iff.2 hd;have vE:=RN pO hd rq;refine(iu) (ye (Ow.rd (As.gs bs.g0) (by omega)) QH) bs fun w3 s3 bj=>?_;refine(cy) ?_;exact⟨b1,_,c1,l2,rfl,vE,pO,bj.p1.drop⟩
theorem B6{ab:List aG}(lB:n≤99):CR prog 86 #[.slice a r c,(dx (n:Int)).val] w (.bool true):=by
 have hkc:dx (n:Int)=⟨30,itoa n⟩:=by unfold dx;rw [if_neg (by omega)]
 have Nw:(dx (n:Int)).kind=30:=by rw [hkc]
 have US:(dx (n:Int)).text=itoa n:=by rw [hkc]
 refine enter func86 rfl ntmps86 rfl<|?_;have bd:=St.s0 w;refine(fm) bd fun b3 w1 iO dJ st1=>?_;refine dV ?_;have Au:=st1.cX;refine WC.eJ (m:=12) (E:=dm [(1,fun v _=>v=.bool true),(4,fun v _=>v=.bool false)]) st1 (bK (⟨fun _ _ _ _ _ _ _ h=>h,⟨fun _ _ _ _ _ _ _ h=>h,trivial⟩⟩)) mixed (by kernel_rfl)<|(iX) aq St.g0<|?_;refine DW.c0 (fun wx hC hF=>jC (k:=dx (n:Int)) (by omega) US lB)<|(iX) aq St.g0<|?_;refine DW.c1 (u:=.bool false) (fun wx hC hF=>qR (k:=dx (n:Int))) (by rw [show(decide ((dx (n:Int)).kind=31) || decide ((dx (n:Int)).kind=32))=false by(rw [Nw];simp)])<|(eb) ?_;rintro w2 ⟨fx,st2⟩ ⟨_,⟨_,_⟩⟩;refine(cy) ?_;exact⟨by simp,(St.cg st2)⟩
theorem B7{k:Key}{B:Nat→Prop}(hk:gG ab k) (hr:ik B w a r c ab):CR prog 86 #[.slice a r c,k.val] w (.bool true):=by
 cases hk with
 | cell h=>exact B6 (ab:=ab) h
 | gF hi h=>exact BL hi h hr
end Go.Rc

