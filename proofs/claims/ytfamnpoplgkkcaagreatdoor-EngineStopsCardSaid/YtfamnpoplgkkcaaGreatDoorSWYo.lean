/- Walks over the program, part WYo. Conditions: as each theorem says. -/
import Derived.Test.YtfamnpoplgkkcaaGreatDoorSFacts
import Derived.Test.YtfamnpoplgkkcaaGreatDoorSWZi
import Derived.Test.YtfamnpoplgkkcaaGreatDoorSWZg
import Derived.Test.YtfamnpoplgkkcaaGreatDoorSBf
import Derived.Test.YtfamnpoplgkkcaaGreatDoorSBh
import Derived.Test.YtfamnpoplgkkcaaGreatDoorSWZl
import Derived.Test.YtfamnpoplgkkcaaGreatDoorSWUa
import Derived.Test.YtfamnpoplgkkcaaGreatDoorSWYl
import Derived.Test.YtfamnpoplgkkcaaGreatDoorSBg
import Derived.Test.YtfamnpoplgkkcaaGreatDoorSBi
set_option linter.all false
namespace Go.Rc
open Go Go.Proofs Go.Proofs.Tryz
variable {aa:List aG}{x:cz}{t:qm}{w:World}{M Z:Nat→Prop}{ar:Option Addr}{r cr d:Nat}{m:Int}
set_option maxHeartbeats 400000
set_option maxHeartbeats 4000000 in
theorem Ds{rev:Int}{D:SD}{A:HC}{n:Nat}(L:aq aa) (gp:St w M Z w [As.jH prog 137 aa x D]) (ht:lA prog Z w) (hA:t.In A Z w) (hk:TR aa x.ab rev n t) (hn:n≤90000):Calls prog 98 #[.pointer (some ⟨D.s,0,none⟩),.agg (t.row A).toArray] w fun e w'=>∃(R:qm) (A':HC) (d:Bool) (er:Int) (Z':Nat→Prop),e=.returned (.tuple #[.agg (R.row A').toArray,.bool d,.int .i64 er])∧TR aa x.ab rev (n+1) R∧(TO aa x t→er=0∧TO aa x R)∧R.In A' Z' w'∧bJ w.heap.size Z Z'∧St w M Z' w' [As.jH prog 137 aa x D]:=by
 have hsz:=hk.sz L (by omega);obtain⟨hu,hi,hr,hg,hf,hp⟩:=id hA;have lp:=hp.len;have lf:=hf.len;have lg:=hg.len;refine enter func98 rfl ntmps98 rfl<|?_;have aQ:=gp;have st1:=aQ.fr hu;have st2:=st1.fr hi;have ir:=st2.fr hr;have hJ:=ir.fr hg;have iY:=hJ.fr hf;have hM:=iY.fr hp;have hh:=hM.fact (B:=As.fz (FZ.IH prog)) ht (fun _ N=>N);refine(dz) hh fun b3 w1 Ib wO iI=>?_;refine(eT) iI fun b4 w2 Fh IY iF=>?_;refine(aX) dT iF.b1<|?_;have v:=iF;refine(bY) Sv (nW v.e0 ⟨(As.gr v.g8),(As.gr v.g7),(As.gr v.g6),(As.gr v.g5),(As.gr v.g4),(As.gr v.g3)⟩ hsz) ?_;rintro _ w3 ⟨b,Z1,rfl,O,nN,ky⟩;have di:=St.lv v ky nN;have K:=St.bN ky;have H:=v.size;have S:=nN.le H;have cX:=di.fr (O.u);have dm:=cX.fr (O.i);have cW:=dm.fr (O.r);have ed:=cW.fr (O.g);have T:=ed.fr (O.f);have lnp:=((As.gs T.g5)).len;have lgg:=((As.gr T.g1)).len;have lgf:=((As.gr T.g0)).len;have hnr:=hk.nr;have hns:=hk.ns;have hng:=hk.ng;have ep:=T.Jn.drop;have eb:=ep.qd.drop;have dH:=eb.o9.drop;have dI:=dH.kE.drop;have fb:=dI.kD.drop;have dN:=fb.p9.drop;refine(cI) jz dN.p7 fun w4 jW ka y=>?_;refine(aZ) Ci y.b0<|(aS) (fun g18=>?_) fun g18=>?_
 ·
  simp at g18
  have mu:t.stack=[]:=List.eq_nil_of_length_eq_zero (by omega);refine(aZ) dK y.b0<|(aS) (fun g22=>?_) fun g22=>?_
  ·
   skip
   refine(aX) dT y.b0<|(cI) jz y.p7 fun w5 ry mu j=>?_;refine eD ?_;have l:=j.p7.a8 (by omega);have z:=S.trans (bJ.dC (F:=fun x=>x∈aJ b.p) K) H;refine EX.et rfl (RS.cell dT rfl l.b1 rfl<|RS.tmp rfl<|RS.tmp rfl<|RS.nil) rfl<|?_;exact⟨t,b,false,0,_,rfl,hk.mono (by omega),(fun h=>⟨rfl,h⟩),⟨(As.gr l.g7),(As.gr l.g6),(As.gr l.g5),(As.gr l.g4),(As.gr l.g3),(As.gr l.g0)⟩,z,l.p9.k1⟩
  simp at g22
  have hg0:0<t.goals.length:=by omega
  have UZ:=hk.ok.goals t.goals[0] (List.getElem_mem hg0);refine cm ?_;obtain⟨gJ,kF,jV,cR,gI,W,ek,eJ⟩:=Rd.at (As.gr y.g2) hg0;have W:=RR.ba W;subst W;have j:=y.fg eJ ek;refine(aZ) dK j.b1<|?_;refine WP .r (PV.D3 ey (0) cR rfl rfl (by omega) (by omega))<|(aX) ao (As.kT j.g0)<|(eT) j fun b7 w5 SF SG l=>?_;refine(cI) gR l fun w6 zH tR P=>?_;refine(aZ) dK P.b2<|?_;refine WP .r (PV.yG ey (i:=1) (As.gr P.g4) rfl rfl (by omega))<|nx ?_;refine WL.s1 P.p2 fun w7 _ U=>?_;refine nx ?_;have C:=U.fr (SR.drop (i:=1) (As.gr U.g4) (by omega));refine(ia) aN C.b1<|(aX) ao C.b2<|(eV) (qJ (k:=t.goals[0]) (As.gr C.g7) (As.gr C.g6) (Rd.nil _ _ _ _)) C fun w8 s8 I=>?_;refine(aS) (fun X=>?_) fun X=>?_
  ·
   have yN:=y8 X;have Lu:=I.size;refine(aX) ao I.b2<|?_;refine WP .r (PV.bC (us:=((⟨t.goals[0],false,0,[],[]⟩:bq).row none 0 0 none 0 0)) GY rfl rfl rfl)<|?_;refine WL.go rfl (OX.aP (us:=((⟨t.goals[0],false,0,[],[]⟩:bq).row none 0 0 none 0 0)) rZ rfl rfl rfl rfl fun J w9 aad ahH=>?_);have E:=I.cZ aad ahH;refine nx ?_;refine WL.s1 E.p2 fun iP _ c=>?_;refine(aX) dT c.b0<|(cI) jz c.kE fun iW L7 L8 o=>?_;refine fH ?_;have Q:=o.kE.a8 (by omega);have z:=S.trans (bJ.dC (F:=fun x=>x∈aJ b.p) K) H;have V:=Q.p3;have Y:=V.conv (B:=As.os RR.mJ 126 6 (some ⟨J,0,none⟩) 1 1 [⟨t.goals[0],false,0,[],[]⟩]) (OR.dc (As.gb V.g0) (Nat.zero_le _) rfl (bq.one _ _ _ _ _ _ _) ⟨none,0,0,none,0,0,rfl,Rd.nil _ _ _ _,Rd.nil _ _ _ _,by simp,by simp⟩) (fun x h=>by show x=J;change x∈aJ (some ⟨J,0,none⟩) at h;simpa [aJ] using h)
   have ahI:∀x∈aJ (some ⟨J,0,none⟩:Option Addr),w.heap.size≤x:=fun x h=>by
    obtain rfl:x=J:=by simpa [aJ] using h
    have:=aad.ge
    omega
   have q:=Y.a8 (by simp);have Ui:=z.trans (bJ.dC (F:=fun x=>x∈aJ (some ⟨J,0,none⟩)) ahI) (Nat.le_refl _);refine EX.et rfl (RS.cell dT rfl q.b2 rfl<|RS.tmp rfl<|RS.tmp rfl<|RS.nil) rfl<|?_;exact⟨{t with goals:=t.goals.drop 1,stack:=[⟨t.goals[0],false,0,[],[]⟩]},{b with g:=mr b.g 1 2 b.cg,ng:=b.ng - 1,cg:=b.cg - 1,f:=some ⟨J,0,none⟩,nf:=1,cf:=1},true,0,_,rfl,(hk.mono (by omega)).begin UZ yN (by omega),(fun h=>⟨rfl,h.begin L mu UZ X _⟩),⟨(As.gr q.g11),(As.gr q.g10),(As.gr q.g9),(As.gr q.g4),(As.gr q.g0),(As.gr q.g1)⟩,Ui,q.qd.k1⟩
  skip
  refine(aX) dT I.b1<|(cI) jz I.kD fun w9 Mg Ed E=>?_;refine fH ?_;have c:=E.kD.a8 (by omega);have z:=S.trans (bJ.dC (F:=fun x=>x∈aJ b.p) K) H;refine EX.et rfl (RS.cell dT rfl c.b1 rfl<|RS.tmp rfl<|RS.tmp rfl<|RS.nil) rfl<|?_;exact⟨{t with goals:=t.goals.drop 1},{b with g:=mr b.g 1 2 b.cg,ng:=b.ng - 1,cg:=b.cg - 1},true,0,_,rfl,(hk.mono (by omega)).V3,(fun h=>⟨rfl,h.goals _⟩),⟨(As.gr c.g10),(As.gr c.g9),(As.gr c.g8),(As.gr c.g2),(As.gr c.g6),(As.gr c.g0)⟩,z,c.o9.k1⟩
 simp at g18
 have ka:t.stack≠[]:=by intro h;rw [h] at lgf;simp at lgf;omega
 refine(ia) aN y.b0<|(aZ) Ci y.b0<|?_;have j:=y.p9;refine(bY) XK (Au L j.e1 (As.gf j.g9) (As.gr j.g5) (As.gr j.g4) (As.gr j.g2) hk.ok.base hk.ok.stack ka (by omega)) ?_;rintro _ w5 ⟨b2,l2,rk2,d2,er2,b1,b3,bl,bk,m1,d1,m3,d3,ml,dl,mk,dk,Z2,rfl,wN,Vd,ahJ,h1k,h1l,aae,ahK,ahL,ahM,vK,qK⟩;have l:=St.lv j qK vK;have oz:=j.size;have mC:=S.trans vK oz;have ap0:∀x∈aJ b.p,w.heap.size≤x:=fun x N=>Nat.le_trans H (K x N);have P:=l.fr (ahK);have U:=P.fr (ahL);have C:=U.fr (ahM);have lnk:=((As.gs C.g4)).len;refine(eT) C fun b8 w6 LZ Yq I=>?_;refine(cI) dP I fun w7 PZ P0 E=>?_;refine aW ?_;refine(aS) (fun ZG=>?_) fun ZG=>?_
 ·
  skip
  refine(aX) dT (bR.range (As.gb E.g6))<|(cI) jz E.qd fun w8 Ta Tb c=>?_;refine fH ?_;have o:=c.qd.a8 (by omega);have z:=mC.trans (bJ.dC (F:=fun x=>x∈aJ b.p) K) H;refine EX.et rfl (RS.cell dT rfl o.b1 rfl<|RS.tmp rfl<|RS.tmp rfl<|RS.nil) rfl<|?_;exact⟨t,b,false,er2,_,rfl,hk.mono (by omega),(fun h=>⟨(h.JW L hk.ok.base.fQ aae).1,h⟩),⟨(As.gr o.g13),(As.gr o.g12),(As.gr o.g11),(As.gr o.g10),(As.gr o.g9),(As.gr o.g0)⟩,z,o.p6.k1⟩
 skip
 refine cm ?_;have Lu:=E.size;refine WC.bM (m:=7) [1] [5] [2,3,4,5,0,1,6] [] E (ai.k4 M0 M1 M2 M3<|ai.k4 M4 M5 M6 M7<|ai.k4 M8 M9 hP iJ<|ai.cons oj<|ai.cons xt<|ai.nil) mixed (by kernel_rfl) (by kernel_rfl) rfl<|(oo) dK SV.g6<|(fL) (fun w8 IA sr c jM=>?_);simp only [CA,NA] at c;refine OX.jO mb rfl rfl rfl (As.gs c.g12) (Ow.rd (As.gs c.g5) (by omega)) (by show(b.np+mk)*_≤_;omega) (by show b.np+mk≤_;omega) (Nat.zero_le _) fun a62 ahO w9 ahP s62 aaf ap1=>?_;have o:=c.o9.eU s62 ahP aaf;refine⟨s62.size,_,rfl,_,_,_,o,aw.k4<|aw.k4<|aw.k4<|aw.k2<|aw.cons<|aw.nil,ai.k4 M1 M2 M3 M4<|ai.k4 M5 M6 M7 M8<|ai.k4 M9 hP iJ kB<|ai.cons oj<|ai.cons xt<|ai.nil,?_⟩;refine(kW) aN SV.g0<|?_
 iterate 2 refine DG.a ?_
 refine(jm) ?_;intro iP CN Q;simp only [CM,NM,CA,NA,hK.it] at Q;refine WL.go rfl (OX.QL dP (As.gb Q.g7) rfl rfl rfl rfl rfl fun iW YK YL=>?_);have V:=Q.p7.Bt YK YL;refine nx ?_;refine WL.s1 V fun lB _ Y=>?_;refine nx ?_;refine WL.s1 Y fun oh _ q=>?_;refine WL.nil (EX.np ?_);refine(aX) dT q.b0<|(cI) jz q.qd fun sg ss8 hs8 oC=>?_;refine dd ?_;have G:=oC.p2.a8 (by rw [List.length_append];omega)
 have OD:∀x∈aJ a62,w.heap.size≤x:=fun x N=>by rcases aaf x N with h | h;exact Nat.le_trans H (K x h);omega
 have z:=mC.trans (bJ.dC (F:=fun x=>x∈aJ a62) OD) (Nat.le_refl _);refine EX.et rfl (RS.cell dT rfl G.b1 rfl<|RS.tmp rfl<|RS.tmp rfl<|RS.nil) rfl<|?_;exact⟨{t with base:=b2,stack:=l2,bf:=t.bf++rk2},{b with i:=b1,ni:=m1,ci:=d1,r:=b3,nr:=m3,cr:=d3,f:=bl,nf:=ml,cf:=dl,p:=a62,np:=b.np+mk,cp:=ahO},d2,0,_,rfl,hk.next wN Vd ahJ h1k h1l,(fun h=>⟨rfl,(h.JW L hk.ok.base.fQ aae).2⟩),⟨(As.gr G.g13),(As.gr G.g6),(As.gr G.g5),(As.gr G.g10),(As.gr G.g4),(As.gr G.g0)⟩,z,G.p7.k1⟩
set_option maxHeartbeats 4000000 in
theorem Gc{A:HC}{most:Nat}(P:aq aa) (gp:St w M Z w []) (ht:lA prog Z w) (hA:t.In A Z w) (hk:TR aa t.base.ab t.base.ad 0 t) (Qb:gE t.aa t.base t.goals=0) (hm:most≤80000):Calls prog 58 #[.agg (t.row A).toArray,.int .i64 (most:Int)] w fun e w'=>∃(G:qm) (Q:HC) (i R:Int) (Z':Nat→Prop),e=.returned (.tuple #[.agg (G.row Q).toArray,.int .i64 i,.int .i64 R])∧TR aa t.base.ab t.base.ad 80000 G∧(Bh aa t.base→R=0∧TO aa t.base G)∧G.In Q Z' w'∧bJ w.heap.size Z Z'∧St w M Z' w' []:=by
 have hsz:=hk.sz P (by omega);obtain⟨hu,hi,hr,hg,hf,hp⟩:=id hA;have S:t.stack=[]:=List.eq_nil_of_length_eq_zero (by have:=hk.ns;omega);have ahQ:t.bf=[]:=List.eq_nil_of_length_eq_zero (by have:=hk.nr;omega);have T:Bh aa t.base→TO aa t.base t:=fun h=>TO.of h S ahQ;refine enter func58 rfl ntmps58 rfl<|?_;have aQ:=St.rb gp;have st1:=aQ.fr hu;have st2:=st1.fr hi;have ir:=st2.fr hr;have hJ:=ir.fr hg;have iY:=hJ.fr hf;have hM:=iY.fr hp;have hh:=hM.fact (B:=As.fz (FZ.IH prog)) ht (fun _ hx=>hx);refine(dz) hh fun b2 w1 TH wN iI=>?_;refine(eT) iI fun b4 w2 Fh IY U=>?_;refine(aX) dT U.b1<|?_;have n:=U;refine(bY) Sv (nW n.e0 ⟨(As.gr n.g8),(As.gr n.g7),(As.gr n.g6),(As.gr n.g5),(As.gr n.g4),(As.gr n.g3)⟩ hsz) ?_;rintro _ w3 ⟨b,Z1,rfl,z,V,W⟩;have di:=St.lv n W V;have Y2:=St.bN W;have X:=n.size;have wC:=V.le X;have cX:=di.fr (z.u);have dm:=cX.fr (z.i);have cW:=dm.fr (z.r);have ed:=cW.fr (z.g);have Y:=ed.fr (z.f);have Uj:=St.fresh Y.p5;have ep:=Y.p5.a8 (by have:=hk.nr;omega);have mC:=wC.trans (bJ.dC (F:=fun x=>x∈aJ b.p) Y2) X;have eb:=ep.Jn.drop;have dH:=eb.qd.drop;have dI:=dH.o9.drop;have fb:=dI.kE.drop;have dN:=fb.kD.drop;have eN:=dN.p9.drop;refine(cI) jz eN.p7 fun w4 jW ka H=>?_;refine(aS) (fun g15=>?_) fun g15=>?_
 ·
  simp at g15
  obtain rfl:most=0:=by omega
  refine(aX) dT H.b0<|(cI) jz H.p7 fun w5 ry mu k=>?_;refine fH ?_;refine EX.et rfl (RS.cell dT rfl k.b0 rfl<|RS.tmp rfl<|RS.tmp rfl<|RS.nil) rfl<|?_;exact⟨t,b,0,0,_,rfl,hk.mono (by omega),(fun h=>⟨rfl,T h⟩),⟨(As.gr k.g7),(As.gr k.g6),(As.gr k.g5),(As.gr k.g4),(As.gr k.g3),(As.gr k.g2)⟩,mC,(St.wk k.k0)⟩
 skip
 refine(aX) dT H.b0<|?_;have k:=H;refine(bY) aeg (xj k.e0 ⟨(As.gr k.g6),(As.gr k.g5),(As.gr k.g4),(As.gr k.g3),(As.gr k.g2),(As.gr k.g1)⟩ S Qb) ?_;rintro _ w5 ⟨rfl,qK⟩;have K:=St.lr k qK;refine cm ?_;refine WC.fX rfl<|(aZ) jy K.b0<|(ia) aN K.b0<|?_;have dB:=K;refine(bY) Sp (pH (x:=t.base) dB.e0) ?_;rintro _ w6 ⟨d1,d2,d3,rfl,FN⟩;have eK:=St.lr dB FN;refine bO ?_;have o:=eK.p1.p1;have lP:=o.join (C:=As.jH prog 137 aa t.base ⟨b.u,b.i,b.r,b.nu,b.cu,b.ni,b.ci,b.nr,b.cr,d2,d3,d1⟩) ⟨o.V0,(As.gb o.g0),⟨[],aV.nil,(As.gm o.g1)⟩,⟨hk.ok.GC ▸ (As.gr o.g9),(As.gr o.g8),(As.gr o.g7),(As.gf o.g11)⟩⟩ (fun y h=>h);have oB:=lP.p1.drop;refine gK ?_;refine WC.gY (σ:=Nat × qm × HC × (Nat→Prop)) (dn:=fun(i,l,a,q)=>[(1,.int .i64 (most:Int)),(2,.pointer (some ⟨b2,0,none⟩)),(4,.pointer (some ⟨b4,0,none⟩)),(7,.pointer (some ⟨d1,0,none⟩)),(8,.int .i64 (i:Int))]) (F:=fun(i,l,a,q)=>[As.jH prog 137 aa t.base ⟨b.u,b.i,b.r,b.nu,b.cu,b.ni,b.ci,b.nr,b.cr,d2,d3,d1⟩,As.blk b2 107 (l.row a),As.ro RR.eG 4 a.u a.nu a.cu l.aa,As.ro RR.aD 4 a.i a.ni a.ci l.base.ab,As.ro RR.ew 8 a.r a.nr a.cr l.base.ah,As.ro RR.key 2 a.g a.ng a.cg l.goals,As.ro RR.mJ 6 a.f a.nf a.cf l.stack,As.ro RR.key 2 a.p a.np a.cp l.bf]) (I:=fun(i,l,a,q)=>(i≤most)∧(TR aa t.base.ab t.base.ad i l)∧(Bh aa t.base→TO aa t.base l)∧(bJ w.heap.size Z q)∧True) (μ:=fun(i,l,a,q)=>most - i) (Zf:=fun(i,l,a,q)=>q) (0,t,b,_) (oB.p2.p3.p4.p5.p6.p7.p7.p7) Sub.t (⟨Nat.zero_le _,hk,T,mC,trivial⟩)<|?_;rintro⟨i,l,a,q⟩ w7 D ⟨Mf,J,s,L,_⟩;simp only [CA,NA] at D Mf J s L ⊢;refine(aS) (fun g28=>?_) fun g28=>?_
 ·
  simp at g28
  refine(aX) dT D.b1<|?_;have c:=D;refine(bY) aeh (Ds P c.e1 (As.gf c.g9) ⟨(As.gr c.g2),(As.gr c.g3),(As.gr c.g4),(As.gr c.g5),(As.gr c.g6),(As.gr c.g7)⟩ J (by omega)) ?_;rintro _ w8 ⟨t6,A6,d6,er6,Z6,rfl,hk6,N,v,vV,kG⟩;have pM:=St.lv c kG vV;have O:=L.trans vV c.size;have jY:=pM.fr (v.u);have jZ:=jY.fr (v.i);have oC:=jZ.fr (v.r);have mN:=oC.fr (v.g);have su:=mN.fr (v.f);have wg:=su.fr (v.p);refine(eT) wg fun b9 w9 nw9 hb9 jC=>?_;refine(cI) jz jC fun iP zH tR E=>?_;refine(aS) (fun g37=>?_) fun g37=>?_
  ·
   skip
   refine(aX) dT (bR.range (As.gb E.g8))<|(cI) jz E.VC fun iW L7 L8 j=>?_;refine i7 ?_;refine EX.et rfl (RS.cell dT rfl j.b0 rfl<|RS.tmp rfl<|RS.tmp rfl<|RS.nil) rfl<|?_;exact⟨l,a,(i:Int),er6,_,rfl,J.mono (by omega),(fun h=>⟨(N (s h)).1,s h⟩),⟨(As.gr j.g10),(As.gr j.g11),(As.gr j.g12),(As.gr j.g13),(As.gr j.g14),(As.gr j.g15)⟩,O,(St.wk j.k0)⟩
  skip
  refine(aS) (fun Im=>?_) fun Im=>?_
  ·
   skip
   refine(aX) dT E.b0<|(cI) jz E.VC fun iW Mg Ed j=>?_;refine i7 ?_;refine EX.et rfl (RS.cell dT rfl j.b0 rfl<|RS.tmp rfl<|RS.tmp rfl<|RS.nil) rfl<|?_;exact⟨t6,A6,(i:Int),0,_,rfl,hk6.mono (by omega),(fun h=>⟨rfl,(N (s h)).2⟩),⟨(As.gr j.g7),(As.gr j.g6),(As.gr j.g5),(As.gr j.g4),(As.gr j.g3),(As.gr j.g2)⟩,O,(St.wk j.k0)⟩
  have j:=E.p9.drop;have lz:=j.p9.drop;have jl:=lz.p9.drop;have F9:=jl.p9.drop;have nU:=F9.p9.drop;have mj:=nU.p9.drop;refine(aX) dT mj.b0<|(cI) jz mj.p8 fun iW PZ P0 nV=>?_;refine cm ?_;refine ez (i+1,t6,A6,Z6) ⟨nV.p1.drop.p2.p3.p4.p5.p6.p5.p7,⟨by omega,hk6,fun h=>(N (s h)).2,O,trivial⟩⟩
 skip
 refine(aX) dT D.b1<|(cI) jz D.p8 fun w8 Ta Tb c=>?_;refine dd ?_;refine EX.et rfl (RS.cell dT rfl c.b0 rfl<|RS.tmp rfl<|RS.tmp rfl<|RS.nil) rfl<|?_;exact⟨l,a,(i:Int),0,_,rfl,J.mono (by omega),(fun h=>⟨rfl,s h⟩),⟨(As.gr c.g3),(As.gr c.g4),(As.gr c.g5),(As.gr c.g6),(As.gr c.g7),(As.gr c.g8)⟩,L,(St.wk c.k0)⟩
set_option maxHeartbeats 400000
theorem Dt(z:St w M Z w [As.hI 70 d]) (hu:Rd RR.eG 4 Z w ar r cr aa) (h0:1≤aa.length) (D:aa.length≤100):Calls prog 29 #[.pointer (some ⟨d,0,none⟩),.slice ar r cr] w fun e w'=>∃k:Key,e=.returned k.val∧lU aa k∧St w M Z w' [As.hI 70 d]:=by
 have hlen:=hu.len;refine enter func29 rfl ntmps29 rfl<|?_;have aQ:=z;have st1:=aQ.fr hu;refine(eT) st1 fun b4 w1 E F st2=>?_;refine fH ?_;have o:=st2.p2;refine(bY) jA (bs o.e1 (m:=8) (by omega)) ?_;rintro _ w2 ⟨G,rfl,H,p,A⟩;have q:=St.lr o A;have p:=p (by omega);refine(aS) (fun g7=>?_) fun g7=>?_
 ·
  skip
  refine cm ?_;have c:=q;refine(bY) jA (bs c.e1 (m:=4) (by omega)) ?_;rintro _ w3 ⟨z4,rfl,B,s,h⟩;have g:=St.lr c h;have s:=s (by omega);refine(eV) (jk (n:=z4)) g fun w4 I b=>?_;refine(cI) gR b.p1 fun w5 J K a=>?_;refine(kV) ao a.b0<|?_;exact⟨_,rfl,.inl ⟨z4,B,by omega,rfl⟩,a.drop.p1.drop⟩
 skip
 refine fH ?_;have c:=q;refine(bY) jA (bs c.e1 (m:=2) (by omega)) ?_;rintro _ w3 ⟨z2,rfl,L,u,h⟩;have g:=St.lr c h;have u:=u (by omega);refine(aS) (fun g13=>?_) fun g13=>?_
 ·
  skip
  refine kU ?_;refine WP .r (PV.Mu rfl rfl)<|?_;have b:=g;refine(bY) jA (bs b.e1 (m:=min 3 (r:Int)) (by omega)) ?_;rintro _ w4 ⟨z22,rfl,N,v,j⟩;have a:=St.lr b j;have v:=v (by omega);refine(eV) (fV (n:=(r:Int) - 1 - z22) (As.gr a.g2)) a fun w5 C l=>?_;refine(cI) gR l.p1 fun w6 O P f=>?_;refine(kV) ao f.b0<|?_;obtain⟨i,hi⟩:∃i:Nat,(r:Int) - 1 - z22=i:=⟨((r:Int) - 1 - z22).toNat,by omega⟩;exact⟨_,rfl,.inr ⟨i,by omega,by rw [hi]⟩,f.drop.p1.drop⟩
 skip
 refine gK ?_;have b:=g;refine(bY) jA (bs b.e1 (m:=(r:Int)) (by omega)) ?_;rintro _ w4 ⟨z5,rfl,Q,y,j⟩;have a:=St.lr b j;have y:=y (by omega);refine(eV) (fV (n:=z5) (As.gr a.g2)) a fun w5 C l=>?_;refine(cI) gR l.p1 fun w6 R S f=>?_;refine(kV) ao f.b0<|?_;obtain⟨i,rfl⟩:∃i:Nat,z5=i:=⟨z5.toNat,by omega⟩;exact⟨_,rfl,.inr ⟨i,by omega,rfl⟩,f.drop.p1.drop⟩
theorem rj(u:St w M Z w [As.hI 70 d]) (hu:Rd RR.eG 4 Z w ar r cr aa) (h0:1≤aa.length) (v:aa.length≤100) (hm:1≤m) (P:m≤1000):Calls prog 10 #[.pointer (some ⟨d,0,none⟩),.slice ar r cr,.int .i64 m] w fun e w'=>∃a n c,∃l:List Key,e=.returned (.slice a n c)∧(l.length:Int)≤m∧(∀x∈l,lU aa x)∧St w M Z w' [As.hI 70 d,As.os RR.key 41 2 a n c l]:=by
 have hlen:=hu.len;refine enter func10 rfl ntmps10 rfl<|?_;have aQ:=u;have st1:=aQ.fr hu;have st2:=st1.dp RR.key 41 2;refine aW ?_;refine cm ?_;have p:=st2.p2;refine(bY) jA (bs p.e1 (m:=m) (by omega)) ?_;rintro _ w1 ⟨z0,rfl,Q,q,B⟩;have C:=St.lr p B;have q:=q (by omega);obtain⟨z,rfl⟩:∃z:Nat,z0=z:=⟨z0.toNat,by omega⟩;refine dd ?_;refine WC.bm (σ:=Nat × (List Key) × (Option Addr) × Nat × Nat) (dn:=fun(i,l,f,b,g)=>[(0,.pointer (some ⟨d,0,none⟩)),(1,.slice ar r cr),(7,.slice f b g),(8,.int .i64 (i:Int))]) (F:=fun(i,l,f,b,g)=>[As.os RR.key 41 2 f b g (l),As.hI 70 d]) (I:=fun(i,l,f,b,g)=>(l.length+i≤z+1)∧(∀x∈l,lU aa x)∧True) (μ:=fun(i,l,f,b,g)=>i) (z+1,[],none,0,0) (C.p1) Sub.t (⟨by simp,by simp,trivial⟩)<|?_;rintro⟨i,l,f,b,g⟩ w2 j ⟨D,k,_⟩;simp only [CA,NA] at j D k ⊢;have R:=((As.gs j.g0)).len;refine(aS) (fun g14=>?_) fun g14=>?_
 ·
  simp at g14
  refine gK ?_;have o:=j.p1;refine(bY) adC (Dt o.e1 (As.gr o.g2) h0 v) ?_;rintro _ w3 ⟨x,rfl,E,G⟩;have H:=St.lr o G;refine WL.go rfl (OX.aP (us:=x.cells) dt rfl rfl rfl rfl fun S w4 J K=>?_);have s:=H.cZ J K;refine WL.ap rfl rfl s.p2 (SR.dc (A:=fun _=>True) (x:=x) (As.gb s.g0) trivial rfl (by simp [Key.cells,Value.oneCell']) rfl) fun a22 L w5 T U N=>?_;refine kU ?_;refine ez (i - 1,l++[x],a22,(b+1),L) ⟨N.p1.drop,⟨by simp;omega,fun y O=>by rcases List.mem_append.1 O with h | h;exact k y h;simp at h;subst h;exact E,trivial⟩⟩
 simp at g14
 refine(bA) ?_;exact⟨_,_,_,l,rfl,by omega,k,j.p2.drop.p1⟩
set_option maxHeartbeats 4000000 in
theorem Av{a1 a2:Option Addr}{n1 e1 n2 e2:Nat}(T:aq aa) (gp:St w M Z w [As.hI 70 d]) (ht:lA prog Z w) (hu:Rd RR.eG 4 Z w ar r cr aa) (h0:1≤aa.length) (h9:aa.length≤100) (ri:Rd RR.aD 4 Z w a1 n1 e1 x.ab) (rc:Rd RR.ew 8 Z w a2 n2 e2 x.ah) (h:LC aa x) (hm:0≤m) (AV:m≤1000):Calls prog 28 #[.pointer (some ⟨d,0,none⟩),.slice ar r cr,.agg (x.row a1 n1 e1 a2 n2 e2).toArray,.int .i64 m] w fun e w'=>∃(y:cz) (b1 b2:Option Addr) (m1 d1 m2 d2:Nat) (Z':Nat→Prop),e=.returned (.agg (y.row b1 m1 d1 b2 m2 d2).toArray)∧LC aa y∧y.ad≤x.ad+m∧Rd RR.aD 4 Z' w' b1 m1 d1 y.ab∧Rd RR.ew 8 Z' w' b2 m2 d2 y.ah∧bJ w.heap.size Z Z'∧St w M Z' w' [As.hI 70 d]:=by
 refine enter func28 rfl ntmps28 rfl<|?_;have aQ:=gp;have st1:=aQ.fr hu;have st2:=st1.fr ri;have ir:=st2.fr rc;have hJ:=ir.fact (B:=As.fz (FZ.IH prog)) ht (fun _ hx=>hx);refine(dz) hJ fun b6 w1 Fi KW iY=>?_;refine(eT) iY fun b8 w2 LZ Yq hM=>?_;refine gK ?_;have hh:=hM.p6;refine(bY) jA (bs hh.e1 (m:=m+1) (by omega)) ?_;rintro _ w3 ⟨z0,rfl,aag,Du,ky⟩;have iI:=St.lr hh ky;have Du:=Du (by omega);obtain⟨z,rfl⟩:∃z:Nat,z0=z:=⟨z0.toNat,by omega⟩;refine ck ?_;refine WC.gY (σ:=Nat × cz × (Option Addr) × Nat × Nat × (Option Addr) × Nat × Nat × (Nat→Prop)) (dn:=fun(i,y,a1,n1,e1,a2,n2,e2,C)=>[(0,.pointer (some ⟨d,0,none⟩)),(1,.slice ar r cr),(6,.pointer (some ⟨b6,0,none⟩)),(8,.pointer (some ⟨b8,0,none⟩)),(9,.int .i64 (i:Int))]) (F:=fun(i,y,a1,n1,e1,a2,n2,e2,C)=>[As.hI 70 d,As.blk b6 31 (y.row a1 n1 e1 a2 n2 e2),As.ro RR.aD 4 a1 n1 e1 y.ab,As.ro RR.ew 8 a2 n2 e2 y.ah]) (I:=fun(i,y,a1,n1,e1,a2,n2,e2,C)=>(LC aa y)∧(i≤z)∧(y.ad≤x.ad+((z:Int) - i))∧(bJ w.heap.size Z C)∧True) (μ:=fun(i,y,a1,n1,e1,a2,n2,e2,C)=>i) (Zf:=fun(i,y,a1,n1,e1,a2,n2,e2,C)=>C) (z,x,a1,n1,e1,a2,n2,e2,Z) (iI.p4.p5.p4.p3) Sub.t (⟨h,Nat.le_refl _,by omega,bJ.refl _ _,trivial⟩)<|?_;rintro⟨i,y,a1,n1,e1,a2,n2,e2,C⟩ w4 iF ⟨h,hiz,Wa,K,_⟩;simp only [CA,NA] at iF h hiz Wa K ⊢;have hyl:=h.lb.ok.pq;have hyr:y.ah.length≤4000:=h.lb.ok.fQ.len;refine(aS) (fun g17=>?_) fun g17=>?_
 ·
  simp at g17
  refine eD ?_;have L:=iF;refine(bY) jA (bs L.e1 (m:=8) (by omega)) ?_;rintro _ w5 ⟨z8,rfl,aah,Dv,qK⟩;have di:=St.lr L qK;have Dv:=Dv (by omega);refine i7 ?_;have cX:=di;refine WC.jx (σ:=Bool) [] (fun pk=>[(0,.pointer (some ⟨d,0,none⟩)),(1,.slice ar r cr),(6,.pointer (some ⟨b6,0,none⟩)),(8,.pointer (some ⟨b8,0,none⟩)),(9,.int .i64 (i:Int)),(21,.int .i64 z8),(32,.bool pk)]) (fun pk=>[]) (fun pk=>True) cX ?_ ?_
  ·
   refine(aS) (fun W=>?_) fun W=>?_
   ·
    skip
    refine nx ?_;exact mQ (decide (z8=0)) ⟨cX,trivial⟩
   skip
   refine(aS) (fun W=>?_) fun W=>?_
   ·
    skip
    refine nx ?_;exact mQ (decide (z8=1)) ⟨cX,trivial⟩
   skip
   refine ck ?_;exact mQ (decide (z8=2)) ⟨cX,trivial⟩
  rintro pk w6 X _;simp only [CA,NA] at X ⊢;refine(aS) (fun W=>?_) fun W=>?_
  ·
   skip
   refine WC.bM (m:=7) [6] [2,3] [1,2,0,3,4,5,6] [] X (ai.k4 M1 M2 M3 M4<|ai.cons M5<|ai.cons M6<|ai.nil) mixed (by kernel_rfl) (by kernel_rfl) rfl<|(fL) (fun w7 OE Ae k qW=>?_);simp only [CA,NA] at k;have j:=k;refine OX.call Sm rfl rfl ((kA j.e1 (by decide) (by decide)).mono ?_);rintro _ w8 ⟨ca,cn,cc,ch,rfl,pP,F8,l⟩;have n:=St.lr j l;have Y:=St.uO l;have Lv:=j.size;have Uk:=((As.gs n.g1)).len;have G:=n.p1.a8 (by omega);have Af:=K.trans (bJ.dC (F:=fun x=>x∈aJ ca) Y) Lv;refine⟨_,rfl,l.bW.size,_,rfl,_,_,_,G,aw.k4<|aw.k4<|aw.nil,ai.k4 M2 M3 M4 M5<|ai.cons M6<|ai.cons M7<|ai.nil,?_⟩;refine(kW) aN SV.g0<|(fL) (fun w9 Zk Li v CZ=>?_);simp only [CA,NA] at v;have c:=v;refine OX.call KB rfl rfl ((qZ (x:=y) c.e0 (As.gr c.g3) (As.gr c.g4) (As.gr c.g0) h.lb.ok.hV h.lb.aD F8 (by omega)).mono ?_);rintro _ iP ⟨y2,b1,b2,m1,d1,m2,d2,er,N,rfl,ahR,hv0,FH,hG,ahS,Ol,hap,_,IV,hbc,o,H⟩;have q:=St.lv c H o;have O:=Af.trans o c.size;have P:=q.fr (IV);have Q:=P.fr (hbc);refine⟨_,rfl,H.bW.size,_,rfl,_,_,_,Q,aw.k4<|aw.k4<|aw.k2<|aw.nil,ai.k4 M4 M5 M6 M7<|ai.cons M8<|ai.cons M9<|ai.nil,?_⟩
   iterate 3 refine DG.a ?_
   refine(jm) ?_;intro iW Ir D;simp only [CM,NM,CA,NA,hK.it] at D;refine(cI) dP D.p4 fun lB jW ka J=>?_;refine WL.nil (EX.np ?_);have R:=J.p5.drop;have S:=R.p5.drop;refine gK ?_;refine ez (i - 1,y2,b1,m1,d1,b2,m2,d2,N) ⟨S.p3.drop.p2.p1.p3,⟨h.apply hap ahR hv0 FH hG ahS,by omega,by show y2.ad≤x.ad+((z:Int) - ((i - 1:Nat):Int));omega,O,trivial⟩⟩
  skip
  refine(aS) (fun YP=>?_) fun YP=>?_
  ·
   skip
   refine nx ?_;refine WC.bM (m:=10) [8] [4,5] [2,3,4,0,1,5,6,7,8,9] [(9,.blk 107 [.slice none 0 0,.int .i64 0,.slice none 0 0,.slice none 0 0,.slice none 0 0,.slice none 0 0,.slice none 0 0])] X (ai.k4 M1 M2 M3 M4<|ai.cons M5<|ai.cons M6<|ai.nil) mixed (by kernel_rfl) (by kernel_rfl) rfl<|?_
   iterate 2 refine DG.a ?_
   refine(fL) (fun w7 Tz xc k mG=>?_);simp only [CA,NA] at k;have j:=k;refine OX.call WZ rfl rfl ((rj j.e1 (As.gr j.g6) (by omega) (by omega) (by decide) (by decide)).mono ?_);rintro _ w8 ⟨ga,gn,gc,gl,rfl,ahT,xk,l⟩;have n:=St.lr j l;have Y:=St.uO l;have Lv:=j.size;have Uk:=((As.gs n.g1)).len;have G:=n.p1.a8 (by omega);have Af:=K.trans (bJ.dC (F:=fun x=>x∈aJ ga) Y) Lv;obtain⟨f,s',Qb,FP,wD,IW,zQ,aaj,Vg,_⟩:=h.req T xk (by omega);refine⟨_,rfl,l.bW.size,_,rfl,_,_,_,G,aw.k4<|aw.k4<|aw.nil,ai.k4 M2 M3 M4 M5<|ai.cons M6<|ai.cons M7<|ai.nil,?_⟩;refine(kW) aN SV.g0<|(fL) (fun w9 IA sr v jM=>?_);simp only [CA,NA] at v;have c:=v;refine OX.call adT rfl rfl ((Aw c.e0 (As.gr c.g7) (As.gr c.g3) (As.gr c.g4) (As.gr c.g0) ((h.lb.start wD (by omega)).sz T (by omega)) Qb).mono ?_);rintro _ iP ⟨A7,Z7,rfl,U,Lx,H⟩;have q:=St.lv c H Lx;have Gd:=Af.trans Lx c.size;have P:=q.fr (U.u);have Q:=P.fr (U.i);have D:=Q.fr (U.r);have J:=D.fr (U.g);have R:=J.fr (U.f);have S:=R.fr (U.p);refine⟨_,rfl,H.bW.size,_,rfl,_,_,_,S,aw.k4<|aw.k4<|aw.k4<|aw.k2<|aw.nil,ai.k4 M8 M9 hP iJ<|ai.cons kB<|ai.cons oj<|ai.nil,?_⟩
   iterate 3 refine DG.a ?_
   refine DG.side (s:=.blk 107 [.slice none 0 0,.int .i64 0,.slice none 0 0,.slice none 0 0,.slice none 0 0,.slice none 0 0,.slice none 0 0]) rfl rfl rfl rfl rfl rfl (fun wx Zx Rx qS oA=>OX.alloc Pr rfl fun b wy nw hb=>⟨nw.ext.size,_,rfl,⟨b,rfl⟩,oA.cZ nw hb⟩)<|?_;rintro _ ⟨K6,rfl⟩;refine(jm) ?_;intro iW Lh dB;simp only [CM,NM,CA,NA,hK.it] at dB;refine(cI) jz dB fun lB ry mu eK=>?_;refine nx ?_;refine WL.nil (EX.np ?_);refine(aS) (fun Qc=>?_) fun Qc=>?_
   ·
    skip
    refine nx ?_;refine WC.bM (m:=8) [6,7] [2,3] [1,2,0,3,4,5,6,7] [] eK (ai.k4 M0 M1 M2 M3<|ai.k4 M4 M5 M6 M7<|ai.k4 M9 hP iJ kB<|ai.cons oj<|ai.cons xt<|ai.nil) mixed (by kernel_rfl) (by kernel_rfl) rfl<|(fL) (fun oh OE Ae kH qW=>?_);simp only [CA,NA] at kH;have lP:=kH.p8;refine OX.call jA rfl rfl ((bs lP.e1 (m:=30) (by omega)).mono ?_);rintro _ sg ⟨z3,rfl,aak,Dw,C5⟩;have oB:=St.lr lP C5;have Dw:=Dw (by omega);obtain⟨mo,rfl⟩:∃mo:Nat,z3=mo:=⟨z3.toNat,by omega⟩;refine⟨_,rfl,C5.bW.size,_,rfl,_,_,_,oB,aw.k4<|aw.k4<|aw.k4<|aw.k2<|aw.cons<|aw.nil,ai.k4 M1 M2 M3 M4<|ai.k4 M5 M6 M7 M8<|ai.k4 M9 hP iJ kB<|ai.cons oj<|ai.cons xt<|ai.nil,?_⟩;refine(kW) dT SV.g0<|(fL) (fun pR Zk Li nT CZ=>?_);simp only [CA,NA] at nT;have A:=nT;refine OX.call adU rfl rfl ((Gc T A.e0 (As.gf A.g13) ⟨(As.gr A.g7),(As.gr A.g6),(As.gr A.g5),(As.gr A.g4),(As.gr A.g3),(As.gr A.g2)⟩ (h.lb.start wD (by omega)) Qb (by omega)).mono ?_);rintro _ tL ⟨t8,A8,i8,er8,Z9,rfl,hk8,ahV,V,aal,Qh⟩;have pM:=St.lv A Qh aal;have hZ9:=Gd.trans aal A.size;have jY:=pM.fr (V.u);have jZ:=jY.fr (V.i);have oC:=jZ.fr (V.r);have mN:=oC.fr (V.g);have su:=mN.fr (V.f);have wg:=su.fr (V.p);refine⟨_,rfl,Qh.bW.size,_,rfl,_,_,_,wg,aw.k4<|aw.k4<|aw.k4<|aw.k4<|aw.k4<|aw.cons<|aw.nil,ai.k4 M7 M8 M9 hP<|ai.k4 iJ kB oj xt<|ai.k4 I1 Mk UL M18<|ai.cons M19<|ai.cons M20<|ai.nil,?_⟩
    iterate 4 refine DG.a ?_
    refine(jm) ?_;intro zN CN jC;simp only [CM,NM,CA,NA,hK.it] at jC;refine(cI) jz jC.p7 fun yt zH tR IC=>?_;refine WL.nil (EX.np ?_);refine nx ?_;have Ul:=IC.qd.drop;have lz:=Ul.o9.drop;have jl:=lz.kE.drop;have F9:=jl.kD.drop;have nU:=F9.p9.drop;have mj:=nU.p8.drop;have nV:=mj.p8.drop;refine(aX) dT nV.b0<|?_;have E:=nV;refine(bY) adV (xl E.e0 ⟨(As.gr E.g6),(As.gr E.g5),(As.gr E.g4),(As.gr E.g3),(As.gr E.g2),(As.gr E.g1)⟩ (hk8.sz T (by omega))) ?_;rintro _ FE ⟨rs,b1,b2,m1,d1,m2,d2,N,rfl,Ee,ahW,IV,hbc,o,Ly⟩;have wm:=St.lv E Ly o;have O:=hZ9.trans o E.size;have pN:=wm.fr (IV);have rf:=pN.fr (hbc);refine(cI) dP rf.kD fun Io L7 L8 wi=>?_;refine nx ?_;have rh:=wi.kE.drop;have Ga:=rh.kE.drop;refine gK ?_;refine ez (i - 1,⟨t8.base.ad,t8.base.ab,rs⟩,b1,m1,d1,b2,m2,d2,N) ⟨Ga.p3.drop.p3.drop.p3.drop.p3.drop.p3.drop.p3.drop.p3.drop.p2.p1.p3,⟨by rw [ahW];exact h.task hk8.ok.base (ahV h.bh).2,by omega,by have h9:t8.base.ad=y.ad:=hk8.ok.base.rv;show t8.base.ad≤x.ad+((z:Int) - ((i - 1:Nat):Int));omega,O,trivial⟩⟩
   exact absurd Qc (by simp)
  skip
  refine(aS) (fun g66=>?_) fun g66=>?_
  ·
   skip
   refine cm ?_;have k:=X;refine(bY) jA (bs k.e1 (m:=3) (by omega)) ?_;rintro _ w7 ⟨z9,rfl,aan,Dx,jB⟩;have j:=St.lr k jB;have Dx:=Dx (by omega);refine(aS) (fun g70=>?_) fun g70=>?_
   ·
    skip
    refine WC.bM (m:=8) [6,7] [2,3] [1,2,0,3,4,5,6,7] [] j (ai.k4 M1 M2 M3 M4<|ai.cons M5<|ai.cons M6<|ai.nil) mixed (by kernel_rfl) (by kernel_rfl) rfl<|(fL) (fun w8 OE Ae n qW=>?_);simp only [CA,NA] at n;have G:=n;refine OX.call jA rfl rfl ((bs G.e1 (m:=200) (by omega)).mono ?_);rintro _ w9 ⟨zb,rfl,alg,Qi,nL⟩;have v:=St.lr G nL;have Qi:=Qi (by omega);refine⟨_,rfl,nL.bW.size,_,rfl,_,_,_,v,aw.k4<|aw.k2<|aw.cons<|aw.nil,ai.k4 M1 M2 M3 M4<|ai.cons M5<|ai.cons M6<|ai.nil,?_⟩;refine(kW) aN SV.g0<|(fL) (fun iP Zk Li c CZ=>?_);simp only [CA,NA] at c;have q:=c;refine OX.call adW rfl rfl ((Dy q.e0 (As.gr q.g2) (As.gr q.g3) h.lb.ok.hV h.lb.ok.small (by omega) (by omega)).mono ?_);rintro _ iW ⟨rs,b1,b2,m1,d1,m2,d2,va,vn,vc,N,rfl,Ee,IV,hbc,o,nR⟩;have P:=St.lv q nR o;have O:=K.trans o q.size;have Q:=P.fr (IV);have D:=Q.fr (hbc);refine⟨_,rfl,nR.bW.size,_,rfl,_,_,_,D,aw.k4<|aw.k4<|aw.cons<|aw.nil,ai.k4 M3 M4 M5 M6<|ai.cons M7<|ai.cons M8<|ai.nil,?_⟩
    iterate 4 refine DG.a ?_
    refine(jm) ?_;intro lB YZ J;simp only [CM,NM,CA,NA,hK.it] at J;refine(cI) dP J.p3 fun oh Mg Ed R=>?_;refine WL.nil (EX.np ?_);have S:=R.p4.drop;have dB:=S.p4.drop;refine gK ?_;refine ez (i - 1,⟨y.ad,y.ab,rs⟩,b1,m1,d1,b2,m2,d2,N) ⟨dB.p2.p1.p3,⟨h.sub Ee,by omega,by show y.ad≤x.ad+((z:Int) - ((i - 1:Nat):Int));omega,O,trivial⟩⟩
   skip
   refine kU ?_;refine ez (i - 1,y,a1,n1,e1,a2,n2,e2,C) ⟨j,⟨h,by omega,by show y.ad≤x.ad+((z:Int) - ((i - 1:Nat):Int));omega,K,trivial⟩⟩
  skip
  refine WC.bM (m:=10) [8,9] [4,5] [2,3,4,0,1,5,6,7,8,9] [] X (ai.k4 M1 M2 M3 M4<|ai.cons M5<|ai.cons M6<|ai.nil) mixed (by kernel_rfl) (by kernel_rfl) rfl<|?_
  iterate 2 refine DG.a ?_
  refine(fL) (fun w7 Tz xc k mG=>?_);simp only [CA,NA] at k;have j:=k;refine OX.call WZ rfl rfl ((rj j.e1 (As.gr j.g6) (by omega) (by omega) (by decide) (by decide)).mono ?_);rintro _ w8 ⟨ga,gn,gc,gl,rfl,ahT,xk,l⟩;have n:=St.lr j l;have Y:=St.uO l;have Lv:=j.size;have Uk:=((As.gs n.g1)).len;have G:=n.p1.a8 (by omega);have Af:=K.trans (bJ.dC (F:=fun x=>x∈aJ ga) Y) Lv;obtain⟨f,s',Qb,FP,wD,IW,zQ,aaj,Vg,_⟩:=h.req T xk (by omega);refine⟨_,rfl,l.bW.size,_,rfl,_,_,_,G,aw.k4<|aw.k4<|aw.nil,ai.k4 M2 M3 M4 M5<|ai.cons M6<|ai.cons M7<|ai.nil,?_⟩;refine(kW) aN SV.g0<|(fL) (fun w9 IA sr v jM=>?_);simp only [CA,NA] at v;have c:=v;refine OX.call adX rfl rfl ((xd (x:=y) (s':=s') T c.e0 (As.gr c.g7) (As.gr c.g3) (As.gr c.g4) (As.gr c.g0) (As.gf c.g6) Qb FP wD (by omega) IW zQ).mono ?_);rintro _ iP ⟨q1,q2,q3,q4,q5,q6,o1,o2,o3,N,rfl,o,hqi,hqc,H⟩;have q:=St.lv c H o;have O:=Af.trans o c.size;have P:=q.fr (hqi);have Q:=P.fr (hqc);refine⟨_,rfl,H.bW.size,_,rfl,_,_,_,Q,aw.k4<|aw.k4<|aw.k2<|aw.cons<|aw.nil,ai.k4 M5 M6 M7 M8<|ai.cons M9<|ai.cons hP<|ai.nil,?_⟩
  iterate 4 refine DG.a ?_
  refine(jm) ?_;intro iW vU D;simp only [CM,NM,CA,NA,hK.it] at D;refine(cI) dP D.p5 fun lB PZ P0 J=>?_;refine WL.nil (EX.np ?_);have R:=J.p6.drop;have S:=R.p6.drop;refine gK ?_;refine ez (i - 1,(s'.base y),q1,q2,q3,q4,q5,q6,N) ⟨S.p3.drop.p3.drop.p2.p1.p3,⟨aaj,by omega,by show(s'.base y).ad≤x.ad+((z:Int) - ((i - 1:Nat):Int));rw [Vg];omega,O,trivial⟩⟩
 skip
 refine(aX) aN iF.b1<|(cI) dP iF.p4 fun w5 Ta Tb L=>?_;refine(kV) aN L.b0<|?_;exact⟨y,a1,a2,n1,e1,n2,e2,C,rfl,h,by omega,(As.gr L.g3),(As.gr L.g4),K,L.p1.k1⟩
set_option maxHeartbeats 1600000 in
theorem Dz(v:St w M Z w [As.hI 70 d]) (ht:lA prog Z w) (hm:0≤m) (z:m≤1000):Calls prog 9 #[.pointer (some ⟨d,0,none⟩),.int .i64 m] w fun e w'=>∃(aa:List aG) (x:cz) (ar a1 a2:Option Addr) (r cr n1 e1 n2 e2:Nat) (Z':Nat→Prop),e=.returned (.tuple #[.slice ar r cr,.agg (x.row a1 n1 e1 a2 n2 e2).toArray])∧aq aa∧2≤aa.length∧aa.length≤8∧LC aa x∧x.ad≤1+m∧Rd RR.eG 4 Z' w' ar r cr aa∧Rd RR.aD 4 Z' w' a1 n1 e1 x.ab∧Rd RR.ew 8 Z' w' a2 n2 e2 x.ah∧bJ w.heap.size Z Z'∧St w M Z' w' [As.hI 70 d]:=by
 refine enter func9 rfl ntmps9 rfl<|?_;have aQ:=v;have st1:=aQ.fact (B:=As.fz (FZ.IH prog)) ht (fun _ A=>A);refine(eT) st1 fun b5 w1 H9 Ia st2=>?_;refine dd ?_;have f:=st2.p2;refine(bY) ady (Ax f.e1) ?_;rintro _ w2 ⟨ra,C,rc,aa,Z1,rfl,h,D,E,i,j⟩;have k:=St.lv f j i;have G:=St.uO j;have l:=f.size;have H:=i.le l;have GC:=((As.gs k.g1)).len;have I:=k.p1.a8 (by omega);have J:=H.trans (bJ.dC (F:=fun x=>x∈aJ ra) G) l;refine dd ?_;refine WP .r (PV.bC (us:=((⟨0,[],[]⟩:cz).row none 0 0 none 0 0)) WQ rfl rfl rfl)<|nx ?_;have g:=I.p1;refine(bY) Sm (kA g.e1 (by decide) (by decide)) ?_;rintro _ w3 ⟨K,cn,cc,ch,rfl,pP,L,n⟩;have o:=St.lr g n;have N:=St.uO n;have O:=g.size;have Uk:=((As.gs o.g1)).len;have P:=o.p1.a8 (by omega);have Q:=J.trans (bJ.dC (F:=fun x=>x∈aJ K) N) O;have c:=P;refine(bY) KB (qZ (x:=⟨0,[],[]⟩) c.e0 (Rd.nil _ _ _ _) (Rd.nil _ _ _ _) (As.gr c.g0) Q7 (jg.nil _) L (by omega)) ?_;rintro _ w4 ⟨p,b1,b2,m1,d1,m2,d2,er,Z4,rfl,R,S,T,U,V,W,hap,_,X,Y,q,oy⟩;have eE:=St.lv c oy q;have qP:=Q.trans q c.size;have di:=eE.fr (X);have cX:=di.fr (Y);refine(eT) cX fun b7 w5 SF SG dm=>?_;refine(cI) dP dm fun w6 jW ka s=>?_;refine(aX) aN s.b0<|nx ?_;have a:=s.p4;refine(bY) adB (Av h a.e1 (As.gf a.g7) (As.gr a.g5) (by omega) (by omega) (As.gr a.g3) (As.gr a.g2) (LC.nil aa p R S T U V) hm z) ?_;rintro _ w7 ⟨y,q1,q2,p1,j1,p2,j2,Z5,rfl,hlb,Wa,hqi,hqc,u,jB⟩;have fJ:=St.lv a jB u;have yv:=qP.trans u a.size;have ep:=fJ.fr (hqi);have eb:=ep.fr (hqc);refine(cI) dP eb.p8 fun w8 ry mu b=>?_;refine cm ?_;refine EX.et rfl (RS.tmp rfl<|RS.cell aN rfl b.b0 rfl<|RS.nil) rfl<|?_;exact⟨aa,y,ra,q1,q2,C,rc,p1,j1,p2,j2,Z5,rfl,h,D,E,hlb,by have h0:p.ad≤0+1:=W;omega,(As.gr b.g8),(As.gr b.g2),(As.gr b.g1),yv,b.p3.k1⟩
set_option maxHeartbeats 400000
set_option maxHeartbeats 4000000 in
set_option maxRecDepth 8000 in
theorem qG{l:List Int}{al:Option Addr}{nl cl:Nat}(gp:St w M Z w []) (ht:lA prog Z w) (hl:Rd RR.int 1 Z w al nl cl l):CR prog 4 #[.slice al nl cl] w (.bool true):=by
 refine enter func4 rfl ntmps4 rfl<|?_;have aQ:=St.rb gp;have st1:=aQ.fr hl;have st2:=st1.fact (B:=As.fz (FZ.IH prog)) ht (fun _ hx=>hx);refine(eV) (Ct) st2 fun w1 s1 ir=>?_;refine(aS) (fun Mc=>?_) fun Mc=>?_
 ·
  skip
  refine bO ?_;refine WL.go rfl (OX.call (xs:=[]) (args:=[]) cf7 rfl rfl ((oV (ir.e0) (As.gf ir.g0)).mono ?_));rintro _ _ ⟨_,rfl,hzz⟩;refine⟨_,rfl,?_⟩;refine(bA) ?_;exact⟨rfl,aU.trans (St.cg ir) (hzz.bW.bW (fun _ h=>by obtain⟨A,g,_⟩:=h;cases g))⟩
 have hl4:nl≤400:=by simpa using Mc
 refine dd ?_;have hJ:=ir;refine(bY) cf8 (DA hJ.e0 (As.gr hJ.g1) hl4) ?_;rintro _ w2 ⟨d,rfl,TF⟩;have iY:=St.lr hJ TF;refine fH ?_;have hM:=iY;refine(bY) cf9 (Dz hM.e1 (As.gf hM.g1) (m:=4) (by omega) (by omega)) ?_;rintro _ w3 ⟨aa,x,ra,y1,y2,p,rc,m1,e1,m2,e2,Z1,rfl,H,hr2,hr8,hlc,Wa,GC,hyi,hyr,wC,ky⟩;have hh:=St.lv hM ky wC;have iI:=hh.p2.drop;have iF:=iI.fr (GC);have eE:=iF.fr (hyi);have di:=eE.fr (hyr);have II:=H.len;have EE:=((As.gr di.g2)).len;have hxl:=hlc.lb.ok.pq;have ap7:x.ah.length≤4000:=hlc.lb.ok.fQ.len;refine(eT) di fun b5 w4 H9 Ia cX=>?_;refine(cI) dP cX fun w5 jW ka dm=>?_;refine fH ?_;have cW:=dm.dp RR.key 41 2;refine i7 ?_;refine WC.bm (σ:=Nat × (List Key) × (Option Addr) × Nat × Nat) (dn:=fun(i,D,S,N,T)=>[(3,.pointer (some ⟨d,0,none⟩)),(4,.slice ra p rc),(5,.pointer (some ⟨b5,0,none⟩)),(6,.slice S N T),(42,.int .i64 (p:Int)),(43,.int .i64 (i:Int))]) (F:=fun(i,D,S,N,T)=>[As.os RR.key 41 2 S N T (D)]) (I:=fun(i,D,S,N,T)=>(i≤p)∧(D=(List.range i).map fun j=>aI aa ((j:Nat):Int))∧True) (μ:=fun(i,D,S,N,T)=>p - i) (0,[],none,0,0) (cW) Sub.t (⟨Nat.zero_le _,rfl,trivial⟩)<|?_;rintro⟨i,D,S,N,T⟩ w6 U ⟨hi,CE,_⟩;simp only [CA,NA] at U hi CE ⊢;have Of:=((As.gs U.g0)).len
 have ap8:D.length=i:=by rw [CE];simp
 refine(aS) (fun g44=>?_) fun g44=>?_
 ·
  simp at g44
  refine aW ?_;refine(eV) (fV (n:=(i:Int)) (As.gr U.g4)) U fun w7 s7 fJ=>?_;refine WL.go rfl (OX.aP (us:=(aI aa (i:Int)).cells) dt rfl rfl rfl rfl fun b50 w8 ah1 ah2=>?_);have J:=fJ.cZ ah1 ah2;refine WL.ap rfl rfl J.p1 (SR.dc (A:=fun _=>True) (x:=(aI aa (i:Int))) (As.gb J.g0) trivial rfl (by simp [Key.cells,Value.oneCell']) rfl) fun a51 ah3 w9 ap9 aqa O=>?_;refine gK ?_;refine ez (i+1,_,a51,(N+1),ah3) ⟨O.p1.drop,⟨by omega,by rw [List.range_succ,List.map_append,← CE];rfl,trivial⟩⟩
 simp at g44
 have aqb:i=p:=by omega
 have AZ:∀k∈D,∃i:Nat,i<aa.length∧k=aI aa (i:Int):=fun k hk=>by rw [CE] at hk;obtain⟨j,K,rfl⟩:=List.mem_map.1 hk;exact⟨j,by have:=List.mem_range.1 K;omega,rfl⟩
 have V:∀k∈D,eA aa k:=fun k hk=>by obtain⟨j,K,rfl⟩:=AZ k hk;exact .eG K (by omega)
 have UP:∀j:Nat,j<aa.length→aI aa (j:Int)∈D:=fun j K=>by rw [CE];exact List.mem_map.2 ⟨j,List.mem_range.2 (by omega),rfl⟩
 refine fH ?_;have ah4:=St.fresh U;have fJ:=U.a8 (by omega);refine(aX) aN fJ.b1<|nx ?_;have J:=fJ;refine(bY) N3 (ib (x:=x) (goals:=D) J.e0 (As.gf J.g6) (As.gr J.g4) (As.gr J.g3) (As.gr J.g2) (As.gr J.g0) H hlc V (by omega)) ?_;rintro _ w7 ⟨z,aqc,rs1,kE,o9,qd,j11,k11,j12,k12,j13,k13,Z1x,rfl,hq1,aqd,ov,aqe,ah5,ah6,jB⟩;have O:=St.lv J jB ah6;obtain⟨W,hi1,FH,hw1,ali⟩:=hq1.done H hlc V;have aaq:=W.lb.ok.fQ.len;have aaq:z.ah.length≤4000:=aaq;have Oj:=W.lb.ok.pq;obtain⟨_,_,_,aqf,_⟩:=hq1.ready H hlc V;have aqg:=ah5.length_eq;have ah7:=((As.gs O.g0)).len;have aeq:=((As.gs O.g1)).len;have aeu:=((As.gs O.g2)).len;have ah8:∀j:Nat,j<aa.length→az z (aI aa (j:Int))=true:=fun j K=>(ov _ (UP j K)).resolve_left (by rw [cj K (by omega)];simp);have abX:=St.fresh O;have dH:=O.a8 (by omega);have abY:=St.fresh dH.p1;have dI:=dH.p1.a8 (by omega);have abZ:=St.fresh dI.p2;have fb:=dI.p2.a8 (by omega);refine(cI) dP fb.p4 fun w8 ry mu dN=>?_;refine dd ?_;refine WC.bM (m:=8) [6] [2,3] [1,2,0,3,4,5,6,7] [(7,.blk 31 [.int .i64 0,.slice none 0 0,.slice none 0 0])] dN (ai.k4 M0 M1 M2 M3<|ai.k4 M4 M5 M6 M7<|ai.cons M9<|ai.nil) mixed (by kernel_rfl) (by kernel_rfl) rfl<|(fL) (fun w9 OE Ae eN qW=>?_);simp only [CA,NA] at eN;have fh:=eN.p8;refine OX.call Sm rfl rfl ((kA fh.e1 (by decide) (by decide)).mono ?_);rintro _ iP ⟨ca2,cn2,cc2,l5,rfl,aqh,ah9,mF⟩;have dQ:=St.lr fh mF;have alj:=((As.gs dQ.g1)).len;have ab0:=St.fresh dQ.p1;have eZ:=dQ.p1.a8 (by omega);refine⟨_,rfl,mF.bW.size,_,rfl,_,_,_,eZ,aw.k4<|aw.k4<|aw.k2<|aw.cons<|aw.nil,ai.k4 M2 M3 M4 M5<|ai.k4 M6 M7 M8 M9<|ai.cons hP<|ai.nil,?_⟩;refine(kW) aN SV.g0<|(fL) (fun iW Zk Li dB CZ=>?_);simp only [CA,NA] at dB;have eK:=dB;refine OX.call KB rfl rfl ((j0 (x:=z) eK.e0 (As.gr eK.g5) (As.gr eK.g4) (As.gr eK.g0) W.lb.ok.hV W.lb.aD ah9 (by omega)).mono ?_);rintro _ lB ⟨y,f1,f2,u1,v1,u2,v2,er2,Z7,rfl,c1,c2,c3,c4,c5,c6,c7,c8,c9,hzi,hzr,Gd,kR⟩;have kH:=St.lv eK kR Gd;have lP:=kH.fr (hzi);have oB:=lP.fr (hzr);have Lz:LC aa y:=W.apply c7 c1 c2 c3 c4 c5;refine⟨_,rfl,kR.bW.size,_,rfl,_,_,_,oB,aw.k4<|aw.k4<|aw.k4<|aw.cons<|aw.nil,ai.k4 M4 M5 M6 M7<|ai.k4 M8 M9 hP iJ<|ai.cons kB<|ai.nil,?_⟩
 iterate 3 refine DG.a ?_
 refine DG.side (s:=.blk 31 [.int .i64 0,.slice none 0 0,.slice none 0 0]) rfl rfl rfl rfl rfl rfl (fun wx Zx Rx qS oA=>OX.alloc Se rfl fun b wy nw hb=>⟨nw.ext.size,_,rfl,⟨b,rfl⟩,oA.cZ nw hb⟩)<|?_;rintro _ ⟨K6,rfl⟩;refine(jm) ?_;intro oh CB nT;simp only [CM,NM,CA,NA,hK.it] at nT;refine(cI) dP nT fun sg zH tR nS=>?_;refine nx ?_;refine WL.nil (EX.np ?_);refine(aX) aN nS.b0<|nx ?_;have P:=nS;refine(bY) N3 (ib (x:=y) (goals:=D) P.e0 (As.gf P.g13) (As.gr P.g12) (As.gr P.g2) (As.gr P.g1) (As.gr P.g9) H Lz V (by omega)) ?_;rintro _ pR ⟨b2x,tC,rs2,p21,p22,p23,j21,k21,j22,k22,j23,k23,Z2x,rfl,Q,aqk,py,aql,aar,aib,qX⟩;have jY:=St.lv P qX aib;obtain⟨Zq,qM,Ol,hw2,alo⟩:=Q.done H Lz V;have Od:=Zq.lb.ok.fQ.len;have Od:b2x.ah.length≤4000:=Od;have aqm:=Zq.lb.ok.pq;obtain⟨_,_,_,aqn,_⟩:=Q.ready H Lz V;have aqo:=aar.length_eq;have aqp:=((As.gs jY.g0)).len;have aqq:=((As.gs jY.g1)).len;have aqr:=((As.gs jY.g2)).len;have aic:∀j:Nat,j<aa.length→az b2x (aI aa (j:Int))=true:=fun j K=>(py _ (UP j K)).resolve_left (by rw [cj K (by omega)];simp);have ab2:=St.fresh jY;have jZ:=jY.a8 (by omega);have ab3:=St.fresh jZ.p1;have oC:=jZ.p1.a8 (by omega);have ab4:=St.fresh oC.p2;have mN:=oC.p2.a8 (by omega);refine(eT) mN fun Va tL TQ TS su=>?_;refine(cI) dP su fun zN L7 L8 wg=>?_;refine i7 ?_;refine WL.cq (t:=78) rfl (fun g78=>?_) (fun g78=>?_)
 ·
  exact dr g78
 refine(aS) (fun Vh=>?_) fun Vh=>?_
 ·
  exact dr Vh
 refine kg ?_;refine WC.gY (σ:=Nat × (Nat→Prop)) (dn:=fun(i,X)=>[(4,.slice ra p rc),(5,.pointer (some ⟨b5,0,none⟩)),(10,.pointer (some ⟨K6,0,none⟩)),(12,.pointer (some ⟨Va,0,none⟩)),(13,.slice p23 j23 k23),(82,.slice ra p rc),(83,.int .i64 (p:Int)),(84,.int .i64 (i:Int))]) (F:=fun(i,X)=>[]) (I:=fun(i,X)=>(i≤p)∧True) (μ:=fun(i,X)=>p - i) (Zf:=fun(i,X)=>X) (0,_) (wg) Sub.t (⟨Nat.zero_le _,trivial⟩)<|?_;rintro⟨i,X⟩ yt Y ⟨hi,_⟩;simp only [CA,NA] at Y hi ⊢;refine(aS) (fun g85=>?_) fun g85=>?_
 ·
  simp at g85
  have qM:i<aa.length:=by omega
  obtain⟨s0,s1,s2,s3,s4,s5⟩:=stops H W ah8 c7 c8 c1 Lz AZ Q aic qM;rw [bz qM (by omega),bU qM] at s4;rw [← aar.mem_iff] at s4 s5;have hvc:decide ((aC b2x.ah (aI aa (i:Int))).value=(aC z.ah (aI aa (i:Int))).value)=decide ((aC b2x.ah (aI aa (i:Int))).changed=(aC z.ah (aI aa (i:Int))).changed):=decide_eq_decide.2 s3;refine dd ?_;obtain⟨gJ,kF,jV,cR,gI,fw,ek,eJ⟩:=Rd.at (As.gr Y.g16) qM;obtain⟨z1,z2,z3,rfl,hz1⟩:=fw;have IC:=Y.fg eJ ek;refine bO ?_;refine WP .r (PV.dV iU cR rfl rfl (by omega))<|(aX) qD (As.kT IC.g0)<|(eT) IC fun YO FE K5 Ot Ul=>?_;refine(cI) Cj Ul fun Io Mg Ed lz=>?_;refine(eV) (fV (n:=(i:Int)) (As.gr lz.g18)) lz fun IZ s21 jl=>?_;refine(eT) jl fun Tl Mh Ox K7 F9=>?_;refine(cI) gR F9 fun P9 PZ P0 nU=>?_;refine(aZ) dF (bR.range (As.gb nU.g12))<|(aX) ao nU.b0<|?_;have mj:=nU;refine(bY) ou (gS (k:=(aI aa (i:Int))) mj.e0 (As.gr mj.g14)) ?_;rintro _ Qa ⟨v1x,v2x,v3x,rfl,U1,aas⟩;have nV:=St.lr mj aas;rw [s0];have hvn:=((As.gs nV.g0)).len;have aid:=St.fresh nV;have re:=nV.a8 (by omega);refine(eT) re fun b18 U8 Yz YA wm=>?_;refine(cI) fI wm fun w26 Ta Tb pN=>?_;refine(aS) (fun aat=>?_) fun aat=>?_
  ·
   exact dr aat
  refine(aZ) dK pN.b0<|dd ?_;refine WC.bm (σ:=Nat × Bool) (dn:=fun(q,sm)=>[(4,.slice ra p rc),(5,.pointer (some ⟨b5,0,none⟩)),(10,.pointer (some ⟨K6,0,none⟩)),(12,.pointer (some ⟨Va,0,none⟩)),(13,.slice p23 j23 k23),(16,.pointer (some ⟨YO,0,none⟩)),(17,.pointer (some ⟨Tl,0,none⟩)),(18,.pointer (some ⟨b18,0,none⟩)),(20,.bool sm),(82,.slice ra p rc),(83,.int .i64 (p:Int)),(84,.int .i64 (i:Int)),(102,.slice v1x v2x v3x),(103,.int .i64 (v2x:Int)),(104,.int .i64 (q:Int))]) (F:=fun(q,sm)=>[]) (I:=fun(q,sm)=>(q≤v2x)∧(sm=((aC z.ah (aI aa (i:Int))).reads.take q).all fun a=>decide (fY z a=(valOf aa y.ab) a))∧True) (μ:=fun(q,sm)=>v2x - q) (0,true) (pN) Sub.t (⟨Nat.zero_le _,rfl,trivial⟩)<|?_;rintro⟨q,sm⟩ w27 rf ⟨hq,F8,_⟩;simp only [CA,NA] at rf hq F8 ⊢;refine(aS) (fun we=>?_) fun we=>?_
  ·
   simp at we
   have Q:q<(aC z.ah (aI aa (i:Int))).reads.length:=by omega
   obtain⟨GK,hra⟩:=(s1 _ (List.getElem_mem Q)).IF H;refine dd ?_;obtain⟨Ip,ag2,YT,kz,P3,tj,G8,Ls⟩:=Rd.at (As.gr rf.g1) Q;have tj:=RR.ba tj;subst tj;have e:=rf.fg Ls G8;refine nx ?_;refine WP .r (PV.dV ey kz rfl rfl (by omega))<|(aX) ao (As.kT e.g0)<|(eT) e fun YC w28 Fw Ig rh=>?_;refine(cI) gR rh fun w29 YK YL R=>?_;refine(aX) aN (bR.range (As.gb R.g16))<|(aX) ao R.b0<|?_;have xi:=R;refine(bY) W0 (oU (k:=(aC z.ah (aI aa (i:Int))).reads[q]) xi.e0 (As.gr xi.g19) (As.gr xi.g18)) ?_;rintro _ w30 ⟨rfl,LA⟩;have Ge:=St.lr xi LA;refine(aX) aN (bR.range (As.gb Ge.g11))<|(aX) ao Ge.b0<|?_;have c:=Ge;refine(bY) adu (xm (x:=y) (k:=(aC z.ah (aI aa (i:Int))).reads[q]) c.e0 (As.gf c.g24) (As.gr c.g23) (As.gr c.g13) (As.gr c.g12) H Lz.lb.ok.hV GK hra) ?_;rintro _ w31 ⟨rfl,aau⟩;have Dr:=St.lr c aau;refine eD ?_;refine WC.kf (t:=20) (v:=.bool (sm && decide (fY z (aC z.ah (aI aa (i:Int))).reads[q]=(valOf aa y.ab) (aC z.ah (aI aa (i:Int))).reads[q]))) Dr ?_<|?_
   ·
    refine cm ?_;refine WL.cq (t:=122) rfl (fun F3=>?_) (fun F3=>?_)
    ·
     exact(gu) (tG F3) (Dr)
    exact(gu) (tG F3) (Dr)
   intro w32 aie;refine fH ?_;refine ez (q+1,_) ⟨aie.drop.drop,⟨by omega,by rw [List.take_succ_eq_append_getElem Q,List.all_append,← F8] <;> simp,trivial⟩⟩
  simp at we
  rw [List.take_of_length_le (by omega)] at F8;rw [← F8] at s4 s5;obtain⟨f,hhs⟩:∃f,decide ((aI aa (i:Int))∈rs2)=f:=⟨_,rfl⟩
  have g:(f && sm && !aa[i].ring)=false:=by
   subst hhs
   cases e1:aa[i].ring with
   | true=>simp
   | false=>
    by_cases e2:(aI aa (i:Int))∈rs2
    ·
     rw [s4 e1 e2];simp
    simp [e2]
  have C:(!f && !sm)=false:=by
   subst hhs
   by_cases e2:(aI aa (i:Int))∈rs2
   ·
    simp [e2]
   rw [s5 e2];simp
  refine(aX) ao rf.b2<|?_;refine WL.c1 (u:=.bool f) (og (k:=(aI aa (i:Int))) (As.gr rf.g6)) (by rw [hhs]) rf fun w28 s28 e=>?_;refine dd ?_;refine WC.dJ (t:=152) (v:=.bool false) e ?_<|?_
  ·
   refine cm ?_;refine WL.cq (t:=132) rfl (fun E=>?_) (fun E=>?_)
   ·
    refine cm ?_;refine WL.cq (t:=135) rfl (fun L=>?_) (fun L=>?_)
    ·
     refine(aZ) dA e.b3<|cm ?_;refine WL.cq (t:=140) rfl (fun LD=>?_) (fun LD=>?_)
     ·
      refine aW ?_;exact(bZ) (by first | rfl | (revert g C E L LD;cases f <;> cases sm <;> cases (aa[i].ring) <;> simp;done) | (simp_all;done)) (e)
     refine cm ?_;refine WL.cq (t:=143) rfl (fun o=>?_) (fun o=>?_)
     ·
      refine ck ?_;refine WL.cq (t:=147) rfl (fun G=>?_) (fun G=>?_)
      ·
       refine(aZ) dA e.b3<|?_;exact(bZ) (by first | rfl | (revert g C E L LD o G;cases f <;> cases sm <;> cases (aa[i].ring) <;> simp;done) | (simp_all;done)) (e)
      exact(bZ) (by first | rfl | (revert g C E L LD o G;cases f <;> cases sm <;> cases (aa[i].ring) <;> simp;done) | (simp_all;done)) (e)
     exact(bZ) (by first | rfl | (revert g C E L LD o;cases f <;> cases sm <;> cases (aa[i].ring) <;> simp;done) | (simp_all;done)) (e)
    refine gK ?_;refine WL.cq (t:=143) rfl (fun o=>?_) (fun o=>?_)
    ·
     refine ck ?_;refine WL.cq (t:=147) rfl (fun G=>?_) (fun G=>?_)
     ·
      refine(aZ) dA e.b3<|?_;exact(bZ) (by first | rfl | (revert g C E L o G;cases f <;> cases sm <;> cases (aa[i].ring) <;> simp;done) | (simp_all;done)) (e)
     exact(bZ) (by first | rfl | (revert g C E L o G;cases f <;> cases sm <;> cases (aa[i].ring) <;> simp;done) | (simp_all;done)) (e)
    exact(bZ) (by first | rfl | (revert g C E L o;cases f <;> cases sm <;> cases (aa[i].ring) <;> simp;done) | (simp_all;done)) (e)
   refine kg ?_;refine WL.cq (t:=143) rfl (fun o=>?_) (fun o=>?_)
   ·
    refine ck ?_;refine WL.cq (t:=147) rfl (fun G=>?_) (fun G=>?_)
    ·
     refine(aZ) dA e.b3<|?_;exact(bZ) (by first | rfl | (revert g C E o G;cases f <;> cases sm <;> cases (aa[i].ring) <;> simp;done) | (simp_all;done)) (e)
    exact(bZ) (by first | rfl | (revert g C E o G;cases f <;> cases sm <;> cases (aa[i].ring) <;> simp;done) | (simp_all;done)) (e)
   exact(bZ) (by first | rfl | (revert g C E o;cases f <;> cases sm <;> cases (aa[i].ring) <;> simp;done) | (simp_all;done)) (e)
  intro w29 rh;refine(aS) (fun aav=>?_) fun aav=>?_
  ·
   exact dr aav
  refine(aZ) dF rh.b5<|(aX) ao rh.b2<|?_;have R:=rh;refine(bY) ou (gS (k:=(aI aa (i:Int))) R.e0 (As.gr R.g7)) ?_;rintro _ w30 ⟨o1x,o2x,o3x,rfl,ho4,LA⟩;have xi:=St.lr R LA;refine(eT) xi fun b28 w31 aqv aqw Ge=>?_;refine(cI) fI Ge fun w32 ss8 hs8 c=>?_;refine ck ?_;refine WC.dJ (t:=185) (v:=.bool false) c ?_<|?_
  ·
   refine ck ?_;refine WL.cq (t:=162) rfl (fun Ay=>?_) (fun Ay=>?_)
   ·
    refine ck ?_;refine WL.cq (t:=166) rfl (fun Dn=>?_) (fun Dn=>?_)
    ·
     refine aW ?_;exact(bZ) (by first | rfl | (revert g C Ay Dn;cases f <;> cases sm <;> cases (aa[i].ring) <;> simp;done) | (simp_all;done)) (c)
    refine(aZ) aO c.b0<|(aZ) aO (bR.range (As.gb c.g7))<|?_;refine WP .r ((PV.Vp rfl rfl).cast (v':=.bool false) (congrArg Value.bool (decide_eq_false fun h=>h s2)))<|(aZ) e7 c.b0<|(aZ) e7 c.b2<|(aZ) aO c.b0<|(aZ) aO c.b2<|nx ?_;refine WP .r (PV.Wm WW rfl rfl hvc)<|?_;exact(bZ) (by first | rfl | (revert g C Ay Dn;cases f <;> cases sm <;> cases (aa[i].ring) <;> simp;done) | (simp_all;done)) (c)
   refine(aZ) aO c.b0<|(aZ) aO (bR.range (As.gb c.g7))<|?_;refine WP .r ((PV.Vp rfl rfl).cast (v':=.bool false) (congrArg Value.bool (decide_eq_false fun h=>h s2)))<|(aZ) e7 c.b0<|(aZ) e7 c.b2<|(aZ) aO c.b0<|(aZ) aO c.b2<|nx ?_;refine WP .r (PV.Wm WW rfl rfl hvc)<|?_;exact(bZ) (by first | rfl | (revert g C Ay;cases f <;> cases sm <;> cases (aa[i].ring) <;> simp;done) | (simp_all;done)) (c)
  intro w33 Dr;refine(aS) (fun aaw=>?_) fun aaw=>?_
  ·
   exact dr aaw
  refine eD ?_;refine ez (i+1,_) ⟨Dr.drop.drop.drop.drop.drop.drop.drop,⟨by omega,trivial⟩⟩
 skip
 refine eD ?_;refine WL.go rfl (OX.call (xs:=[]) (args:=[]) cf7 rfl rfl ((oV (Y.e0) (As.gf Y.g17)).mono ?_));rintro _ _ ⟨_,rfl,hzz⟩;refine⟨_,rfl,?_⟩;refine(bA) ?_;exact⟨rfl,aU.trans (St.cg Y) (hzz.bW.bW (fun _ h=>by obtain⟨A,g,_⟩:=h;cases g))⟩
end Go.Rc

