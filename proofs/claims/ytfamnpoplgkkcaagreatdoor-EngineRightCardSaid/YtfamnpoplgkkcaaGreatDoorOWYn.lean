/- Walks over the program, part WYn. Conditions: as each theorem says. -/
import Derived.Test.YtfamnpoplgkkcaaGreatDoorOFacts
import Derived.Test.YtfamnpoplgkkcaaGreatDoorOWZi
import Derived.Test.YtfamnpoplgkkcaaGreatDoorOWZg
import Derived.Test.YtfamnpoplgkkcaaGreatDoorOBf
import Derived.Test.YtfamnpoplgkkcaaGreatDoorOBh
import Derived.Test.YtfamnpoplgkkcaaGreatDoorOWZl
import Derived.Test.YtfamnpoplgkkcaaGreatDoorOWUa
import Derived.Test.YtfamnpoplgkkcaaGreatDoorOWYm
import Derived.Test.YtfamnpoplgkkcaaGreatDoorOBg
import Derived.Test.YtfamnpoplgkkcaaGreatDoorOBi
set_option linter.all false
namespace Go.Rc
open Go Go.Proofs Go.Proofs.Tryz
variable {aa:List aG}{x:cy}{t:qc}{w:World}{M Z:Nat→Prop}{ar:Option Addr}{r cr d:Nat}{m:Int}
set_option maxHeartbeats 400000
set_option maxHeartbeats 4000000 in
theorem Da{rev:Int}{D:SD}{A:Hj}{n:Nat}(L:aq aa) (gk:St w M Z w [As.jH prog 137 aa x D]) (ht:lq prog Z w) (hA:t.In A Z w) (hk:TR aa x.ab rev n t) (hn:n≤90000):Calls prog 98 #[.pointer (some ⟨D.s,0,none⟩),.agg (t.row A).toArray] w fun e w'=>∃(R:qc) (A':Hj) (d:Bool) (er:Int) (Z':Nat→Prop),e=.returned (.tuple #[.agg (R.row A').toArray,.bool d,.int .i64 er])∧TR aa x.ab rev (n+1) R∧(TO aa x t→er=0∧TO aa x R)∧R.In A' Z' w'∧bH w.heap.size Z Z'∧St w M Z' w' [As.jH prog 137 aa x D]:=by
 have hsz:=hk.sz L (by omega);obtain⟨hu,hi,hr,hg,hf,hp⟩:=id hA;have lp:=hp.len;have lf:=hf.len;have lg:=hg.len;refine enter func98 rfl ntmps98 rfl<|?_;have aO:=gk;have st1:=aO.fr hu;have st2:=st1.fr hi;have iT:=st2.fr hr;have ik:=iT.fr hg;have iY:=ik.fr hf;have iC:=iY.fr hp;have gW:=iC.fact (B:=As.fz (FZ.Ij prog)) ht (fun _ N=>N);refine(dq) gW fun b3 w1 HO wE iH=>?_;refine(eN) iH fun b4 w2 EY Iy iE=>?_;refine(aY) dQ iE.b1<|?_;have v:=iE;refine(bX) R8 (nQ v.e0 ⟨(As.gr v.g8),(As.gr v.g7),(As.gr v.g6),(As.gr v.g5),(As.gr v.g4),(As.gr v.g3)⟩ hsz) ?_;rintro _ w3 ⟨b,Z1,rfl,O,nK,kq⟩;have dh:=St.lv v kq nK;have K:=St.bM kq;have H:=v.size;have S:=nK.le H;have cW:=dh.fr (O.u);have di:=cW.fr (O.i);have da:=di.fr (O.r);have eb:=da.fr (O.g);have T:=eb.fr (O.f);have lnp:=((As.gs T.g5)).len;have lgg:=((As.gr T.g1)).len;have lgf:=((As.gr T.g0)).len;have hnr:=hk.nr;have hns:=hk.ns;have hng:=hk.ng;have eu:=T.I3.drop;have dZ:=eu.ox.drop;have dE:=dZ.ov.drop;have dF:=dE.ky.drop;have e7:=dF.kx.drop;have dL:=e7.p9.drop;refine(cF) jz dL.p7 fun w4 jO jZ y=>?_;refine(aZ) B6 y.b0<|(aR) (fun g18=>?_) fun g18=>?_
 ·
  simp at g18
  have mi:t.stack=[]:=List.eq_nil_of_length_eq_zero (by omega);refine(aZ) dC y.b0<|(aR) (fun g22=>?_) fun g22=>?_
  ·
   skip
   refine(aY) dQ y.b0<|(cF) jz y.p7 fun w5 qV mi j=>?_;refine ed ?_;have l:=j.p7.ba (by omega);have z:=S.trans (bH.dA (F:=fun x=>x∈aI b.p) K) H;refine EX.ew rfl (RS.cell dQ rfl l.b1 rfl<|RS.tmp rfl<|RS.tmp rfl<|RS.nil) rfl<|?_;exact⟨t,b,false,0,_,rfl,hk.mono (by omega),(fun h=>⟨rfl,h⟩),⟨(As.gr l.g7),(As.gr l.g6),(As.gr l.g5),(As.gr l.g4),(As.gr l.g3),(As.gr l.g0)⟩,z,l.p9.k1⟩
  simp at g22
  have hg0:0<t.goals.length:=by omega
  have Uz:=hk.ok.goals t.goals[0] (List.getElem_mem hg0);refine bY ?_;obtain⟨gH,kz,jY,cR,gG,W,et,eI⟩:=Rd.at (As.gr y.g2) hg0;have W:=RR.a8 W;subst W;have j:=y.fg eI et;refine(aZ) dC j.b1<|?_;refine WP .r (PV.DJ ek (0) cR rfl rfl (by omega) (by omega))<|(aY) ao (As.kH j.g0)<|(eN) j fun b7 w5 Pn Po l=>?_;refine(cF) gQ l fun w6 zy tK P=>?_;refine(aZ) dC P.b2<|?_;refine WP .r (PV.yv ek (i:=1) (As.gr P.g4) rfl rfl (by omega))<|nx ?_;refine WL.s1 P.p2 fun w7 _ U=>?_;refine nx ?_;have C:=U.fr (SR.drop (i:=1) (As.gr U.g4) (by omega));refine(gX) aL C.b1<|(aY) ao C.b2<|(eS) (qA (k:=t.goals[0]) (As.gr C.g7) (As.gr C.g6) (Rd.nil _ _ _ _)) C fun w8 s8 I=>?_;refine(aR) (fun X=>?_) fun X=>?_
  ·
   have yC:=yR X;have K5:=I.size;refine(aY) ao I.b2<|?_;refine WP .r (PV.bz (us:=((⟨t.goals[0],false,0,[],[]⟩:bm).row none 0 0 none 0 0)) Gy rfl rfl rfl)<|?_;refine WL.go rfl (OX.aP (us:=((⟨t.goals[0],false,0,[],[]⟩:bm).row none 0 0 none 0 0)) rL rfl rfl rfl rfl fun J w9 ZC ahh=>?_);have E:=I.de ZC ahh;refine nx ?_;refine WL.s1 E.p2 fun iN _ c=>?_;refine(aY) dQ c.b0<|(cF) jz c.ky fun iV Lv Lx o=>?_;refine fO ?_;have Q:=o.ky.ba (by omega);have z:=S.trans (bH.dA (F:=fun x=>x∈aI b.p) K) H;have V:=Q.p3;have Y:=V.conv (B:=As.os RR.mB 126 6 (some ⟨J,0,none⟩) 1 1 [⟨t.goals[0],false,0,[],[]⟩]) (OR.dd (As.gb V.g0) (Nat.zero_le _) rfl (bm.one _ _ _ _ _ _ _) ⟨none,0,0,none,0,0,rfl,Rd.nil _ _ _ _,Rd.nil _ _ _ _,by simp,by simp⟩) (fun x h=>by show x=J;change x∈aI (some ⟨J,0,none⟩) at h;simpa [aI] using h)
   have ahi:∀x∈aI (some ⟨J,0,none⟩:Option Addr),w.heap.size≤x:=fun x h=>by
    obtain rfl:x=J:=by simpa [aI] using h
    have:=ZC.ge
    omega
   have q:=Y.ba (by simp);have TW:=z.trans (bH.dA (F:=fun x=>x∈aI (some ⟨J,0,none⟩)) ahi) (Nat.le_refl _);refine EX.ew rfl (RS.cell dQ rfl q.b2 rfl<|RS.tmp rfl<|RS.tmp rfl<|RS.nil) rfl<|?_;exact⟨{t with goals:=t.goals.drop 1,stack:=[⟨t.goals[0],false,0,[],[]⟩]},{b with g:=mh b.g 1 2 b.cg,ng:=b.ng - 1,cg:=b.cg - 1,f:=some ⟨J,0,none⟩,nf:=1,cf:=1},true,0,_,rfl,(hk.mono (by omega)).begin Uz yC (by omega),(fun h=>⟨rfl,h.begin L mi Uz X _⟩),⟨(As.gr q.g11),(As.gr q.g10),(As.gr q.g9),(As.gr q.g4),(As.gr q.g0),(As.gr q.g1)⟩,TW,q.ox.k1⟩
  skip
  refine(aY) dQ I.b1<|(cF) jz I.kx fun w9 LH DX E=>?_;refine fO ?_;have c:=E.kx.ba (by omega);have z:=S.trans (bH.dA (F:=fun x=>x∈aI b.p) K) H;refine EX.ew rfl (RS.cell dQ rfl c.b1 rfl<|RS.tmp rfl<|RS.tmp rfl<|RS.nil) rfl<|?_;exact⟨{t with goals:=t.goals.drop 1},{b with g:=mh b.g 1 2 b.cg,ng:=b.ng - 1,cg:=b.cg - 1},true,0,_,rfl,(hk.mono (by omega)).VC,(fun h=>⟨rfl,h.goals _⟩),⟨(As.gr c.g10),(As.gr c.g9),(As.gr c.g8),(As.gr c.g2),(As.gr c.g6),(As.gr c.g0)⟩,z,c.ov.k1⟩
 simp at g18
 have jZ:t.stack≠[]:=by intro h;rw [h] at lgf;simp at lgf;omega
 refine(gX) aL y.b0<|(aZ) B6 y.b0<|?_;have j:=y.p9;refine(bX) Xj (Ak L j.e1 (As.gf j.g9) (As.gr j.g5) (As.gr j.g4) (As.gr j.g2) hk.ok.base hk.ok.stack jZ (by omega)) ?_;rintro _ w5 ⟨b2,l2,rk2,d2,er2,b1,b3,bl,bk,m1,d1,m3,d3,ml,dl,mk,dk,Z2,rfl,wD,UN,ahj,h1k,h1l,ZD,ahk,ahl,ahm,vC,qB⟩;have l:=St.lv j qB vC;have oj:=j.size;have mx:=S.trans vC oj;have api:∀x∈aI b.p,w.heap.size≤x:=fun x N=>Nat.le_trans H (K x N);have P:=l.fr (ahk);have U:=P.fr (ahl);have C:=U.fr (ahm);have lnk:=((As.gs C.g4)).len;refine(eN) C fun b8 w6 Lq XZ I=>?_;refine(cF) dR I fun w7 Pw Px E=>?_;refine aX ?_;refine(aR) (fun Za=>?_) fun Za=>?_
 ·
  skip
  refine(aY) dQ (bQ.range (As.gb E.g6))<|(cF) jz E.ox fun w8 SH SI c=>?_;refine fO ?_;have o:=c.ox.ba (by omega);have z:=mx.trans (bH.dA (F:=fun x=>x∈aI b.p) K) H;refine EX.ew rfl (RS.cell dQ rfl o.b1 rfl<|RS.tmp rfl<|RS.tmp rfl<|RS.nil) rfl<|?_;exact⟨t,b,false,er2,_,rfl,hk.mono (by omega),(fun h=>⟨(h.JE L hk.ok.base.fR ZD).1,h⟩),⟨(As.gr o.g13),(As.gr o.g12),(As.gr o.g11),(As.gr o.g10),(As.gr o.g9),(As.gr o.g0)⟩,z,o.p6.k1⟩
 skip
 refine bY ?_;have K5:=E.size;refine WC.bN (m:=7) [1] [5] [2,3,4,5,0,1,6] [] E (ai.k4 M0 M1 M2 M3<|ai.k4 M4 M5 M6 M7<|ai.k4 M8 M9 hU iP<|ai.cons oa<|ai.cons xg<|ai.nil) mixed (by kernel_rfl) (by kernel_rfl) rfl<|(oc) dC SV.g6<|(fV) (fun w8 Ia r9 c jQ=>?_);simp only [CA,NA] at c;refine OX.jR l5 rfl rfl rfl (As.gs c.g12) (Ow.rd (As.gs c.g5) (by omega)) (by show(b.np+mk)*_≤_;omega) (by show b.np+mk≤_;omega) (Nat.zero_le _) fun a62 aho w9 ahp s62 ZE apj=>?_;have o:=c.ov.eV s62 ahp ZE;refine⟨s62.size,_,rfl,_,_,_,o,aw.k4<|aw.k4<|aw.k4<|aw.k2<|aw.cons<|aw.nil,ai.k4 M1 M2 M3 M4<|ai.k4 M5 M6 M7 M8<|ai.k4 M9 hU iP kC<|ai.cons oa<|ai.cons xg<|ai.nil,?_⟩;refine(lx) aL SV.g0<|?_
 iterate 2 refine DG.a ?_
 refine(jv) ?_;intro iN Cv Q;simp only [CM,NM,CA,NA,hI.it] at Q;refine WL.go rfl (OX.Qs dR (As.gb Q.g7) rfl rfl rfl rfl rfl fun iV ss7 hs7=>?_);have V:=Q.p7.Bj ss7 hs7;refine nx ?_;refine WL.s1 V fun k9 _ Y=>?_;refine nx ?_;refine WL.s1 Y fun mM _ q=>?_;refine WL.nil (EX.np ?_);refine(aY) dQ q.b0<|(cF) jz q.ox fun pH ss8 hs8 sf=>?_;refine db ?_;have G:=sf.p2.ba (by rw [List.length_append];omega)
 have N9:∀x∈aI a62,w.heap.size≤x:=fun x N=>by rcases ZE x N with h | h;exact Nat.le_trans H (K x h);omega
 have z:=mx.trans (bH.dA (F:=fun x=>x∈aI a62) N9) (Nat.le_refl _);refine EX.ew rfl (RS.cell dQ rfl G.b1 rfl<|RS.tmp rfl<|RS.tmp rfl<|RS.nil) rfl<|?_;exact⟨{t with base:=b2,stack:=l2,bf:=t.bf++rk2},{b with i:=b1,ni:=m1,ci:=d1,r:=b3,nr:=m3,cr:=d3,f:=bl,nf:=ml,cf:=dl,p:=a62,np:=b.np+mk,cp:=aho},d2,0,_,rfl,hk.next wD UN ahj h1k h1l,(fun h=>⟨rfl,(h.JE L hk.ok.base.fR ZD).2⟩),⟨(As.gr G.g13),(As.gr G.g6),(As.gr G.g5),(As.gr G.g10),(As.gr G.g4),(As.gr G.g0)⟩,z,G.p7.k1⟩
set_option maxHeartbeats 4000000 in
theorem FP{A:Hj}{most:Nat}(P:aq aa) (gk:St w M Z w []) (ht:lq prog Z w) (hA:t.In A Z w) (hk:TR aa t.base.ab t.base.ad 0 t) (PJ:gB t.aa t.base t.goals=0) (hm:most≤80000):Calls prog 58 #[.agg (t.row A).toArray,.int .i64 (most:Int)] w fun e w'=>∃(G:qc) (Q:Hj) (i R:Int) (Z':Nat→Prop),e=.returned (.tuple #[.agg (G.row Q).toArray,.int .i64 i,.int .i64 R])∧TR aa t.base.ab t.base.ad 80000 G∧(Bh aa t.base→R=0∧TO aa t.base G)∧G.In Q Z' w'∧bH w.heap.size Z Z'∧St w M Z' w' []:=by
 have hsz:=hk.sz P (by omega);obtain⟨hu,hi,hr,hg,hf,hp⟩:=id hA;have S:t.stack=[]:=List.eq_nil_of_length_eq_zero (by have:=hk.ns;omega);have ahq:t.bf=[]:=List.eq_nil_of_length_eq_zero (by have:=hk.nr;omega);have T:Bh aa t.base→TO aa t.base t:=fun h=>TO.of h S ahq;refine enter func58 rfl ntmps58 rfl<|?_;have aO:=St.rb gk;have st1:=aO.fr hu;have st2:=st1.fr hi;have iT:=st2.fr hr;have ik:=iT.fr hg;have iY:=ik.fr hf;have iC:=iY.fr hp;have gW:=iC.fact (B:=As.fz (FZ.Ij prog)) ht (fun _ hx=>hx);refine(dq) gW fun b2 w1 Tj wD iH=>?_;refine(eN) iH fun b4 w2 EY Iy U=>?_;refine(aY) dQ U.b1<|?_;have n:=U;refine(bX) R8 (nQ n.e0 ⟨(As.gr n.g8),(As.gr n.g7),(As.gr n.g6),(As.gr n.g5),(As.gr n.g4),(As.gr n.g3)⟩ hsz) ?_;rintro _ w3 ⟨b,Z1,rfl,z,V,W⟩;have dh:=St.lv n W V;have Yx:=St.bM W;have X:=n.size;have wg:=V.le X;have cW:=dh.fr (z.u);have di:=cW.fr (z.i);have da:=di.fr (z.r);have eb:=da.fr (z.g);have Y:=eb.fr (z.f);have TX:=St.fresh Y.p5;have eu:=Y.p5.ba (by have:=hk.nr;omega);have mx:=wg.trans (bH.dA (F:=fun x=>x∈aI b.p) Yx) X;have dZ:=eu.I3.drop;have dE:=dZ.ox.drop;have dF:=dE.ov.drop;have e7:=dF.ky.drop;have dL:=e7.kx.drop;have fb:=dL.p9.drop;refine(cF) jz fb.p7 fun w4 jO jZ H=>?_;refine(aR) (fun g15=>?_) fun g15=>?_
 ·
  simp at g15
  obtain rfl:most=0:=by omega
  refine(aY) dQ H.b0<|(cF) jz H.p7 fun w5 qV mi k=>?_;refine fO ?_;refine EX.ew rfl (RS.cell dQ rfl k.b0 rfl<|RS.tmp rfl<|RS.tmp rfl<|RS.nil) rfl<|?_;exact⟨t,b,0,0,_,rfl,hk.mono (by omega),(fun h=>⟨rfl,T h⟩),⟨(As.gr k.g7),(As.gr k.g6),(As.gr k.g5),(As.gr k.g4),(As.gr k.g3),(As.gr k.g2)⟩,mx,(St.wk k.k0)⟩
 skip
 refine(aY) dQ H.b0<|?_;have k:=H;refine(bX) adR (wZ k.e0 ⟨(As.gr k.g6),(As.gr k.g5),(As.gr k.g4),(As.gr k.g3),(As.gr k.g2),(As.gr k.g1)⟩ S PJ) ?_;rintro _ w5 ⟨rfl,qB⟩;have K:=St.lr k qB;refine bY ?_;refine WC.eA rfl<|(aZ) jy K.b0<|(gX) aL K.b0<|?_;have dM:=K;refine(bX) R3 (pw (x:=t.base) dM.e0) ?_;rintro _ w6 ⟨d1,d2,d3,rfl,zH⟩;have fD:=St.lr dM zH;refine bK ?_;have o:=fD.p1.p1;have mG:=o.join (C:=As.jH prog 137 aa t.base ⟨b.u,b.i,b.r,b.nu,b.cu,b.ni,b.ci,b.nr,b.cr,d2,d3,d1⟩) ⟨o.Vz,(As.gb o.g0),⟨[],aU.nil,(As.gm o.g1)⟩,⟨hk.ok.Gf ▸ (As.gr o.g9),(As.gr o.g8),(As.gr o.g7),(As.gf o.g11)⟩⟩ (fun y h=>h);have qQ:=mG.p1.drop;refine gL ?_;refine WC.hh (σ:=Nat × qc × Hj × (Nat→Prop)) (dj:=fun(i,l,a,q)=>[(1,.int .i64 (most:Int)),(2,.pointer (some ⟨b2,0,none⟩)),(4,.pointer (some ⟨b4,0,none⟩)),(7,.pointer (some ⟨d1,0,none⟩)),(8,.int .i64 (i:Int))]) (F:=fun(i,l,a,q)=>[As.jH prog 137 aa t.base ⟨b.u,b.i,b.r,b.nu,b.cu,b.ni,b.ci,b.nr,b.cr,d2,d3,d1⟩,As.blk b2 107 (l.row a),As.ro RR.eT 4 a.u a.nu a.cu l.aa,As.ro RR.aD 4 a.i a.ni a.ci l.base.ab,As.ro RR.dV 8 a.r a.nr a.cr l.base.ah,As.ro RR.key 2 a.g a.ng a.cg l.goals,As.ro RR.mB 6 a.f a.nf a.cf l.stack,As.ro RR.key 2 a.p a.np a.cp l.bf]) (I:=fun(i,l,a,q)=>(i≤most)∧(TR aa t.base.ab t.base.ad i l)∧(Bh aa t.base→TO aa t.base l)∧(bH w.heap.size Z q)∧True) (μ:=fun(i,l,a,q)=>most - i) (Zf:=fun(i,l,a,q)=>q) (0,t,b,_) (qQ.p2.p3.p4.p5.p6.p7.p7.p7) Sub.t (⟨Nat.zero_le _,hk,T,mx,trivial⟩)<|?_;rintro⟨i,l,a,q⟩ w7 D ⟨LG,J,s,L,_⟩;simp only [CA,NA] at D LG J s L ⊢;refine(aR) (fun g28=>?_) fun g28=>?_
 ·
  simp at g28
  refine(aY) dQ D.b1<|?_;have c:=D;refine(bX) adS (Da P c.e1 (As.gf c.g9) ⟨(As.gr c.g2),(As.gr c.g3),(As.gr c.g4),(As.gr c.g5),(As.gr c.g6),(As.gr c.g7)⟩ J (by omega)) ?_;rintro _ w8 ⟨t6,A6,d6,er6,Z6,rfl,hk6,N,v,vN,kA⟩;have pC:=St.lv c kA vN;have O:=L.trans vN c.size;have kB:=pC.fr (v.u);have ll:=kB.fr (v.i);have sf:=ll.fr (v.r);have om:=sf.fr (v.g);have vV:=om.fr (v.f);have Aj:=vV.fr (v.p);refine(eN) Aj fun b9 w9 nw9 hb9 jC=>?_;refine(cF) jz jC fun iN zy tK E=>?_;refine(aR) (fun g37=>?_) fun g37=>?_
  ·
   skip
   refine(aY) dQ (bQ.range (As.gb E.g8))<|(cF) jz E.Vb fun iV Lv Lx j=>?_;refine ju ?_;refine EX.ew rfl (RS.cell dQ rfl j.b0 rfl<|RS.tmp rfl<|RS.tmp rfl<|RS.nil) rfl<|?_;exact⟨l,a,(i:Int),er6,_,rfl,J.mono (by omega),(fun h=>⟨(N (s h)).1,s h⟩),⟨(As.gr j.g10),(As.gr j.g11),(As.gr j.g12),(As.gr j.g13),(As.gr j.g14),(As.gr j.g15)⟩,O,(St.wk j.k0)⟩
  skip
  refine(aR) (fun HW=>?_) fun HW=>?_
  ·
   skip
   refine(aY) dQ E.b0<|(cF) jz E.Vb fun iV LH DX j=>?_;refine ju ?_;refine EX.ew rfl (RS.cell dQ rfl j.b0 rfl<|RS.tmp rfl<|RS.tmp rfl<|RS.nil) rfl<|?_;exact⟨t6,A6,(i:Int),0,_,rfl,hk6.mono (by omega),(fun h=>⟨rfl,(N (s h)).2⟩),⟨(As.gr j.g7),(As.gr j.g6),(As.gr j.g5),(As.gr j.g4),(As.gr j.g3),(As.gr j.g2)⟩,O,(St.wk j.k0)⟩
  have j:=E.p9.drop;have mH:=j.p9.drop;have jI:=mH.p9.drop;have K4:=jI.p9.drop;have sc:=K4.p9.drop;have pD:=sc.p9.drop;refine(aY) dQ pD.b0<|(cF) jz pD.p8 fun iV Pw Px se=>?_;refine bY ?_;refine ef (i+1,t6,A6,Z6) ⟨se.p1.drop.p2.p3.p4.p5.p6.p5.p7,⟨by omega,hk6,fun h=>(N (s h)).2,O,trivial⟩⟩
 skip
 refine(aY) dQ D.b1<|(cF) jz D.p8 fun w8 SH SI c=>?_;refine db ?_;refine EX.ew rfl (RS.cell dQ rfl c.b0 rfl<|RS.tmp rfl<|RS.tmp rfl<|RS.nil) rfl<|?_;exact⟨l,a,(i:Int),0,_,rfl,J.mono (by omega),(fun h=>⟨rfl,s h⟩),⟨(As.gr c.g3),(As.gr c.g4),(As.gr c.g5),(As.gr c.g6),(As.gr c.g7),(As.gr c.g8)⟩,L,(St.wk c.k0)⟩
set_option maxHeartbeats 400000
theorem Db(z:St w M Z w [As.gY 70 d]) (hu:Rd RR.eT 4 Z w ar r cr aa) (h0:1≤aa.length) (D:aa.length≤100):Calls prog 29 #[.pointer (some ⟨d,0,none⟩),.slice ar r cr] w fun e w'=>∃k:Key,e=.returned k.val∧lQ aa k∧St w M Z w' [As.gY 70 d]:=by
 have hlen:=hu.len;refine enter func29 rfl ntmps29 rfl<|?_;have aO:=z;have st1:=aO.fr hu;refine(eN) st1 fun b4 w1 E F st2=>?_;refine fO ?_;have o:=st2.p2;refine(bX) jA (bq o.e1 (m:=8) (by omega)) ?_;rintro _ w2 ⟨G,rfl,H,p,A⟩;have q:=St.lr o A;have p:=p (by omega);refine(aR) (fun g7=>?_) fun g7=>?_
 ·
  skip
  refine bY ?_;have c:=q;refine(bX) jA (bq c.e1 (m:=4) (by omega)) ?_;rintro _ w3 ⟨z4,rfl,B,s,h⟩;have g:=St.lr c h;have s:=s (by omega);refine(eS) (jj (n:=z4)) g fun w4 I b=>?_;refine(cF) gQ b.p1 fun w5 J K a=>?_;refine(kR) ao a.b0<|?_;exact⟨_,rfl,.inl ⟨z4,B,by omega,rfl⟩,a.drop.p1.drop⟩
 skip
 refine fO ?_;have c:=q;refine(bX) jA (bq c.e1 (m:=2) (by omega)) ?_;rintro _ w3 ⟨z2,rfl,L,u,h⟩;have g:=St.lr c h;have u:=u (by omega);refine(aR) (fun g13=>?_) fun g13=>?_
 ·
  skip
  refine kI ?_;refine WP .r (PV.LW rfl rfl)<|?_;have b:=g;refine(bX) jA (bq b.e1 (m:=min 3 (r:Int)) (by omega)) ?_;rintro _ w4 ⟨z22,rfl,N,v,j⟩;have a:=St.lr b j;have v:=v (by omega);refine(eS) (gR (n:=(r:Int) - 1 - z22) (As.gr a.g2)) a fun w5 C l=>?_;refine(cF) gQ l.p1 fun w6 O P f=>?_;refine(kR) ao f.b0<|?_;obtain⟨i,hi⟩:∃i:Nat,(r:Int) - 1 - z22=i:=⟨((r:Int) - 1 - z22).toNat,by omega⟩;exact⟨_,rfl,.inr ⟨i,by omega,by rw [hi]⟩,f.drop.p1.drop⟩
 skip
 refine gL ?_;have b:=g;refine(bX) jA (bq b.e1 (m:=(r:Int)) (by omega)) ?_;rintro _ w4 ⟨z5,rfl,Q,y,j⟩;have a:=St.lr b j;have y:=y (by omega);refine(eS) (gR (n:=z5) (As.gr a.g2)) a fun w5 C l=>?_;refine(cF) gQ l.p1 fun w6 R S f=>?_;refine(kR) ao f.b0<|?_;obtain⟨i,rfl⟩:∃i:Nat,z5=i:=⟨z5.toNat,by omega⟩;exact⟨_,rfl,.inr ⟨i,by omega,rfl⟩,f.drop.p1.drop⟩
theorem me(u:St w M Z w [As.gY 70 d]) (hu:Rd RR.eT 4 Z w ar r cr aa) (h0:1≤aa.length) (v:aa.length≤100) (hm:1≤m) (P:m≤1000):Calls prog 10 #[.pointer (some ⟨d,0,none⟩),.slice ar r cr,.int .i64 m] w fun e w'=>∃a n c,∃l:List Key,e=.returned (.slice a n c)∧(l.length:Int)≤m∧(∀x∈l,lQ aa x)∧St w M Z w' [As.gY 70 d,As.os RR.key 41 2 a n c l]:=by
 have hlen:=hu.len;refine enter func10 rfl ntmps10 rfl<|?_;have aO:=u;have st1:=aO.fr hu;have st2:=st1.dp RR.key 41 2;refine aX ?_;refine bY ?_;have p:=st2.p2;refine(bX) jA (bq p.e1 (m:=m) (by omega)) ?_;rintro _ w1 ⟨z0,rfl,Q,q,B⟩;have C:=St.lr p B;have q:=q (by omega);obtain⟨z,rfl⟩:∃z:Nat,z0=z:=⟨z0.toNat,by omega⟩;refine db ?_;refine WC.bd (σ:=Nat × (List Key) × (Option Addr) × Nat × Nat) (dj:=fun(i,l,f,b,g)=>[(0,.pointer (some ⟨d,0,none⟩)),(1,.slice ar r cr),(7,.slice f b g),(8,.int .i64 (i:Int))]) (F:=fun(i,l,f,b,g)=>[As.os RR.key 41 2 f b g (l),As.gY 70 d]) (I:=fun(i,l,f,b,g)=>(l.length+i≤z+1)∧(∀x∈l,lQ aa x)∧True) (μ:=fun(i,l,f,b,g)=>i) (z+1,[],none,0,0) (C.p1) Sub.t (⟨by simp,by simp,trivial⟩)<|?_;rintro⟨i,l,f,b,g⟩ w2 j ⟨D,k,_⟩;simp only [CA,NA] at j D k ⊢;have R:=((As.gs j.g0)).len;refine(aR) (fun g14=>?_) fun g14=>?_
 ·
  simp at g14
  refine gL ?_;have o:=j.p1;refine(bX) ada (Db o.e1 (As.gr o.g2) h0 v) ?_;rintro _ w3 ⟨x,rfl,E,G⟩;have H:=St.lr o G;refine WL.go rfl (OX.aP (us:=x.cells) dz rfl rfl rfl rfl fun S w4 J K=>?_);have s:=H.de J K;refine WL.ap rfl rfl s.p2 (SR.dd (A:=fun _=>True) (x:=x) (As.gb s.g0) trivial rfl (by simp [Key.cells,Value.oneCell']) rfl) fun a22 L w5 T U N=>?_;refine kI ?_;refine ef (i - 1,l++[x],a22,(b+1),L) ⟨N.p1.drop,⟨by simp;omega,fun y O=>by rcases List.mem_append.1 O with h | h;exact k y h;simp at h;subst h;exact E,trivial⟩⟩
 simp at g14
 refine(bs) ?_;exact⟨_,_,_,l,rfl,by omega,k,j.p2.drop.p1⟩
set_option maxHeartbeats 4000000 in
theorem Al{a1 a2:Option Addr}{n1 e1 n2 e2:Nat}(T:aq aa) (gk:St w M Z w [As.gY 70 d]) (ht:lq prog Z w) (hu:Rd RR.eT 4 Z w ar r cr aa) (h0:1≤aa.length) (h9:aa.length≤100) (ri:Rd RR.aD 4 Z w a1 n1 e1 x.ab) (rc:Rd RR.dV 8 Z w a2 n2 e2 x.ah) (h:LC aa x) (hm:0≤m) (AG:m≤1000):Calls prog 28 #[.pointer (some ⟨d,0,none⟩),.slice ar r cr,.agg (x.row a1 n1 e1 a2 n2 e2).toArray,.int .i64 m] w fun e w'=>∃(y:cy) (b1 b2:Option Addr) (m1 d1 m2 d2:Nat) (Z':Nat→Prop),e=.returned (.agg (y.row b1 m1 d1 b2 m2 d2).toArray)∧LC aa y∧y.ad≤x.ad+m∧Rd RR.aD 4 Z' w' b1 m1 d1 y.ab∧Rd RR.dV 8 Z' w' b2 m2 d2 y.ah∧bH w.heap.size Z Z'∧St w M Z' w' [As.gY 70 d]:=by
 refine enter func28 rfl ntmps28 rfl<|?_;have aO:=gk;have st1:=aO.fr hu;have st2:=st1.fr ri;have iT:=st2.fr rc;have ik:=iT.fact (B:=As.fz (FZ.Ij prog)) ht (fun _ hx=>hx);refine(dq) ik fun b6 w1 Dx Is iY=>?_;refine(eN) iY fun b8 w2 Lq XZ iC=>?_;refine gL ?_;have gW:=iC.p6;refine(bX) jA (bq gW.e1 (m:=m+1) (by omega)) ?_;rintro _ w3 ⟨z0,rfl,ZF,Dc,kq⟩;have iH:=St.lr gW kq;have Dc:=Dc (by omega);obtain⟨z,rfl⟩:∃z:Nat,z0=z:=⟨z0.toNat,by omega⟩;refine cj ?_;refine WC.hh (σ:=Nat × cy × (Option Addr) × Nat × Nat × (Option Addr) × Nat × Nat × (Nat→Prop)) (dj:=fun(i,y,a1,n1,e1,a2,n2,e2,C)=>[(0,.pointer (some ⟨d,0,none⟩)),(1,.slice ar r cr),(6,.pointer (some ⟨b6,0,none⟩)),(8,.pointer (some ⟨b8,0,none⟩)),(9,.int .i64 (i:Int))]) (F:=fun(i,y,a1,n1,e1,a2,n2,e2,C)=>[As.gY 70 d,As.blk b6 31 (y.row a1 n1 e1 a2 n2 e2),As.ro RR.aD 4 a1 n1 e1 y.ab,As.ro RR.dV 8 a2 n2 e2 y.ah]) (I:=fun(i,y,a1,n1,e1,a2,n2,e2,C)=>(LC aa y)∧(i≤z)∧(y.ad≤x.ad+((z:Int) - i))∧(bH w.heap.size Z C)∧True) (μ:=fun(i,y,a1,n1,e1,a2,n2,e2,C)=>i) (Zf:=fun(i,y,a1,n1,e1,a2,n2,e2,C)=>C) (z,x,a1,n1,e1,a2,n2,e2,Z) (iH.p4.p5.p4.p3) Sub.t (⟨h,Nat.le_refl _,by omega,bH.refl _ _,trivial⟩)<|?_;rintro⟨i,y,a1,n1,e1,a2,n2,e2,C⟩ w4 iE ⟨h,hiz,VJ,K,_⟩;simp only [CA,NA] at iE h hiz VJ K ⊢;have hyl:=h.lb.ok.pc;have hyr:y.ah.length≤4000:=h.lb.ok.fR.len;refine(aR) (fun g17=>?_) fun g17=>?_
 ·
  simp at g17
  refine ed ?_;have L:=iE;refine(bX) jA (bq L.e1 (m:=8) (by omega)) ?_;rintro _ w5 ⟨z8,rfl,ZG,Dd,qB⟩;have dh:=St.lr L qB;have Dd:=Dd (by omega);refine ju ?_;have cW:=dh;refine WC.jw (σ:=Bool) [] (fun pk=>[(0,.pointer (some ⟨d,0,none⟩)),(1,.slice ar r cr),(6,.pointer (some ⟨b6,0,none⟩)),(8,.pointer (some ⟨b8,0,none⟩)),(9,.int .i64 (i:Int)),(21,.int .i64 z8),(32,.bool pk)]) (fun pk=>[]) (fun pk=>True) cW ?_ ?_
  ·
   refine(aR) (fun W=>?_) fun W=>?_
   ·
    skip
    refine nx ?_;exact mK (decide (z8=0)) ⟨cW,trivial⟩
   skip
   refine(aR) (fun W=>?_) fun W=>?_
   ·
    skip
    refine nx ?_;exact mK (decide (z8=1)) ⟨cW,trivial⟩
   skip
   refine cj ?_;exact mK (decide (z8=2)) ⟨cW,trivial⟩
  rintro pk w6 X _;simp only [CA,NA] at X ⊢;refine(aR) (fun W=>?_) fun W=>?_
  ·
   skip
   refine WC.bN (m:=7) [6] [2,3] [1,2,0,3,4,5,6] [] X (ai.k4 M1 M2 M3 M4<|ai.cons M5<|ai.cons M6<|ai.nil) mixed (by kernel_rfl) (by kernel_rfl) rfl<|(fV) (fun w7 PK CL k tj=>?_);simp only [CA,NA] at k;have j:=k;refine OX.call Wn rfl rfl ((nR j.e1 (by decide) (by decide)).mono ?_);rintro _ w8 ⟨ca,cn,cc,ch,rfl,pF,LI,l⟩;have n:=St.lr j l;have Y:=St.uJ l;have K6:=j.size;have Oh:=((As.gs n.g1)).len;have G:=n.p1.ba (by omega);have zW:=K.trans (bH.dA (F:=fun x=>x∈aI ca) Y) K6;refine⟨_,rfl,l.bV.size,_,rfl,_,_,_,G,aw.k4<|aw.k4<|aw.nil,ai.k4 M2 M3 M4 M5<|ai.cons M6<|ai.cons M7<|ai.nil,?_⟩;refine(lx) aL SV.g0<|(fV) (fun w9 R3x N7 v GN=>?_);simp only [CA,NA] at v;have c:=v;refine OX.call Ny rfl rfl ((qP (x:=y) c.e0 (As.gr c.g3) (As.gr c.g4) (As.gr c.g0) h.lb.ok.gU h.lb.aD LI (by omega)).mono ?_);rintro _ iN ⟨y2,b1,b2,m1,d1,m2,d2,er,N,rfl,ahr,hv0,DA,hG,ahs,NT,hap,_,Iu,ZH,o,H⟩;have q:=St.lv c H o;have O:=zW.trans o c.size;have P:=q.fr (Iu);have Q:=P.fr (ZH);refine⟨_,rfl,H.bV.size,_,rfl,_,_,_,Q,aw.k4<|aw.k4<|aw.k2<|aw.nil,ai.k4 M4 M5 M6 M7<|ai.cons M8<|ai.cons M9<|ai.nil,?_⟩
   iterate 3 refine DG.a ?_
   refine(jv) ?_;intro iV HZ D;simp only [CM,NM,CA,NA,hI.it] at D;refine(cF) dR D.p4 fun k9 jO jZ J=>?_;refine WL.nil (EX.np ?_);have R:=J.p5.drop;have S:=R.p5.drop;refine gL ?_;refine ef (i - 1,y2,b1,m1,d1,b2,m2,d2,N) ⟨S.p3.drop.p2.p1.p3,⟨h.apply hap ahr hv0 DA hG ahs,by omega,by show y2.ad≤x.ad+((z:Int) - ((i - 1:Nat):Int));omega,O,trivial⟩⟩
  skip
  refine(aR) (fun Yk=>?_) fun Yk=>?_
  ·
   skip
   refine nx ?_;refine WC.bN (m:=10) [8] [4,5] [2,3,4,0,1,5,6,7,8,9] [(9,.blk 107 [.slice none 0 0,.int .i64 0,.slice none 0 0,.slice none 0 0,.slice none 0 0,.slice none 0 0,.slice none 0 0])] X (ai.k4 M1 M2 M3 M4<|ai.cons M5<|ai.cons M6<|ai.nil) mixed (by kernel_rfl) (by kernel_rfl) rfl<|?_
   iterate 2 refine DG.a ?_
   refine(fV) (fun w7 Tb wR k my=>?_);simp only [CA,NA] at k;have j:=k;refine OX.call R1 rfl rfl ((me j.e1 (As.gr j.g6) (by omega) (by omega) (by decide) (by decide)).mono ?_);rintro _ w8 ⟨ga,gn,gc,gl,rfl,ZI,tR,l⟩;have n:=St.lr j l;have Y:=St.uJ l;have K6:=j.size;have Oh:=((As.gs n.g1)).len;have G:=n.p1.ba (by omega);have zW:=K.trans (bH.dA (F:=fun x=>x∈aI ga) Y) K6;obtain⟨f,s',PJ,Fs,wi,Iv,zI,ZJ,UQ,_⟩:=h.req T tR (by omega);refine⟨_,rfl,l.bV.size,_,rfl,_,_,_,G,aw.k4<|aw.k4<|aw.nil,ai.k4 M2 M3 M4 M5<|ai.cons M6<|ai.cons M7<|ai.nil,?_⟩;refine(lx) aL SV.g0<|(fV) (fun w9 Ia r9 v jQ=>?_);simp only [CA,NA] at v;have c:=v;refine OX.call adt rfl rfl ((Am c.e0 (As.gr c.g7) (As.gr c.g3) (As.gr c.g4) (As.gr c.g0) ((h.lb.start wi (by omega)).sz T (by omega)) PJ).mono ?_);rintro _ iN ⟨A7,Z7,rfl,U,K7,H⟩;have q:=St.lv c H K7;have Ig:=zW.trans K7 c.size;have P:=q.fr (U.u);have Q:=P.fr (U.i);have D:=Q.fr (U.r);have J:=D.fr (U.g);have R:=J.fr (U.f);have S:=R.fr (U.p);refine⟨_,rfl,H.bV.size,_,rfl,_,_,_,S,aw.k4<|aw.k4<|aw.k4<|aw.k2<|aw.nil,ai.k4 M8 M9 hU iP<|ai.cons kC<|ai.cons oa<|ai.nil,?_⟩
   iterate 3 refine DG.a ?_
   refine DG.side (s:=.blk 107 [.slice none 0 0,.int .i64 0,.slice none 0 0,.slice none 0 0,.slice none 0 0,.slice none 0 0,.slice none 0 0]) rfl rfl rfl rfl rfl rfl (fun wx Zx Rx qW pB=>OX.alloc OZ rfl fun b wy nw hb=>⟨nw.ext.size,_,rfl,⟨b,rfl⟩,pB.de nw hb⟩)<|?_;rintro _ ⟨PC,rfl⟩;refine(jv) ?_;intro iV KO dM;simp only [CM,NM,CA,NA,hI.it] at dM;refine(cF) jz dM fun k9 qV mi fD=>?_;refine nx ?_;refine WL.nil (EX.np ?_);refine(aR) (fun PN=>?_) fun PN=>?_
   ·
    skip
    refine nx ?_;refine WC.bN (m:=8) [6,7] [2,3] [1,2,0,3,4,5,6,7] [] fD (ai.k4 M0 M1 M2 M3<|ai.k4 M4 M5 M6 M7<|ai.k4 M9 hU iP kC<|ai.cons oa<|ai.cons xg<|ai.nil) mixed (by kernel_rfl) (by kernel_rfl) rfl<|(fV) (fun mM PK CL lL tj=>?_);simp only [CA,NA] at lL;have mG:=lL.p8;refine OX.call jA rfl rfl ((bq mG.e1 (m:=30) (by omega)).mono ?_);rintro _ pH ⟨z3,rfl,ZK,De,qN⟩;have qQ:=St.lr mG qN;have De:=De (by omega);obtain⟨mo,rfl⟩:∃mo:Nat,z3=mo:=⟨z3.toNat,by omega⟩;refine⟨_,rfl,qN.bV.size,_,rfl,_,_,_,qQ,aw.k4<|aw.k4<|aw.k4<|aw.k2<|aw.cons<|aw.nil,ai.k4 M1 M2 M3 M4<|ai.k4 M5 M6 M7 M8<|ai.k4 M9 hU iP kC<|ai.cons oa<|ai.cons xg<|ai.nil,?_⟩;refine(lx) dQ SV.g0<|(fV) (fun og R3x N7 qR GN=>?_);simp only [CA,NA] at qR;have A:=qR;refine OX.call adu rfl rfl ((FP T A.e0 (As.gf A.g13) ⟨(As.gr A.g7),(As.gr A.g6),(As.gr A.g5),(As.gr A.g4),(As.gr A.g3),(As.gr A.g2)⟩ (h.lb.start wi (by omega)) PJ (by omega)).mono ?_);rintro _ sZ ⟨t8,A8,i8,er8,Z9,rfl,hk8,ahu,V,ZL,GP⟩;have pC:=St.lv A GP ZL;have hZ9:=Ig.trans ZL A.size;have kB:=pC.fr (V.u);have ll:=kB.fr (V.i);have sf:=ll.fr (V.r);have om:=sf.fr (V.g);have vV:=om.fr (V.f);have Aj:=vV.fr (V.p);refine⟨_,rfl,GP.bV.size,_,rfl,_,_,_,Aj,aw.k4<|aw.k4<|aw.k4<|aw.k4<|aw.k4<|aw.cons<|aw.nil,ai.k4 M7 M8 M9 hU<|ai.k4 iP kC oa xg<|ai.k4 IA LK Un M18<|ai.cons M19<|ai.cons M20<|ai.nil,?_⟩
    iterate 4 refine DG.a ?_
    refine(jv) ?_;intro yg Cv jC;simp only [CM,NM,CA,NA,hI.it] at jC;refine(cF) jz jC.p7 fun yh zy tK TU=>?_;refine WL.nil (EX.np ?_);refine nx ?_;have ahv:=TU.ox.drop;have mH:=ahv.ov.drop;have jI:=mH.ky.drop;have K4:=jI.kx.drop;have sc:=K4.p9.drop;have pD:=sc.p8.drop;have se:=pD.p8.drop;refine(aY) dQ se.b0<|?_;have E:=se;refine(bX) adw (xa E.e0 ⟨(As.gr E.g6),(As.gr E.g5),(As.gr E.g4),(As.gr E.g3),(As.gr E.g2),(As.gr E.g1)⟩ (hk8.sz T (by omega))) ?_;rintro _ GK ⟨rs,b1,b2,m1,d1,m2,d2,N,rfl,DY,ahw,Iu,ZH,o,K8⟩;have An:=St.lv E K8 o;have O:=hZ9.trans o E.size;have tE:=An.fr (Iu);have FM:=tE.fr (ZH);refine(cF) dR FM.kx fun Ix Lv Lx vW=>?_;refine nx ?_;have C9:=vW.ky.drop;have FN:=C9.ky.drop;refine gL ?_;refine ef (i - 1,⟨t8.base.ad,t8.base.ab,rs⟩,b1,m1,d1,b2,m2,d2,N) ⟨FN.p3.drop.p3.drop.p3.drop.p3.drop.p3.drop.p3.drop.p3.drop.p2.p1.p3,⟨by rw [ahw];exact h.task hk8.ok.base (ahu h.bh).2,by omega,by have h9:t8.base.ad=y.ad:=hk8.ok.base.rv;show t8.base.ad≤x.ad+((z:Int) - ((i - 1:Nat):Int));omega,O,trivial⟩⟩
   exact absurd PN (by simp)
  skip
  refine(aR) (fun PU=>?_) fun PU=>?_
  ·
   skip
   refine bY ?_;have k:=X;refine(bX) jA (bq k.e1 (m:=3) (by omega)) ?_;rintro _ w7 ⟨z9,rfl,ZM,Df,jB⟩;have j:=St.lr k jB;have Df:=Df (by omega);refine(aR) (fun g70=>?_) fun g70=>?_
   ·
    skip
    refine WC.bN (m:=8) [6,7] [2,3] [1,2,0,3,4,5,6,7] [] j (ai.k4 M1 M2 M3 M4<|ai.cons M5<|ai.cons M6<|ai.nil) mixed (by kernel_rfl) (by kernel_rfl) rfl<|(fV) (fun w8 PK CL n tj=>?_);simp only [CA,NA] at n;have G:=n;refine OX.call jA rfl rfl ((bq G.e1 (m:=200) (by omega)).mono ?_);rintro _ w9 ⟨zb,rfl,akC,PW,nI⟩;have v:=St.lr G nI;have PW:=PW (by omega);refine⟨_,rfl,nI.bV.size,_,rfl,_,_,_,v,aw.k4<|aw.k2<|aw.cons<|aw.nil,ai.k4 M1 M2 M3 M4<|ai.cons M5<|ai.cons M6<|ai.nil,?_⟩;refine(lx) aL SV.g0<|(fV) (fun iN R3x N7 c GN=>?_);simp only [CA,NA] at c;have q:=c;refine OX.call adx rfl rfl ((Dg q.e0 (As.gr q.g2) (As.gr q.g3) h.lb.ok.gU h.lb.ok.small (by omega) (by omega)).mono ?_);rintro _ iV ⟨rs,b1,b2,m1,d1,m2,d2,va,vn,vc,N,rfl,DY,Iu,ZH,o,nP⟩;have P:=St.lv q nP o;have O:=K.trans o q.size;have Q:=P.fr (Iu);have D:=Q.fr (ZH);refine⟨_,rfl,nP.bV.size,_,rfl,_,_,_,D,aw.k4<|aw.k4<|aw.cons<|aw.nil,ai.k4 M3 M4 M5 M6<|ai.cons M7<|ai.cons M8<|ai.nil,?_⟩
    iterate 4 refine DG.a ?_
    refine(jv) ?_;intro k9 Yu J;simp only [CM,NM,CA,NA,hI.it] at J;refine(cF) dR J.p3 fun mM LH DX R=>?_;refine WL.nil (EX.np ?_);have S:=R.p4.drop;have dM:=S.p4.drop;refine gL ?_;refine ef (i - 1,⟨y.ad,y.ab,rs⟩,b1,m1,d1,b2,m2,d2,N) ⟨dM.p2.p1.p3,⟨h.sub DY,by omega,by show y.ad≤x.ad+((z:Int) - ((i - 1:Nat):Int));omega,O,trivial⟩⟩
   skip
   refine kI ?_;refine ef (i - 1,y,a1,n1,e1,a2,n2,e2,C) ⟨j,⟨h,by omega,by show y.ad≤x.ad+((z:Int) - ((i - 1:Nat):Int));omega,K,trivial⟩⟩
  skip
  refine WC.bN (m:=10) [8,9] [4,5] [2,3,4,0,1,5,6,7,8,9] [] X (ai.k4 M1 M2 M3 M4<|ai.cons M5<|ai.cons M6<|ai.nil) mixed (by kernel_rfl) (by kernel_rfl) rfl<|?_
  iterate 2 refine DG.a ?_
  refine(fV) (fun w7 Tb wR k my=>?_);simp only [CA,NA] at k;have j:=k;refine OX.call R1 rfl rfl ((me j.e1 (As.gr j.g6) (by omega) (by omega) (by decide) (by decide)).mono ?_);rintro _ w8 ⟨ga,gn,gc,gl,rfl,ZI,tR,l⟩;have n:=St.lr j l;have Y:=St.uJ l;have K6:=j.size;have Oh:=((As.gs n.g1)).len;have G:=n.p1.ba (by omega);have zW:=K.trans (bH.dA (F:=fun x=>x∈aI ga) Y) K6;obtain⟨f,s',PJ,Fs,wi,Iv,zI,ZJ,UQ,_⟩:=h.req T tR (by omega);refine⟨_,rfl,l.bV.size,_,rfl,_,_,_,G,aw.k4<|aw.k4<|aw.nil,ai.k4 M2 M3 M4 M5<|ai.cons M6<|ai.cons M7<|ai.nil,?_⟩;refine(lx) aL SV.g0<|(fV) (fun w9 Ia r9 v jQ=>?_);simp only [CA,NA] at v;have c:=v;refine OX.call ady rfl rfl ((wS (x:=y) (s':=s') T c.e0 (As.gr c.g7) (As.gr c.g3) (As.gr c.g4) (As.gr c.g0) (As.gf c.g6) PJ Fs wi (by omega) Iv zI).mono ?_);rintro _ iN ⟨q1,q2,q3,q4,q5,q6,o1,o2,o3,N,rfl,o,hqi,hqc,H⟩;have q:=St.lv c H o;have O:=zW.trans o c.size;have P:=q.fr (hqi);have Q:=P.fr (hqc);refine⟨_,rfl,H.bV.size,_,rfl,_,_,_,Q,aw.k4<|aw.k4<|aw.k2<|aw.cons<|aw.nil,ai.k4 M5 M6 M7 M8<|ai.cons M9<|ai.cons hU<|ai.nil,?_⟩
  iterate 4 refine DG.a ?_
  refine(jv) ?_;intro iV vM D;simp only [CM,NM,CA,NA,hI.it] at D;refine(cF) dR D.p5 fun k9 Pw Px J=>?_;refine WL.nil (EX.np ?_);have R:=J.p6.drop;have S:=R.p6.drop;refine gL ?_;refine ef (i - 1,(s'.base y),q1,q2,q3,q4,q5,q6,N) ⟨S.p3.drop.p3.drop.p2.p1.p3,⟨ZJ,by omega,by show(s'.base y).ad≤x.ad+((z:Int) - ((i - 1:Nat):Int));rw [UQ];omega,O,trivial⟩⟩
 skip
 refine(aY) aL iE.b1<|(cF) dR iE.p4 fun w5 SH SI L=>?_;refine(kR) aL L.b0<|?_;exact⟨y,a1,a2,n1,e1,n2,e2,C,rfl,h,by omega,(As.gr L.g3),(As.gr L.g4),K,L.p1.k1⟩
set_option maxHeartbeats 1600000 in
theorem Dh(v:St w M Z w [As.gY 70 d]) (ht:lq prog Z w) (hm:0≤m) (z:m≤1000):Calls prog 9 #[.pointer (some ⟨d,0,none⟩),.int .i64 m] w fun e w'=>∃(aa:List aG) (x:cy) (ar a1 a2:Option Addr) (r cr n1 e1 n2 e2:Nat) (Z':Nat→Prop),e=.returned (.tuple #[.slice ar r cr,.agg (x.row a1 n1 e1 a2 n2 e2).toArray])∧aq aa∧2≤aa.length∧aa.length≤8∧LC aa x∧x.ad≤1+m∧Rd RR.eT 4 Z' w' ar r cr aa∧Rd RR.aD 4 Z' w' a1 n1 e1 x.ab∧Rd RR.dV 8 Z' w' a2 n2 e2 x.ah∧bH w.heap.size Z Z'∧St w M Z' w' [As.gY 70 d]:=by
 refine enter func9 rfl ntmps9 rfl<|?_;have aO:=v;have st1:=aO.fact (B:=As.fz (FZ.Ij prog)) ht (fun _ A=>A);refine(eN) st1 fun b5 w1 HM HN st2=>?_;refine db ?_;have f:=st2.p2;refine(bX) ac6 (Ao f.e1) ?_;rintro _ w2 ⟨ra,C,rc,aa,Z1,rfl,h,D,E,i,j⟩;have k:=St.lv f j i;have G:=St.uJ j;have l:=f.size;have H:=i.le l;have Gf:=((As.gs k.g1)).len;have I:=k.p1.ba (by omega);have J:=H.trans (bH.dA (F:=fun x=>x∈aI ra) G) l;refine db ?_;refine WP .r (PV.bz (us:=((⟨0,[],[]⟩:cy).row none 0 0 none 0 0)) Wd rfl rfl rfl)<|nx ?_;have g:=I.p1;refine(bX) Wn (nR g.e1 (by decide) (by decide)) ?_;rintro _ w3 ⟨K,cn,cc,ch,rfl,pF,L,n⟩;have o:=St.lr g n;have N:=St.uJ n;have O:=g.size;have Oh:=((As.gs o.g1)).len;have P:=o.p1.ba (by omega);have Q:=J.trans (bH.dA (F:=fun x=>x∈aI K) N) O;have c:=P;refine(bX) Ny (qP (x:=⟨0,[],[]⟩) c.e0 (Rd.nil _ _ _ _) (Rd.nil _ _ _ _) (As.gr c.g0) QN (jx.nil _) L (by omega)) ?_;rintro _ w4 ⟨p,b1,b2,m1,d1,m2,d2,er,Z4,rfl,R,S,T,U,V,W,hap,_,X,Y,q,oi⟩;have eD:=St.lv c oi q;have qH:=Q.trans q c.size;have dh:=eD.fr (X);have cW:=dh.fr (Y);refine(eN) cW fun b7 w5 Pn Po di=>?_;refine(cF) dR di fun w6 jO jZ s=>?_;refine(aY) aL s.b0<|nx ?_;have a:=s.p4;refine(bX) ac9 (Al h a.e1 (As.gf a.g7) (As.gr a.g5) (by omega) (by omega) (As.gr a.g3) (As.gr a.g2) (LC.nil aa p R S T U V) hm z) ?_;rintro _ w7 ⟨y,q1,q2,p1,j1,p2,j2,Z5,rfl,ZN,VJ,hqi,hqc,u,jB⟩;have fX:=St.lv a jB u;have yj:=qH.trans u a.size;have eu:=fX.fr (hqi);have dZ:=eu.fr (hqc);refine(cF) dR dZ.p8 fun w8 qV mi b=>?_;refine bY ?_;refine EX.ew rfl (RS.tmp rfl<|RS.cell aL rfl b.b0 rfl<|RS.nil) rfl<|?_;exact⟨aa,y,ra,q1,q2,C,rc,p1,j1,p2,j2,Z5,rfl,h,D,E,ZN,by have h0:p.ad≤0+1:=W;omega,(As.gr b.g8),(As.gr b.g2),(As.gr b.g1),yj,b.p3.k1⟩
set_option maxHeartbeats 400000
set_option maxHeartbeats 4000000 in
set_option maxRecDepth 8000 in
theorem qx{l:List Int}{al:Option Addr}{nl cl:Nat}(gk:St w M Z w []) (ht:lq prog Z w) (hl:Rd RR.int 1 Z w al nl cl l):CR prog 3 #[.slice al nl cl] w (.bool true):=by
 refine enter func3 rfl ntmps3 rfl<|?_;have aO:=St.rb gk;have st1:=aO.fr hl;have st2:=st1.fact (B:=As.fz (FZ.Ij prog)) ht (fun _ hx=>hx);refine(eS) (Cf) st2 fun w1 s1 N=>?_;refine(aR) (fun Ic=>?_) fun Ic=>?_
 ·
  skip
  refine bK ?_;refine WL.go rfl (OX.call (xs:=[]) (args:=[]) cf7 rfl rfl ((oM (N.e0) (As.gf N.g0)).mono ?_));rintro _ _ ⟨_,rfl,S⟩;refine⟨_,rfl,?_⟩;refine(bs) ?_;exact⟨rfl,aS.trans (St.cg N) (S.bV.bV (fun _ h=>by obtain⟨A,T,_⟩:=h;cases T))⟩
 ·
  have hl4:nl≤400:=by simpa using Ic
  refine db ?_;have U:=N;refine(bX) cf8 (Di U.e0 (As.gr U.g1) hl4) ?_;rintro _ w2 ⟨d,rfl,Th⟩;have iY:=St.lr U Th;refine fO ?_;have V:=iY;refine(bX) cf9 (Dh V.e1 (As.gf V.g1) (m:=8) (by omega) (by omega)) ?_;rintro _ w3 ⟨aa,x,ra,y1,y2,W,rc,m1,e1,m2,e2,Z1,rfl,f,hr2,hr8,u,VJ,Gf,hyi,hyr,wg,kq⟩;have gW:=St.lv V kq wg;have iH:=gW.p2.drop;have iE:=iH.fr (Gf);have eD:=iE.fr (hyi);have dh:=eD.fr (hyr);have Ik:=f.len;have Eo:=((As.gr dh.g2)).len;have hxl:=u.lb.ok.pc;have apq:x.ah.length≤4000:=u.lb.ok.fR.len;refine(eN) dh fun b5 w4 HM HN cW=>?_;refine(cF) dR cW fun w5 jO jZ di=>?_;refine fO ?_;have X:=di.p4;refine(bX) R1 (me X.e1 (As.gr X.g4) (by omega) (by omega) (by decide) (by decide)) ?_;rintro _ w6 ⟨O,v,gc,y,rfl,ZI,tR,zH⟩;have Y:=St.lr X zH;have Oh:=((As.gs Y.g1)).len;have ahz:=St.fresh Y.p1;have fX:=Y.p1.ba (by omega);have z:∀k∈y,eG aa k:=fun k hm=>(tR k hm).Jf f;refine(aY) aL fX.b2<|nx ?_;have C:=fX;refine(bX) Nx (hP (x:=x) (goals:=y) C.e0 (As.gf C.g6) (As.gr C.g5) (As.gr C.g4) (As.gr C.g3) (As.gr C.g0) f u z (by omega)) ?_;rintro _ w7 ⟨g,ahA,G,ky,ov,ox,j11,k11,P,k12,H,k13,Z1x,rfl,hq1,aps,nG,apt,ZO,ahC,jB⟩;have K:=St.lv C jB ahC;obtain⟨D,hi1,DA,hw1,PX⟩:=hq1.done f u z;have ZP:=D.lb.ok.fR.len;have ZP:g.ah.length≤4000:=ZP;have NS:=D.lb.ok.pc;obtain⟨_,_,_,apv,_⟩:=hq1.ready f u z;have apw:=ZO.length_eq;have ahD:=((As.gs K.g0)).len;have ad1:=((As.gs K.g1)).len;have ad5:=((As.gs K.g2)).len;have abC:=St.fresh K;have dE:=K.ba (by omega);have abD:=St.fresh dE.p1;have dF:=dE.p1.ba (by omega);have abE:=St.fresh dF.p2;have e7:=dF.p2.ba (by omega);refine(eN) e7 fun b7 w8 Pn Po dL=>?_;refine(cF) dR dL fun w9 qV mi Q=>?_;refine ju ?_;refine WL.cI (t:=51) rfl (fun g51=>?_) (fun g51=>?_)
  ·
   exact dm g51
  refine(aY) aL Q.b0<|(bX) Kf (iO (x:=g) (As.gr Q.g3) (As.gr Q.g2)) ?_;rintro _ iN ⟨bb,rfl,hbb,s10⟩;have fc:=Q.step s10;obtain rfl:bb=true:=hbb.2 D.lb.ok.gU;refine(aZ) aN fc.b0<|(aZ) aN (bQ.range (As.gb fc.g6))<|?_;refine WP .r ((PV.Qd rfl rfl).cast (v':=.bool false) (congrArg Value.bool (decide_eq_false fun h=>h DA)))<|bY ?_;refine WC.eA rfl<|jT ?_;refine WC.bd (σ:=Nat) (dj:=fun i=>[(4,.slice ra W rc),(5,.pointer (some ⟨b5,0,none⟩)),(6,.slice O v gc),(7,.pointer (some ⟨b7,0,none⟩)),(8,.slice ox H k13),(63,.slice O v gc),(64,.int .i64 (v:Int)),(65,.int .i64 (i:Int))]) (F:=fun i=>[]) (I:=fun i=>(i≤v)∧True) (μ:=fun i=>v - i) (0) (fc) Sub.t (⟨Nat.zero_le _,trivial⟩)<|?_;rintro i iV L ⟨hi,_⟩;simp only [CA,NA] at L hi ⊢;refine(aR) (fun PU=>?_) fun PU=>?_
  ·
   simp at PU
   have rY:i<y.length:=by omega
   have Qr:=List.getElem_mem rY;have YL:y8 aa g y[i]=true:=BW (s:=⟨g,[],ahA,0⟩) (x:=x) hi1 (fun eJ=>(nG _ Qr).resolve_left (by rw [eJ];simp)) PX
   unfold y8 at YL
   rw [Bool.and_eq_true,decide_eq_true_eq,hi1] at YL;obtain⟨hko,hkv⟩:=YL;refine db ?_;obtain⟨gH,kz,jY,cR,gG,eZ,et,eI⟩:=Rd.at (As.gr L.g4) rY;have eZ:=RR.a8 eZ;subst eZ;have E:=L.fg eI et;refine nx ?_;refine WP .r (PV.dI ek cR rfl rfl (by omega))<|(aY) ao (As.kH E.g0)<|(eN) E fun b11 k9 X6 X7 p=>?_;refine(cF) gQ p fun mM zy tK b=>?_;refine(aY) aL b.b2<|(aY) ao b.b0<|?_;have c:=b;refine(bX) Wl (oL (k:=y[i]) c.e0 (As.gr c.g5) (As.gr c.g4)) ?_;rintro _ pH ⟨rfl,qN⟩;have e:=St.lr c qN;rw [hko,hkv];refine(aY) aL (bQ.range (As.gb e.g8))<|(aY) ao e.b0<|?_;have a:=e;refine(bX) Wm (oN (x:=x) (k:=y[i]) a.e0 (As.gf a.g12) (As.gr a.g11) (As.gr a.g10) (As.gr a.g9) f u.lb.ok.gU (z _ Qr) ((tR _ Qr).right f)) ?_;rintro _ og ⟨rfl,nL⟩;have n:=St.lr a nL;refine aX ?_;refine WL.cI (t:=84) rfl (fun g84=>?_) (fun g84=>?_)
   ·
    exact dm g84
   refine cj ?_;refine WL.cI (t:=88) rfl (fun Pp=>?_) (fun Pp=>?_)
   ·
    exact dm Pp
   refine bK ?_;refine WP .r ((PV.UZ rfl rfl).cast (v':=.bool false) (congrArg Value.bool (decide_eq_false fun h=>h rfl)))<|bY ?_;refine WC.eA rfl<|ed ?_;refine ef (i+1) ⟨n.drop.drop,⟨by omega,trivial⟩⟩
  skip
  refine(aZ) dt L.b0<|db ?_;refine WC.bd (σ:=Nat) (dj:=fun j=>[(4,.slice ra W rc),(5,.pointer (some ⟨b5,0,none⟩)),(6,.slice O v gc),(7,.pointer (some ⟨b7,0,none⟩)),(8,.slice ox H k13),(95,.slice ov P k12),(96,.int .i64 (P:Int)),(97,.int .i64 (j:Int))]) (F:=fun j=>[]) (I:=fun j=>(j≤P)∧True) (μ:=fun j=>P - j) (0) (L) Sub.t (⟨Nat.zero_le _,trivial⟩)<|?_;rintro j k9 E ⟨hj,_⟩;simp only [CA,NA] at E hj ⊢;refine(aR) (fun g98=>?_) fun g98=>?_
  ·
   simp at g98
   have AK:j<g.ah.length:=by omega
   have UM:=List.getElem_mem AK;obtain⟨Ly,ahE⟩:=Hz f D UM;refine db ?_;obtain⟨rW,Fc,Cl,jP,sY,kO,kN,lK⟩:=Rd.at (As.gr E.g2) AK;obtain⟨q1,q2,q3,rfl,GI,Ci⟩:=kO;have p:=E.fg lK kN;have b:=p.fr GI;refine nx ?_;refine WP .r (PV.dI ij jP rfl rfl (by omega))<|(aY) cU (As.kH b.g1)<|(eN) b fun UE mM N1 KC c=>?_;refine(cF) fI c fun pH Lv Lx e=>?_;refine(aY) aL (bQ.range (As.gb e.g9))<|(gX) ao e.b0<|?_;have a:=e;refine(bX) Wm (oN (x:=x) (k:=g.ah[j].key) a.e0 (As.gf a.g13) (As.gr a.g12) (As.gr a.g11) (As.gr a.g10) f u.lb.ok.gU Ly ahE) ?_;rintro _ og ⟨rfl,nL⟩;have n:=St.lr a nL;refine(aZ) aN n.b0<|(aZ) aN n.b3<|bK ?_;refine WL.cI (t:=114) rfl (fun tF=>?_) (fun tF=>?_)
   ·
    have NI:=PX _ UM (by simpa using tF);refine bY ?_;refine WL.cI (t:=117) rfl (fun ZQ=>?_) (fun ZQ=>?_)
    ·
     exact dm ZQ
    refine(aZ) fh n.b0<|nx ?_;refine WP .r ((PV.UZ rfl rfl).cast (v':=.bool false) (congrArg Value.bool (decide_eq_false fun h=>h NI)))<|cj ?_;refine WC.eA rfl<|ed ?_;refine ef (j+1) ⟨n.drop.drop.drop,⟨by omega,trivial⟩⟩
   skip
   refine jT ?_;refine WC.eA rfl<|ed ?_;refine ef (j+1) ⟨n.drop.drop.drop,⟨by omega,trivial⟩⟩
  skip
  refine aX ?_;refine bK ?_;refine WC.bd (σ:=Nat) (dj:=fun q=>[(4,.slice ra W rc),(6,.slice O v gc),(7,.pointer (some ⟨b7,0,none⟩)),(125,.slice ox H k13),(126,.int .i64 (H:Int)),(127,.int .i64 (q:Int))]) (F:=fun q=>[]) (I:=fun q=>(q≤H)∧True) (μ:=fun q=>H - q) (0) (E) Sub.t (⟨Nat.zero_le _,trivial⟩)<|?_;rintro q mM p ⟨hq,_⟩;simp only [CA,NA] at p hq ⊢;refine(aR) (fun Ib=>?_) fun Ib=>?_
  ·
   simp at Ib
   have J:q<G.length:=by omega
   obtain⟨fr,R,Ze⟩:=aT.1 (hw1.Jw G[q] (ZO.mem_iff.1 (List.getElem_mem J)));have R:az g.ah G[q]=some fr:=R
   have Ze:(aC g.ah G[q]).av=g.ad:=by rw [aQ R];exact Ze
   refine db ?_;obtain⟨HX,agI,Yo,ks,PD,td,GM,K2⟩:=Rd.at (As.gr p.g1) J;have td:=RR.a8 td;subst td;have b:=p.fg K2 GM;refine nx ?_;refine WP .r (PV.dI ek ks rfl rfl (by omega))<|(aY) ao (As.kH b.g0)<|(eN) b fun b21 pH ZR ZS c=>?_;refine(cF) gQ c fun og LH DX e=>?_;refine(aZ) dt e.b2<|(aY) ao e.b0<|?_;have a:=e;refine(bX) pr (iz (k:=G[q]) a.e0 (As.gr a.g4)) ?_;rintro _ sZ ⟨v1,v2,v3,rfl,UB,GP⟩;have n:=St.lr a GP;rw [show(az g.ah G[q]).isSome=true by rw [R];rfl];refine(eN) n fun Ya yg Ff HQ mF=>?_;refine(cF) fI mF fun yh Pw Px o=>?_;refine gL ?_;refine WL.cI (t:=140) rfl (fun ZT=>?_) (fun ZT=>?_)
   ·
    exact dm ZT
   refine(aZ) aN o.b0<|(aZ) aN o.b4<|?_;refine WP .r ((PV.Qd rfl rfl).cast (v':=.bool false) (congrArg Value.bool (decide_eq_false fun h=>h Ze)))<|bY ?_;refine WC.eA rfl<|ed ?_;refine ef (q+1) ⟨o.drop.drop.drop.drop,⟨by omega,trivial⟩⟩
  skip
  refine(aY) aL p.b0<|nx ?_;have b:=p;refine(bX) Nx (hP (x:=g) (goals:=y) b.e0 (As.gf b.g10) (As.gr b.g9) (As.gr b.g3) (As.gr b.g2) (As.gr b.g4) f D z (by omega)) ?_;rintro _ pH ⟨b2x,acH,rs2,p21,p22,p23,j21,k21,j22,k22,j23,k23,Z2x,rfl,J,apB,qg,apC,ZU,ahF,qN⟩;have c:=St.lv b qN ahF;obtain⟨YS,rY,NT,hw2,akI⟩:=J.done f D z;have NK:=YS.lb.ok.fR.len;have NK:b2x.ah.length≤4000:=NK;have apD:=YS.lb.ok.pc;obtain⟨_,_,_,apE,_⟩:=J.ready f D z;have apF:=ZU.length_eq;have apG:=((As.gs c.g0)).len;have apH:=((As.gs c.g1)).len;have ahG:=((As.gs c.g2)).len;obtain⟨rfl,_,rfl⟩:=J.idle nG;obtain rfl:=List.perm_nil.1 ZU;obtain rfl:j23=0:=ahG;have abF:=St.fresh c;have e:=c.ba (by omega);have abG:=St.fresh e.p1;have a:=e.p1.ba (by omega);have abH:=St.fresh a.p2;have n:=a.p2.ba (by omega);refine(eN) n fun b24 og ZW ZX mF=>?_;refine(cF) dR mF fun sZ SH SI o=>?_;refine kI ?_;refine WL.cI (t:=158) rfl (fun ZY=>?_) (fun ZY=>?_)
  ·
   refine db ?_;refine WL.cI (t:=163) rfl (fun ZZ=>?_) (fun ZZ=>?_)
   ·
    refine(aY) aL o.b4<|(aY) aL o.b0<|(eS) (wY (As.gr o.g7) (As.gr o.g6) (As.gr o.g3) (As.gr o.g2)) o fun yg s17 kB=>?_;refine bK ?_;refine WL.go rfl (OX.call (xs:=[]) (args:=[]) cf7 rfl rfl ((oM (kB.e0) (As.gf kB.g14)).mono ?_));rintro _ _ ⟨_,rfl,S⟩;refine⟨_,rfl,?_⟩;refine(bs) ?_;exact⟨rfl,aS.trans (St.cg kB) (S.bV.bV (fun _ h=>by obtain⟨A,T,_⟩:=h;cases T))⟩
   exact dm ZZ
  exact dm ZY
 -- k7 eR apJ apK C62 C92 apL G56
end Go.Rc

