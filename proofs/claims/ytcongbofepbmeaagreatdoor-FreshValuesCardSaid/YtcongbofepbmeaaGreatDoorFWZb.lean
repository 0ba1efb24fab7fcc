/- Walks over the program, part WZb. Conditions: as each theorem says. -/
import Derived.Test.YtcongbofepbmeaaGreatDoorFFacts
import Derived.Test.YtcongbofepbmeaaGreatDoorFWZi
import Derived.Test.YtcongbofepbmeaaGreatDoorFWZg
import Derived.Test.YtcongbofepbmeaaGreatDoorFBg
import Derived.Test.YtcongbofepbmeaaGreatDoorFBh
import Derived.Test.YtcongbofepbmeaaGreatDoorFWZl
import Derived.Test.YtcongbofepbmeaaGreatDoorFWF
import Derived.Test.YtcongbofepbmeaaGreatDoorFBf
set_option linter.all false
namespace Go.Rc
open Go Go.Proofs Go.Proofs.Tryz
variable {aa:List aA}{x:cA}{t:qb}{w:World}{M Z:Nat→Prop}
set_option maxHeartbeats 400000
set_option maxHeartbeats 4000000 in
theorem B0{rev:Int}{D:SD}{A:FL}{n:Nat}(L:aq aa) (gg:St w M Z w [As.ja prog 116 aa x D]) (ht:gV prog Z w) (hA:t.In A Z w) (hk:TR aa x.ad rev n t) (hn:n≤90000):Calls prog 103 #[.pointer (some ⟨D.s,0,none⟩),.agg (t.row A).toArray] w fun e w'=>∃(R:qb) (A':FL) (d:Bool) (er:Int) (Z':Nat→Prop),e=.returned (.tuple #[.agg (R.row A').toArray,.bool d,.int .i64 er])∧TR aa x.ad rev (n+1) R∧(TO aa x t→er=0∧TO aa x R)∧R.In A' Z' w'∧bA w.heap.size Z Z'∧St w M Z' w' [As.ja prog 116 aa x D]:=by
 have hsz:=hk.sz L (by omega);obtain⟨hu,hi,hr,hg,hf,hp⟩:=id hA;have lp:=hp.len;have lf:=hf.len;have lg:=hg.len;refine enter func103 rfl ntmps103 rfl<|?_;have aR:=gg;have st1:=aR.fr hu;have st2:=st1.fr hi;have j5:=st2.fr hr;have i6:=j5.fr hg;have jD:=i6.fr hf;have jC:=jD.fr hp;have ij:=jC.fact (B:=As.fz (FZ.zV prog)) ht (fun _ N=>N);refine(dE) ij fun b3 w1 GS xy ju=>?_;refine(ff) ju fun b4 w2 AX E4 jc=>?_;refine(aT) fj jc.b1<|?_;have v:=jc;refine(bL) Ig (mY v.e0 ⟨(As.gr v.g8),(As.gr v.g7),(As.gr v.g6),(As.gr v.g5),(As.gr v.g4),(As.gr v.g3)⟩ hsz) ?_;rintro _ w3 ⟨b,Z1,rfl,O,uY,lQ⟩;have dw:=St.lv v lQ uY;have K:=St.bB lQ;have H:=v.size;have S:=uY.le H;have dz:=dw.fr (O.u);have db:=dz.fr (O.i);have cF:=db.fr (O.r);have fV:=cF.fr (O.g);have T:=fV.fr (O.f);have lnp:=((As.gs T.g5)).len;have lgg:=((As.gr T.g1)).len;have lgf:=((As.gr T.g0)).len;have hnr:=hk.nr;have hns:=hk.ns;have hng:=hk.ng;have dW:=T.Hm.drop;have fH:=dW.rY.drop;have dV:=fH.Cq.drop;have ew:=dV.l9.drop;have gq:=ew.pQ.drop;have dK:=gq.p9.drop;refine(cD) mQ dK.p7 fun w4 ko ly y=>?_;refine(aU) AK y.b0<|(aN) (fun g18=>?_) fun g18=>?_
 ·
  simp at g18
  have mr:t.stack=[]:=List.eq_nil_of_length_eq_zero (by omega);refine(aU) eZ y.b0<|(aN) (fun g22=>?_) fun g22=>?_
  ·
   skip
   refine(aT) fj y.b0<|(cD) mQ y.p7 fun w5 r8 mr j=>?_;refine eP ?_;have l:=j.p7.a8 (by omega);have z:=S.trans (bA.dx (F:=fun x=>x∈aG b.p) K) H;refine EX.fL rfl (RS.cell fj rfl l.b1 rfl<|RS.tmp rfl<|RS.tmp rfl<|RS.nil) rfl<|?_;exact⟨t,b,false,0,_,rfl,hk.mono (by omega),(fun h=>⟨rfl,h⟩),⟨(As.gr l.g7),(As.gr l.g6),(As.gr l.g5),(As.gr l.g4),(As.gr l.g3),(As.gr l.g0)⟩,z,l.p9.k1⟩
  simp at g22
  have hg0:0<t.goals.length:=by omega
  have Rj:=hk.ok.goals t.goals[0] (List.getElem_mem hg0);refine cL ?_;obtain⟨ia,lP,lk,ck,gP,W,e5,e6⟩:=Rd.at (As.gr y.g2) hg0;have W:=RR.bN W;subst W;have j:=y.fg e6 e5;refine(aU) eZ j.b1<|?_;refine WP .r (PV.B5 eI (0) ck rfl rfl (by omega) (by omega))<|(aT) ak (As.ma j.g0)<|(ff) j fun b7 w5 Um Un l=>?_;refine(cD) gR l fun w6 Bc wQ P=>?_;refine(aU) eZ P.b2<|?_;refine WP .r (PV.xM eI (i:=1) (As.gr P.g4) rfl rfl (by omega))<|nx ?_;refine WL.s1 P.p2 fun w7 _ U=>?_;refine nx ?_;have C:=U.fr (SR.drop (i:=1) (As.gr U.g4) (by omega));refine(il) aJ C.b1<|(aT) ak C.b2<|(dH) (pz (k:=t.goals[0]) (As.gr C.g7) (As.gr C.g6) (Rd.nil _ _ _ _)) C fun w8 s8 I=>?_;refine(aN) (fun X=>?_) fun X=>?_
  ·
   have vC:=x4 X;have I2:=I.size;refine(aT) ak I.b2<|?_;refine WP .r (PV.bs (us:=((⟨t.goals[0],false,0,[],[]⟩:cY).row none 0 0 none 0 0)) H5 rfl rfl rfl)<|?_;refine WL.go rfl (OX.aP (us:=((⟨t.goals[0],false,0,[],[]⟩:cY).row none 0 0 none 0 0)) ud rfl rfl rfl rfl fun J w9 VH acB=>?_);have E:=I.dy VH acB;refine nx ?_;refine WL.s1 E.p2 fun jB _ c=>?_;refine(aT) fj c.b0<|(cD) mQ c.l9 fun iV Lg Lh o=>?_;refine gw ?_;have Q:=o.l9.a8 (by omega);have z:=S.trans (bA.dx (F:=fun x=>x∈aG b.p) K) H;have V:=Q.p3;have Y:=V.conv (B:=As.os RR.me 145 6 (some ⟨J,0,none⟩) 1 1 [⟨t.goals[0],false,0,[],[]⟩]) (OR.dn (As.gb V.g0) (Nat.zero_le _) rfl (cY.one _ _ _ _ _ _ _) ⟨none,0,0,none,0,0,rfl,Rd.nil _ _ _ _,Rd.nil _ _ _ _,by simp,by simp⟩) (fun x h=>by show x=J;change x∈aG (some ⟨J,0,none⟩) at h;simpa [aG] using h)
   have acC:∀x∈aG (some ⟨J,0,none⟩:Option Addr),w.heap.size≤x:=fun x h=>by
    obtain rfl:x=J:=by simpa [aG] using h
    have:=VH.ge
    omega
   have q:=Y.a8 (by simp);have LL:=z.trans (bA.dx (F:=fun x=>x∈aG (some ⟨J,0,none⟩)) acC) (Nat.le_refl _);refine EX.fL rfl (RS.cell fj rfl q.b2 rfl<|RS.tmp rfl<|RS.tmp rfl<|RS.nil) rfl<|?_;exact⟨{t with goals:=t.goals.drop 1,stack:=[⟨t.goals[0],false,0,[],[]⟩]},{b with g:=mz b.g 1 2 b.cg,ng:=b.ng - 1,cg:=b.cg - 1,f:=some ⟨J,0,none⟩,nf:=1,cf:=1},true,0,_,rfl,(hk.mono (by omega)).begin Rj vC (by omega),(fun h=>⟨rfl,h.begin L mr Rj X _⟩),⟨(As.gr q.g11),(As.gr q.g10),(As.gr q.g9),(As.gr q.g4),(As.gr q.g0),(As.gr q.g1)⟩,LL,q.rY.k1⟩
  skip
  refine(aT) fj I.b1<|(cD) mQ I.pQ fun w9 JB Cs E=>?_;refine gw ?_;have c:=E.pQ.a8 (by omega);have z:=S.trans (bA.dx (F:=fun x=>x∈aG b.p) K) H;refine EX.fL rfl (RS.cell fj rfl c.b1 rfl<|RS.tmp rfl<|RS.tmp rfl<|RS.nil) rfl<|?_;exact⟨{t with goals:=t.goals.drop 1},{b with g:=mz b.g 1 2 b.cg,ng:=b.ng - 1,cg:=b.cg - 1},true,0,_,rfl,(hk.mono (by omega)).Sp,(fun h=>⟨rfl,h.goals _⟩),⟨(As.gr c.g10),(As.gr c.g9),(As.gr c.g8),(As.gr c.g2),(As.gr c.g6),(As.gr c.g0)⟩,z,c.Cq.k1⟩
 simp at g18
 have ly:t.stack≠[]:=by intro h;rw [h] at lgf;simp at lgf;omega
 refine(il) aJ y.b0<|(aU) AK y.b0<|?_;have j:=y.p9;refine(bL) TW (yW L j.e1 (As.gf j.g9) (As.gr j.g5) (As.gr j.g4) (As.gr j.g2) hk.ok.base hk.ok.stack ly (by omega)) ?_;rintro _ w5 ⟨b2,l2,rk2,d2,er2,b1,b3,bl,bk,m1,d1,m3,d3,ml,dl,mk,dk,Z2,rfl,B9,hl2,acD,h1k,h1l,VI,acE,acF,Vs,uO,pA⟩;have l:=St.lv j pA uO;have sg:=j.size;have nK:=S.trans uO sg;have ajE:∀x∈aG b.p,w.heap.size≤x:=fun x N=>Nat.le_trans H (K x N);have P:=l.fr (acE);have U:=P.fr (acF);have C:=U.fr (Vs);have lnk:=((As.gs C.g4)).len;refine(ff) C fun b8 w6 Js Uo I=>?_;refine(cD) eJ I fun w7 Rl Rm E=>?_;refine aO ?_;refine(aN) (fun g54=>?_) fun g54=>?_
 ·
  skip
  refine(aT) fj (cC.range (As.gb E.g6))<|(cD) mQ E.rY fun w8 Rn Ro c=>?_;refine gw ?_;have o:=c.rY.a8 (by omega);have z:=nK.trans (bA.dx (F:=fun x=>x∈aG b.p) K) H;refine EX.fL rfl (RS.cell fj rfl o.b1 rfl<|RS.tmp rfl<|RS.tmp rfl<|RS.nil) rfl<|?_;exact⟨t,b,false,er2,_,rfl,hk.mono (by omega),(fun h=>⟨(h.HR L hk.ok.base.hW VI).1,h⟩),⟨(As.gr o.g13),(As.gr o.g12),(As.gr o.g11),(As.gr o.g10),(As.gr o.g9),(As.gr o.g0)⟩,z,o.p6.k1⟩
 skip
 refine cL ?_;have I2:=E.size;refine WC.bY (m:=7) [1] [5] [2,3,4,5,0,1,6] [] E (ao.k4 M0 M1 M2 M3<|ao.k4 M4 M5 M6 M7<|ao.k4 M8 M9 iZ jj<|ao.cons vz<|ao.cons Ca<|ao.nil) mixed (by kernel_rfl) (by kernel_rfl) rfl<|(zP) eZ SV.g6<|(gi) (fun w8 LI yM c l8=>?_);simp only [CA,NA] at c;refine OX.j7 mP rfl rfl rfl (As.gs c.g12) (Ow.rd (As.gs c.g5) (by omega)) (by show(b.np+mk)*_≤_;omega) (by show b.np+mk≤_;omega) (Nat.zero_le _) fun a62 acH w9 acI s62 VJ ajG=>?_;have o:=c.Cq.fO s62 acI VJ;refine⟨s62.size,_,rfl,_,_,_,o,aw.k4<|aw.k4<|aw.k4<|aw.k2<|aw.cons<|aw.nil,ao.k4 M1 M2 M3 M4<|ao.k4 M5 M6 M7 M8<|ao.k4 M9 iZ jj nh<|ao.cons vz<|ao.cons Ca<|ao.nil,?_⟩;refine(kh) aJ SV.g0<|?_
 iterate 2 refine DG.a ?_
 refine(kZ) ?_;intro jB xC Q;simp only [CM,NM,CA,NA,iL.it] at Q;refine WL.go rfl (OX.NG eJ (As.gb Q.g7) rfl rfl rfl rfl rfl fun iV Xg Xh=>?_);have V:=Q.p7.zH Xg Xh;refine nx ?_;refine WL.s1 V fun mu _ Y=>?_;refine nx ?_;refine WL.s1 Y fun oL _ q=>?_;refine WL.nil (EX.np ?_);refine(aT) fj q.b0<|(cD) mQ q.rY fun uL ss8 hs8 nN=>?_;refine cS ?_;have G:=nN.p2.a8 (by rw [List.length_append];omega)
 have Qi:∀x∈aG a62,w.heap.size≤x:=fun x N=>by rcases VJ x N with h | h;exact Nat.le_trans H (K x h);omega
 have z:=nK.trans (bA.dx (F:=fun x=>x∈aG a62) Qi) (Nat.le_refl _);refine EX.fL rfl (RS.cell fj rfl G.b1 rfl<|RS.tmp rfl<|RS.tmp rfl<|RS.nil) rfl<|?_;exact⟨{t with base:=b2,stack:=l2,bM:=t.bM++rk2},{b with i:=b1,ni:=m1,ci:=d1,r:=b3,nr:=m3,cr:=d3,f:=bl,nf:=ml,cf:=dl,p:=a62,np:=b.np+mk,cp:=acH},d2,0,_,rfl,hk.next B9 hl2 acD h1k h1l,(fun h=>⟨rfl,(h.HR L hk.ok.base.hW VI).2⟩),⟨(As.gr G.g13),(As.gr G.g6),(As.gr G.g5),(As.gr G.g10),(As.gr G.g4),(As.gr G.g0)⟩,z,G.p7.k1⟩
set_option maxHeartbeats 4000000 in
theorem DZ{A:FL}{most:Nat}(N:aq aa) (gg:St w M Z w []) (ht:gV prog Z w) (hA:t.In A Z w) (hk:TR aa t.base.ad t.base.ab 0 t) (MV:fF t.aa t.base t.goals=0) (hm:most≤80000):Calls prog 62 #[.agg (t.row A).toArray,.int .i64 (most:Int)] w fun e w'=>∃(D:qb) (O:FL) (i P:Int) (Z':Nat→Prop),e=.returned (.tuple #[.agg (D.row O).toArray,.int .i64 i,.int .i64 P])∧TR aa t.base.ad t.base.ab 80000 D∧(Bh aa t.base→P=0∧TO aa t.base D)∧D.In O Z' w'∧bA w.heap.size Z Z'∧St w M Z' w' []:=by
 have hsz:=hk.sz N (by omega);obtain⟨hu,hi,hr,hg,hf,hp⟩:=id hA;have Q:t.stack=[]:=List.eq_nil_of_length_eq_zero (by have:=hk.ns;omega);have acJ:t.bM=[]:=List.eq_nil_of_length_eq_zero (by have:=hk.nr;omega);have R:Bh aa t.base→TO aa t.base t:=fun h=>TO.of h Q acJ;refine enter func62 rfl ntmps62 rfl<|?_;have aR:=St.rb gg;have st1:=aR.fr hu;have st2:=st1.fr hi;have j5:=st2.fr hr;have i6:=j5.fr hg;have jD:=i6.fr hf;have jC:=jD.fr hp;have ij:=jC.fact (B:=As.fz (FZ.zV prog)) ht (fun _ hx=>hx);refine(dE) ij fun b2 w1 Xt B9 ju=>?_;refine(ff) ju fun b4 w2 AX E4 S=>?_;refine(aT) fj S.b1<|?_;have l:=S;refine(bL) Ig (mY l.e0 ⟨(As.gr l.g8),(As.gr l.g7),(As.gr l.g6),(As.gr l.g5),(As.gr l.g4),(As.gr l.g3)⟩ hsz) ?_;rintro _ w3 ⟨b,Z1,rfl,s,T,U⟩;have dw:=St.lv l U T;have U0:=St.bB U;have V:=l.size;have y9:=T.le V;have dz:=dw.fr (s.u);have db:=dz.fr (s.i);have cF:=db.fr (s.r);have fV:=cF.fr (s.g);have W:=fV.fr (s.f);have QC:=St.fresh W.p5;have dW:=W.p5.a8 (by have:=hk.nr;omega);have X:=y9.trans (bA.dx (F:=fun x=>x∈aG b.p) U0) V;have fH:=dW.Hm.drop;have dV:=fH.rY.drop;have ew:=dV.Cq.drop;have gq:=ew.l9.drop;have dK:=gq.pQ.drop;have gJ:=dK.p9.drop;refine(cD) mQ gJ.p7 fun w4 ko ly E=>?_;refine(aN) (fun g15=>?_) fun g15=>?_
 ·
  simp at g15
  obtain rfl:most=0:=by omega
  refine(aT) fj E.b0<|(cD) mQ E.p7 fun w5 r8 mr j=>?_;refine gw ?_;refine EX.fL rfl (RS.cell fj rfl j.b0 rfl<|RS.tmp rfl<|RS.tmp rfl<|RS.nil) rfl<|?_;exact⟨t,b,0,0,_,rfl,hk.mono (by omega),(fun h=>⟨rfl,R h⟩),⟨(As.gr j.g7),(As.gr j.g6),(As.gr j.g5),(As.gr j.g4),(As.gr j.g3),(As.gr j.g2)⟩,X,(St.wk j.k0)⟩
 skip
 refine(aT) fj E.b0<|?_;have j:=E;refine(bL) Ty (wo j.e0 ⟨(As.gr j.g6),(As.gr j.g5),(As.gr j.g4),(As.gr j.g3),(As.gr j.g2),(As.gr j.g1)⟩ Q MV) ?_;rintro _ w5 ⟨rfl,pA⟩;have H:=St.lr j pA;refine cL ?_;refine WC.kS rfl<|(aU) jT H.b0<|(il) aJ H.b0<|?_;have Y:=H;refine(bL) Ic (jW (x:=t.base) Y.e0) ?_;rintro _ w6 ⟨d1,d2,d3,rfl,IC⟩;have fc:=St.lr Y IC;refine bz ?_;have m:=fc.p1.p1;have pH:=m.join (C:=As.ja prog 116 aa t.base ⟨b.u,b.i,b.r,b.nu,b.cu,b.ni,b.ci,b.nr,b.cr,d2,d3,d1⟩) ⟨m.Sk,(As.gb m.g0),⟨[],aY.nil,(As.gm m.g1)⟩,⟨hk.ok.Jn ▸ (As.gr m.g9),(As.gr m.g8),(As.gr m.g7),(As.gf m.g11)⟩⟩ (fun y h=>h);have qE:=pH.p1.drop;refine iC ?_;refine WC.ie (σ:=Nat × qb × FL × (Nat→Prop)) (dm:=fun(i,k,a,n)=>[(1,.int .i64 (most:Int)),(2,.pointer (some ⟨b2,0,none⟩)),(4,.pointer (some ⟨b4,0,none⟩)),(7,.pointer (some ⟨d1,0,none⟩)),(8,.int .i64 (i:Int))]) (F:=fun(i,k,a,n)=>[As.ja prog 116 aa t.base ⟨b.u,b.i,b.r,b.nu,b.cu,b.ni,b.ci,b.nr,b.cr,d2,d3,d1⟩,As.blk b2 95 (k.row a),As.ro RR.dp 4 a.u a.nu a.cu k.aa,As.ro RR.az 4 a.i a.ni a.ci k.base.ad,As.ro RR.ed 8 a.r a.nr a.cr k.base.ah,As.ro RR.key 2 a.g a.ng a.cg k.goals,As.ro RR.me 6 a.f a.nf a.cf k.stack,As.ro RR.key 2 a.p a.np a.cp k.bM]) (I:=fun(i,k,a,n)=>(i≤most)∧(TR aa t.base.ad t.base.ab i k)∧(Bh aa t.base→TO aa t.base k)∧(bA w.heap.size Z n)∧True) (μ:=fun(i,k,a,n)=>most - i) (Zf:=fun(i,k,a,n)=>n) (0,t,b,_) (qE.p2.p3.p4.p5.p6.p7.p7.p7) Sub.t (⟨Nat.zero_le _,hk,R,X,trivial⟩)<|?_;rintro⟨i,k,a,n⟩ w7 v ⟨Lz,G,o,J,_⟩;simp only [CA,NA] at v Lz G o J ⊢;refine(aN) (fun g28=>?_) fun g28=>?_
 ·
  simp at g28
  refine(aT) fj v.b1<|?_;have c:=v;refine(bL) Tz (B0 N c.e1 (As.gf c.g9) ⟨(As.gr c.g2),(As.gr c.g3),(As.gr c.g4),(As.gr c.g5),(As.gr c.g6),(As.gr c.g7)⟩ G (by omega)) ?_;rintro _ w8 ⟨t6,A6,d6,er6,Z6,rfl,hk6,K,q,BJ,mi⟩;have qD:=St.lv c mi BJ;have L:=J.trans BJ c.size;have lq:=qD.fr (q.u);have lx:=lq.fr (q.i);have nN:=lx.fr (q.r);have nO:=nN.fr (q.g);have sn:=nO.fr (q.f);have yP:=sn.fr (q.p);refine(ff) yP fun b9 w9 Xv Xw iB=>?_;refine(cD) mQ iB fun jB Bc wQ z=>?_;refine(aN) (fun Xz=>?_) fun Xz=>?_
  ·
   skip
   refine(aT) fj (cC.range (As.gb z.g8))<|(cD) mQ z.WE fun iV Lg Lh d=>?_;refine j8 ?_;refine EX.fL rfl (RS.cell fj rfl d.b0 rfl<|RS.tmp rfl<|RS.tmp rfl<|RS.nil) rfl<|?_;exact⟨k,a,(i:Int),er6,_,rfl,G.mono (by omega),(fun h=>⟨(K (o h)).1,o h⟩),⟨(As.gr d.g10),(As.gr d.g11),(As.gr d.g12),(As.gr d.g13),(As.gr d.g14),(As.gr d.g15)⟩,L,(St.wk d.k0)⟩
  skip
  refine(aN) (fun Gr=>?_) fun Gr=>?_
  ·
   skip
   refine(aT) fj z.b0<|(cD) mQ z.WE fun iV JB Cs d=>?_;refine j8 ?_;refine EX.fL rfl (RS.cell fj rfl d.b0 rfl<|RS.tmp rfl<|RS.tmp rfl<|RS.nil) rfl<|?_;exact⟨t6,A6,(i:Int),0,_,rfl,hk6.mono (by omega),(fun h=>⟨rfl,(K (o h)).2⟩),⟨(As.gr d.g7),(As.gr d.g6),(As.gr d.g5),(As.gr d.g4),(As.gr d.g3),(As.gr d.g2)⟩,L,(St.wk d.k0)⟩
  have d:=z.p9.drop;have mn:=d.p9.drop;have jd:=mn.p9.drop;have IU:=jd.p9.drop;have qF:=IU.p9.drop;have oN:=qF.p9.drop;refine(aT) fj oN.b0<|(cD) mQ oN.p8 fun iV Rl Rm qG=>?_;refine cL ?_;refine dY (i+1,t6,A6,Z6) ⟨qG.p1.drop.p2.p3.p4.p5.p6.p5.p7,⟨by omega,hk6,fun h=>(K (o h)).2,L,trivial⟩⟩
 skip
 refine(aT) fj v.b1<|(cD) mQ v.p8 fun w8 Rn Ro c=>?_;refine cS ?_;refine EX.fL rfl (RS.cell fj rfl c.b0 rfl<|RS.tmp rfl<|RS.tmp rfl<|RS.nil) rfl<|?_;exact⟨k,a,(i:Int),0,_,rfl,G.mono (by omega),(fun h=>⟨rfl,o h⟩),⟨(As.gr c.g3),(As.gr c.g4),(As.gr c.g5),(As.gr c.g6),(As.gr c.g7),(As.gr c.g8)⟩,J,(St.wk c.k0)⟩
set_option maxHeartbeats 400000
set_option maxHeartbeats 1600000 in
set_option maxRecDepth 8000 in
theorem yX{l:List Change}{a1 a2 al:Option Addr}{n1 e1 n2 e2 nl b:Nat}(gg:St w M Z w []) (hi:Rd RR.az 4 Z w a1 n1 e1 x.ad) (hr:Rd RR.ed 8 Z w a2 n2 e2 x.ah) (hl:Rd RR.bT 3 Z w al nl b l) (hb:eU x) (hx:iO x.ab x.ad) (hs:∀c∈l,c.small) (Xn:l.length≤32):Calls prog 26 #[.agg (x.row a1 n1 e1 a2 n2 e2).toArray,.slice al nl b] w fun e w'=>∃(y:cA) (b1 b2:Option Addr) (m1 d1 m2 d2:Nat) (er:Int) (Z':Nat→Prop),e=.returned (.tuple #[.agg (y.row b1 m1 d1 b2 m2 d2).toArray,.int .i64 er])∧y.ah=x.ah∧x.ab≤y.ab∧y.ab≤1073741824∧iO y.ab y.ad∧y.ad.length≤64∧y.ab≤x.ab+1∧SH x l y∧AO x l y∧(x.ab+1≤1073741824→er=0)∧Rd RR.az 4 Z' w' b1 m1 d1 y.ad∧Rd RR.ed 8 Z' w' b2 m2 d2 y.ah∧bA w.heap.size Z Z'∧St w M Z' w' []:=by
 have hln:=hl.len;have h7a:=hb.2.2.2.2.1;have h6a:=hb.2.2.2.2.2.1
 have h6:x.ah.length≤1000000:=by omega
 have h7:x.ad.length≤1000000:=by omega
 have hv0:=hb.2.2.1;have EZ:=hb.2.2.2.1;refine enter func26 rfl ntmps26 rfl<|?_;have aR:=St.rb gg;have st1:=aR.fr hi;have st2:=st1.fr hr;have j5:=st2.fr hl;refine(dE) j5 fun b2 w1 Xt B9 i6=>?_;refine(ff) i6 fun b4 w2 AX E4 jD=>?_;refine(aT) aJ jD.b1<|?_;have jC:=jD;refine(bL) yt (e7 (x:=x) jC.e0 (As.gr jC.g4) (As.gr jC.g3) h6 h7) ?_;rintro _ w3 ⟨f1,f2,f3,f4,f5,f6,Z1,rfl,uY,lQ⟩;have ij:=St.lv jC lQ uY;have acL:=St.bB lQ;have acM:=St.bB lQ.p1;have uI:=jC.size;have y9:=uY.le uI;have acN:=St.fresh ij;have ju:=ij.a8 (by omega);have acO:=St.fresh ju.p1;have jc:=ju.p1.a8 (by omega);have acP:=(y9.trans (bA.dx (F:=fun x=>x∈aG f1) acL) uI).trans (bA.dx (F:=fun x=>x∈aG f4) acM) uI;refine(cD) eJ jc.p3 fun w4 ko ly ef=>?_;refine(aT) aJ ef.b0<|(bL) K7 (jt (x:=x) (As.gr ef.g2) (As.gr ef.g1)) ?_;rintro _ w5 ⟨bb,rfl,hbb,s5⟩;have dw:=ef.step s5;obtain rfl:bb=true:=hbb.2 hb;refine(aN) (fun g24=>?_) fun g24=>?_
 ·
  exact gu g24
 ·
  refine(aN) (fun RA=>?_) fun RA=>?_
  ·
   exact gu RA
  refine aO ?_;refine WC.bd (σ:=Nat) (dm:=fun i=>[(1,.slice al nl b),(2,.pointer (some ⟨b2,0,none⟩)),(4,.pointer (some ⟨b4,0,none⟩)),(34,.slice al nl b),(35,.int .i64 (nl:Int)),(36,.int .i64 (i:Int))]) (F:=fun i=>[]) (I:=fun i=>(i≤l.length)∧True) (μ:=fun i=>l.length - i) (0) (dw) Sub.t (⟨by omega,trivial⟩)<|?_;rintro i w6 dz ⟨hP,_⟩;simp only [CA,NA] at dz hP ⊢;refine(aN) (fun Xz=>?_) fun Xz=>?_
  ·
   simp at Xz
   have z:i<l.length:=by omega
   have W:=hs _ (List.getElem_mem z);have Qp:=W.ok;have Lp:=W.2;refine cS ?_;obtain⟨ia,lP,lk,ck,gP,B,e5,e6⟩:=Rd.at (As.gr dz.g4) z;have B:=RR.bN B;subst B;have J:=dz.fg e6 e5;refine nx ?_;refine WP .r (PV.ei Gb ck rfl rfl (by omega))<|(aT) AJ (As.ma J.g0)<|(ff) J fun b7 w7 Um Un G=>?_;refine(cD) H8 G fun w8 r8 mr Q=>?_;refine(il) ak Q.b0<|?_;refine WL.c1 (u:=.bool true) (hh (k:=l[i].key)) (by rw [Qp.1]) Q fun w9 s9 K=>?_;refine(il) ak K.b0<|?_;refine WL.c1 (u:=.bool true) (de (k:=l[i].key)) (by rw [Qp.2]) K fun jB s10 dW=>?_;refine cX ?_;refine WC.kS rfl<|eP ?_;refine dY (i+1) ⟨dW.drop.drop,⟨by omega,trivial⟩⟩
  skip
  refine aO ?_;refine bz ?_;refine WC.bd (σ:=Nat) (dm:=fun i=>[(1,.slice al nl b),(2,.pointer (some ⟨b2,0,none⟩)),(4,.pointer (some ⟨b4,0,none⟩)),(52,.slice al nl b),(53,.int .i64 (nl:Int)),(54,.int .i64 (i:Int))]) (F:=fun i=>[]) (I:=fun i=>(i≤l.length)∧True) (μ:=fun i=>l.length - i) (0) (dz) Sub.t (⟨by omega,trivial⟩)<|?_;rintro i w7 J ⟨hP,_⟩;simp only [CA,NA] at J hP ⊢;refine(aN) (fun VC=>?_) fun VC=>?_
  ·
   simp at VC
   have z:i<l.length:=by omega
   have W:=hs _ (List.getElem_mem z);have Lp:=W.2;refine cS ?_;obtain⟨ia,lP,lk,ck,gP,B,e5,e6⟩:=Rd.at (As.gr J.g4) z;have B:=RR.bN B;subst B;have G:=J.fg e6 e5;refine nx ?_;refine WP .r (PV.ei Gb ck rfl rfl (by omega))<|(aT) AJ (As.ma G.g0)<|(ff) G fun b9 w8 Xv Xw Q=>?_;refine(cD) H8 Q fun w9 Bc wQ K=>?_;refine(aU) eY K.b0<|(aN) (fun Li=>?_) fun Li=>?_
   ·
    exact gu Li
   refine eP ?_;refine dY (i+1) ⟨K.drop.drop,⟨by omega,trivial⟩⟩
  skip
  refine(aT) aJ J.b0<|?_;have G:=J;refine(bL) yt (e7 (x:=x) G.e0 (As.gr G.g2) (As.gr G.g1) h6 h7) ?_;rintro _ w8 ⟨k1,k2,k3,k4,k5,k6,Z2,rfl,uO,mi⟩;have Q:=St.lv G mi uO;have acQ:=St.bB mi;have acR:=St.bB mi.p1;have sg:=G.size;have nK:=acP.trans uO sg;have acS:=St.fresh Q;have K:=Q.a8 (by omega);have acT:=St.fresh K.p1;have dW:=K.p1.a8 (by omega);have acU:=(nK.trans (bA.dx (F:=fun x=>x∈aG k1) acQ) sg).trans (bA.dx (F:=fun x=>x∈aG k4) acR) sg;refine(ff) dW fun L w9 Gu Gv fH=>?_;refine(cD) eJ fH fun jB Lg Lh dV=>?_;refine(aU) aK dV.b0<|bz ?_;refine WL.s1 dV fun iV _ ew=>?_;refine aO ?_;refine cX ?_;refine WC.ie (σ:=Nat × Bool × (List bU) × (Option Addr) × Nat × Nat × (Nat→Prop)) (dm:=fun(i,ch,li,C,ni,D,N)=>[(1,.slice al nl b),(2,.pointer (some ⟨b2,0,none⟩)),(4,.pointer (some ⟨b4,0,none⟩)),(10,.pointer (some ⟨L,0,none⟩)),(11,.bool ch),(70,.slice al nl b),(71,.int .i64 (nl:Int)),(72,.int .i64 (i:Int))]) (F:=fun(i,ch,li,C,ni,D,N)=>[As.blk L 25 [.int .i64 (x.ab+1),.slice C ni D,.slice k4 k5 k6],As.ro RR.az 4 C ni D li]) (I:=fun(i,ch,li,C,ni,D,N)=>(i≤l.length)∧(iO (x.ab+1) li)∧(li.length≤x.ad.length+i)∧(∀k,(∀c∈l,c.key≠k)→bE li k=bE x.ad k)∧(∀k,bE li k=bE x.ad k∨(bE li k).changed=x.ab+1)∧(bA w.heap.size Z N)∧(FX x l i ch li)∧True) (μ:=fun(i,ch,li,C,ni,D,N)=>l.length - i) (Zf:=fun(i,ch,li,C,ni,D,N)=>N) (0,false,x.ad,k1,k2,k3,_) (ew.p2.p1) Sub.t (⟨by omega,hx.mono (by omega),by omega,fun _ _=>rfl,fun _=>.inl rfl,acU,.start,trivial⟩)<|?_;rintro⟨i,ch,li,C,ni,D,N⟩ mu n ⟨hP,hG,acV,XA,XB,X,I3,_⟩;simp only [CA,NA] at n hP hG acV XA XB X I3 ⊢;refine(aN) (fun JE=>?_) fun JE=>?_
  ·
   have acW:=((As.gr n.g1)).len
   simp at JE
   have z:i<l.length:=by omega
   have W:=hs _ (List.getElem_mem z);refine cS ?_;obtain⟨ia,lP,lk,ck,gP,B,e5,e6⟩:=Rd.at (As.gr n.g7) z;have B:=RR.bN B;subst B;have g:=n.fg e6 e5;refine bz ?_;refine WP .r (PV.ei Gb ck rfl rfl (by omega))<|(aT) AJ (As.ma g.g0)<|(ff) g fun Rq oL Ls aaF gJ=>?_;refine(cD) H8 gJ fun uL JB Cs hJ=>?_;refine aO ?_;refine nx ?_;refine WP .r (PV.xM Gb (i:=i+1) (As.gr hJ.g9) rfl rfl (by omega))<|cL ?_;have fA:=hJ.fr (SR.drop (i:=i+1) (As.gr hJ.g9) (by omega));refine bz ?_;refine WC.bd (σ:=Nat × Bool) (dm:=fun(q,R)=>[(1,.slice al nl b),(2,.pointer (some ⟨b2,0,none⟩)),(4,.pointer (some ⟨b4,0,none⟩)),(10,.pointer (some ⟨L,0,none⟩)),(11,.bool ch),(13,.pointer (some ⟨Rq,0,none⟩)),(14,.bool R),(70,.slice al nl b),(71,.int .i64 (nl:Int)),(72,.int .i64 (i:Int)),(80,.slice (mz al (i+1) 3 b) (nl - (i+1)) (b - (i+1))),(81,.int .i64 ((nl - (i+1):Nat):Int)),(82,.int .i64 (q:Int))]) (F:=fun(q,R)=>[]) (I:=fun(q,R)=>(q≤nl - (i+1))∧(q=0→R=true)∧True) (μ:=fun(q,R)=>nl - (i+1) - q) (0,true) (fA) Sub.t (⟨by omega,fun _=>rfl,trivial⟩)<|?_;rintro⟨q,R⟩ pB Y ⟨hq,hla,_⟩;simp only [CA,NA] at Y hq hla ⊢;refine(aN) (fun g83=>?_) fun g83=>?_
   ·
    simp at g83
    have Ql:q<(l.drop (i+1)).length:=by rw [List.length_drop];omega
    refine cS ?_;obtain⟨nL,DB,Bg,fU,rI,oa,py,mT⟩:=Rd.at (As.gr Y.g0) Ql;have oa:=RR.bN oa;subst oa;have H:=Y.fg mT py;refine nx ?_;refine WP .r (PV.ei Gb fU rfl rfl (by omega))<|(aT) AJ (As.ma H.g0)<|(ff) H fun Xi sD Lr PW fc=>?_;refine(cD) H8 fc fun Bp Rl Rm S=>?_;refine bz ?_;have o:=S;refine WC.iM (σ:=Bool) [] (fun Qe=>[(1,.slice al nl b),(2,.pointer (some ⟨b2,0,none⟩)),(4,.pointer (some ⟨b4,0,none⟩)),(10,.pointer (some ⟨L,0,none⟩)),(11,.bool ch),(13,.pointer (some ⟨Rq,0,none⟩)),(14,.bool Qe),(70,.slice al nl b),(71,.int .i64 (nl:Int)),(72,.int .i64 (i:Int)),(80,.slice (mz al (i+1) 3 b) (nl - (i+1)) (b - (i+1))),(81,.int .i64 ((nl - (i+1):Nat):Int)),(82,.int .i64 (q:Int))]) (fun Qe=>[]) (fun Qe=>True) o ?_ ?_
    ·
     refine(bW) (fun E1=>?_) (fun E1=>?_)
     ·
      refine(il) ak o.b0<|(il) ak o.b3<|?_;refine WP .r (PV.Hg ft (p:=(l.drop (i+1))[q].key) (q:=l[i].key) rfl rfl)<|cL ?_;exact lY (_) ⟨o,trivial⟩
     refine iC ?_;exact lY (_) ⟨o,trivial⟩
    rintro Qe y8 s _;simp only [CA,NA] at s ⊢;refine gw ?_;refine dY (q+1,_) ⟨s.drop.drop,⟨by omega,fun h=>absurd h (Nat.succ_ne_zero _),trivial⟩⟩
   skip
   refine eP ?_;refine WC.cI (t:=105) (v:=.bool (!R || decide ((bE x.ad l[i].key).value=l[i].value))) Y ?_<|?_
   ·
    have ajJ:=Y.cj;refine WC.cJ (m:=9) (E:=bK [(6,fun v _=>v=.string (bE x.ad l[i].key).value)]) Y (aS (⟨fun _ _ _ _ _ _ _ h=>h,trivial⟩)) mixed (by kernel_rfl)<|(jf) (fun g97=>?_) (fun g97=>?_)
    ·
     refine(cG) ?_;rintro sD ⟨VK,H⟩ _;exact(br) (tG g97) (H)
    refine(gx) aJ St.g6<|(vE) ak St.g1<|?_;refine DW.c0 (fun wx hC hF=>qx (x:=x) (k:=l[i].key) (As.gr hC.2.g8) (As.gr hC.2.g7))<|(gT) eY St.g1<|(cG)<|?_;rintro sD ⟨VK,H⟩ ⟨_,_⟩;exact(br) (tG g97) (H)
   intro sD H;refine(aN) (fun yO=>?_) fun yO=>?_
   ·
    refine iC ?_;refine dY (i+1,ch,li,C,ni,D,N) ⟨H.drop.drop.drop,⟨by omega,hG,by show li.length≤x.ad.length+(i+1);omega,XA,XB,X,I3.skip z (fun e=>hla (by omega)) yO,trivial⟩⟩
   refine aO ?_;refine(aU) ji H.b3<|cS ?_;have fc:=H.df RR.az 90 4;refine WC.bd (σ:=Nat × Bool × (List bU) × (Option Addr) × Nat × Nat) (dm:=fun(q,put,acc,d,a,f)=>[(1,.slice al nl b),(2,.pointer (some ⟨b2,0,none⟩)),(4,.pointer (some ⟨b4,0,none⟩)),(10,.pointer (some ⟨L,0,none⟩)),(11,.bool true),(13,.pointer (some ⟨Rq,0,none⟩)),(17,.slice d a f),(18,.bool put),(70,.slice al nl b),(71,.int .i64 (nl:Int)),(72,.int .i64 (i:Int)),(107,.slice C ni D),(108,.int .i64 (ni:Int)),(109,.int .i64 (q:Int))]) (F:=fun(q,put,acc,d,a,f)=>[As.os RR.az 90 4 d a f (acc)]) (I:=fun(q,put,acc,d,a,f)=>(q≤li.length)∧(acc++fk (⟨l[i].key,l[i].value,x.ab+1⟩:bU) (li.drop q) put=fk (⟨l[i].key,l[i].value,x.ab+1⟩:bU) li false)∧True) (μ:=fun(q,put,acc,d,a,f)=>li.length - q) (0,false,[],none,0,0) (fc) Sub.t (⟨by omega,rfl,trivial⟩)<|?_;rintro⟨q,put,acc,d,a,f⟩ Bp S ⟨hq,O,_⟩;simp only [CA,NA] at S hq O ⊢;have VL:=Kb O;have acY:=((As.gs S.g0)).len;refine(aN) (fun nM=>?_) fun nM=>?_
   ·
    simp at nM
    have Ql:q<li.length:=by omega
    have Gp:=Ka Ql O
    dsimp only at Gp
    refine cS ?_;obtain⟨Ll,ajK,aaR,n9,UP,E0,MP,VM⟩:=Rd.at (As.gr S.g5) Ql;have E0:=RR.bN E0;subst E0;have o:=S.fg VM MP;refine nx ?_;refine WP .r (PV.ei pr n9 rfl rfl (by omega))<|(aT) lj (As.ma o.g0)<|(ff) o fun W8 y8 acZ ac0 s=>?_;refine(cD) yn s fun Gs Rn Ro T=>?_;refine(il) ak T.b0<|(il) ak T.b4<|(dH) (jA (k:=li[q].key) (q:=l[i].key)) T fun Ix s20 sk=>?_;refine cS ?_;have qD:=sk;refine WC.iM (σ:=Bool) [] (fun GJ=>[(1,.slice al nl b),(2,.pointer (some ⟨b2,0,none⟩)),(4,.pointer (some ⟨b4,0,none⟩)),(10,.pointer (some ⟨L,0,none⟩)),(11,.bool true),(13,.pointer (some ⟨Rq,0,none⟩)),(17,.slice d a f),(18,.bool put),(20,.pointer (some ⟨W8,0,none⟩)),(21,.int .i64 (bp li[q].key l[i].key)),(70,.slice al nl b),(71,.int .i64 (nl:Int)),(72,.int .i64 (i:Int)),(107,.slice C ni D),(108,.int .i64 (ni:Int)),(109,.int .i64 (q:Int)),(123,.bool GJ)]) (fun GJ=>[]) (fun GJ=>(GJ=(decide (0≤bp li[q].key l[i].key) && !put))∧True) qD ?_ ?_
    ·
     refine(bW) (fun QD=>?_) (fun QD=>?_)
     ·
      refine cX ?_;exact lY (!put) ⟨qD,⟨by rw [decide_eq_true (show 0≤bp li[q].key l[i].key by simp at QD;omega)];rfl,trivial⟩⟩
     refine cX ?_;exact lY (false) ⟨qD,⟨by rw [decide_eq_false (show ¬0≤bp li[q].key l[i].key by simp at QD;omega)];rfl,trivial⟩⟩
    rintro GJ JC lq ⟨QE,_⟩;simp only [CA,NA] at lq QE ⊢;refine nx ?_;have lx:=lq.p2;refine WC.iM (σ:=Bool × (List bU) × (Option Addr) × Nat × Nat) [_] (fun(U,j,d,a,f)=>[(1,.slice al nl b),(2,.pointer (some ⟨b2,0,none⟩)),(4,.pointer (some ⟨b4,0,none⟩)),(10,.pointer (some ⟨L,0,none⟩)),(11,.bool true),(13,.pointer (some ⟨Rq,0,none⟩)),(17,.slice d a f),(18,.bool U),(20,.pointer (some ⟨W8,0,none⟩)),(21,.int .i64 (bp li[q].key l[i].key)),(70,.slice al nl b),(71,.int .i64 (nl:Int)),(72,.int .i64 (i:Int)),(107,.slice C ni D),(108,.int .i64 (ni:Int)),(109,.int .i64 (q:Int))]) (fun(U,j,d,a,f)=>[As.os RR.az 90 4 d a f (j)]) (fun(U,j,d,a,f)=>(j++(if bp li[q].key l[i].key=0 then [] else [li[q]])++fk (⟨l[i].key,l[i].value,x.ab+1⟩:bU) (li.drop (q+1)) U=fk (⟨l[i].key,l[i].value,x.ab+1⟩:bU) li false)∧True) lx ?_ ?_
    ·
     refine(aN) (fun DL=>?_) fun DL=>?_
     ·
      refine(il) ak lx.b4<|(aU) eY lx.b4<|(aU) aK (cC.range (As.gb lx.g6))<|?_;refine WP .r (PV.bs (us:=(⟨l[i].key,l[i].value,x.ab+1⟩:bU).cells) KC rfl rfl rfl)<|?_;refine WL.go rfl (OX.aP (us:=(⟨l[i].key,l[i].value,x.ab+1⟩:bU).cells) Dc rfl rfl rfl rfl fun Qo MU VN VO=>?_);have P:=lx.dy VN VO;refine WL.ap rfl rfl P.p1 (SR.dn (A:=fun _=>True) (x:=(⟨l[i].key,l[i].value,x.ab+1⟩:bU)) (As.gb P.g0) trivial rfl (by simp [bU.cells,Value.oneCell']) rfl) fun ac1 VP Qf afQ afR nO=>?_;refine cL ?_;exact lY (true,acc++[(⟨l[i].key,l[i].value,x.ab+1⟩:bU)],ac1,(a+1),VP) ⟨nO.p1.drop,⟨by have h2:(decide (0≤bp li[q].key l[i].key) && !put)=true:=(by rw [← QE];simpa using DL);have h3:(put || decide (0≤bp li[q].key l[i].key))=true:=(by revert h2;cases put <;> simp);rw [if_pos h2,h3] at Gp;exact Gp,trivial⟩⟩
     refine nx ?_;exact lY (put,acc,d,a,f) ⟨lx,⟨by have h2:(decide (0≤bp li[q].key l[i].key) && !put)=false:=(by rw [← QE];simpa using DL);have h3:(put || decide (0≤bp li[q].key l[i].key))=put:=(by revert h2;cases put <;> simp);rw [if_neg (by rw [h2];simp),h3,List.append_nil] at Gp;exact Gp,trivial⟩⟩
    rintro⟨U,j,d,a,f⟩ MU P ⟨B4,_⟩;simp only [CA,NA] at P B4 ⊢
    have afS:j.length≤li.length+1:=by have h1:=congrArg List.length B4;rw [List.length_append,List.length_append] at h1;have:=mG (⟨l[i].key,l[i].value,x.ab+1⟩:bU) li false;omega
    have afT:=((As.gs P.g0)).len;refine(aN) (fun yR=>?_) fun yR=>?_
    ·
     simp at yR
     refine(aT) lj P.b1<|?_;refine WL.go rfl (OX.aP (us:=li[q].cells) Dc rfl rfl rfl rfl fun ajL Qf VQ VR=>?_);have nO:=P.dy VQ VR;refine WL.ap rfl rfl nO.p1 (SR.dn (A:=fun _=>True) (x:=li[q]) (As.gb nO.g0) trivial rfl (by simp [bU.cells,Value.oneCell']) rfl) fun a139 VS Qg afU afV sn=>?_;refine iC ?_;refine dY (q+1,U,j++[li[q]],a139,(a+1),VS) ⟨sn.p1.drop.p1.drop.p1.drop,⟨by omega,by rw [← B4,if_neg yR],trivial⟩⟩
    simp at yR
    refine eP ?_;refine dY (q+1,U,j,d,a,f) ⟨P.p1.drop.p1.drop,⟨by omega,by rw [← B4,if_pos yR,List.append_nil],trivial⟩⟩
   simp at nM
   rw [List.drop_eq_nil_of_le (by omega)] at O;refine aO ?_;have o:=S;refine WC.iM (σ:=(List bU) × (Option Addr) × Nat × Nat) [_] (fun(j,d,a,f)=>[(1,.slice al nl b),(2,.pointer (some ⟨b2,0,none⟩)),(4,.pointer (some ⟨b4,0,none⟩)),(10,.pointer (some ⟨L,0,none⟩)),(11,.bool true),(17,.slice d a f),(70,.slice al nl b),(71,.int .i64 (nl:Int)),(72,.int .i64 (i:Int))]) (fun(j,d,a,f)=>[As.os RR.az 90 4 d a f (j)]) (fun(j,d,a,f)=>(j=fk (⟨l[i].key,l[i].value,x.ab+1⟩:bU) li false)∧True) o ?_ ?_
   ·
    refine(aN) (fun QF=>?_) fun QF=>?_
    ·
     refine(il) ak o.b2<|(aU) eY o.b2<|(aU) aK o.b4<|?_;refine WP .r (PV.bs (us:=(⟨l[i].key,l[i].value,x.ab+1⟩:bU).cells) KC rfl rfl rfl)<|?_;refine WL.go rfl (OX.aP (us:=(⟨l[i].key,l[i].value,x.ab+1⟩:bU).cells) Dc rfl rfl rfl rfl fun ajM y8 VT VU=>?_);have s:=o.dy VT VU;refine WL.ap rfl rfl s.p1 (SR.dn (A:=fun _=>True) (x:=(⟨l[i].key,l[i].value,x.ab+1⟩:bU)) (As.gb s.g0) trivial rfl (by simp [bU.cells,Value.oneCell']) rfl) fun a152 VV Gs afW afX T=>?_;refine bz ?_;exact lY (acc++[(⟨l[i].key,l[i].value,x.ab+1⟩:bU)],a152,(a+1),VV) ⟨T.p1.drop,⟨by have hp:put=false:=(by simpa using QF);rw [hp] at O;exact O,trivial⟩⟩
    refine nx ?_;exact lY (acc,d,a,f) ⟨o,⟨by have hp:put=true:=(by simpa using QF);rw [hp] at O;exact(List.append_nil acc).symm.trans O,trivial⟩⟩
   rintro⟨j,d,a,f⟩ y8 s ⟨V,_⟩;simp only [CA,NA] at s V ⊢;refine nx ?_;have VL:=mG (⟨l[i].key,l[i].value,x.ab+1⟩:bU) li false;have acY:=((As.gs s.g0)).len;rw [← V] at VL;have QG:=St.fresh s;have T:=s.a8 (by omega);have uP:=X.trans (bA.dx (F:=fun x=>x∈aG d) QG) (Nat.le_refl _);have sk:=T.p5.drop;refine cL ?_;refine WL.s1 sk.p4 fun Gs _ qD=>?_;refine eP ?_;refine dY (i+1,true,j,d,a,f,_) ⟨qD.p2.drop.p2.drop.p2.drop,⟨by omega,by rw [V];exact hG.put W (by omega),by show j.length≤x.ad.length+(i+1);rw [V];have:=mG (⟨l[i].key,l[i].value,x.ab+1⟩:bU) li false;omega,fun k hk=>by rw [V,nD (hk _ (List.getElem_mem z))];exact XA k hk,by rw [V];exact Kk XB _ rfl,uP,by rw [V];exact I3.put z yO,trivial⟩⟩
  have acW:=((As.gr n.g1)).len
  simp at JE
  refine aO ?_;refine(aN) (fun ac2=>?_) fun ac2=>?_
  ·
   refine(aT) aJ n.b3<|(cD) eJ n.p6 fun oL Xg Xh g=>?_;refine gw ?_;refine EX.fL rfl (RS.cell aJ rfl g.b0 rfl<|RS.tmp rfl<|RS.nil) rfl<|?_;exact⟨x,_,_,_,_,_,_,_,_,rfl,rfl,Int.le_refl _,EZ,hx,h7a,by omega,.refl _ _,I3.same (by omega) (by simp_all),fun _=>rfl,(As.gr g.g6),(As.gr g.g5),X,(St.wk g.k0)⟩
  refine(aU) ji n.b0<|(aN) (fun QH=>?_) fun QH=>?_
  ·
   refine(aT) aJ n.b3<|(cD) eJ n.p6 fun oL ss8 hs8 g=>?_;refine gw ?_;refine EX.fL rfl (RS.cell aJ rfl g.b0 rfl<|RS.tmp rfl<|RS.nil) rfl<|?_;exact absurd QH (by have:=hG.len;simp;omega)
  refine(aU) aK n.b0<|(aN) (fun LM=>?_) fun LM=>?_
  ·
   refine(aT) aJ n.b3<|(cD) eJ n.p6 fun oL ss9 Ve g=>?_;refine gw ?_;refine EX.fL rfl (RS.cell aJ rfl g.b0 rfl<|RS.tmp rfl<|RS.nil) rfl<|?_;exact⟨x,_,_,_,_,_,_,_,_,rfl,rfl,Int.le_refl _,EZ,hx,h7a,by omega,.refl _ _,⟨fun c _ _ h=>by(simp at LM;omega),fun _=>.inl rfl,fun _=>.inl rfl⟩,fun h=>by(simp at LM;omega),(As.gr g.g6),(As.gr g.g5),X,(St.wk g.k0)⟩
  refine(aT) aJ n.b0<|(cD) eJ n.p6 fun oL ac3 ac4 g=>?_;refine cX ?_;refine EX.fL rfl (RS.cell aJ rfl g.b0 rfl<|RS.tmp rfl<|RS.nil) rfl<|?_;exact⟨⟨x.ab+1,li,x.ah⟩,_,_,_,_,_,_,_,_,rfl,rfl,by show x.ab≤x.ab+1;omega,by simp at LM;show x.ab+1≤_;omega,hG,by simp at QH;show li.length≤64;omega,Int.le_refl _,⟨XA,.inr ⟨rfl,XB⟩⟩,I3.done (by omega),fun _=>rfl,(As.gr g.g2),(As.gr g.g3),X,(St.wk g.k0)⟩
 -- Dy mS C49
theorem pN{{x:cA}} {{l:List Change}} {{a1 a2 al:Option Addr}} {{n1 e1 n2 e2 nl b:Nat}} {{w:World}} {{M Z:Nat→Prop}} (d:St w M Z w []) (hi:Rd RR.az 4 Z w a1 n1 e1 x.ad) (hr:Rd RR.ed 8 Z w a2 n2 e2 x.ah) (hl:Rd RR.bT 3 Z w al nl b l) (hb:eU x) (f:iO x.ab x.ad) (h:∀c∈l,c.small) (i:l.length≤32):Calls prog 26 #[.agg (x.row a1 n1 e1 a2 n2 e2).toArray,.slice al nl b] w fun e w'=>∃(y:cA) (b1 b2:Option Addr) (m1 d1 m2 d2:Nat) (a:Int) (Z':Nat→Prop),e=.returned (.tuple #[.agg (y.row b1 m1 d1 b2 m2 d2).toArray,.int .i64 a])∧y.ah=x.ah∧x.ab≤y.ab∧y.ab≤1073741824∧iO y.ab y.ad∧y.ad.length≤64∧y.ab≤x.ab+1∧SH x l y∧(x.ab+1≤1073741824→a=0)∧Rd RR.az 4 Z' w' b1 m1 d1 y.ad∧Rd RR.ed 8 Z' w' b2 m2 d2 y.ah∧bA w.heap.size Z Z'∧St w M Z' w' []:=
 (yX d hi hr hl hb f h i).mono fun _ _ ⟨y,b1,b2,m1,d1,m2,d2,a,Z',g1,g2,g3,g4,g5,g6,g7,g8,_,g⟩=>⟨y,b1,b2,m1,d1,m2,d2,a,Z',g1,g2,g3,g4,g5,g6,g7,g8,g⟩
end Go.Rc

