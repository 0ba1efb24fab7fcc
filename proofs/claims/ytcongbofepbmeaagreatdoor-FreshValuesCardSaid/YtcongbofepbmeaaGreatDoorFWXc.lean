/- Walks over the program, part WXc. Conditions: as each theorem says. -/
import Derived.Test.YtcongbofepbmeaaGreatDoorFFacts
import Derived.Test.YtcongbofepbmeaaGreatDoorFWZm
import Derived.Test.YtcongbofepbmeaaGreatDoorFWYt
import Derived.Test.YtcongbofepbmeaaGreatDoorFBh
set_option linter.all false
namespace Go.Rc
open Go Go.Proofs Go.Proofs.Tryz
variable {n:Int}{w:World}{r:Nat}
set_option maxHeartbeats 400000
theorem jY{m u:Int}(a:m≤4611686018427387904) (hu:(if m<1 then 0 else n % m)=u):CR prog 8 #[.int .i64 n,.int .i64 m] w (.int .i64 u):=by
 subst hu;exact qu a
open Classical in
noncomputable def u3(aa:List aA):Bool:=decide (aq aa)
theorem yN{aa:List aA}{A:Nat→Prop}{a:Option Addr}{c:Nat}(hr:dX A w a r c aa):CR prog 21 #[.slice a r c] w (.bool (u3 aa)):=by
 refine(mR hr).mono<|?_;rintro e w' ⟨b,rfl,hb,hc⟩;refine⟨?_,hc⟩
 have:b=u3 aa:=by
  rw [Bool.eq_iff_iff,hb]
  unfold u3
  simp
 rw [this]
set_option maxHeartbeats 8000000 in
set_option maxRecDepth 8000 in
theorem pw{l:List Int}{rul:List aA}{x:cA}{k:Key}{what:Int}{ar a1 a2 al:Option Addr}{cr n1 e1 n2 e2 nl cl:Nat}{M Z:Nat→Prop}(gg:St w M Z w []) (ht:gV prog Z w) (hu:Rd RR.dp 4 Z w ar r cr rul) (hri:Rd RR.az 4 Z w a1 n1 e1 x.ad) (hrr:Rd RR.C4 8 Z w a2 n2 e2 x.ah) (hl:Rd RR.int 1 Z w al nl cl l) (hzx:Jq x) (hkz:k.text.size≤140737488355328) (hw:-9223372036854775808≤what∧what≤9223372036854775807):CR prog 3 #[.agg (x.row a1 n1 e1 a2 n2 e2).toArray,.slice ar r cr,.slice al nl cl,k.val,.int .i64 n,.int .i64 what] w (.bool true):=by
 have aiS:=hu.len;have aiT:=hri.len;have aiU:=hrr.len;refine enter func3 rfl ntmps3 rfl<|?_;have aR:=St.rb gg;have st1:=aR.fr hu;have st2:=st1.fr hri;have j5:=st2.fr hrr;have i6:=j5.fr hl;have jD:=i6.fact (B:=As.fz (FZ.zV prog)) ht (fun _ hx=>hx);refine(dE) jD fun b6 w1 Dr Is jC=>?_;refine(dE) jC fun b9 w2 Xv Xw V=>?_;refine cS ?_;refine WC.cI (t:=63) (v:=.bool (decide (40<n1) || (decide (20<n2) || (decide (30<r) || (!decide (nl≤400) || (decide (1≤k.kind) && decide (k.kind≤22))))))) V ?_<|?_
 ·
  refine(aU) ji V.b1<|(bW) (fun c=>?_) (fun c=>?_)
  ·
   refine aO ?_;refine aO ?_;exact(br) (by first | (simp only [c];done) | (simp at c ⊢;simp_all;done) | (simp at c ⊢;omega) | (simp at c ⊢;grind)) (V)
  refine(aU) dL V.b1<|(bW) (fun e=>?_) (fun e=>?_)
  ·
   refine aO ?_;exact(br) (by first | (simp only [c,e];done) | (simp at c e ⊢;simp_all;done) | (simp at c e ⊢;omega) | (simp at c e ⊢;grind)) (V)
  refine(bW) (fun f=>?_) (fun f=>?_)
  ·
   refine aO ?_;exact(br) (by first | (simp only [c,e,f];done) | (simp at c e f ⊢;simp_all;done) | (simp at c e f ⊢;omega) | (simp at c e f ⊢;grind)) (V)
  refine(dH) (Ba) V fun w3 s3 L=>?_;refine(bW) (fun A=>?_) (fun A=>?_)
  ·
   exact(br) (by first | (simp only [c,e,f,A];done) | (simp at c e f A ⊢;simp_all;done) | (simp at c e f A ⊢;omega) | (simp at c e f A ⊢;grind)) (L)
  refine(aU) aK L.b0<|(bW) (fun N=>?_) (fun N=>?_)
  ·
   refine(aU) aK L.b0<|?_;exact(br) (by first | (simp only [c,e,f,A,N];done) | (simp at c e f A N ⊢;simp_all;done) | (simp at c e f A N ⊢;omega) | (simp at c e f A N ⊢;grind)) (L)
  exact(br) (by first | (simp only [c,e,f,A,N];done) | (simp at c e f A N ⊢;simp_all;done) | (simp at c e f A N ⊢;omega) | (simp at c e f A N ⊢;grind)) (L)
 intro w3 L;refine(aN) (fun g63=>?_) fun g63=>?_
 ·
  skip
  refine bz ?_;have O:=L;refine(bL) W2 (iH O.e0 (As.gf O.g2)) ?_;rintro _ w4 ⟨rfl,mj⟩;have ef:=St.lr O mj;refine(bm) ?_;exact⟨rfl,(St.cg ef)⟩
 ·
  have Ux:n1≤40∧n2≤20∧r≤30∧nl≤400:=by simp at g63;omega
  have Xn:nl≤400:=Ux.2.2.2;refine(aU) dL L.b1<|cS ?_;refine WC.bd (σ:=Nat) (dm:=fun j=>[(1,.slice ar r cr),(2,.slice al nl cl),(4,.int .i64 n),(5,.int .i64 what),(6,.pointer (some ⟨b6,0,none⟩)),(9,.pointer (some ⟨b9,0,none⟩)),(66,.slice a2 n2 e2),(67,.int .i64 (n2:Int)),(68,.int .i64 (j:Int))]) (F:=fun j=>[]) (I:=fun j=>(j≤n2)∧(∀i z,i<j→x.ah[i]?=some z→z.reads.length≤100)∧True) (μ:=fun j=>n2 - j) (0) (L) Sub.t (⟨by omega,fun i z h=>by omega,trivial⟩)<|?_;rintro j w4 O ⟨hj,zL,_⟩;simp only [CA,NA] at O hj zL ⊢;refine(aN) (fun g69=>?_) fun g69=>?_
  ·
   simp at g69
   have Bq:j<x.ah.length:=by omega
   refine cS ?_;obtain⟨ia,lP,lk,ck,gP,fT,e5,e6⟩:=Rd.at (As.gr O.g4) Bq;obtain⟨q1,q2,W,rfl,Gj⟩:=fT;have ef:=O.fg e6 e5;have Ql:=Gj.len;refine nx ?_;refine WP .r (PV.ei iy ck rfl rfl (by omega))<|(aT) dA (As.ma ef.g0)<|(ff) ef fun b14 w5 Lq GF dw=>?_;refine(cD) gp dw fun w6 ko ly T=>?_;refine(aU) eZ T.b0<|(aN) (fun g75=>?_) fun g75=>?_
   ·
    skip
    refine bz ?_;have J:=T;refine(bL) W2 (iH J.e0 (As.gf J.g4)) ?_;rintro _ w7 ⟨rfl,jb⟩;have cF:=St.lr J jb;refine(bm) ?_;exact⟨rfl,(St.cg cF)⟩
   simp at g75
   refine eP ?_;refine dY (j+1) ⟨T.drop.drop,⟨by omega,bO (P:=fun _ (z:Rec)=>z.reads.length≤100) Bq zL (by omega),trivial⟩⟩
  simp at g69
  have h4a:∀z∈x.ah,z.reads.length≤4000:=fun z hz=>by
   obtain⟨i,hi,rfl⟩:=List.getElem_of_mem hz
   have:=zL i _ (by omega) (ai hi)
   omega
  have hrx:=Rd.C4 (As.gr O.g4) h4a;have ef:=O.fr (hrx);have dw:=ef.p5.drop;refine aO ?_;refine bz ?_;refine WC.bd (σ:=Nat) (dm:=fun j=>[(1,.slice ar r cr),(2,.slice al nl cl),(4,.int .i64 n),(5,.int .i64 what),(6,.pointer (some ⟨b6,0,none⟩)),(9,.pointer (some ⟨b9,0,none⟩)),(78,.slice ar r cr),(79,.int .i64 (r:Int)),(80,.int .i64 (j:Int))]) (F:=fun j=>[]) (I:=fun j=>(j≤r)∧True) (μ:=fun j=>r - j) (0) (dw) Sub.t (⟨by omega,trivial⟩)<|?_;rintro j w5 T ⟨hj,_⟩;simp only [CA,NA] at T hj ⊢;refine(aN) (fun g81=>?_) fun g81=>?_
  ·
   simp at g81
   have Bq:j<rul.length:=by omega
   refine cS ?_;obtain⟨nL,DB,Bg,fU,rI,oa,py,mT⟩:=Rd.at (As.gr T.g6) Bq;obtain⟨q1,q2,W,rfl,Gj⟩:=oa;have J:=T.fg mT py;refine nx ?_;refine WP .r (PV.ei gZ fU rfl rfl (by omega))<|(aT) nY (As.ma J.g0)<|(ff) J fun Xi w6 Lr PW cF=>?_;refine(cD) ym cF fun w7 r8 mr X=>?_;refine(aU) ig X.b0<|(aN) (fun E1=>?_) fun E1=>?_
   ·
    skip
    refine bz ?_;have fJ:=X;refine(bL) W2 (iH fJ.e0 (As.gf fJ.g5)) ?_;rintro _ w8 ⟨rfl,mi⟩;have dW:=St.lr fJ mi;refine(bm) ?_;exact⟨rfl,(St.cg dW)⟩
   simp at E1
   refine eP ?_;refine dY (j+1) ⟨X.drop.drop,⟨by omega,trivial⟩⟩
  simp at g81
  refine iC ?_;have J:=T;refine(bL) cf6 (BM J.e0 (As.gr J.g4) Xn) ?_;rintro _ w6 ⟨d,rfl,IC⟩;have cF:=St.lr J IC;refine gw ?_;have X:=cF;refine(bL) cf7 (BN X.e1 (As.gf X.g4) (m:=4) (by omega) (by omega)) ?_;rintro _ w7 ⟨aa,y,ra,y1,y2,rn,rc,m1,Xx,m2,Xy,Z1,rfl,hR0,MF,hr8,hlc,SC,Jn,hyi,hyr,y9,jb⟩;have fJ:=St.lv X jb y9;have dW:=fJ.drop;have fH:=dW.p4.drop;have dV:=fH.fr (Jn);have ew:=dV.fr (hyi);have gq:=ew.fr (hyr);have Lx:=((As.gr gq.g2)).len;have hgb:=hlc.lb.Ep;have hy0:0≤y.ab:=hgb.1;have hy1:y.ab≤1073741824:=hgb.2.1;have hzy:=hgb.szB;have ai0:aa.length≤24:=hR0.len;refine(ff) gq fun Jz w8 Gx Lt dK=>?_;refine(cD) eJ dK fun w9 Bc wQ gJ=>?_;refine(dH) (qu (n:=what) (m:=6) (by omega)) gJ fun jB s10 hJ=>?_;refine kQ ?_;have Q:=hJ;refine WC.iM (σ:=(List aA) × (Option Addr) × Nat × Nat × cA × (Option Addr) × Nat × Nat × (Option Addr) × Nat × Nat) [_] (fun(ls,sa,R,sc,p,ba,bn,bc,ca,cn,cc)=>[(4,.int .i64 n),(9,.pointer (some ⟨b9,0,none⟩)),(18,.slice sa R sc),(19,.pointer (some ⟨Jz,0,none⟩))]) (fun(ls,sa,R,sc,p,ba,bn,bc,ca,cn,cc)=>[As.blk Jz 25 (p.row ba bn bc ca cn cc),As.ro RR.dp 4 sa R sc ls,As.ro RR.az 4 ba bn bc p.ad,As.ro RR.ed 8 ca cn cc p.ah]) (fun(ls,sa,R,sc,p,ba,bn,bc,ca,cn,cc)=>(Jq p)∧(ls.length≤30)∧True) Q ?_ ?_
  ·
   refine(aN) (fun g99=>?_) fun g99=>?_
   ·
    refine cX ?_;have C:=Q.fr ((As.gr Q.g9));have G:=C.fr ((As.gr C.g3));have H:=G.fr ((As.gr G.g3));exact lY (rul,ar,r,cr,y,y1,m1,Xx,y2,m2,Xy) ⟨H.p1.p2.p3,⟨hzy,by omega,trivial⟩⟩
   refine(aN) (fun ab4=>?_) fun ab4=>?_
   ·
    refine(aT) aJ (cC.range (As.gb Q.g6))<|(cD) eJ Q fun iV Lg Lh C=>?_;refine nx ?_;have G:=C.fr ((As.gr C.g3));have H:=G.fr ((As.gr G.g9));have mU:=H.fr ((As.gr H.g6));exact lY (aa,ra,rn,rc,x,a1,n1,e1,a2,n2,e2) ⟨mU.p1.p2.p3,⟨hzx,by omega,trivial⟩⟩
   refine(aN) (fun yO=>?_) fun yO=>?_
   ·
    have hq6:=SO hw;obtain⟨W,hq3⟩:∃q,(if (3:Int)<1 then 0 else what.tdiv 6 % 3)=q:=⟨_,rfl⟩
    have ai2:0≤W∧W≤2:=by rw [if_neg (by omega)] at hq3;omega
    have aap:=Q.cj;refine WC.cJ (m:=5) (E:=bK [(4,fun v _=>v=.int .i64 W)]) Q (aS (⟨fun _ _ _ _ _ _ _ h=>h,trivial⟩)) mixed (by kernel_rfl)<|(gT) aK St.g0<|nx ?_;refine DP .r (fun _ g=>PV.quo rfl rfl (by omega) hq6.1 hq6.2)<|?_;refine DW.c0 (fun Y g hF=>jY (n:=what.tdiv 6) (m:=3) (by omega) hq3)<|(cG) ?_;rintro iV ⟨UG,C⟩ ⟨_,_⟩;refine bz ?_;refine WL.s1 C fun mu _ G=>?_;refine nx ?_;have H:=G.sY (B:=As.blk Jz 25 ((⟨y.ab - W,y.ad,y.ah⟩:cA).row y1 m1 Xx y2 m2 Xy)) (rfl);have mU:=H.fr ((As.gr H.g3));have pH:=mU.fr ((As.gr mU.g3));have qE:=pH.fr ((As.gr pH.g3));exact lY (aa,ra,rn,rc,⟨y.ab - W,y.ad,y.ah⟩,y1,m1,Xx,y2,m2,Xy) ⟨qE.p1.p2.p3,⟨hzy,by omega,trivial⟩⟩
   refine nx ?_;have C:=Q.fr ((As.gr Q.g3));have G:=C.fr ((As.gr C.g3));have H:=G.fr ((As.gr G.g3));exact lY (aa,ra,rn,rc,y,y1,m1,Xx,y2,m2,Xy) ⟨H.p1.p2.p3,⟨hzy,by omega,trivial⟩⟩
  rintro⟨ls,sa,R,sc,p,ba,bn,bc,ca,cn,cc⟩ iV C ⟨JD,hls,_⟩;simp only [CA,NA] at C JD hls ⊢;have G:=C.Cq.drop;have H:=G.l9.drop;have mU:=H.p7.drop;have pH:=mU.p6.drop;have qE:=pH.p5.drop;have u6:=qE.p4.drop;have Rk:=((As.gr u6.g1)).len;refine cX ?_;obtain⟨u1,hu1⟩:∃u,(if (R:Int)+1<1 then 0 else n % ((R:Int)+1))=u:=⟨_,rfl⟩;obtain⟨u2,Ey⟩:∃u,(if (2:Int)<1 then 0 else n % 2)=u:=⟨_,rfl⟩;obtain⟨U,Sj⟩:∃u,(if (9:Int)<1 then 0 else n % 9)=u:=⟨_,rfl⟩;obtain⟨u4,hu4⟩:∃u,(if (6:Int)<1 then 0 else n % 6)=u:=⟨_,rfl⟩
  have ai6:0≤u2∧u2≤1:=by rw [if_neg (by omega)] at Ey;omega
  have ab5:0≤U∧U≤8:=by rw [if_neg (by omega)] at Sj;omega
  obtain⟨K4,hK4⟩:∃K:List Key,K=[k,aD ls u1,⟨31+u2,itoa U⟩,bH u4]:=⟨_,rfl⟩
  have ai7:K4.length=4:=by rw [hK4];rfl
  have ab7:=AB hK4 hkz ab5;refine WC.bY (m:=21) [] [6,7,9,12,13,16,17] [2,3,4,5,6,1,7,8,9,11,12,13,15,16,17,0,10,14,18,19,20] [(18,.sl 29 4 (k.cells++(aD ls u1).cells++(⟨31+u2,itoa U⟩:Key).cells++(bH u4).cells))] u6 (ao.k4 M0 M1 M2 M3<|ao.cons M4<|ao.cons M5<|ao.cons M6<|ao.nil) mixed (by kernel_rfl) (by kernel_rfl) rfl<|?_
  iterate 4 refine DG.a ?_
  refine(gi) (fun mu Rw GD sk pF=>?_);simp only [CA,NA] at sk;refine OX.call Rh rfl rfl ((jY (n:=n) (m:=(R:Int)+1) (by omega) hu1).mono ?_);rintro _ oL ⟨rfl,s13⟩;have qD:=sk.step s13;refine⟨_,rfl,s13.size,_,rfl,_,_,_,qD,aw.k4<|aw.k2<|aw.cons<|aw.nil,ao.k4 M0 M1 M2 M3<|ao.cons M4<|ao.cons M5<|ao.cons M6<|ao.nil,?_⟩;refine(gi) (fun uL R7x Vc lq IQ=>?_);simp only [CA,NA] at lq;refine OX.call O3 rfl rfl ((fS (n:=u1) (As.gr lq.g1)).mono ?_);rintro _ pB ⟨rfl,s15⟩;have lx:=lq.step s15;refine⟨_,rfl,s15.size,_,rfl,_,_,_,lx,aw.k4<|aw.k2<|aw.cons<|aw.nil,ao.k4 M0 M1 M2 M3<|ao.cons M4<|ao.cons M5<|ao.cons M6<|ao.nil,?_⟩;refine(gi) (fun sD Ru GC nN uT=>?_);simp only [CA,NA] at nN;refine OX.call Rh rfl rfl ((jY (n:=n) (m:=2) (by omega) Ey).mono ?_);rintro _ Bp ⟨rfl,Ry⟩;have nO:=nN.step Ry;refine⟨_,rfl,Ry.size,_,rfl,_,_,_,nO,aw.k4<|aw.k2<|aw.cons<|aw.nil,ao.k4 M0 M1 M2 M3<|ao.cons M4<|ao.cons M5<|ao.cons M6<|ao.nil,?_⟩;refine(gi) (fun y8 ab8 Vk sn Qm=>?_);simp only [CA,NA] at sn;refine OX.call Rh rfl rfl ((jY (n:=n) (m:=9) (by omega) Sj).mono ?_);rintro _ Gs ⟨rfl,UE⟩;have yP:=sn.step UE;refine⟨_,rfl,UE.size,_,rfl,_,_,_,yP,aw.k4<|aw.k2<|aw.cons<|aw.nil,ao.k4 M0 M1 M2 M3<|ao.cons M4<|ao.cons M5<|ao.cons M6<|ao.nil,?_⟩;refine(gi) (fun Ix Vb MT iB IP=>?_);simp only [CA,NA] at iB;refine OX.call Ia rfl rfl ((iA (n:=U) (As.gf iB.g6) (by omega) (by omega)).mono ?_);rintro _ JC ⟨rfl,s21⟩;have Qn:=iB.step s21;refine⟨_,rfl,s21.size,_,rfl,_,_,_,Qn,aw.k4<|aw.k2<|aw.cons<|aw.nil,ao.k4 M0 M1 M2 M3<|ao.cons M4<|ao.cons M5<|ao.cons M6<|ao.nil,?_⟩;refine(gi) (fun MU ai8 afp LK ab9=>?_);simp only [CA,NA] at LK;refine OX.call Rh rfl rfl ((jY (n:=n) (m:=6) (by omega) hu4).mono ?_);rintro _ Qf ⟨rfl,s23⟩;have mn:=LK.step s23;refine⟨_,rfl,s23.size,_,rfl,_,_,_,mn,aw.k4<|aw.k2<|aw.cons<|aw.nil,ao.k4 M0 M1 M2 M3<|ao.cons M4<|ao.cons M5<|ao.cons M6<|ao.nil,?_⟩;refine(gi) (fun Qg ai9 afr jd aca=>?_);simp only [CA,NA] at jd;refine OX.call K5 rfl rfl ((jV (n:=u4)).mono ?_);rintro _ Vh ⟨rfl,s25⟩;have IU:=jd.step s25;refine⟨_,rfl,s25.size,_,rfl,_,_,_,IU,aw.k4<|aw.k2<|aw.cons<|aw.nil,ao.k4 M0 M1 M2 M3<|ao.cons M4<|ao.cons M5<|ao.cons M6<|ao.nil,?_⟩;refine(kh) ak SV.g4<|?_;refine DG.a<|?_;refine DQ .r (fun Y Zx Rx _ zd Qd=>PV.bs (us:=[.int .i64 (31+u2),.string (itoa U)]) yk rfl rfl rfl)<|?_;refine DG.side (s:=.sl 29 4 (k.cells++(aD ls u1).cells++(⟨31+u2,itoa U⟩:Key).cells++(bH u4).cells)) rfl rfl rfl rfl rfl rfl (fun Y Zx Rx uS zd=>OX.aP (us:=(k.cells++(aD ls u1).cells++(⟨31+u2,itoa U⟩:Key).cells++(bH u4).cells)) OO rfl rfl rfl rfl fun b wy nw hb=>⟨nw.ext.size,_,rfl,⟨b,rfl⟩,zd.dy nw hb⟩)<|?_;rintro _ ⟨Qo,rfl⟩
  iterate 2 refine DG.a ?_
  refine(kZ) ?_;intro w26 UH qF;simp only [CM,NM,CA,NA,iL.it] at qF;refine WL.nil (EX.np ?_);have oN:=qF.sY (B:=As.blk Qo 29 (K4.map Key.cells).flatten) (by rw [hK4];rfl);have qG:=oN.p5.drop;have u7:=qG.p5.drop;refine bz ?_;refine WC.ie (σ:=Nat × (Nat→Prop)) (dm:=fun(i,Z5)=>[(18,.slice sa R sc),(19,.pointer (some ⟨Jz,0,none⟩)),(132,.slice (some ⟨Qo,0,none⟩) 4 4),(133,.int .i64 ((4:Nat):Int)),(134,.int .i64 (i:Int))]) (F:=fun(i,Z5)=>[]) (I:=fun(i,Z5)=>(i≤4)∧True) (μ:=fun(i,Z5)=>4 - i) (Zf:=fun(i,Z5)=>Z5) (0,_) (u7) Sub.t (⟨by omega,trivial⟩)<|?_;rintro⟨i,Z5⟩ w27 pI ⟨hi,_⟩;simp only [CA,NA] at pI hi ⊢;refine(aN) (fun yR=>?_) fun yR=>?_
  ·
   simp at yR
   have Gt:i<K4.length:=by omega
   obtain⟨o,hkx⟩:∃z,K4[i]=z:=⟨_,rfl⟩;have Qp:=ab7 o (hkx ▸ List.getElem_mem Gt);refine cS ?_;obtain⟨b_x,o_x,Xq,vX,_,hRx,IK,_⟩:=(HT (As.gb pI.g0) (by omega)).at (ai Gt);subst hRx;rw [hkx] at IK;refine nx ?_;refine WP .r (PV.ei eI vX rfl rfl (by omega))<|(aT) ak IK<|(ff) pI fun b21 w28 acb acd mq=>?_;refine(cD) gR mq fun w29 JB Cs qH=>?_;refine cX ?_;refine WC.cI (t:=145) (v:=.bool (decide (1≤o.kind) && decide (o.kind≤22))) qH ?_<|?_
   ·
    refine(aU) aK qH.b0<|(bW) (fun Qq=>?_) (fun Qq=>?_)
    ·
     refine(aU) aK qH.b0<|?_;exact(br) (tG Qq) (qH)
    exact(br) (tG Qq) (qH)
   intro w30 pJ;refine(aN) (fun Vl=>?_) fun Vl=>?_
   ·
    skip
    refine iC ?_;refine dY (i+1,_) ⟨pJ.drop,⟨by omega,trivial⟩⟩
   have D:cZ o:=by unfold cZ;simp at Vl;omega
   refine(aT) aJ pJ.b2<|(aT) ak pJ.b0<|?_;have qI:=pJ;refine(bL) O4 (u9 (x:=p) (k:=o) qI.e0 (As.gf qI.g6) D (As.gr qI.g3) (As.gr qI.g4) (As.gr qI.g5) JD Qp) ?_;rintro _ w31 ⟨rfl,Vm⟩;have BO:=St.lr qI Vm;refine(aT) aJ BO.b2<|(aT) ak BO.b0<|?_;have BP:=BO;refine(bL) YM (vd (x:=p) (k:=o) BP.e0 (As.gf BP.g6) D (As.gr BP.g3) (As.gr BP.g4) (As.gr BP.g5)) ?_;rintro _ w32 ⟨rfl,Vn⟩;have IV:=St.lr BP Vn;refine(aT) aJ IV.b2<|(aT) ak IV.b0<|?_;have sq:=IV;refine(bL) YN (ve (x:=p) (k:=o) sq.e0 (As.gf sq.g6) D (As.gr sq.g3) (As.gr sq.g4) (As.gr sq.g5) JD Qp) ?_;rintro _ w33 ⟨p1,p2,p3,Z6,rfl,yL,Vo⟩;have Qr:=St.lv sq Vo yL;have ajd:=((As.gs Qr.g0)).len;have GY:=tX (aa:=ls) (x:=p) D;have ace:=St.fresh Qr;have Qs:=Qr.a8 (by omega);refine(aT) aJ Qs.b3<|(aT) ak Qs.b1<|?_;have GG:=Qs;refine(bL) YO (vf (x:=p) (k:=o) GG.e0 (As.gf GG.g7) D (As.gr GG.g4) (As.gr GG.g5) (As.gr GG.g6)) ?_;rintro _ w34 ⟨t1,t2,t3,rfl,Vp⟩;have Qt:=St.lr GG Vp;have aje:=((As.gs Qt.g0)).len;have GY:=tX (aa:=ls) (x:=p) D;have acf:=St.fresh Qt;have Qu:=Qt.a8 (by omega);refine(aT) aJ Qu.b4<|(aT) ak Qu.b2<|?_;have GH:=Qu;refine(bL) Tf (vg (x:=p) (k:=o) GH.e0 (As.gf GH.g8) D (As.gr GH.g5) (As.gr GH.g6) (As.gr GH.g7) JD Qp) ?_;rintro _ w35 ⟨v1,v2,v3,L1,Z7,rfl,WV,DY,Vq⟩;have Qv:=St.lv GH Vq DY;have ajf:=((As.gs Qv.g0)).len;have hbl:=WV.len D;have acg:=St.fresh Qv;have Qw:=Qv.a8 (by omega);refine(aT) aJ Qw.b5<|(aT) ak Qw.b3<|?_;have GI:=Qw;refine(bL) YP (vh (x:=p) (k:=o) GI.e0 (As.gf GI.g9) D (As.gr GI.g6) (As.gr GI.g7) (As.gr GI.g8)) ?_;rintro _ w36 ⟨z1,z2,z3,L2,Z8,rfl,SA,LL,Vr⟩;have Qx:=St.lv GI Vr LL;have ajg:=((As.gs Qx.g0)).len;have Vs:=SA.len D;have ach:=St.fresh Qx;have Qy:=Qx.a8 (by omega);have aci:=WV.uniq SA;refine kQ ?_;refine WC.cI (t:=224) (v:=.bool false) Qy ?_<|?_
   ·
    have ajh:=Qy.cj;refine WC.cJ (m:=34) (E:=bK [(11,fun v _=>v=.bool true),(22,fun v _=>v=.bool true),(32,fun v _=>v=.string (jJ o))]) Qy (aS (⟨fun _ _ _ _ _ _ _ h=>h,⟨fun _ _ _ _ _ _ _ h=>h,⟨fun _ _ _ _ _ _ _ h=>h,trivial⟩⟩⟩)) mixed (by kernel_rfl)<|bz ?_;refine DP .r (fun _ g=>(PV.RM rfl rfl).cast (v':=.bool false) (congrArg Value.bool (decide_eq_false fun h=>h rfl)))<|cL ?_;refine DP .r (fun _ g=>(PV.Q7 rfl rfl).cast (v':=.bool false) (congrArg Value.bool (decide_eq_false fun h=>h rfl)))<|cX ?_;refine DW.c0 (fun Y g hF=>rR (As.gr g.2.g3) (As.gr g.2.g2) rfl)<|cS ?_;refine DP .r (fun _ g=>(PV.Q7 rfl rfl).cast (v':=.bool false) (congrArg Value.bool (decide_eq_false fun h=>h rfl)))<|cX ?_;refine DW.c0 (fun Y g hF=>rR (As.gr g.2.g1) (As.gr g.2.g0) aci)<|cS ?_;refine DP .r (fun _ g=>(PV.Q7 rfl rfl).cast (v':=.bool false) (congrArg Value.bool (decide_eq_false fun h=>h rfl)))<|(gx) ak St.g4<|?_;refine DW.c0 (fun Y g hF=>wb (k:=o) D)<|(gx) ak St.g4<|(cG)<|?_;rintro w37 ⟨afx,IW⟩ ⟨_,⟨_,⟨_,_⟩⟩⟩;refine(dH) (lR (k:=o)) IW fun w38 s38 S=>?_;refine WP .r ((PV.RM rfl rfl).cast (v':=.bool false) (congrArg Value.bool (decide_eq_false fun h=>h rfl)))<|?_;exact(br) (by first | rfl | (simp;done)) (S)
   intro w37 IW;refine(aN) (fun Vt=>?_) fun Vt=>?_
   ·
    exact gu Vt
   refine cL ?_;refine WC.cI (t:=235) (v:=.bool false) IW ?_<|?_
   ·
    have ajj:=IW.cj;refine WC.cJ (m:=8) (E:=bK [(1,fun v _=>v=.bool (u3 ls)),(5,fun v _=>v=(aL ls o []).val)]) IW (aS (⟨fun _ _ _ _ _ _ _ h=>h,⟨fun _ _ _ _ _ _ _ h=>h,trivial⟩⟩)) mixed (by kernel_rfl)<|nx ?_;refine DW.c0 (fun Y g hF=>yN (As.gr g.2.g7))<|(jf) (fun IX=>?_) (fun IX=>?_)
    ·
     have hR:aq ls:=by unfold u3 at IX;simpa using IX
     refine(gx) ak St.g4<|?_;refine DW.c0 (fun Y g hF=>wc (k:=o) (As.gf g.2.g10) hR (As.gr g.2.g7) Qp D)<|(gx) ak St.g4<|(cG)<|?_;rintro w38 ⟨Vu,S⟩ ⟨_,⟨_,_⟩⟩;refine(dH) (dO (k:=o) (As.gf S.g10) (As.gr S.g7) (SR.nil (fun _=>True) _ 1 _) hR.hb D) S fun w39 s39 ack=>?_;refine WP .r (PV.Yt tnT rfl rfl)<|?_;exact(br) (tG IX) (ack)
    refine(cG) ?_;rintro w38 ⟨Vu,S⟩ ⟨_,_⟩;exact(br) (tG IX) (S)
   intro w38 S;refine(aN) (fun Vv=>?_) fun Vv=>?_
   ·
    exact gu Vv
   refine eP ?_;refine dY (i+1,_) ⟨S.drop.drop.drop.drop.drop,⟨by omega,trivial⟩⟩
  simp at yR
  refine eP ?_;have mq:=pI;refine(bL) W2 (iH mq.e0 (As.gf mq.g5)) ?_;rintro _ w28 ⟨rfl,Vw⟩;have qH:=St.lr mq Vw;refine(bm) ?_;exact⟨rfl,(St.cg qH)⟩
 -- Dy mS ajl ajm ajn ajo ajp ajq
end Go.Rc

