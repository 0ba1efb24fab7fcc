/- Walks over the program, part WYt. Conditions: as each theorem says. -/
import Derived.Test.YtcongbofepbmeaaGreatDoorFFacts
import Derived.Test.YtcongbofepbmeaaGreatDoorFWZb
import Derived.Test.YtcongbofepbmeaaGreatDoorFWZl
import Derived.Test.YtcongbofepbmeaaGreatDoorFWUa
import Derived.Test.YtcongbofepbmeaaGreatDoorFBg
import Derived.Test.YtcongbofepbmeaaGreatDoorFBh
import Derived.Test.YtcongbofepbmeaaGreatDoorFWP
import Derived.Test.YtcongbofepbmeaaGreatDoorFWLibE
import Derived.Test.YtcongbofepbmeaaGreatDoorFWYs
set_option linter.all false
namespace Go.Rc
open Go Go.Proofs Go.Proofs.Tryz
variable {aa:List aA}{ar a b:Option Addr}{r cr d n c e:Nat}{w:World}{M Z Z2:Nat→Prop}{m:Int}{l q:List Key}
set_option maxHeartbeats 400000
theorem BQ(C:St w M Z w [As.gk 60 d]) (hu:Rd RR.dp 4 Z w ar r cr aa) (h0:1≤aa.length) (G:aa.length≤100):Calls prog 101 #[.pointer (some ⟨d,0,none⟩),.slice ar r cr] w fun e w'=>∃k:Key,e=.returned k.val∧lC aa k∧St w M Z w' [As.gk 60 d]:=by
 have hlen:=hu.len;refine enter func101 rfl ntmps101 rfl<|?_;have aR:=C;have st1:=aR.fr hu;refine(ff) st1 fun b4 w1 H I st2=>?_;refine gw ?_;have u:=st2.p2;refine(bL) iU (aZ u.e1 (m:=8) (by omega)) ?_;rintro _ w2 ⟨J,rfl,K,v,D⟩;have x:=St.lr u D;have v:=v (by omega);refine(aN) (fun g7=>?_) fun g7=>?_
 ·
  skip
  refine cL ?_;have h:=x;refine(bL) iU (aZ h.e1 (m:=4) (by omega)) ?_;rintro _ w3 ⟨z4,rfl,E,y,p⟩;have o:=St.lr h p;have y:=y (by omega);refine(dH) (jV (n:=z4)) o fun w4 L g=>?_;refine(cD) gR g.p1 fun w5 N O f=>?_;refine(ky) ak f.b0<|?_;exact⟨_,rfl,.inl ⟨z4,E,by omega,rfl⟩,f.drop.p1.drop⟩
 skip
 refine gw ?_;have h:=x;refine(bL) iU (aZ h.e1 (m:=2) (by omega)) ?_;rintro _ w3 ⟨z2,rfl,P,z,p⟩;have o:=St.lr h p;have z:=z (by omega);refine(aN) (fun g13=>?_) fun g13=>?_
 ·
  skip
  refine kQ ?_;refine WP .r (PV.JQ rfl rfl)<|?_;have g:=o;refine(bL) iU (aZ g.e1 (m:=min 3 (r:Int)) (by omega)) ?_;rintro _ w4 ⟨z22,rfl,Q,A,s⟩;have f:=St.lr g s;have A:=A (by omega);refine(dH) (fS (n:=(r:Int) - 1 - z22) (As.gr f.g2)) f fun w5 F t=>?_;refine(cD) gR t.p1 fun w6 R S j=>?_;refine(ky) ak j.b0<|?_;obtain⟨i,hi⟩:∃i:Nat,(r:Int) - 1 - z22=i:=⟨((r:Int) - 1 - z22).toNat,by omega⟩;exact⟨_,rfl,.inr ⟨i,by omega,by rw [hi]⟩,j.drop.p1.drop⟩
 skip
 refine iC ?_;have g:=o;refine(bL) iU (aZ g.e1 (m:=(r:Int)) (by omega)) ?_;rintro _ w4 ⟨z5,rfl,T,B,s⟩;have f:=St.lr g s;have B:=B (by omega);refine(dH) (fS (n:=z5) (As.gr f.g2)) f fun w5 F t=>?_;refine(cD) gR t.p1 fun w6 U V j=>?_;refine(ky) ak j.b0<|?_;obtain⟨i,rfl⟩:∃i:Nat,z5=i:=⟨z5.toNat,by omega⟩;exact⟨_,rfl,.inr ⟨i,by omega,rfl⟩,j.drop.p1.drop⟩
theorem pM(B:St w M Z w [As.gk 60 d]) (hu:Rd RR.dp 4 Z w ar r cr aa) (h0:1≤aa.length) (C:aa.length≤100) (hm:1≤m) (Q:m≤1000):Calls prog 61 #[.pointer (some ⟨d,0,none⟩),.slice ar r cr,.int .i64 m] w fun e w'=>∃a n c,∃l:List Key,e=.returned (.slice a n c)∧(l.length:Int)≤m∧(∀x∈l,lC aa x)∧St w M Z w' [As.gk 60 d,As.os RR.key 29 2 a n c l]:=by
 have hlen:=hu.len;refine enter func61 rfl ntmps61 rfl<|?_;have aR:=B;have st1:=aR.fr hu;have st2:=st1.df RR.key 29 2;refine aO ?_;refine cL ?_;have s:=st2.p2;refine(bL) iU (aZ s.e1 (m:=m) (by omega)) ?_;rintro _ w1 ⟨z0,rfl,R,u,D⟩;have E:=St.lr s D;have u:=u (by omega);obtain⟨z,rfl⟩:∃z:Nat,z0=z:=⟨z0.toNat,by omega⟩;refine cS ?_;refine WC.bd (σ:=Nat × (List Key) × (Option Addr) × Nat × Nat) (dm:=fun(i,l,g,f,j)=>[(0,.pointer (some ⟨d,0,none⟩)),(1,.slice ar r cr),(7,.slice g f j),(8,.int .i64 (i:Int))]) (F:=fun(i,l,g,f,j)=>[As.os RR.key 29 2 g f j (l),As.gk 60 d]) (I:=fun(i,l,g,f,j)=>(l.length+i≤z+1)∧(∀x∈l,lC aa x)∧True) (μ:=fun(i,l,g,f,j)=>i) (z+1,[],none,0,0) (E.p1) Sub.t (⟨by simp,by simp,trivial⟩)<|?_;rintro⟨i,l,g,f,j⟩ w2 k ⟨G,o,_⟩;simp only [CA,NA] at k G o ⊢;have S:=((As.gs k.g0)).len;refine(aN) (fun g14=>?_) fun g14=>?_
 ·
  simp at g14
  refine iC ?_;have p:=k.p1;refine(bL) Tx (BQ p.e1 (As.gr p.g2) h0 C) ?_;rintro _ w3 ⟨x,rfl,H,J⟩;have K:=St.lr p J;refine WL.go rfl (OX.aP (us:=x.cells) dU rfl rfl rfl rfl fun T w4 L N=>?_);have v:=K.dy L N;refine WL.ap rfl rfl v.p2 (SR.dn (A:=fun _=>True) (x:=x) (As.gb v.g0) trivial rfl (by simp [Key.cells,Value.oneCell']) rfl) fun a22 O w5 U V P=>?_;refine kQ ?_;refine dY (i - 1,l++[x],a22,(f+1),O) ⟨P.p1.drop,⟨by simp;omega,fun y hy=>by rcases List.mem_append.1 hy with h | h;exact o y h;simp at h;subst h;exact H,trivial⟩⟩
 simp at g14
 refine(bm) ?_;exact⟨_,_,_,l,rfl,by omega,o,k.p2.drop.p1⟩
set_option maxHeartbeats 4000000 in
theorem yT{x:cA}{a1 a2:Option Addr}{n1 e1 n2 e2:Nat}(X:aq aa) (gg:St w M Z w [As.gk 60 d]) (ht:gV prog Z w) (hu:Rd RR.dp 4 Z w ar r cr aa) (h0:1≤aa.length) (h9:aa.length≤100) (ri:Rd RR.az 4 Z w a1 n1 e1 x.ad) (rc:Rd RR.ed 8 Z w a2 n2 e2 x.ah) (j:LC aa x) (hm:0≤m) (vI:m≤1000):Calls prog 28 #[.pointer (some ⟨d,0,none⟩),.slice ar r cr,.agg (x.row a1 n1 e1 a2 n2 e2).toArray,.int .i64 m] w fun e w'=>∃(y:cA) (b1 b2:Option Addr) (m1 d1 m2 d2:Nat) (Z':Nat→Prop),e=.returned (.agg (y.row b1 m1 d1 b2 m2 d2).toArray)∧LC aa y∧y.ab≤x.ab+m∧Rd RR.az 4 Z' w' b1 m1 d1 y.ad∧Rd RR.ed 8 Z' w' b2 m2 d2 y.ah∧bA w.heap.size Z Z'∧St w M Z' w' [As.gk 60 d]:=by
 refine enter func28 rfl ntmps28 rfl<|?_;have aR:=gg;have st1:=aR.fr hu;have st2:=st1.fr ri;have j5:=st2.fr rc;have i6:=j5.fact (B:=As.fz (FZ.zV prog)) ht (fun _ hx=>hx);refine(dE) i6 fun b6 w1 Dr Is jD=>?_;refine(ff) jD fun b8 w2 Js Uo jC=>?_;refine iC ?_;have ij:=jC.p6;refine(bL) iU (aZ ij.e1 (m:=m+1) (by omega)) ?_;rintro _ w3 ⟨z0,rfl,Vy,BR,lQ⟩;have ju:=St.lr ij lQ;have BR:=BR (by omega);obtain⟨z,rfl⟩:∃z:Nat,z0=z:=⟨z0.toNat,by omega⟩;refine cX ?_;refine WC.ie (σ:=Nat × cA × (Option Addr) × Nat × Nat × (Option Addr) × Nat × Nat × (Nat→Prop)) (dm:=fun(i,y,a1,n1,e1,a2,n2,e2,H)=>[(0,.pointer (some ⟨d,0,none⟩)),(1,.slice ar r cr),(6,.pointer (some ⟨b6,0,none⟩)),(8,.pointer (some ⟨b8,0,none⟩)),(9,.int .i64 (i:Int))]) (F:=fun(i,y,a1,n1,e1,a2,n2,e2,H)=>[As.gk 60 d,As.blk b6 25 (y.row a1 n1 e1 a2 n2 e2),As.ro RR.az 4 a1 n1 e1 y.ad,As.ro RR.ed 8 a2 n2 e2 y.ah]) (I:=fun(i,y,a1,n1,e1,a2,n2,e2,H)=>(LC aa y)∧(i≤z)∧(y.ab≤x.ab+((z:Int) - i))∧(bA w.heap.size Z H)∧True) (μ:=fun(i,y,a1,n1,e1,a2,n2,e2,H)=>i) (Zf:=fun(i,y,a1,n1,e1,a2,n2,e2,H)=>H) (z,x,a1,n1,e1,a2,n2,e2,Z) (ju.p4.p5.p4.p3) Sub.t (⟨j,Nat.le_refl _,by omega,bA.refl _ _,trivial⟩)<|?_;rintro⟨i,y,a1,n1,e1,a2,n2,e2,H⟩ w4 jc ⟨j,hiz,SC,P,_⟩;simp only [CA,NA] at jc j hiz SC P ⊢;have hyl:=j.lb.ok.vH;have hyr:y.ah.length≤4000:=j.lb.ok.hW.len;refine(aN) (fun g17=>?_) fun g17=>?_
 ·
  simp at g17
  refine eP ?_;have Q:=jc;refine(bL) iU (aZ Q.e1 (m:=8) (by omega)) ?_;rintro _ w5 ⟨z8,rfl,Vz,BU,pA⟩;have dw:=St.lr Q pA;have BU:=BU (by omega);refine j8 ?_;have dz:=dw;refine WC.iM (σ:=Bool) [] (fun pk=>[(0,.pointer (some ⟨d,0,none⟩)),(1,.slice ar r cr),(6,.pointer (some ⟨b6,0,none⟩)),(8,.pointer (some ⟨b8,0,none⟩)),(9,.int .i64 (i:Int)),(21,.int .i64 z8),(32,.bool pk)]) (fun pk=>[]) (fun pk=>True) dz ?_ ?_
  ·
   refine(aN) (fun Lo=>?_) fun Lo=>?_
   ·
    skip
    refine nx ?_;exact lY (decide (z8=0)) ⟨dz,trivial⟩
   skip
   refine(aN) (fun Lo=>?_) fun Lo=>?_
   ·
    skip
    refine nx ?_;exact lY (decide (z8=1)) ⟨dz,trivial⟩
   skip
   refine cX ?_;exact lY (decide (z8=2)) ⟨dz,trivial⟩
  rintro pk w6 db _;simp only [CA,NA] at db ⊢;refine(aN) (fun Lo=>?_) fun Lo=>?_
  ·
   skip
   refine WC.bY (m:=7) [6] [2,3] [1,2,0,3,4,5,6] [] db (ao.k4 M1 M2 M3 M4<|ao.cons M5<|ao.cons M6<|ao.nil) mixed (by kernel_rfl) (by kernel_rfl) rfl<|(gi) (fun w7 Qj DU o uZ=>?_);simp only [CA,NA] at o;have k:=o;refine OX.call Ti rfl rfl ((mW k.e1 (by decide) (by decide)).mono ?_);rintro _ w8 ⟨ca,cn,cc,ch,rfl,oZ,hsm,v⟩;have A:=St.lr k v;have Ly:=St.tK v;have IZ:=k.size;have Qz:=((As.gs A.g1)).len;have L:=A.p1.a8 (by omega);have yL:=P.trans (bA.dx (F:=fun x=>x∈aG ca) Ly) IZ;refine⟨_,rfl,v.bT.size,_,rfl,_,_,_,L,aw.k4<|aw.k4<|aw.nil,ao.k4 M2 M3 M4 M5<|ao.cons M6<|ao.cons M7<|ao.nil,?_⟩;refine(kh) aJ SV.g0<|(gi) (fun w9 Xs LH E E7=>?_);simp only [CA,NA] at E;have h:=E;refine OX.call Th rfl rfl ((pN (x:=y) h.e0 (As.gr h.g3) (As.gr h.g4) (As.gr h.g0) j.lb.ok.eU j.lb.az hsm (by omega)).mono ?_);rintro _ jB ⟨y2,b1,b2,m1,d1,m2,d2,er,R,rfl,acu,hv0,EZ,hG,QA,Jw,hap,_,GU,QB,C,N⟩;have D:=St.lv h N C;have S:=yL.trans C h.size;have T:=D.fr (GU);have U:=T.fr (QB);refine⟨_,rfl,N.bT.size,_,rfl,_,_,_,U,aw.k4<|aw.k4<|aw.k2<|aw.nil,ao.k4 M4 M5 M6 M7<|ao.cons M8<|ao.cons M9<|ao.nil,?_⟩
   iterate 3 refine DG.a ?_
   refine(kZ) ?_;intro iV Lp J;simp only [CM,NM,CA,NA,iL.it] at J;refine(cD) eJ J.p4 fun mu ko ly O=>?_;refine WL.nil (EX.np ?_);have V:=O.p5.drop;have W:=V.p5.drop;refine iC ?_;refine dY (i - 1,y2,b1,m1,d1,b2,m2,d2,R) ⟨W.p3.drop.p2.p1.p3,⟨j.apply hap acu hv0 EZ hG QA,by omega,by show y2.ab≤x.ab+((z:Int) - ((i - 1:Nat):Int));omega,S,trivial⟩⟩
  skip
  refine(aN) (fun UL=>?_) fun UL=>?_
  ·
   skip
   refine nx ?_;refine WC.bY (m:=10) [8] [4,5] [2,3,4,0,1,5,6,7,8,9] [(9,.blk 95 [.slice none 0 0,.int .i64 0,.slice none 0 0,.slice none 0 0,.slice none 0 0,.slice none 0 0,.slice none 0 0])] db (ao.k4 M1 M2 M3 M4<|ao.cons M5<|ao.cons M6<|ao.nil) mixed (by kernel_rfl) (by kernel_rfl) rfl<|?_
   iterate 2 refine DG.a ?_
   refine(gi) (fun w7 LG yH o l7=>?_);simp only [CA,NA] at o;have k:=o;refine OX.call To rfl rfl ((pM k.e1 (As.gr k.g6) (by omega) (by omega) (by decide) (by decide)).mono ?_);rintro _ w8 ⟨ga,gn,gc,gl,rfl,acv,wi,v⟩;have A:=St.lr k v;have Ly:=St.tK v;have IZ:=k.size;have Qz:=((As.gs A.g1)).len;have L:=A.p1.a8 (by omega);have yL:=P.trans (bA.dx (F:=fun x=>x∈aG ga) Ly) IZ;obtain⟨f,s',MV,DN,vy,Ju,yA,VB,hrq,_⟩:=j.WR X wi (by omega);refine⟨_,rfl,v.bT.size,_,rfl,_,_,_,L,aw.k4<|aw.k4<|aw.nil,ao.k4 M2 M3 M4 M5<|ao.cons M6<|ao.cons M7<|ao.nil,?_⟩;refine(kh) aJ SV.g0<|(gi) (fun w9 LI yM E l8=>?_);simp only [CA,NA] at E;have h:=E;refine OX.call Y5 rfl rfl ((yU h.e0 (As.gr h.g7) (As.gr h.g3) (As.gr h.g4) (As.gr h.g0) ((j.lb.start vy (by omega)).sz X (by omega)) MV).mono ?_);rintro _ jB ⟨A7,Z7,rfl,Y,I0,N⟩;have D:=St.lv h N I0;have DY:=yL.trans I0 h.size;have T:=D.fr (Y.u);have U:=T.fr (Y.i);have J:=U.fr (Y.r);have O:=J.fr (Y.g);have V:=O.fr (Y.f);have W:=V.fr (Y.p);refine⟨_,rfl,N.bT.size,_,rfl,_,_,_,W,aw.k4<|aw.k4<|aw.k4<|aw.k2<|aw.nil,ao.k4 M8 M9 iZ jj<|ao.cons nh<|ao.cons vz<|ao.nil,?_⟩
   iterate 3 refine DG.a ?_
   refine DG.side (s:=.blk 95 [.slice none 0 0,.int .i64 0,.slice none 0 0,.slice none 0 0,.slice none 0 0,.slice none 0 0,.slice none 0 0]) rfl rfl rfl rfl rfl rfl (fun wx Zx Rx uS zd=>OX.alloc Tc rfl fun b wy nw hb=>⟨nw.ext.size,_,rfl,⟨b,rfl⟩,zd.dy nw hb⟩)<|?_;rintro _ ⟨Rp,rfl⟩;refine(kZ) ?_;intro iV IM eE;simp only [CM,NM,CA,NA,iL.it] at eE;refine(cD) mQ eE fun mu r8 mr fc=>?_;refine nx ?_;refine WL.nil (EX.np ?_);refine(aN) (fun VC=>?_) fun VC=>?_
   ·
    skip
    refine nx ?_;refine WC.bY (m:=8) [6,7] [2,3] [1,2,0,3,4,5,6,7] [] fc (ao.k4 M0 M1 M2 M3<|ao.k4 M4 M5 M6 M7<|ao.k4 M9 iZ jj nh<|ao.cons vz<|ao.cons Ca<|ao.nil) mixed (by kernel_rfl) (by kernel_rfl) rfl<|(gi) (fun oL Qj DU mU uZ=>?_);simp only [CA,NA] at mU;have pH:=mU.p8;refine OX.call iU rfl rfl ((aZ pH.e1 (m:=30) (by omega)).mono ?_);rintro _ uL ⟨z3,rfl,VD,BV,BL⟩;have qE:=St.lr pH BL;have BV:=BV (by omega);obtain⟨mo,rfl⟩:∃mo:Nat,z3=mo:=⟨z3.toNat,by omega⟩;refine⟨_,rfl,BL.bT.size,_,rfl,_,_,_,qE,aw.k4<|aw.k4<|aw.k4<|aw.k2<|aw.cons<|aw.nil,ao.k4 M1 M2 M3 M4<|ao.k4 M5 M6 M7 M8<|ao.k4 M9 iZ jj nh<|ao.cons vz<|ao.cons Ca<|ao.nil,?_⟩;refine(kh) fj SV.g0<|(gi) (fun pB Xs LH u6 E7=>?_);simp only [CA,NA] at u6;have G:=u6;refine OX.call Y6 rfl rfl ((DZ X G.e0 (As.gf G.g13) ⟨(As.gr G.g7),(As.gr G.g6),(As.gr G.g5),(As.gr G.g4),(As.gr G.g3),(As.gr G.g2)⟩ (j.lb.start vy (by omega)) MV (by omega)).mono ?_);rintro _ sD ⟨t8,A8,i8,er8,Z9,rfl,hk8,acx,Rz,VE,MW⟩;have qD:=St.lv G MW VE;have hZ9:=DY.trans VE G.size;have lq:=qD.fr (Rz.u);have lx:=lq.fr (Rz.i);have nN:=lx.fr (Rz.r);have nO:=nN.fr (Rz.g);have sn:=nO.fr (Rz.f);have yP:=sn.fr (Rz.p);refine⟨_,rfl,MW.bT.size,_,rfl,_,_,_,yP,aw.k4<|aw.k4<|aw.k4<|aw.k4<|aw.k4<|aw.cons<|aw.nil,ao.k4 M7 M8 M9 iZ<|ao.k4 jj nh vz Ca<|ao.k4 Nr RC M17 M18<|ao.cons M19<|ao.cons M20<|ao.nil,?_⟩
    iterate 4 refine DG.a ?_
    refine(kZ) ?_;intro Bp xC iB;simp only [CM,NM,CA,NA,iL.it] at iB;refine(cD) mQ iB.p7 fun y8 Bc wQ Qn=>?_;refine WL.nil (EX.np ?_);refine nx ?_;have LK:=Qn.rY.drop;have mn:=LK.Cq.drop;have jd:=mn.l9.drop;have IU:=jd.pQ.drop;have qF:=IU.p9.drop;have oN:=qF.p8.drop;have qG:=oN.p8.drop;refine(aT) fj qG.b0<|?_;have K:=qG;refine(bL) Y7 (wm K.e0 ⟨(As.gr K.g6),(As.gr K.g5),(As.gr K.g4),(As.gr K.g3),(As.gr K.g2),(As.gr K.g1)⟩ (hk8.sz X (by omega))) ?_;rintro _ Gs ⟨rs,b1,b2,m1,d1,m2,d2,R,rfl,Ct,acy,GU,QB,C,I1⟩;have pI:=St.lv K I1 C;have S:=hZ9.trans C K.size;have mq:=pI.fr (GU);have qH:=mq.fr (QB);refine(cD) eJ qH.pQ fun Ix Lg Lh pJ=>?_;refine nx ?_;have qI:=pJ.l9.drop;have BO:=qI.l9.drop;refine iC ?_;refine dY (i - 1,⟨t8.base.ab,t8.base.ad,rs⟩,b1,m1,d1,b2,m2,d2,R) ⟨BO.p3.drop.p3.drop.p3.drop.p3.drop.p3.drop.p3.drop.p3.drop.p2.p1.p3,⟨by rw [acy];exact j.task hk8.ok.base (acx j.bh).2,by omega,by have h9:t8.base.ab=y.ab:=hk8.ok.base.rv;show t8.base.ab≤x.ab+((z:Int) - ((i - 1:Nat):Int));omega,S,trivial⟩⟩
   exact absurd VC (by simp)
  skip
  refine(aN) (fun g66=>?_) fun g66=>?_
  ·
   skip
   refine cL ?_;have o:=db;refine(bL) iU (aZ o.e1 (m:=3) (by omega)) ?_;rintro _ w7 ⟨z9,rfl,VF,BW,jb⟩;have k:=St.lr o jb;have BW:=BW (by omega);refine(aN) (fun g70=>?_) fun g70=>?_
   ·
    skip
    refine WC.bY (m:=8) [6,7] [2,3] [1,2,0,3,4,5,6,7] [] k (ao.k4 M1 M2 M3 M4<|ao.cons M5<|ao.cons M6<|ao.nil) mixed (by kernel_rfl) (by kernel_rfl) rfl<|(gi) (fun w8 Qj DU A uZ=>?_);simp only [CA,NA] at A;have L:=A;refine OX.call iU rfl rfl ((aZ L.e1 (m:=200) (by omega)).mono ?_);rintro _ w9 ⟨zb,rfl,afD,MX,si⟩;have E:=St.lr L si;have MX:=MX (by omega);refine⟨_,rfl,si.bT.size,_,rfl,_,_,_,E,aw.k4<|aw.k2<|aw.cons<|aw.nil,ao.k4 M1 M2 M3 M4<|ao.cons M5<|ao.cons M6<|ao.nil,?_⟩;refine(kh) aJ SV.g0<|(gi) (fun jB Xs LH h E7=>?_);simp only [CA,NA] at h;have D:=h;refine OX.call Y8 rfl rfl ((BX D.e0 (As.gr D.g2) (As.gr D.g3) j.lb.ok.eU j.lb.ok.small (by omega) (by omega)).mono ?_);rintro _ iV ⟨rs,b1,b2,m1,d1,m2,d2,va,vn,vc,R,rfl,Ct,GU,QB,C,mX⟩;have T:=St.lv D mX C;have S:=P.trans C D.size;have U:=T.fr (GU);have J:=U.fr (QB);refine⟨_,rfl,mX.bT.size,_,rfl,_,_,_,J,aw.k4<|aw.k4<|aw.cons<|aw.nil,ao.k4 M3 M4 M5 M6<|ao.cons M7<|ao.cons M8<|ao.nil,?_⟩
    iterate 4 refine DG.a ?_
    refine(kZ) ?_;intro mu UU O;simp only [CM,NM,CA,NA,iL.it] at O;refine(cD) eJ O.p3 fun oL JB Cs V=>?_;refine WL.nil (EX.np ?_);have W:=V.p4.drop;have eE:=W.p4.drop;refine iC ?_;refine dY (i - 1,⟨y.ab,y.ad,rs⟩,b1,m1,d1,b2,m2,d2,R) ⟨eE.p2.p1.p3,⟨j.sub Ct,by omega,by show y.ab≤x.ab+((z:Int) - ((i - 1:Nat):Int));omega,S,trivial⟩⟩
   skip
   refine kQ ?_;refine dY (i - 1,y,a1,n1,e1,a2,n2,e2,H) ⟨k,⟨j,by omega,by show y.ab≤x.ab+((z:Int) - ((i - 1:Nat):Int));omega,P,trivial⟩⟩
  skip
  refine WC.bY (m:=10) [8,9] [4,5] [2,3,4,0,1,5,6,7,8,9] [] db (ao.k4 M1 M2 M3 M4<|ao.cons M5<|ao.cons M6<|ao.nil) mixed (by kernel_rfl) (by kernel_rfl) rfl<|?_
  iterate 2 refine DG.a ?_
  refine(gi) (fun w7 LG yH o l7=>?_);simp only [CA,NA] at o;have k:=o;refine OX.call To rfl rfl ((pM k.e1 (As.gr k.g6) (by omega) (by omega) (by decide) (by decide)).mono ?_);rintro _ w8 ⟨ga,gn,gc,gl,rfl,acv,wi,v⟩;have A:=St.lr k v;have Ly:=St.tK v;have IZ:=k.size;have Qz:=((As.gs A.g1)).len;have L:=A.p1.a8 (by omega);have yL:=P.trans (bA.dx (F:=fun x=>x∈aG ga) Ly) IZ;obtain⟨f,s',MV,DN,vy,Ju,yA,VB,hrq,_⟩:=j.WR X wi (by omega);refine⟨_,rfl,v.bT.size,_,rfl,_,_,_,L,aw.k4<|aw.k4<|aw.nil,ao.k4 M2 M3 M4 M5<|ao.cons M6<|ao.cons M7<|ao.nil,?_⟩;refine(kh) aJ SV.g0<|(gi) (fun w9 LI yM E l8=>?_);simp only [CA,NA] at E;have h:=E;refine OX.call Y9 rfl rfl ((wa (x:=y) (s':=s') X h.e0 (As.gr h.g7) (As.gr h.g3) (As.gr h.g4) (As.gr h.g0) (As.gf h.g6) MV DN vy (by omega) Ju yA).mono ?_);rintro _ jB ⟨q1,q2,q3,q4,q5,q6,o1,o2,o3,R,rfl,C,hqi,hqc,N⟩;have D:=St.lv h N C;have S:=yL.trans C h.size;have T:=D.fr (hqi);have U:=T.fr (hqc);refine⟨_,rfl,N.bT.size,_,rfl,_,_,_,U,aw.k4<|aw.k4<|aw.k2<|aw.cons<|aw.nil,ao.k4 M5 M6 M7 M8<|ao.cons M9<|ao.cons iZ<|ao.nil,?_⟩
  iterate 4 refine DG.a ?_
  refine(kZ) ?_;intro iV DV J;simp only [CM,NM,CA,NA,iL.it] at J;refine(cD) eJ J.p5 fun mu Rl Rm O=>?_;refine WL.nil (EX.np ?_);have V:=O.p6.drop;have W:=V.p6.drop;refine iC ?_;refine dY (i - 1,(s'.base y),q1,q2,q3,q4,q5,q6,R) ⟨W.p3.drop.p3.drop.p2.p1.p3,⟨VB,by omega,by show(s'.base y).ab≤x.ab+((z:Int) - ((i - 1:Nat):Int));rw [hrq];omega,S,trivial⟩⟩
 skip
 refine(aT) aJ jc.b1<|(cD) eJ jc.p4 fun w5 Rn Ro Q=>?_;refine(ky) aJ Q.b0<|?_;exact⟨y,a1,a2,n1,e1,n2,e2,H,rfl,j,by omega,(As.gr Q.g3),(As.gr Q.g4),P,Q.p1.k1⟩
set_option maxHeartbeats 1600000 in
theorem BN(E:St w M Z w [As.gk 60 d]) (ht:gV prog Z w) (hm:0≤m) (G:m≤1000):Calls prog 7 #[.pointer (some ⟨d,0,none⟩),.int .i64 m] w fun e w'=>∃(aa:List aA) (x:cA) (ar a1 a2:Option Addr) (r cr n1 e1 n2 e2:Nat) (Z':Nat→Prop),e=.returned (.tuple #[.slice ar r cr,.agg (x.row a1 n1 e1 a2 n2 e2).toArray])∧aq aa∧2≤aa.length∧aa.length≤8∧LC aa x∧x.ab≤1+m∧Rd RR.dp 4 Z' w' ar r cr aa∧Rd RR.az 4 Z' w' a1 n1 e1 x.ad∧Rd RR.ed 8 Z' w' a2 n2 e2 x.ah∧bA w.heap.size Z Z'∧St w M Z' w' [As.gk 60 d]:=by
 refine enter func7 rfl ntmps7 rfl<|?_;have aR:=E;have st1:=aR.fact (B:=As.fz (FZ.zV prog)) ht (fun _ H=>H);refine(ff) st1 fun b5 w1 EV EW st2=>?_;refine cS ?_;have i:=st2.p2;refine(bL) YU (yV i.e1) ?_;rintro _ w2 ⟨ra,I,rc,aa,Z1,rfl,k,J,K,o,p⟩;have s:=St.lv i p o;have L:=St.tK p;have t:=i.size;have N:=o.le t;have Jn:=((As.gs s.g1)).len;have O:=s.p1.a8 (by omega);have P:=N.trans (bA.dx (F:=fun x=>x∈aG ra) L) t;refine cS ?_;refine WP .r (PV.bs (us:=((⟨0,[],[]⟩:cA).row none 0 0 none 0 0)) Kz rfl rfl rfl)<|nx ?_;have j:=O.p1;refine(bL) Ti (mW j.e1 (by decide) (by decide)) ?_;rintro _ w3 ⟨Q,cn,cc,ch,rfl,oZ,R,u⟩;have v:=St.lr j u;have S:=St.tK u;have T:=j.size;have Qz:=((As.gs v.g1)).len;have U:=v.p1.a8 (by omega);have V:=P.trans (bA.dx (F:=fun x=>x∈aG Q) S) T;have h:=U;refine(bL) Th (pN (x:=⟨0,[],[]⟩) h.e0 (Rd.nil _ _ _ _) (Rd.nil _ _ _ _) (As.gr h.g0) N0 (iO.nil _) R (by omega)) ?_;rintro _ w4 ⟨z,b1,b2,m1,d1,m2,d2,er,Z4,rfl,W,X,Y,hG,QA,Jw,hap,_,GU,QB,A,mj⟩;have ef:=St.lv h mj A;have uP:=V.trans A h.size;have dw:=ef.fr (GU);have dz:=dw.fr (QB);refine(ff) dz fun b7 w5 Um Un db=>?_;refine(cD) eJ db fun w6 ko ly C=>?_;refine(aT) aJ C.b0<|nx ?_;have f:=C.p4;refine(bL) YV (yT k f.e1 (As.gf f.g7) (As.gr f.g5) (by omega) (by omega) (As.gr f.g3) (As.gr f.g2) (LC.nil aa z W X Y hG QA) hm G) ?_;rintro _ w7 ⟨y,q1,q2,p1,j1,p2,j2,Z5,rfl,VG,SC,hqi,hqc,D,jb⟩;have fJ:=St.lv f jb D;have zc:=uP.trans D f.size;have dW:=fJ.fr (hqi);have fH:=dW.fr (hqc);refine(cD) eJ fH.p8 fun w8 r8 mr g=>?_;refine cL ?_;refine EX.fL rfl (RS.tmp rfl<|RS.cell aJ rfl g.b0 rfl<|RS.nil) rfl<|?_;exact⟨aa,y,ra,q1,q2,I,rc,p1,j1,p2,j2,Z5,rfl,k,J,K,VG,by have h0:z.ab≤0+1:=Jw;omega,(As.gr g.g8),(As.gr g.g2),(As.gr g.g1),zc,g.p3.k1⟩
set_option maxHeartbeats 400000
set_option maxHeartbeats 400000
set_option maxHeartbeats 400000
set_option maxHeartbeats 400000
set_option maxHeartbeats 400000
set_option maxHeartbeats 400000
set_option maxHeartbeats 400000
set_option maxHeartbeats 400000
set_option maxHeartbeats 400000
set_option maxHeartbeats 400000
set_option maxHeartbeats 400000
set_option maxHeartbeats 400000
theorem BZ{m:Nat}(hl:Rd RR.key 2 Z w a n c l) (hm:Rd RR.key 2 Z2 w b m e q):CR prog 18 #[.slice a n c,.slice b m e] w (.bool (decide (l=q))):=by
 have x:=hl.len;have y:=hm.len;have hle:=hl.le;refine enter func18 rfl ntmps18 rfl<|?_;have aR:=St.s0 w;refine aO ?_;refine(aN) (fun g11=>?_) fun g11=>?_
 ·
  simp at g11
  refine(bm) ?_;exact⟨by rw [decide_eq_false fun h=>g11 (by rw [x,y,h])],(St.cg aR)⟩
 simp at g11
 refine o5 ?_;refine WC.bd (σ:=Nat) (dm:=fun i=>[(1,.slice b m e),(12,.slice a n c),(13,.int .i64 (n:Int)),(14,.int .i64 (i:Int))]) (F:=fun i=>[]) (I:=fun i=>(i≤n)∧(l.take i=q.take i)∧True) (μ:=fun i=>n - i) (0) (aR) Sub.t (⟨by omega,by simp,trivial⟩)<|?_;rintro i w1 st1 ⟨hi,f,_⟩;simp only [CA,NA] at st1 hi f ⊢;refine(aN) (fun g15=>?_) fun g15=>?_
 ·
  simp at g15
  have k:i<l.length:=by omega
  have o:i<q.length:=by omega
  obtain⟨G,H,J,z,K,g,A,L⟩:=Rd.at hl k;have g:=RR.bN g;subst g;obtain⟨N,O,P,B,Q,j,C,R⟩:=Rd.at hm o;have j:=RR.bN j;subst j;refine eP ?_;refine WP .r (PV.ei eI z rfl rfl (by omega))<|(aT) ak (aV A (St.cg st1) (by simp))<|(ff) st1 fun S w2 T U st2=>?_;refine(cD) gR st2 fun w3 V W s=>?_;refine cL ?_;have X:=s.cj;refine WC.dS (m:=5) s mixed<|bz ?_;refine DP .r (fun _ u=>PV.ei eI B rfl rfl (by omega))<|DP .r (fun _ u=>VA ak (aV C (St.cg u.2) (by simp)) .r)<|(gx) ak St.g0<|(cG)<|?_;rintro w4 ⟨Y,v⟩ _;refine WP .r (PV.Hg ft (p:=q[i]) (q:=l[i]) rfl rfl)<|(aN) (fun g24=>?_) fun g24=>?_
  ·
   simp at g24
   refine(bm) ?_;exact⟨by rw [decide_eq_false fun h=>g24 (by subst h;rfl)],(St.cg v)⟩
  simp at g24
  have D:=g24.symm;refine eP ?_;refine dY (i+1) ⟨v.drop,⟨by omega,by rw [List.take_succ_eq_append_getElem k,List.take_succ_eq_append_getElem o,f,D],trivial⟩⟩
 simp at g15
 refine(bm) ?_;exact⟨by rw [decide_eq_true];have h1:l.take i=l:=List.take_of_length_le (by omega);have E:q.take i=q:=List.take_of_length_le (by omega);rw [← h1,← E];exact f,(St.cg st1)⟩
theorem rR{m:Nat}(hl:Rd RR.key 2 Z w a n c l) (hm:Rd RR.key 2 Z2 w b m e q) (h:l=q):CR prog 18 #[.slice a n c,.slice b m e] w (.bool true):=by
 have:=BZ hl hm
 rwa [decide_eq_true h] at this
set_option maxHeartbeats 400000
set_option maxHeartbeats 400000
end Go.Rc

