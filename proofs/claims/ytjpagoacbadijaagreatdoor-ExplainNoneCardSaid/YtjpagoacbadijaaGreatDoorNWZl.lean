/- Walks over the program, part WZl. Conditions: as each theorem says. -/
import Derived.Test.YtjpagoacbadijaaGreatDoorNFacts
import Derived.Test.YtjpagoacbadijaaGreatDoorNWZb
import Derived.Test.YtjpagoacbadijaaGreatDoorNWX
import Derived.Test.YtjpagoacbadijaaGreatDoorNBg
import Derived.Test.YtjpagoacbadijaaGreatDoorNBh
import Derived.Test.YtjpagoacbadijaaGreatDoorNWZg
set_option linter.all false
namespace Go.Rc
open Go Go.Proofs Go.Proofs.Tryz
variable {ab:List aG}{ar a:Option Addr}{r cr d n c:Nat}{w:World}{M Z:Nat→Prop}{m:Int}{l:List Key}
set_option maxHeartbeats 400000
theorem H3(bJ:St w M Z w [As.ju 74 d]) (hu:Rd RR.gQ 4 Z w ar r cr ab) (h0:1≤ab.length) (h9:ab.length≤100):Calls prog 39 #[.pointer (some ⟨d,0,none⟩),.slice ar r cr] w fun e w'=>∃k:Key,e=.returned k.val∧o8 ab k∧St w M Z w' [As.ju 74 d]:=by
 have hlen:=hu.len;refine enter func39 rfl ntmps39 rfl<|?_;have bd:=bJ;have st1:=bd.fr hu;refine(gu) st1 fun b4 w1 jK bG st2=>?_;refine ji ?_;have aW:=st2.p2;refine(dj) lP (bR aW.e1 (m:=8) (by omega)) ?_;rintro _ w2 ⟨z7,rfl,ae1,HQ,u7⟩;have ba:=St.lr aW u7;have HQ:=HQ (by omega);refine(aZ) (fun g7=>?_) fun g7=>?_
 ·
  skip
  refine dE ?_;have bw:=ba;refine(dj) lP (bR bw.e1 (m:=4) (by omega)) ?_;rintro _ w3 ⟨z4,rfl,Ql,HM,eN⟩;have bj:=St.lr bw eN;have HM:=HM (by omega);refine(iz) (je (n:=z4)) bj fun w4 s4 bX=>?_;refine(dD) jx bX.p1 fun w5 jY j7 bV=>?_;refine(mz) aq bV.b0<|?_;exact⟨_,rfl,.inl ⟨z4,Ql,by omega,rfl⟩,bV.drop.p1.drop⟩
 skip
 refine ji ?_;have bw:=ba;refine(dj) lP (bR bw.e1 (m:=2) (by omega)) ?_;rintro _ w3 ⟨z2,rfl,aeW,HN,eN⟩;have bj:=St.lr bw eN;have HN:=HN (by omega);refine(aZ) (fun g13=>?_) fun g13=>?_
 ·
  skip
  refine qi ?_;refine WP .r (PV.Rv rfl rfl)<|?_;have bX:=bj;refine(dj) lP (bR bX.e1 (m:=min 3 (r:Int)) (by omega)) ?_;rintro _ w4 ⟨z22,rfl,amD,QH,iY⟩;have bV:=St.lr bX iY;have QH:=QH (by omega);refine(iz) (iI (n:=(r:Int) - 1 - z22) (As.gr bV.g2)) bV fun w5 s5 cq=>?_;refine(dD) jx cq.p1 fun w6 sC nt aL=>?_;refine(mz) aq aL.b0<|?_;obtain⟨i,hi⟩:∃i:Nat,(r:Int) - 1 - z22=i:=⟨((r:Int) - 1 - z22).toNat,by omega⟩;exact⟨_,rfl,.inr ⟨i,by omega,by rw [hi]⟩,aL.drop.p1.drop⟩
 skip
 refine kQ ?_;have bX:=bj;refine(dj) lP (bR bX.e1 (m:=(r:Int)) (by omega)) ?_;rintro _ w4 ⟨z5,rfl,ao4,Vr,iY⟩;have bV:=St.lr bX iY;have Vr:=Vr (by omega);refine(iz) (iI (n:=z5) (As.gr bV.g2)) bV fun w5 s5 cq=>?_;refine(dD) jx cq.p1 fun w6 BO ry aL=>?_;refine(mz) aq aL.b0<|?_;obtain⟨i,rfl⟩:∃i:Nat,z5=i:=⟨z5.toNat,by omega⟩;exact⟨_,rfl,.inr ⟨i,by omega,rfl⟩,aL.drop.p1.drop⟩
theorem pD(bJ:St w M Z w [As.ju 74 d]) (hu:Rd RR.gQ 4 Z w ar r cr ab) (h0:1≤ab.length) (h9:ab.length≤100) (hm:1≤m) (kM:m≤1000):Calls prog 17 #[.pointer (some ⟨d,0,none⟩),.slice ar r cr,.int .i64 m] w fun e w'=>∃a n c,∃l:List Key,e=.returned (.slice a n c)∧(l.length:Int)≤m∧(∀x∈l,o8 ab x)∧St w M Z w' [As.ju 74 d,As.os RR.key 39 2 a n c l]:=by
 have hlen:=hu.len;refine enter func17 rfl ntmps17 rfl<|?_;have bd:=bJ;have st1:=bd.fr hu;have st2:=st1.eP RR.key 39 2;refine bf ?_;refine dE ?_;have aW:=st2.p2;refine(dj) lP (bR aW.e1 (m:=m) (by omega)) ?_;rintro _ w1 ⟨z0,rfl,Qm,qV,AV⟩;have ba:=St.lr aW AV;have qV:=qV (by omega);obtain⟨z,rfl⟩:∃z:Nat,z0=z:=⟨z0.toNat,by omega⟩;refine ek ?_;refine WC.ct (σ:=Nat × (List Key) × (Option Addr) × Nat × Nat) (eJ:=fun(i,l,fY,eA,fZ)=>[(0,.pointer (some ⟨d,0,none⟩)),(1,.slice ar r cr),(7,.slice fY eA fZ),(8,.int .i64 (i:Int))]) (F:=fun(i,l,fY,eA,fZ)=>[As.os RR.key 39 2 fY eA fZ (l),As.ju 74 d]) (I:=fun(i,l,fY,eA,fZ)=>(l.length+i≤z+1)∧(∀x∈l,o8 ab x)∧True) (μ:=fun(i,l,fY,eA,fZ)=>i) (z+1,[],none,0,0) (ba.p1) Sub.t (⟨by simp,by simp,trivial⟩)<|?_;rintro⟨i,l,fY,eA,fZ⟩ w2 bw ⟨hlz,Dm,_⟩;simp only [CA,NA] at bw hlz Dm ⊢;have Ur:=((As.gs bw.g0)).len;refine(aZ) (fun g14=>?_) fun g14=>?_
 ·
  simp at g14
  refine kQ ?_;have bj:=bw.p1;refine(dj) aiH (H3 bj.e1 (As.gr bj.g2) h0 h9) ?_;rintro _ w3 ⟨x,rfl,hx,eN⟩;have bX:=St.lr bj eN;refine WL.go rfl (OX.aR (us:=x.cells) eT rfl rfl rfl rfl fun b21 w4 TN TP=>?_);have bV:=bX.eF TN TP;refine WL.ap rfl rfl bV.p2 (SR.ew (A:=fun _=>True) (x:=x) (As.gb bV.g0) trivial rfl (by simp [Key.cells,Value.oneCell']) rfl) fun a22 amE w5 atM atN cq=>?_;refine qi ?_;refine fH (i - 1,l++[x],a22,(eA+1),amE) ⟨cq.p1.drop,⟨by simp;omega,fun y hy=>by rcases List.mem_append.1 hy with h | h;exact Dm y h;simp at h;subst h;exact hx,trivial⟩⟩
 simp at g14
 refine(cA) ?_;exact⟨_,_,_,l,rfl,by omega,Dm,bw.p2.drop.p1⟩
set_option maxHeartbeats 4000000 in
theorem Fk{x:dQ}{a1 a2:Option Addr}{n1 e1 n2 e2:Nat}(hR:aw ab) (bJ:St w M Z w [As.ju 74 d]) (ht:nQ prog Z w) (hu:Rd RR.gQ 4 Z w ar r cr ab) (h0:1≤ab.length) (h9:ab.length≤100) (ri:Rd RR.aF 4 Z w a1 n1 e1 x.ae) (rc:Rd RR.fV 8 Z w a2 n2 e2 x.ak) (yn:LC ab x) (hm:0≤m) (kM:m≤1000):Calls prog 26 #[.pointer (some ⟨d,0,none⟩),.slice ar r cr,.agg (x.row a1 n1 e1 a2 n2 e2).toArray,.int .i64 m] w fun e w'=>∃(y:dQ) (b1 b2:Option Addr) (m1 d1 m2 d2:Nat) (Z':Nat→Prop),e=.returned (.agg (y.row b1 m1 d1 b2 m2 d2).toArray)∧LC ab y∧y.ad≤x.ad+m∧Rd RR.aF 4 Z' w' b1 m1 d1 y.ae∧Rd RR.fV 8 Z' w' b2 m2 d2 y.ak∧cN w.heap.size Z Z'∧St w M Z' w' [As.ju 74 d]:=by
 refine enter func26 rfl ntmps26 rfl<|?_;have bd:=bJ;have st1:=bd.fr hu;have st2:=st1.fr ri;have aW:=st2.fr rc;have ba:=aW.fact (B:=As.fz (FZ.Kx prog)) ht (fun _ hx=>hx);refine(fo) ba fun b6 w1 mD eE bw=>?_;refine(gu) bw fun b8 w2 BN iX bj=>?_;refine kQ ?_;have bX:=bj.p6;refine(dj) lP (bR bX.e1 (m:=m+1) (by omega)) ?_;rintro _ w3 ⟨z0,rfl,Qm,qV,eN⟩;have bV:=St.lr bX eN;have qV:=qV (by omega);obtain⟨z,rfl⟩:∃z:Nat,z0=z:=⟨z0.toNat,by omega⟩;refine dW ?_;refine WC.jC (σ:=Nat × dQ × (Option Addr) × Nat × Nat × (Option Addr) × Nat × Nat × (Nat→Prop)) (eJ:=fun(i,y,a1,n1,e1,a2,n2,e2,Z5)=>[(0,.pointer (some ⟨d,0,none⟩)),(1,.slice ar r cr),(6,.pointer (some ⟨b6,0,none⟩)),(8,.pointer (some ⟨b8,0,none⟩)),(9,.int .i64 (i:Int))]) (F:=fun(i,y,a1,n1,e1,a2,n2,e2,Z5)=>[As.ju 74 d,As.blk b6 31 (y.row a1 n1 e1 a2 n2 e2),As.ro RR.aF 4 a1 n1 e1 y.ae,As.ro RR.fV 8 a2 n2 e2 y.ak]) (I:=fun(i,y,a1,n1,e1,a2,n2,e2,Z5)=>(LC ab y)∧(i≤z)∧(y.ad≤x.ad+((z:Int) - i))∧(cN w.heap.size Z Z5)∧True) (μ:=fun(i,y,a1,n1,e1,a2,n2,e2,Z5)=>i) (Zf:=fun(i,y,a1,n1,e1,a2,n2,e2,Z5)=>Z5) (z,x,a1,n1,e1,a2,n2,e2,Z) (bV.p4.p5.p4.p3) Sub.t (⟨yn,Nat.le_refl _,by omega,cN.refl _ _,trivial⟩)<|?_;rintro⟨i,y,a1,n1,e1,a2,n2,e2,Z5⟩ w4 cq ⟨yn,hiz,Wm,nA,_⟩;simp only [CA,NA] at cq yn hiz Wm nA ⊢;have Ng:=yn.lb.ok.zG;have hyr:y.ak.length≤4000:=yn.lb.ok.ke.len;refine(aZ) (fun g17=>?_) fun g17=>?_
 ·
  simp at g17
  refine gN ?_;have aL:=cq;refine(dj) lP (bR aL.e1 (m:=8) (by omega)) ?_;rintro _ w5 ⟨z8,rfl,ae3,HR,jF⟩;have aO:=St.lr aL jF;have HR:=HR (by omega);refine nT ?_;have aS:=aO;refine WC.mN (σ:=Bool) [] (fun pk=>[(0,.pointer (some ⟨d,0,none⟩)),(1,.slice ar r cr),(6,.pointer (some ⟨b6,0,none⟩)),(8,.pointer (some ⟨b8,0,none⟩)),(9,.int .i64 (i:Int)),(21,.int .i64 z8),(32,.bool pk)]) (fun pk=>[]) (fun pk=>True) aS ?_ ?_
  ·
   refine(aZ) (fun rI=>?_) fun rI=>?_
   ·
    skip
    refine nx ?_;exact sg (decide (z8=0)) ⟨aS,trivial⟩
   skip
   refine(aZ) (fun rI=>?_) fun rI=>?_
   ·
    skip
    refine nx ?_;exact sg (decide (z8=1)) ⟨aS,trivial⟩
   skip
   refine dW ?_;exact sg (decide (z8=2)) ⟨aS,trivial⟩
  rintro pk w6 bE _;simp only [CA,NA] at bE ⊢;refine(aZ) (fun rI=>?_) fun rI=>?_
  ·
   skip
   refine WC.dp (m:=7) [6] [2,3] [1,2,0,3,4,5,6] [] bE (av.k4 M1 M2 M3 M4<|av.cons M5<|av.cons M6<|av.nil) mixed (by kernel_rfl) (by kernel_rfl) rfl<|(iN) (fun w7 Tx EN bs uZ=>?_);simp only [CA,NA] at bs;have aY:=bs;refine OX.call acF rfl rfl ((qU aY.e1 (by decide) (by decide)).mono ?_);rintro _ w8 ⟨ca,cn,cc,ch,rfl,pU,Dm,jZ⟩;have aQ:=St.lr aY jZ;have P5:=St.zI jZ;have Kf:=aY.size;have TL:=((As.gs aQ.g1)).len;have bF:=aQ.p1.bN (by omega);have Bf:=nA.trans (cN.fh (F:=fun x=>x∈aI ca) P5) Kf;refine⟨_,rfl,jZ.cT.size,_,rfl,_,_,_,bF,ay.k4<|ay.k4<|ay.nil,av.k4 M2 M3 M4 M5<|av.cons M6<|av.cons M7<|av.nil,?_⟩;refine(pd) aP SV.g0<|(iN) (fun w9 TA EP bK u9=>?_);simp only [CA,NA] at bK;have br:=bK;refine OX.call XI rfl rfl ((vj (x:=y) br.e0 (As.gr br.g3) (As.gr br.g4) (As.gr br.g0) yn.lb.ok.lJ yn.lb.aF Dm (by omega)).mono ?_);rintro _ kB ⟨y2,b1,b2,m1,d1,m2,d2,er,Z8,rfl,ZU,hv0,Im,hG,ZW,Q6,hap,_,Li,ZX,rh,iq⟩;have bT:=St.lv br iq rh;have Ka:=Bf.trans rh br.size;have cz:=bT.fr (Li);have cv:=cz.fr (ZX);refine⟨_,rfl,iq.cT.size,_,rfl,_,_,_,cv,ay.k4<|ay.k4<|ay.k2<|ay.nil,av.k4 M4 M5 M6 M7<|av.cons M8<|av.cons M9<|av.nil,?_⟩
   iterate 3 refine DG.a ?_
   refine(nU) ?_;intro kC Tm cR;simp only [CM,NM,CA,NA,kY.it] at cR;refine(dD) fT cR.p4 fun qb jY j7 bY=>?_;refine WL.nil (EX.np ?_);have cM:=bY.p5.drop;have dR:=cM.p5.drop;refine kQ ?_;refine fH (i - 1,y2,b1,m1,d1,b2,m2,d2,Z8) ⟨dR.p3.drop.p2.p1.p3,⟨yn.apply hap ZU hv0 Im hG ZW,by omega,by show y2.ad≤x.ad+((z:Int) - ((i - 1:Nat):Int));omega,Ka,trivial⟩⟩
  skip
  refine(aZ) (fun nK=>?_) fun nK=>?_
  ·
   skip
   refine nx ?_;refine WC.dp (m:=10) [8] [4,5] [2,3,4,0,1,5,6,7,8,9] [(9,.blk 109 [.slice none 0 0,.int .i64 0,.slice none 0 0,.slice none 0 0,.slice none 0 0,.slice none 0 0,.slice none 0 0])] bE (av.k4 M1 M2 M3 M4<|av.cons M5<|av.cons M6<|av.nil) mixed (by kernel_rfl) (by kernel_rfl) rfl<|?_
   iterate 2 refine DG.a ?_
   refine(iN) (fun w7 Qa AX bs oS=>?_);simp only [CA,NA] at bs;have aY:=bs;refine OX.call XH rfl rfl ((pD aY.e1 (As.gr aY.g6) (by omega) (by omega) (by decide) (by decide)).mono ?_);rintro _ w8 ⟨ga,gn,gc,gl,rfl,afj,wV,jZ⟩;have aQ:=St.lr aY jZ;have P5:=St.zI jZ;have Kf:=aY.size;have TL:=((As.gs aQ.g1)).len;have bF:=aQ.p1.bN (by omega);have Bf:=nA.trans (cN.fh (F:=fun x=>x∈aI ga) P5) Kf;obtain⟨f,s',CE,tr,yC,dO,qa,TM,Zm,_⟩:=yn.req hR wV (by omega);refine⟨_,rfl,jZ.cT.size,_,rfl,_,_,_,bF,ay.k4<|ay.k4<|ay.nil,av.k4 M2 M3 M4 M5<|av.cons M6<|av.cons M7<|av.nil,?_⟩;refine(pd) aP SV.g0<|(iN) (fun w9 Rb B5 bK pS=>?_);simp only [CA,NA] at bK;have br:=bK;refine OX.call aiL rfl rfl ((Ff br.e0 (As.gr br.g7) (As.gr br.g3) (As.gr br.g4) (As.gr br.g0) ((yn.lb.start yC (by omega)).sz hR (by omega)) CE).mono ?_);rintro _ kB ⟨A7,Z7,rfl,hA7,QD,iq⟩;have bT:=St.lv br iq QD;have Nf:=Bf.trans QD br.size;have cz:=bT.fr (hA7.u);have cv:=cz.fr (hA7.i);have cR:=cv.fr (hA7.r);have bY:=cR.fr (hA7.g);have cM:=bY.fr (hA7.f);have dR:=cM.fr (hA7.p);refine⟨_,rfl,iq.cT.size,_,rfl,_,_,_,dR,ay.k4<|ay.k4<|ay.k4<|ay.k2<|ay.nil,av.k4 M8 M9 jL kK<|av.cons qf<|av.cons vm<|av.nil,?_⟩
   iterate 3 refine DG.a ?_
   refine DG.side (s:=.blk 109 [.slice none 0 0,.int .i64 0,.slice none 0 0,.slice none 0 0,.slice none 0 0,.slice none 0 0,.slice none 0 0]) rfl rfl rfl rfl rfl rfl (fun wx Zx Rx Bx fJ=>OX.alloc UE rfl fun b wy nw hb=>⟨nw.ext.size,_,rfl,⟨b,rfl⟩,fJ.eF nw hb⟩)<|?_;rintro _ ⟨iJ,rfl⟩;refine(nU) ?_;intro kC Qe dz;simp only [CM,NM,CA,NA,kY.it] at dz;refine(dD) lO dz fun qb sC nt dX=>?_;refine nx ?_;refine WL.nil (EX.np ?_);refine(aZ) (fun Ag=>?_) fun Ag=>?_
   ·
    skip
    refine nx ?_;refine WC.dp (m:=8) [6,7] [2,3] [1,2,0,3,4,5,6,7] [] dX (av.k4 M0 M1 M2 M3<|av.k4 M4 M5 M6 M7<|av.k4 M9 jL kK qf<|av.cons vm<|av.cons FC<|av.nil) mixed (by kernel_rfl) (by kernel_rfl) rfl<|(iN) (fun tU Tx EN cX uZ=>?_);simp only [CA,NA] at cX;have dx:=cX.p8;refine OX.call lP rfl rfl ((bR dx.e1 (m:=30) (by omega)).mono ?_);rintro _ yB ⟨z3,rfl,aeX,HO,xP⟩;have cJ:=St.lr dx xP;have HO:=HO (by omega);obtain⟨mo,rfl⟩:∃mo:Nat,z3=mo:=⟨z3.toNat,by omega⟩;refine⟨_,rfl,xP.cT.size,_,rfl,_,_,_,cJ,ay.k4<|ay.k4<|ay.k4<|ay.k2<|ay.cons<|ay.nil,av.k4 M1 M2 M3 M4<|av.k4 M5 M6 M7 M8<|av.k4 M9 jL kK qf<|av.cons vm<|av.cons FC<|av.nil,?_⟩;refine(pd) fk SV.g0<|(iN) (fun tV TA EP dc u9=>?_);simp only [CA,NA] at dc;have df:=dc;refine OX.call aiM rfl rfl ((Kb hR df.e0 (As.gf df.g13) ⟨(As.gr df.g7),(As.gr df.g6),(As.gr df.g5),(As.gr df.g4),(As.gr df.g3),(As.gr df.g2)⟩ (yn.lb.start yC (by omega)) CE (by omega)).mono ?_);rintro _ xE ⟨t8,A8,i8,er8,Z9,rfl,hk8,amG,hA8,af2,Lo⟩;have ez:=St.lv df Lo af2;have oU:=Nf.trans af2 df.size;have dA:=ez.fr (hA8.u);have eC:=dA.fr (hA8.i);have eO:=eC.fr (hA8.r);have fc:=eO.fr (hA8.g);have gU:=fc.fr (hA8.f);have jz:=gU.fr (hA8.p);refine⟨_,rfl,Lo.cT.size,_,rfl,_,_,_,jz,ay.k4<|ay.k4<|ay.k4<|ay.k4<|ay.k4<|ay.cons<|ay.nil,av.k4 M7 M8 M9 jL<|av.k4 kK qf vm FC<|av.k4 Vu M16 M17 M18<|av.cons M19<|av.cons M20<|av.nil,?_⟩
    iterate 4 refine DG.a ?_
    refine(nU) ?_;intro BR Hv l7;simp only [CM,NM,CA,NA,kY.it] at l7;refine(dD) lO l7.p7 fun Bw BO ry iT=>?_;refine WL.nil (EX.np ?_);refine nx ?_;have fU:=iT.xV.drop;have qd:=fU.Ks.drop;have l8:=qd.oW.drop;have kg:=l8.pK.drop;have qZ:=kg.p9.drop;have tZ:=qZ.p8.drop;have wH:=tZ.p8.drop;refine(bz) fk wH.b0<|?_;have nB:=wH;refine(dj) aiN (Ce nB.e0 ⟨(As.gr nB.g6),(As.gr nB.g5),(As.gr nB.g4),(As.gr nB.g3),(As.gr nB.g2),(As.gr nB.g1)⟩ (hk8.sz hR (by omega))) ?_;rintro _ Il ⟨rs,b1,b2,m1,d1,m2,d2,Z8,rfl,j9,amH,Li,ZX,rh,Qo⟩;have wI:=St.lv nB Qo rh;have Ka:=oU.trans rh nB.size;have vi:=wI.fr (Li);have E7:=vi.fr (ZX);refine(dD) fT E7.pK fun Nz Q5 vJ Bk=>?_;refine nx ?_;have E8:=Bk.oW.drop;have Nd:=E8.oW.drop;refine kQ ?_;refine fH (i - 1,⟨t8.base.ad,t8.base.ae,rs⟩,b1,m1,d1,b2,m2,d2,Z8) ⟨Nd.p3.drop.p3.drop.p3.drop.p3.drop.p3.drop.p3.drop.p3.drop.p2.p1.p3,⟨by rw [amH];exact yn.task hk8.ok.base (amG yn.bh).2,by omega,by have h9:t8.base.ad=y.ad:=hk8.ok.base.rv;show t8.base.ad≤x.ad+((z:Int) - ((i - 1:Nat):Int));omega,Ka,trivial⟩⟩
   exact absurd Ag (by simp)
  skip
  refine(aZ) (fun g66=>?_) fun g66=>?_
  ·
   skip
   refine dE ?_;have bs:=bE;refine(dj) lP (bR bs.e1 (m:=3) (by omega)) ?_;rintro _ w7 ⟨z9,rfl,ae4,HS,oh⟩;have aY:=St.lr bs oh;have HS:=HS (by omega);refine(aZ) (fun g70=>?_) fun g70=>?_
   ·
    skip
    refine WC.dp (m:=8) [6,7] [2,3] [1,2,0,3,4,5,6,7] [] aY (av.k4 M1 M2 M3 M4<|av.cons M5<|av.cons M6<|av.nil) mixed (by kernel_rfl) (by kernel_rfl) rfl<|(iN) (fun w8 Tx EN aQ uZ=>?_);simp only [CA,NA] at aQ;have bF:=aQ;refine OX.call lP rfl rfl ((bR bF.e1 (m:=200) (by omega)).mono ?_);rintro _ w9 ⟨zb,rfl,ao6,Vs,mu⟩;have bK:=St.lr bF mu;have Vs:=Vs (by omega);refine⟨_,rfl,mu.cT.size,_,rfl,_,_,_,bK,ay.k4<|ay.k2<|ay.cons<|ay.nil,av.k4 M1 M2 M3 M4<|av.cons M5<|av.cons M6<|av.nil,?_⟩;refine(pd) aP SV.g0<|(iN) (fun kB TA EP br u9=>?_);simp only [CA,NA] at br;have bT:=br;refine OX.call aiO rfl rfl ((HZ bT.e0 (As.gr bT.g2) (As.gr bT.g3) yn.lb.ok.lJ yn.lb.ok.small (by omega) (by omega)).mono ?_);rintro _ kC ⟨rs,b1,b2,m1,d1,m2,d2,va,vn,vc,Z8,rfl,j9,Li,ZX,rh,Bn⟩;have cz:=St.lv bT Bn rh;have Ka:=nA.trans rh bT.size;have cv:=cz.fr (Li);have cR:=cv.fr (ZX);refine⟨_,rfl,Bn.cT.size,_,rfl,_,_,_,cR,ay.k4<|ay.k4<|ay.cons<|ay.nil,av.k4 M3 M4 M5 M6<|av.cons M7<|av.cons M8<|av.nil,?_⟩
    iterate 4 refine DG.a ?_
    refine(nU) ?_;intro qb ael bY;simp only [CM,NM,CA,NA,kY.it] at bY;refine(dD) fT bY.p3 fun tU Ra Gk cM=>?_;refine WL.nil (EX.np ?_);have dR:=cM.p4.drop;have dz:=dR.p4.drop;refine kQ ?_;refine fH (i - 1,⟨y.ad,y.ae,rs⟩,b1,m1,d1,b2,m2,d2,Z8) ⟨dz.p2.p1.p3,⟨yn.sub j9,by omega,by show y.ad≤x.ad+((z:Int) - ((i - 1:Nat):Int));omega,Ka,trivial⟩⟩
   skip
   refine qi ?_;refine fH (i - 1,y,a1,n1,e1,a2,n2,e2,Z5) ⟨aY,⟨yn,by omega,by show y.ad≤x.ad+((z:Int) - ((i - 1:Nat):Int));omega,nA,trivial⟩⟩
  skip
  refine WC.dp (m:=10) [8,9] [4,5] [2,3,4,0,1,5,6,7,8,9] [] bE (av.k4 M1 M2 M3 M4<|av.cons M5<|av.cons M6<|av.nil) mixed (by kernel_rfl) (by kernel_rfl) rfl<|?_
  iterate 2 refine DG.a ?_
  refine(iN) (fun w7 Qa AX bs oS=>?_);simp only [CA,NA] at bs;have aY:=bs;refine OX.call XH rfl rfl ((pD aY.e1 (As.gr aY.g6) (by omega) (by omega) (by decide) (by decide)).mono ?_);rintro _ w8 ⟨ga,gn,gc,gl,rfl,afj,wV,jZ⟩;have aQ:=St.lr aY jZ;have P5:=St.zI jZ;have Kf:=aY.size;have TL:=((As.gs aQ.g1)).len;have bF:=aQ.p1.bN (by omega);have Bf:=nA.trans (cN.fh (F:=fun x=>x∈aI ga) P5) Kf;obtain⟨f,s',CE,tr,yC,dO,qa,TM,Zm,_⟩:=yn.req hR wV (by omega);refine⟨_,rfl,jZ.cT.size,_,rfl,_,_,_,bF,ay.k4<|ay.k4<|ay.nil,av.k4 M2 M3 M4 M5<|av.cons M6<|av.cons M7<|av.nil,?_⟩;refine(pd) aP SV.g0<|(iN) (fun w9 Rb B5 bK pS=>?_);simp only [CA,NA] at bK;have br:=bK;refine OX.call XF rfl rfl ((ou (x:=y) (s':=s') hR br.e0 (As.gr br.g7) (As.gr br.g3) (As.gr br.g4) (As.gr br.g0) (As.gf br.g6) CE tr yC (by omega) dO qa).mono ?_);rintro _ kB ⟨q1,q2,q3,q4,q5,q6,o1,o2,o3,Z8,rfl,rh,QZ,hqc,iq⟩;have bT:=St.lv br iq rh;have Ka:=Bf.trans rh br.size;have cz:=bT.fr (QZ);have cv:=cz.fr (hqc);refine⟨_,rfl,iq.cT.size,_,rfl,_,_,_,cv,ay.k4<|ay.k4<|ay.k2<|ay.cons<|ay.nil,av.k4 M5 M6 M7 M8<|av.cons M9<|av.cons jL<|av.nil,?_⟩
  iterate 4 refine DG.a ?_
  refine(nU) ?_;intro kC EW cR;simp only [CM,NM,CA,NA,kY.it] at cR;refine(dD) fT cR.p5 fun qb U3 U4 bY=>?_;refine WL.nil (EX.np ?_);have cM:=bY.p6.drop;have dR:=cM.p6.drop;refine kQ ?_;refine fH (i - 1,(s'.base y),q1,q2,q3,q4,q5,q6,Z8) ⟨dR.p3.drop.p3.drop.p2.p1.p3,⟨TM,by omega,by show(s'.base y).ad≤x.ad+((z:Int) - ((i - 1:Nat):Int));rw [Zm];omega,Ka,trivial⟩⟩
 skip
 refine(bz) aP cq.b1<|(dD) fT cq.p4 fun w5 Yy Yz aL=>?_;refine(mz) aP aL.b0<|?_;exact⟨y,a1,a2,n1,e1,n2,e2,Z5,rfl,yn,by omega,(As.gr aL.g3),(As.gr aL.g4),nA,aL.p1.k1⟩
set_option maxHeartbeats 1600000 in
theorem HV(bJ:St w M Z w [As.ju 74 d]) (ht:nQ prog Z w) (hm:0≤m) (kM:m≤1000):Calls prog 9 #[.pointer (some ⟨d,0,none⟩),.int .i64 m] w fun e w'=>∃(ab:List aG) (x:dQ) (ar a1 a2:Option Addr) (r cr n1 e1 n2 e2:Nat) (Z':Nat→Prop),e=.returned (.tuple #[.slice ar r cr,.agg (x.row a1 n1 e1 a2 n2 e2).toArray])∧aw ab∧2≤ab.length∧ab.length≤8∧LC ab x∧x.ad≤1+m∧Rd RR.gQ 4 Z' w' ar r cr ab∧Rd RR.aF 4 Z' w' a1 n1 e1 x.ae∧Rd RR.fV 8 Z' w' a2 n2 e2 x.ak∧cN w.heap.size Z Z'∧St w M Z' w' [As.ju 74 d]:=by
 refine enter func9 rfl ntmps9 rfl<|?_;have bd:=bJ;have st1:=bd.fact (B:=As.fz (FZ.Kx prog)) ht (fun _ hx=>hx);refine(gu) st1 fun b5 w1 nq gy st2=>?_;refine ek ?_;have aW:=st2.p2;refine(dj) aiC (EY aW.e1) ?_;rintro _ w2 ⟨ra,rn,rc,ab,Z1,rfl,hR,yt,hr8,gq,u7⟩;have ba:=St.lv aW u7 gq;have NH:=St.zI u7;have QA:=aW.size;have oO:=gq.le QA;have Uk:=((As.gs ba.g1)).len;have bw:=ba.p1.bN (by omega);have lA:=oO.trans (cN.fh (F:=fun x=>x∈aI ra) NH) QA;refine ek ?_;refine WP .r (PV.bW (us:=((⟨0,[],[]⟩:dQ).row none 0 0 none 0 0)) acn rfl rfl rfl)<|nx ?_;have bj:=bw.p1;refine(dj) acF (qU bj.e1 (by decide) (by decide)) ?_;rintro _ w3 ⟨ca,cn,cc,ch,rfl,pU,Dm,eN⟩;have bX:=St.lr bj eN;have P5:=St.zI eN;have Kf:=bj.size;have TL:=((As.gs bX.g1)).len;have bV:=bX.p1.bN (by omega);have sF:=lA.trans (cN.fh (F:=fun x=>x∈aI ca) P5) Kf;have cq:=bV;refine(dj) XI (vj (x:=⟨0,[],[]⟩) cq.e0 (Rd.nil _ _ _ _) (Rd.nil _ _ _ _) (As.gr cq.g0) Wl (lK.nil _) Dm (by omega)) ?_;rintro _ w4 ⟨y2,b1,b2,m1,d1,m2,d2,er,Z4,rfl,ZU,hv0,Im,hG,ZW,Q6,hap,_,Li,ZX,AJ,iY⟩;have aL:=St.lv cq iY AJ;have AK:=sF.trans AJ cq.size;have aO:=aL.fr (Li);have aS:=aO.fr (ZX);refine(gu) aS fun b7 w5 vq oe bE=>?_;refine(dD) fT bE fun w6 jY j7 bs=>?_;refine(bz) aP bs.b0<|nx ?_;have aY:=bs.p4;refine(dj) aiF (Fk hR aY.e1 (As.gf aY.g7) (As.gr aY.g5) (by omega) (by omega) (As.gr aY.g3) (As.gr aY.g2) (LC.nil ab y2 ZU hv0 Im hG ZW) hm kM) ?_;rintro _ w7 ⟨y,q1,q2,p1,j1,p2,j2,Z5,rfl,yn,Wm,QZ,hqc,uW,oh⟩;have aQ:=St.lv aY oh uW;have nA:=AK.trans uW aY.size;have bF:=aQ.fr (QZ);have bK:=bF.fr (hqc);refine(dD) fT bK.p8 fun w8 sC nt br=>?_;refine dE ?_;refine EX.iV rfl (RS.tmp rfl<|RS.cell aP rfl br.b0 rfl<|RS.nil) rfl<|?_;exact⟨ab,y,ra,q1,q2,rn,rc,p1,j1,p2,j2,Z5,rfl,hR,yt,hr8,yn,by have h0:y2.ad≤0+1:=Q6;omega,(As.gr br.g8),(As.gr br.g2),(As.gr br.g1),nA,br.p3.k1⟩
set_option maxHeartbeats 400000
set_option maxHeartbeats 400000
theorem St.shrink{w0:World}{Z':Nat→Prop}(h:St w0 M Z' w []) (hz:∀x,Z x→Z' x):St w0 M Z w []:=⟨h.cT,fun x hx=>h.ma x (hz x hx),by simp,by simp,.nil,by simp⟩
set_option maxHeartbeats 400000
set_option maxHeartbeats 400000
theorem yo{A:Nat→Prop}(hl:Rd RR.key 2 A w a n c l) (hd:l.Nodup):CR prog 159 #[.slice a n c] w (.slice a n c):=by
 have hle:=SR.le hl;have hlen:=SR.len hl;refine enter func159 rfl ntmps159 rfl<|?_;have bd:=St.s0 w;refine bf ?_;refine(aZ) (fun g8=>?_) fun g8=>?_
 ·
  skip
  refine(cA) ?_;exact⟨rfl,(St.cg bd)⟩
 simp at g8
 refine qi ?_;refine WC.ct (σ:=Nat) (eJ:=fun i=>[(0,.slice a n c),(3,.int .i64 (i:Int))]) (F:=fun i=>[]) (I:=fun i=>(1≤i)∧(i≤n)∧True) (μ:=fun i=>n - i) (1) (bd) Sub.t (⟨Nat.le_refl _,by omega,trivial⟩)<|?_;rintro i w1 st1 ⟨hi,iB,_⟩;simp only [CA,NA] at st1 hi iB ⊢;refine(aZ) (fun g13=>?_) fun g13=>?_
 ·
  simp at g13
  have cV:i<l.length:=by omega
  have Ij:i - 1<l.length:=by omega
  obtain⟨Tt,Tu,Tv,lU,_,hRx,ot,_⟩:=Rd.at hl cV;have hRx:=RR.cy hRx;subst hRx;obtain⟨b_y,o_y,r_y,AQ,_,hRy,AR,_⟩:=Rd.at hl Ij;have hRy:=RR.cy hRy;subst hRy
  have kW:l[i]≠l[i - 1]:=fun e=>by
   exact List.pairwise_iff_getElem.1 hd (i - 1) i Ij cV (by omega) e.symm
  refine ek ?_;have Q8:=st1.cY;refine WC.dS (m:=9) st1 mixed<|cS ?_;refine DP .r (fun _ hC=>PV.fI fP (i:=i) lU rfl rfl (by omega))<|DP .r (fun _ hC=>VA aq (bH ot (St.cg hC.2) (by simp)) .r)<|cS ?_;refine DP .r (fun _ hC=>(PV.sub rfl rfl (by omega) (by omega)).cast (v':=.int .i64 ((i - 1:Nat):Int)) (congrArg (Value.int .i64) (by omega)))<|DP .r (fun _ hC=>PV.fI fP (i:=i - 1) AQ rfl rfl (by omega))<|DP .r (fun _ hC=>VA aq (bH AR (St.cg hC.2) (by simp)) .r)<|(eh)<|?_;rintro w2 ⟨oQ,st2⟩ _;refine WP .r (PV.Kp gS (p:=l[i]) (q:=l[i - 1]) rfl rfl)<|(aZ) (fun fb=>?_) fun fb=>?_
  ·
   exact absurd fb (by simpa using kW)
  skip
  refine kQ ?_;refine fH (i+1) ⟨st2,⟨by omega,by omega,trivial⟩⟩
 simp at g13
 refine(cA) ?_;exact⟨rfl,(St.cg st1)⟩
theorem Bo(bJ:St w M Z w []) (hl:Rd RR.key 2 Z w a n c l) (h0:l≠[]) (hd:l.Nodup) (hn:l.length≤1000000):Calls prog 130 #[.slice a n c] w fun e w'=>∃a' n' c',∃l':List Key,e=.returned (.slice a' n' c')∧Wo l'∧l'.Perm l∧St w M Z w' [As.os RR.key 39 2 a' n' c' l']:=by
 refine enter func130 rfl ntmps130 rfl<|?_;have bd:=bJ;have st1:=bd.fr hl;refine kQ ?_;have st2:=st1;refine(dj) UT (sH st2.e0 (As.gr st2.g0) hn) ?_;rintro _ w1 ⟨b1,b2,c1,rfl,AV⟩;have aW:=St.lr st2 AV;refine ji ?_;have ba:=aW;refine(dj) ads (HI ba.e1 h0 hn) ?_;rintro _ w2 ⟨rfl,l2,pT,ry,u7⟩;have bw:=St.lr ba u7;have qo:l2.length=l.length:=pT.length_eq;have QN:l2.Nodup:=pT.nodup_iff.2 hd;have vJ:=RY pT hd ry;refine(iz) (yo (Ow.rd (As.gs bw.g0) (by omega)) QN) bw fun w3 s3 bj=>?_;refine(cA) ?_;exact⟨b1,_,c1,l2,rfl,vJ,pT,bj.p1.drop⟩
theorem Ch{ab:List aG}(lC:n≤99):CR prog 86 #[.slice a r c,(du (n:Int)).val] w (.bool true):=by
 have hkc:du (n:Int)=⟨30,itoa n⟩:=by unfold du;rw [if_neg (by omega)]
 have ND:(du (n:Int)).kind=30:=by rw [hkc]
 have Vc:(du (n:Int)).text=itoa n:=by rw [hkc]
 refine enter func86 rfl ntmps86 rfl<|?_;have bd:=St.s0 w;refine(fo) bd fun b3 w1 iR dL st1=>?_;refine dW ?_;have AA:=st1.cY;refine WC.eQ (m:=12) (E:=dr [(1,fun v _=>v=.bool true),(4,fun v _=>v=.bool false)]) st1 (bM (⟨fun _ _ _ _ _ _ _ h=>h,⟨fun _ _ _ _ _ _ _ h=>h,trivial⟩⟩)) mixed (by kernel_rfl)<|(jj) aq St.g0<|?_;refine DW.c0 (fun wx hC hF=>jG (k:=du (n:Int)) (by omega) Vc lC)<|(jj) aq St.g0<|?_;refine DW.c1 (u:=.bool false) (fun wx hC hF=>qT (k:=du (n:Int))) (by rw [show(decide ((du (n:Int)).kind=31) || decide ((du (n:Int)).kind=32))=false by(rw [ND];simp)])<|(eh) ?_;rintro w2 ⟨fx,st2⟩ ⟨_,⟨_,_⟩⟩;refine(cA) ?_;exact⟨by simp,(St.cg st2)⟩
theorem B9{k:Key}{B:Nat→Prop}(hk:gA ab k) (hr:il B w a r c ab):CR prog 86 #[.slice a r c,k.val] w (.bool true):=by
 cases hk with
 | cell h=>exact Ch (ab:=ab) h
 | gQ hi h=>exact B0 hi h hr
end Go.Rc

