/- Walks over the program, part WF. Conditions: as each theorem says. -/
import Derived.Test.YtjpagoacbadijaaGreatDoorNFacts
import Derived.Test.YtjpagoacbadijaaGreatDoorNWB
import Derived.Test.YtjpagoacbadijaaGreatDoorNBe
set_option linter.all false
namespace Go.Rc
open Go Go.Proofs Go.Proofs.Tryz
variable {x:dQ}{a a2 a1:Option Addr}{n c n2 e2 n1 e1:Nat}{w:World}{M Z:Nat→Prop}{l:List Rec}{k:Key}
set_option maxHeartbeats 400000
theorem lE{x:Rec}(bJ:St w M Z w []) (hk:Rd RR.key 2 Z w a n c x.reads) (h4:x.reads.length≤4000):Calls prog 35 #[.agg (x.row a n c).toArray] w fun e w'=>∃a' n' c',e=.returned (.agg (x.row a' n' c').toArray)∧St w M Z w' [As.os RR.key 39 2 a' n' c' x.reads]:=by
 have FD:=hk.len;refine enter func35 rfl ntmps35 rfl<|?_;have bd:=bJ;have st1:=bd.fr hk;have st2:=st1.eP RR.key 39 2;refine(fo) st2 fun b1 w1 oY dN aW=>?_;refine(gu) aW fun b2 w2 nz fm ba=>?_;refine(bL) gK ba.b1<|?_;refine WL.ap rfl rfl ba.p2 ((As.gr ba.g3)) fun a5 c'5 w3 hf5 hn5 bw=>?_;refine nx ?_;refine WL.s1 bw.p2 fun w4 _ bj=>?_;refine(bz) ey bj.b0<|(dD) iH bj.p2 fun w5 jY j7 bX=>?_;refine(mz) ey bX.b0<|?_;exact⟨_,_,_,rfl,bX.p2.k1⟩
theorem Hb(bJ:St w M Z w []) (hl:Rd RR.fV 8 Z w a n c l) (h6:l.length≤1000000):Calls prog 61 #[.slice a n c] w fun e w'=>∃a' n' c' Z',e=.returned (.slice a' n' c')∧cN w.heap.size Z Z'∧St w M Z' w' [As.os RR.fV 48 8 a' n' c' l]:=by
 have hlen:=hl.len;have hle:=hl.le;refine enter func61 rfl ntmps61 rfl<|?_;have bd:=bJ;have st1:=bd.fr hl;have st2:=st1.eP RR.fV 48 8;refine bf ?_;refine gN ?_;refine WC.jC (σ:=Nat × (Nat→Prop) × (List Rec) × (Option Addr) × Nat × Nat) (eJ:=fun(i,Z1,acc,cF,cm,cG)=>[(3,.slice cF cm cG),(6,.slice a n c),(7,.int .i64 (n:Int)),(8,.int .i64 (i:Int))]) (F:=fun(i,Z1,acc,cF,cm,cG)=>[As.os RR.fV 48 8 cF cm cG (acc)]) (I:=fun(i,Z1,acc,cF,cm,cG)=>(i≤n)∧(cN w.heap.size Z Z1)∧(acc=l.take i)∧True) (μ:=fun(i,Z1,acc,cF,cm,cG)=>n - i) (Zf:=fun(i,Z1,acc,cF,cm,cG)=>Z1) (0,Z,[],none,0,0) (st2) Sub.t (⟨by omega,cN.refl _ _,by simp,trivial⟩)<|?_;rintro⟨i,Z1,acc,cF,cm,cG⟩ w1 aW ⟨hi,hZ,eu,_⟩;simp only [CA,NA] at aW hi hZ eu ⊢;have l4:=((As.gs aW.g0)).len
 have BM:acc.length≤1000000:=by rw [eu,List.length_take];omega
 refine(aZ) (fun g9=>?_) fun g9=>?_
 ·
  simp at g9
  have cV:i<l.length:=by omega
  refine ek ?_;obtain⟨ik,kf,jE,aU,fX,bD,cP,dM⟩:=Rd.at (As.gr aW.g1) cV;obtain⟨q1,q2,q3,rfl,rJ,qP⟩:=bD;have ba:=aW.fg dM cP;have bw:=ba.fr rJ;refine nx ?_;refine WP .r (PV.fI ky aU rfl rfl (by omega))<|(bz) ey (As.nR bw.g1)<|(gu) bw fun b5 w2 nq gy bj=>?_;refine(dD) iH bj fun w3 jY j7 bX=>?_;refine(bz) ey bX.b0<|?_;have bV:=bX;refine(dj) S4 (lE bV.e0 (As.gr bV.g1) qP) ?_;rintro _ w4 ⟨e1,e2,e3,rfl,iY⟩;have cq:=St.lr bV iY;have qk:=St.cH iY;have hsz:=bV.size;have aL:=cq.bN (by omega);have lA:=hZ.trans (cN.fh (F:=fun x=>x∈aI e1) qk) hsz;refine WL.go rfl (OX.aR (us:=l[i].row e1 e2 e3) tA rfl rfl rfl rfl fun Bq w5 Ep Hc=>?_);have aO:=aL.eF Ep Hc;refine WL.ap rfl rfl aO.p5 (SR.ew (A:=fun _=>True) (x:=l[i]) (As.gb aO.g0) trivial rfl (Rec.one _ _ _ _) ⟨e1,e2,e3,rfl,(As.gr aO.g1),qP⟩) fun a16 aju w6 aqZ aq0 aS=>?_;refine kQ ?_;refine fH (i+1,_,acc++[l[i]],a16,(cm+1),aju) ⟨aS.p6.p1.k2,⟨by omega,lA,by rw [eu,List.take_succ_eq_append_getElem cV],trivial⟩⟩
 simp at g9
 have cZ:acc=l:=by rw [eu];exact List.take_of_length_le (by omega)
 subst cZ;refine(cA) ?_;exact⟨_,_,_,_,rfl,hZ,aW.p1.drop⟩
theorem j8(bJ:St w M Z w []) (hl:Rd RR.fV 8 Z w a n c l):Calls prog 14 #[.slice a n c,k.val] w fun e w'=>∃a' n' c',e=.returned (.tuple #[.agg ((aH l k).row a' n' c').toArray,.bool (aC l k).isSome])∧(aH l k).reads.length≤4000∧St w M Z w' [As.os RR.key 39 2 a' n' c' (aH l k).reads]:=by
 have hlen:=hl.len;have hle:=hl.le;refine enter func14 rfl ntmps14 rfl<|?_;have bd:=bJ;have st1:=bd.fr hl;refine(fo) st1 fun b3 w1 iR dL st2=>?_;refine(gu) st2 fun b4 w2 jK bG aW=>?_;refine bf ?_;refine WC.ct (σ:=Nat) (eJ:=fun i=>[(3,.pointer (some ⟨b3,0,none⟩)),(4,.pointer (some ⟨b4,0,none⟩)),(8,.slice a n c),(9,.int .i64 (n:Int)),(10,.int .i64 (i:Int))]) (F:=fun i=>[]) (I:=fun i=>(i≤n)∧(∀j x,j<i→l[j]?=some x→(x.key == k)=false)∧True) (μ:=fun i=>n - i) (0) (aW) Sub.t (⟨by omega,fun j x h=>by omega,trivial⟩)<|?_;rintro i w3 ba ⟨hi,gV,_⟩;simp only [CA,NA] at ba hi gV ⊢;refine(aZ) (fun g11=>?_) fun g11=>?_
 ·
  simp at g11
  have cV:i<l.length:=by omega
  refine ek ?_;obtain⟨ik,kf,jE,aU,fX,bD,cP,dM⟩:=Rd.at (As.gr ba.g2) cV;obtain⟨q1,q2,q3,rfl,rJ,qP⟩:=bD;have bw:=ba.fg dM cP;have bj:=bw.fr rJ;refine nx ?_;refine WP .r (PV.fI ky aU rfl rfl (by omega))<|(bz) ey (As.nR bj.g1)<|(gu) bj fun b7 w4 vq oe bX=>?_;refine(dD) iH bX fun w5 jY j7 bV=>?_;refine(j3) aq bV.b0<|(bz) aq bV.b4<|?_;refine WP .r (PV.Kp gS (p:=l[i].key) (q:=k) rfl rfl)<|(aZ) (fun g17=>?_) fun g17=>?_
  ·
   simp at g17
   have hf:aC l k=some l[i]:=lG cV gV (by simpa using g17)
   have XZ:aH l k=l[i]:=by unfold aH;rw [hf];rfl
   refine(bz) ey bV.b0<|?_;have cq:=bV;refine(dj) S4 (lE cq.e0 (As.gr cq.g1) qP) ?_;rintro _ w6 ⟨e1,e2,e3,rfl,og⟩;have aL:=St.lr cq og;refine(dD) iH aL.p4 fun w7 sC nt aO=>?_;refine qi ?_;refine EX.iV rfl (RS.cell ey rfl aO.b0 rfl<|RS.tmp rfl<|RS.nil) rfl<|?_;exact⟨e1,e2,e3,by rw [hf,XZ];rfl,by rw [XZ];exact qP,by rw [XZ];exact aO.p1.k1⟩
  simp at g17
  refine gN ?_;refine fH (i+1) ⟨bV.p5.p5.p5.k3,⟨by omega,dG cV gV (by simpa using g17),trivial⟩⟩
 simp at g11
 have hf:aC l k=none:=um (i:=i) (by omega) gV
 have XZ:aH l k=sf:=by unfold aH;rw [hf];rfl
 have bw:=ba.eP RR.key 39 2;refine(dD) iH bw.p1 fun w4 BO ry bj=>?_;refine dW ?_;refine EX.iV rfl (RS.cell ey rfl bj.b0 rfl<|RS.tmp rfl<|RS.nil) rfl<|?_;exact⟨none,0,0,by rw [hf,XZ];rfl,by rw [XZ];simp [sf],by rw [XZ];exact bj.p1.k1⟩
theorem fw(hl:Rd RR.fV 8 Z w a n c l):Calls prog 14 #[.slice a n c,k.val] w fun e w'=>∃a' n' c',e=.returned (.tuple #[.agg ((aH l k).row a' n' c').toArray,.bool (aC l k).isSome])∧aV [] w w':=
 (j8 (M:=fun _=>False) (St.start fun _ hx=>hx.2) hl.cut).mono fun _ _ ⟨a',n',c',h1,_,h2⟩=>⟨a',n',c',h1,h2.cg⟩
theorem Hd{x:Rec}(h1:x.key.text.size≤4611686018427) (h2:x.value.size≤4611686018427) (h3:n≤4611686018427):CR prog 116 #[.agg (x.row a n c).toArray] w (.int .i64 (16+x.key.text.size+x.value.size+8*n:Int)):=by
 refine enter func116 rfl ntmps116 rfl<|?_;have c0:aV [] w w:=aV.refl _ _;refine cS ?_;refine WL.go rfl (OX.box rfl rfl rfl fun b1 w1 oY dN=>?_);have s1:=oY.ext;have tI:=oY.ki c0;have c1:=c0.trans s1;refine ek ?_;refine WP .r (PV.fa tD rfl)<|WP .r (PV.fa tC rfl)<|(bL) iG dN.range<|?_;refine WP .r (PV.yG vY rfl)<|nx ?_;refine WP .r (PV.fa Ab rfl)<|(bL) iG dN.range<|?_;refine WP .r (PV.yG vY rfl)<|nx ?_;refine WP .r (PV.fa Eh rfl)<|(bL) gK dN.range<|?_;refine WP .r (PV.jM fP rfl)<|WP .r (PV.mul rfl rfl (by omega) (by omega))<|(cA) ?_;exact⟨rfl,c1⟩
theorem xz(bJ:St w M Z w []) (hl:Rd RR.fV 8 Z w a n c l) (h6:l.length≤1000000):Calls prog 79 #[.slice a n c,k.val] w fun e w'=>∃a' n' c',e=.returned (.slice a' n' c')∧St w M Z w' [As.os RR.fV 48 8 a' n' c' (jq l k)]:=by
 have hlen:=hl.len;refine enter func79 rfl ntmps79 rfl<|?_;have bd:=bJ;have st1:=bd.fr hl;have st2:=st1.eP RR.fV 48 8;refine(fo) st2 fun b3 w1 iR dL aW=>?_;refine bf ?_;refine ek ?_;refine WC.ct (σ:=Nat × (List Rec) × (Option Addr) × Nat × Nat) (eJ:=fun(i,acc,cF,cm,cG)=>[(3,.pointer (some ⟨b3,0,none⟩)),(5,.slice cF cm cG),(8,.slice a n c),(9,.int .i64 (n:Int)),(10,.int .i64 (i:Int))]) (F:=fun(i,acc,cF,cm,cG)=>[As.os RR.fV 48 8 cF cm cG (acc)]) (I:=fun(i,acc,cF,cm,cG)=>(i≤n)∧(acc=jq (l.take i) k)∧True) (μ:=fun(i,acc,cF,cm,cG)=>n - i) (0,[],none,0,0) (aW.p1) Sub.t (⟨by omega,by simp [jq],trivial⟩)<|?_;rintro⟨i,acc,cF,cm,cG⟩ w2 ba ⟨hi,eu,_⟩;simp only [CA,NA] at ba hi eu ⊢;have l4:=((As.gs ba.g0)).len;have BM:=vB (l.take i) k
 have aq1:acc.length≤1000000:=by rw [List.length_take,← eu] at BM;omega
 refine(aZ) (fun g11=>?_) fun g11=>?_
 ·
  simp at g11
  have cV:i<l.length:=by omega
  have Uq:=IE (k:=k) cV;refine ek ?_;obtain⟨ik,kf,jE,aU,fX,bD,cP,dM⟩:=Rd.at (As.gr ba.g2) cV;obtain⟨q1,q2,q3,rfl,rJ,qP⟩:=bD;have bw:=ba.fg dM cP;have bj:=bw.fr rJ;refine nx ?_;refine WP .r (PV.fI ky aU rfl rfl (by omega))<|(bz) ey (As.nR bj.g1)<|(gu) bj fun b7 w3 vq oe bX=>?_;refine(dD) iH bX fun w4 jY j7 bV=>?_;refine(j3) aq bV.b0<|(bz) aq bV.b4<|?_;refine WP .r (PV.Nj gS (p:=l[i].key) (q:=k) rfl rfl)<|(aZ) (fun g17=>?_) fun g17=>?_
  ·
   simp at g17
   rw [if_neg g17] at Uq;refine(bz) ey bV.b0<|?_;refine WL.go rfl (OX.aR (us:=l[i].row q1 q2 q3) tA rfl rfl rfl rfl fun b20 w5 Te Tf=>?_);have cq:=bV.eF Te Tf;refine WL.ap rfl rfl cq.p4 (SR.ew (A:=fun _=>True) (x:=l[i]) (As.gb cq.g0) trivial rfl (Rec.one _ _ _ _) ⟨q1,q2,q3,rfl,(As.gr cq.g2),qP⟩) fun a21 ajv w6 aq2 aq3 aL=>?_;refine kQ ?_;refine fH (i+1,acc++[l[i]],a21,(cm+1),ajv) ⟨aL.p6.p6.p2.k3,⟨by omega,by rw [Uq,eu],trivial⟩⟩
  simp at g17
  rw [if_pos g17] at Uq;refine gN ?_;refine fH (i+1,acc,cF,cm,cG) ⟨bV.p5.p5.p5.k3,⟨by omega,by rw [Uq,eu],trivial⟩⟩
 simp at g11
 have cZ:acc=jq l k:=by rw [eu,List.take_of_length_le (by omega)]
 subst cZ;refine(cA) ?_;exact⟨_,_,_,rfl,ba.p1.drop.p1.drop⟩
theorem Ao{x:Rec}(bJ:St w M Z w []) (hl:Rd RR.fV 8 Z w a n c l) (h6:l.length≤1000000) (hx:Rd RR.key 2 Z w a2 n2 e2 x.reads) (hx4:x.reads.length≤4000):Calls prog 101 #[.slice a n c,.agg (x.row a2 n2 e2).toArray] w fun e w'=>∃a' n' c' Z',e=.returned (.slice a' n' c')∧cN w.heap.size Z Z'∧St w M Z' w' [As.os RR.fV 48 8 a' n' c' (fR l x)]:=by
 have hlen:=hl.len;refine enter func101 rfl ntmps101 rfl<|?_;have bd:=bJ;have st1:=bd.fr hl;have st2:=st1.fr hx;have aW:=st2.eP RR.fV 48 8;refine(fo) aW fun b3 w1 iR dL ba=>?_;refine bf ?_;refine nT ?_;refine WC.jC (σ:=Nat × Bool × (Nat→Prop) × (List Rec) × (Option Addr) × Nat × Nat) (eJ:=fun(i,put,Z1,out,cF,cm,cG)=>[(3,.pointer (some ⟨b3,0,none⟩)),(5,.slice cF cm cG),(6,.bool put),(10,.slice a n c),(11,.int .i64 (n:Int)),(12,.int .i64 (i:Int))]) (F:=fun(i,put,Z1,out,cF,cm,cG)=>[As.os RR.fV 48 8 cF cm cG (out)]) (I:=fun(i,put,Z1,out,cF,cm,cG)=>(i≤n)∧(cN w.heap.size Z Z1)∧(out++gg x (l.drop i) put=fR l x)∧True) (μ:=fun(i,put,Z1,out,cF,cm,cG)=>n - i) (Zf:=fun(i,put,Z1,out,cF,cm,cG)=>Z1) (0,false,Z,[],none,0,0) (ba.p1) Sub.t (⟨by omega,cN.refl _ _,rfl,trivial⟩)<|?_;rintro⟨i,put,Z1,out,cF,cm,cG⟩ w2 bw ⟨hi,hZ,hinv,_⟩;simp only [CA,NA] at bw hi hZ hinv ⊢;have l4:=((As.gs bw.g0)).len
 have Ur:out.length≤1000001:=by have h1:=congrArg List.length hinv;have h2:=vA x l false;simp only [fR,List.length_append] at h1;omega
 refine(aZ) (fun g13=>?_) fun g13=>?_
 ·
  simp at g13
  have cV:i<l.length:=by omega
  have Dh:gg x (l.drop i) put=(if decide (0≤cw l[i].key x.key) && !put then [x] else [])++(if cw l[i].key x.key=0 then [] else [l[i]])++gg x (l.drop (i+1)) (put || decide (0≤cw l[i].key x.key)):=by rw [List.drop_eq_getElem_cons cV];rfl
  refine ek ?_;obtain⟨ik,kf,jE,aU,fX,bD,cP,dM⟩:=Rd.at (As.gr bw.g3) cV;obtain⟨q1,q2,q3,rfl,rJ,qP⟩:=bD;have bj:=bw.fg dM cP;have bX:=bj.fr rJ;refine nx ?_;refine WP .r (PV.fI ky aU rfl rfl (by omega))<|(bz) ey (As.nR bX.g1)<|(gu) bX fun b8 w3 BN iX bV=>?_;refine(dD) iH bV fun w4 jY j7 cq=>?_;refine(j3) aq cq.b0<|(j3) aq cq.b4<|(iz) (mE (k:=l[i].key) (q:=x.key)) cq fun w5 s5 aL=>?_;refine ek ?_;refine WC.fL (t:=26) (v:=.bool (decide (0≤cw l[i].key x.key) && !put)) aL ?_<|?_
  ·
   refine(dY) (fun g23=>?_) (fun g23=>?_)
   ·
    exact(dt) (by simp only [g23];first | rfl | simp) (aL)
   exact(dt) (by simp only [g23];first | rfl | simp) (aL)
  intro w6 aO;refine(aZ) (fun kz=>?_) fun kz=>?_
  ·
   simp at kz
   obtain⟨hA,hB⟩:=kz;subst hB
   have hs:gg x (l.drop i) false=[x]++(if cw l[i].key x.key=0 then [] else [l[i]])++gg x (l.drop (i+1)) true:=by rw [Dh];simp [hA]
   refine(bz) ey aO.b4<|?_;have aS:=aO;refine(dj) S4 (lE aS.e0 (As.gr aS.g5) hx4) ?_;rintro _ w7 ⟨f1,f2,f3,rfl,oh⟩;have bE:=St.lr aS oh;have qk:=St.cH oh;have hsz:=aS.size;have bs:=bE.bN (by omega);have lA:=hZ.trans (cN.fh (F:=fun x=>x∈aI f1) qk) hsz;refine WL.go rfl (OX.aR (us:=x.row f1 f2 f3) tA rfl rfl rfl rfl fun b30 w8 adV adW=>?_);have aY:=bs.eF adV adW;refine WL.ap rfl rfl aY.p5 (SR.ew (A:=fun _=>True) (x:=x) (As.gb aY.g0) trivial rfl (Rec.one _ _ _ _) ⟨f1,f2,f3,rfl,(As.gr aY.g1),hx4⟩) fun a31 ajx w9 aq4 aq5 aQ=>?_;refine(aZ) (fun jD=>?_) fun jD=>?_
   ·
    simp at jD
    rw [if_neg jD] at hs;refine(bz) ey aQ.b3<|?_;refine WL.go rfl (OX.aR (us:=l[i].row q1 q2 q3) tA rfl rfl rfl rfl fun b36 kB PD PE=>?_);have bF:=aQ.eF PD PE;refine WL.ap rfl rfl bF.p1 (SR.ew (A:=fun _=>True) (x:=l[i]) (As.gb bF.g0) trivial rfl (Rec.one _ _ _ _) ⟨q1,q2,q3,rfl,(As.gr bF.g5),qP⟩) fun a37 JI kC X0 X2 bK=>?_;refine kQ ?_;refine fH (i+1,true,_,_,a37,((cm+1)+1),JI) ⟨bK.p9.p9.p9.p3.k4,⟨by omega,lA,by rw [← hinv,hs];simp,trivial⟩⟩
   simp at jD
   rw [if_pos jD] at hs;refine gN ?_;refine fH (i+1,true,_,_,a31,(cm+1),ajx) ⟨aQ.p8.p8.p8.p3.k4,⟨by omega,lA,by rw [← hinv,hs];simp,trivial⟩⟩
  have hs:gg x (l.drop i) put=[]++(if cw l[i].key x.key=0 then [] else [l[i]])++gg x (l.drop (i+1)) put:=by
   rw [Dh]
   cases put
   ·
    simp at kz;rw [decide_eq_false (by omega)];rfl
   simp
  refine(aZ) (fun jD=>?_) fun jD=>?_
  ·
   simp at jD
   rw [if_neg jD] at hs;refine(bz) ey aO.b0<|?_;refine WL.go rfl (OX.aR (us:=l[i].row q1 q2 q3) tA rfl rfl rfl rfl fun b36 w7 PD PE=>?_);have aS:=aO.eF PD PE;refine WL.ap rfl rfl aS.p4 (SR.ew (A:=fun _=>True) (x:=l[i]) (As.gb aS.g0) trivial rfl (Rec.one _ _ _ _) ⟨q1,q2,q3,rfl,(As.gr aS.g2),qP⟩) fun a37 JI w8 X0 X2 bE=>?_;refine kQ ?_;refine fH (i+1,put,_,_,a37,(cm+1),JI) ⟨bE.p7.p7.p7.p3.k4,⟨by omega,hZ,by rw [← hinv,hs];simp,trivial⟩⟩
  simp at jD
  rw [if_pos jD] at hs;refine gN ?_;refine fH (i+1,put,_,_,cF,cm,cG) ⟨aO.p6.p6.p6.p6.k4,⟨by omega,hZ,by rw [← hinv,hs];simp,trivial⟩⟩
 simp at g13
 have cZ:l.drop i=[]:=List.drop_eq_nil_of_le (by omega);rw [cZ] at hinv;refine(aZ) (fun xx=>?_) fun xx=>?_
 ·
  simp at xx
  subst xx;refine(bz) ey bw.b1<|?_;have bj:=bw;refine(dj) S4 (lE bj.e0 (As.gr bj.g2) hx4) ?_;rintro _ w3 ⟨f1,f2,f3,rfl,eN⟩;have bX:=St.lr bj eN;have qk:=St.cH eN;have hsz:=bj.size;have bV:=bX.bN (by omega);have lA:=hZ.trans (cN.fh (F:=fun x=>x∈aI f1) qk) hsz;refine WL.go rfl (OX.aR (us:=x.row f1 f2 f3) tA rfl rfl rfl rfl fun b44 w4 ajy ajz=>?_);have cq:=bV.eF ajy ajz;refine WL.ap rfl rfl cq.p2 (SR.ew (A:=fun _=>True) (x:=x) (As.gb cq.g0) trivial rfl (Rec.one _ _ _ _) ⟨f1,f2,f3,rfl,(As.gr cq.g1),hx4⟩) fun a45 aq6 w5 aq7 aq8 aL=>?_;refine(cA) ?_;exact⟨_,_,_,_,rfl,lA,by rw [← hinv];exact aL.k1⟩
 simp at xx
 subst xx;refine(cA) ?_;exact⟨_,_,_,_,rfl,hZ,by rw [← hinv];simp only [gg,List.append_nil,if_true];exact bw.k1⟩
theorem Er{x:Rec}(hk:Rd RR.key 2 Z w a n c x.reads):CR prog 104 #[.agg (x.row a n c).toArray] w (.bool (fK x)):=by
 have hlen:=SR.len hk;have hle:=SR.le hk;refine enter func104 rfl ntmps104 rfl<|?_;have c0:aV [] w w:=aV.refl _ _;refine cS ?_;refine WL.go rfl (OX.box rfl rfl rfl fun b1 w1 oY dN=>?_);have s1:=oY.ext;have tI:=oY.ki c0;have c1:=c0.trans s1;refine ji ?_;refine WP .r (PV.fa Eh rfl)<|(bL) gK dN.range<|?_;refine WP .r (PV.jM fP rfl)<|dW ?_;refine WC.loop (σ:=Nat) (eJ:=fun i=>[(1,.pointer (some ⟨b1,0,none⟩)),(6,.slice a n c),(7,.int .i64 (n:Int)),(8,.int .i64 (i:Int))]) (I:=fun i w'=>aV [] w w'∧cW w' b1 48 (x.row a n c)∧i≤n∧∀j y,j<i→x.reads[j]?=some y→gO y=true) (μ:=fun i=>n - i) 0 Sub.t ⟨c1,dN,by omega,fun j y h=>by omega⟩ ?_;rintro i w2 ⟨c2,dN,hi,cZ⟩;refine(aZ) (fun g9=>?_) fun g9=>?_
 ·
  simp at g9
  have cV:i<x.reads.length:=by omega
  refine ek ?_;obtain⟨Ta,Tb,Tc,oa,_,JH,js,_⟩:=SR.at hk (ao cV);have JH:=RR.cy JH;subst JH;have js:=bH js c2 (by simp);refine nx ?_;refine WP .r (PV.fI fP oa rfl rfl (by omega))<|(bz) aq js<|?_;refine WL.go rfl (OX.alloc Jv rfl fun b4 w3 jK bG=>?_);have s3:=jK.ext;have iw:=jK.ki c2;have nb:b1≠b4:=jK.ne dN.lt;have JJ:b4≠b1:=Ne.symm nb;have c3:=c2.trans s3;have dN:=dN.ext s3;refine WL.go rfl (OX.pG jx bG rfl rfl rfl rfl rfl fun w4 s4 _ bG=>?_);have c4:=c3.own s4 iw;have dN:=dN.cT s4 (by simp [nb]);refine(bz) aq bG.range<|(dj) Pm (kA (k:=x.reads[i])) ?_;rintro _ w5 ⟨rfl,s5⟩;have c5:=c4.trans s5;have dN:=dN.ext s5;have bG:=bG.ext s5;refine(aZ) (fun g14=>?_) fun g14=>?_
  ·
   simp at g14
   have hv:fK x=false:=by unfold fK;rw [Bool.and_eq_false_iff];left;rw [List.all_eq_false];exact⟨_,List.getElem_mem cV,by simp [g14]⟩
   refine(cA) ?_;exact⟨by rw [hv],c5⟩
  simp at g14
  refine gN ?_;refine EX.again (i+1) (Sub.k2 rfl rfl<|Sub.cons rfl<|Sub.kO rfl (by simp)<|Sub.nil) ⟨c5,dN,by omega,dG cV cZ g14⟩ (by omega)
 simp at g9
 have hv:fK x=iu x:=by
  unfold fK
  rw [show x.reads.all gO=true from List.all_eq_true.2 fun y hy=>by obtain⟨j,hj,rfl⟩:=List.mem_iff_getElem.1 hy;exact cZ j _ (by omega) (ao hj)]
  rfl
 refine ji ?_;refine WC.oA (t:=2) (v:=.bool (iu x)) (aV [] w2) ?_<|?_
 ·
  refine nx ?_;refine WP .r (PV.fa tD rfl)<|(j3) aq dN.range<|(dj) Pm (kA (k:=x.key)) ?_;rintro _ w3 ⟨rfl,s3⟩;have c3:=c2.trans s3;have dN:=dN.ext s3;refine(dY) (fun g19=>?_) (fun g19=>?_)
  ·
   refine WP .r (PV.fa tD rfl)<|(j3) aq dN.range<|(dj) MC (fD (k:=x.key)) ?_;rintro _ w4 ⟨rfl,s4⟩;have c4:=c3.trans s4;have dN:=dN.ext s4;refine(dY) (fun fb=>?_) (fun fb=>?_)
   ·
    refine WP .r (PV.fa Ab rfl)<|(bL) iG dN.range<|?_;refine WP .r (PV.yG vY rfl)<|(dY) (fun rW=>?_) (fun rW=>?_)
    ·
     refine WP .r (PV.fa Eh rfl)<|(bL) gK dN.range<|?_;refine WP .r (PV.jM fP rfl)<|(dY) (fun uQ=>?_) (fun uQ=>?_)
     ·
      refine WP .r (PV.fa Ac rfl)<|(bL) aT dN.range<|(dY) (fun lW=>?_) (fun lW=>?_)
      ·
       refine WP .r (PV.fa Ac rfl)<|(bL) aT dN.range<|?_;refine WP .r (PV.fa tE rfl)<|(bL) aT dN.range<|(dY) (fun vp=>?_) (fun vp=>?_)
       ·
        refine WP .r (PV.fa tE rfl)<|(bL) aT dN.range<|(dY) (fun tM=>?_) (fun tM=>?_)
        ·
         refine WP .r (PV.fa Jw rfl)<|(bL) aT dN.range<|(dY) (fun Lh=>?_) (fun Lh=>?_)
         ·
          refine WP .r (PV.fa Jw rfl)<|(bL) aT dN.range<|(dY) (fun UZ=>?_) (fun UZ=>?_)
          ·
           refine WP .r (PV.fa Jx rfl)<|(bL) ft dN.range<|(dY) (fun X3=>?_) (fun X3=>?_)
           ·
            exact(iK) (by unfold iu;simp only [g19,fb,rW,uQ,lW,vp,tM,Lh,UZ,X3,← hlen];first | rfl | simp) (s3.trans s4)
           refine WP .r (PV.fa tD rfl)<|(j3) aq dN.range<|(dj) MD (ef (k:=x.key)) ?_;rintro _ w5 ⟨rfl,s5⟩;have c5:=c4.trans s5;have dN:=dN.ext s5;exact(iK) (by unfold iu;simp only [g19,fb,rW,uQ,lW,vp,tM,Lh,UZ,X3,← hlen];first | rfl | simp) ((s3.trans s4).trans s5)
          exact(iK) (by unfold iu;simp only [g19,fb,rW,uQ,lW,vp,tM,Lh,UZ,← hlen];first | rfl | simp) (s3.trans s4)
         refine bf ?_;exact(iK) (by unfold iu;simp only [g19,fb,rW,uQ,lW,vp,tM,Lh,← hlen];first | rfl | simp) (s3.trans s4)
        refine bf ?_;exact(iK) (by unfold iu;simp only [g19,fb,rW,uQ,lW,vp,tM,← hlen];first | rfl | simp) (s3.trans s4)
       refine bf ?_;refine bf ?_;exact(iK) (by unfold iu;simp only [g19,fb,rW,uQ,lW,vp,← hlen];first | rfl | simp) (s3.trans s4)
      refine bf ?_;refine bf ?_;exact(iK) (by unfold iu;simp only [g19,fb,rW,uQ,lW,← hlen];first | rfl | simp) (s3.trans s4)
     refine bf ?_;refine bf ?_;refine bf ?_;exact(iK) (by unfold iu;simp only [g19,fb,rW,uQ,← hlen];first | rfl | simp) (s3.trans s4)
    refine bf ?_;refine bf ?_;refine bf ?_;exact(iK) (by unfold iu;simp only [g19,fb,rW,← hlen];first | rfl | simp) (s3.trans s4)
   refine bf ?_;refine bf ?_;refine bf ?_;refine bf ?_;exact(iK) (by unfold iu;simp only [g19,fb,← hlen];first | rfl | simp) (s3.trans s4)
  refine bf ?_;refine bf ?_;refine bf ?_;refine bf ?_;exact(iK) (by unfold iu;simp only [g19,← hlen];first | rfl | simp) s3
 intro w3 s3;have c3:=c2.trans s3;have dN:=dN.ext s3;refine(cA) ?_;exact⟨by rw [hv],c3⟩
theorem yd(hl:Rd RR.fV 8 Z w a n c l):Calls prog 69 #[.slice a n c] w fun e w'=>∃b:Bool,e=.returned (.bool b)∧(b=true↔qt l)∧aV [] w w':=by
 have hlen:=SR.len hl;have hle:=SR.le hl;refine enter func69 rfl ntmps69 rfl<|?_;have c0:aV [] w w:=aV.refl _ _;refine qi ?_;refine WP .r (PV.jM ky rfl)<|dW ?_;refine WC.loop (σ:=Nat) (eJ:=fun i=>[(0,.slice a n c),(5,.slice a n c),(6,.int .i64 (n:Int)),(7,.int .i64 (i:Int))]) (I:=fun i w'=>aV [] w w'∧i≤n∧∀j y,j<i→l[j]?=some y→uo l j y) (μ:=fun i=>n - i) 0 Sub.t ⟨c0,by omega,fun j y h=>by omega⟩ ?_;rintro i w1 ⟨c1,hi,cZ⟩;refine(aZ) (fun g8=>?_) fun g8=>?_
 ·
  simp at g8
  have cV:i<l.length:=by omega
  have jJ:=getElem!_pos l i cV;obtain⟨Ta,Tb,Tc,oa,_,⟨q1,q2,q3,rfl,rJ,qP⟩,js,_⟩:=SR.at hl (ao cV);refine ek ?_;have js:=bH js c1 (by simp);refine cS ?_;refine WP .r (PV.fI ky oa rfl rfl (by omega))<|(bz) ey js<|?_;refine WL.go rfl (OX.alloc tB rfl fun b4 w2 jK bG=>?_);have s2:=jK.ext;have iw:=jK.ki c1;have c2:=c1.trans s2;refine nx ?_;refine WL.go rfl (OX.pG iH bG rfl rfl rfl rfl rfl fun w3 s3 _ bG=>?_);have c3:=c2.own s3 iw;refine dE ?_;refine WC.mJ (t:=30) (v:=.bool (vC l i)) (aV [] w3) ?_<|?_
  ·
   refine WC.drawn (m:=15) (C:=aV [] w3) (T:=fun _=>aV []) (E:=dr [(1,fun v _=>v=.bool (fK l[i]))]) (bM (⟨fun _ _ _ _ _ _ _ h=>h,trivial⟩)) mixed (by kernel_rfl) (aV.drew _ _)<|?_;refine DP .r (fun _ hC=>PV.Lq ey (bG.ext hC).range rfl rfl)<|?_;refine DW.e rfl rfl rfl rfl rfl (fun wx hC hF=>OX.call acS rfl rfl ((Er (rJ.ext (c3.trans hC))).mono ?_))<|?_
   ·
    rintro _ wy ⟨rfl,hy⟩;exact⟨_,rfl,hC.trans hy,hy,_,rfl,rfl⟩
   rintro _ wz _ rfl;refine(rS) (fun g15=>?_) (fun g15=>?_)
   ·
    refine(eh) ?_;rintro w4 s4 _;have c4:=c3.trans s4;have bG:=bG.ext s4;exact(dt) (by unfold vC;first | (simp only [jJ,qo,g15];done) | (simp only [jJ,qo,g15];rfl) | (simp only [jJ,g15];rfl) | (simp only [jJ];rw [Bool.not_eq_true'] at g15;simp [g15]) | (simp only [jJ];simp at g15 g18;simp [g15,g18])) s4
   refine(rS) (fun g18=>?_) (fun g18=>?_)
   ·
    have Ij:i - 1<l.length:=by omega
    have qo:=getElem!_pos l (i - 1) Ij;have ajA:=of_decide_eq_true g18;obtain⟨bx2,ox2,rx2,Bt,_,⟨p1,p2,p3,rfl,_,_⟩,yt,_⟩:=SR.at hl (ao Ij);have yt:=bH yt c3 (by simp);refine dE ?_;refine DP .r (fun _ hC=>PV.Ko ky (i - 1) Bt rfl rfl (by omega) (by omega))<|DP .r (fun _ hC=>PV.fa tD rfl)<|DP .r (fun _ hC=>PV.FU aq (bH yt hC (by simp)) rfl rfl)<|DP .r (fun _ hC=>PV.fa tD rfl)<|DP .r (fun _ hC=>PV.FU aq (bG.ext hC).range rfl rfl)<|(eh)<|?_;rintro w4 s4 _;have c4:=c3.trans s4;have bG:=bG.ext s4;refine(dj) XO (mE (k:=l[i - 1].key) (q:=l[i].key)) ?_;rintro _ w5 ⟨rfl,s5⟩;have c5:=c4.trans s5;have bG:=bG.ext s5;exact(dt) (by unfold vC;first | (simp only [jJ,qo,g15,g18];done) | (simp only [jJ,qo,g15,g18];rfl) | (simp only [jJ,g15,g18];rfl) | (simp only [jJ];rw [Bool.not_eq_true'] at g15;simp [g15]) | (simp only [jJ];simp at g15 g18;simp [g15,g18])) (s4.trans s5)
   refine(eh) ?_;rintro w4 s4 _;have c4:=c3.trans s4;have bG:=bG.ext s4;exact(dt) (by unfold vC;first | (simp only [jJ,qo,g15,g18];done) | (simp only [jJ,qo,g15,g18];rfl) | (simp only [jJ,g15,g18];rfl) | (simp only [jJ];rw [Bool.not_eq_true'] at g15;simp [g15]) | (simp only [jJ];simp at g15 g18;simp [g15,g18])) s4
  intro w4 s4;have c4:=c3.trans s4;have bG:=bG.ext s4;refine(aZ) (fun lQ=>?_) fun lQ=>?_
  ·
   skip
   refine(cA) ?_;exact⟨false,rfl,⟨fun h=>(by cases h),fun h=>absurd ((uq cV).2 (h.2 i _ (ao cV))) (by simp [lQ])⟩,c4⟩
  refine gN ?_;refine EX.again (i+1) (Sub.k2 rfl rfl<|Sub.cons rfl<|Sub.kO rfl (by simp)<|Sub.nil) ⟨c4,by omega,dG cV cZ ((uq cV).1 lQ)⟩ (by omega)
 ·
  simp at g8
  have cZ:∀j y,l[j]?=some y→uo l j y:=fun j x hx=>cZ j x (by have:=(List.getElem?_eq_some_iff.1 hx).1;omega) hx;refine kQ ?_;refine WP .r (PV.jM ky rfl)<|(cA) ?_;exact⟨_,rfl,⟨fun h=>⟨by simp at h;omega,cZ⟩,fun h=>by have:=h.1;simp;omega⟩,c1⟩
 -- tN jf G17.T
set_option maxHeartbeats 400000
theorem wo(hl:Rd RR.fV 8 Z w a n c l):CR prog 69 #[.slice a n c] w (.bool (uv l)):=
 (yd hl).mono fun _ _ ⟨b,h1,h2,h3⟩=>⟨by rw [h1,II h2],h3⟩
theorem gL(bJ:St w M Z w []) (hi:Rd RR.aF 4 Z w a1 n1 e1 x.ae) (hr:Rd RR.fV 8 Z w a2 n2 e2 x.ak) (h6:x.ak.length≤1000000) (h7:x.ae.length≤1000000):Calls prog 30 #[.agg (x.row a1 n1 e1 a2 n2 e2).toArray] w fun e w'=>∃PF PG PH PI PJ PK Z',e=.returned (.agg (x.row PF PG PH PI PJ PK).toArray)∧cN w.heap.size Z Z'∧St w M Z' w' [As.os RR.aF 102 4 PF PG PH x.ae,As.os RR.fV 48 8 PI PJ PK x.ak]:=by
 have Bs:=hi.len;have Nn:=hr.len;refine enter func30 rfl ntmps30 rfl<|?_;have bd:=bJ;have st1:=bd.fr hi;have st2:=st1.fr hr;have aW:=st2.eP RR.aF 102 4;refine(fo) aW fun b1 w1 oY dN ba=>?_;refine(gu) ba fun b2 w2 nz fm bw=>?_;refine(bL) oM bw.b1<|?_;refine WL.ap rfl rfl bw.p2 ((As.gr bw.g4)) fun a5 c'5 w3 hf5 hn5 bj=>?_;refine nx ?_;refine WL.s1 bj.p2 fun w4 _ bX=>?_;refine(bL) eW bX.b0<|?_;have bV:=bX;refine(dj) aiV (Hb bV.e0 (As.gr bV.g3) h6) ?_;rintro _ w5 ⟨f1,f2,f3,Z1,rfl,oO,jF⟩;have cq:=St.lv bV jF oO;have lA:=oO.le bV.size;refine nx ?_;refine WL.s1 cq.p1 fun w6 _ aL=>?_;refine(bz) aP aL.b0<|(dD) fT aL.p3 fun w7 jY j7 aO=>?_;refine(mz) aP aO.b0<|?_;exact⟨_,_,_,_,_,_,_,rfl,lA,aO.p2.p3.k2⟩
theorem xA(hi:Rd RR.aF 4 Z w a1 n1 e1 x.ae) (hr:Rd RR.fV 8 Z w a2 n2 e2 x.ak) {k:Key}:CR prog 71 #[.agg (x.row a1 n1 e1 a2 n2 e2).toArray,k.val] w (.agg (db x.ae k).cells.toArray):=by
 have hlen:=SR.len hi;have hle:=SR.le hi;refine enter func71 rfl ntmps71 rfl<|?_;have c0:aV [] w w:=aV.refl _ _;refine cS ?_;refine WL.go rfl (OX.box rfl rfl rfl fun b2 w1 nz fm=>?_);have s1:=nz.ext;have qM:=nz.ki c0;have c1:=c0.trans s1;refine WL.go rfl (OX.box rfl rfl rfl fun b3 w2 iR dL=>?_);have s2:=iR.ext;have qN:=iR.ki c1;have iy:b2≠b3:=iR.ne fm.lt;have px:b3≠b2:=Ne.symm iy;have c2:=c1.trans s2;have fm:=fm.ext s2;refine WL.go rfl (OX.alloc Le rfl fun b4 w3 jK bG=>?_);have s3:=jK.ext;have iw:=jK.ki c2;have JK:b2≠b4:=jK.ne fm.lt;have X4:b4≠b2:=Ne.symm JK;have tO:b3≠b4:=jK.ne dL.lt;have X5:b4≠b3:=Ne.symm tO;have c3:=c2.trans s3;have fm:=fm.ext s3;have dL:=dL.ext s3;refine ek ?_;refine WP .r (PV.fa Aa rfl)<|(bL) oM fm.range<|?_;refine WP .r (PV.jM ya rfl)<|dW ?_;refine WC.loop (σ:=Nat) (eJ:=fun i=>[(3,.pointer (some ⟨b3,0,none⟩)),(4,.pointer (some ⟨b4,0,none⟩)),(8,.slice a1 n1 e1),(9,.int .i64 (n1:Int)),(10,.int .i64 (i:Int))]) (I:=fun i w'=>aV [] w w'∧cW w' b3 39 [.int .i64 k.kind,.string k.text]∧cW w' b4 102 [.int .i64 0,.string ⟨#[]⟩,.string ⟨#[]⟩,.int .i64 0]∧i≤n1∧(∀j y,j<i→x.ae[j]?=some y→(y.key == k)=false)) (μ:=fun i=>n1 - i) 0 Sub.t ⟨c3,dL,bG,by omega,fun j x h=>by omega⟩ ?_;rintro i w4 ⟨c4,dL,bG,hi1,gV⟩;refine(aZ) (fun g11=>?_) fun g11=>?_
 ·
  simp at g11
  have cV:i<x.ae.length:=by omega
  refine ek ?_;obtain⟨Ta,Tb,Tc,oa,_,JH,js,_⟩:=SR.at hi (ao cV);have JH:=RR.cy JH;subst JH;have js:=bH js c4 (by simp);refine nx ?_;refine WP .r (PV.fI ya oa rfl rfl (by omega))<|(bz) l6 js<|?_;refine WL.go rfl (OX.alloc Le rfl fun b6 w5 mD eE=>?_);have s5:=mD.ext;have gC:=mD.ki c4;have gp:b3≠b6:=mD.ne dL.lt;have tL:b6≠b3:=Ne.symm gp;have ed:b4≠b6:=mD.ne bG.lt;have py:b6≠b4:=Ne.symm ed;have c5:=c4.trans s5;have dL:=dL.ext s5;have bG:=bG.ext s5;refine WL.go rfl (OX.pG xu eE rfl rfl rfl rfl rfl fun w6 s6 _ eE=>?_);have c6:=c5.own s6 gC;have dL:=dL.cT s6 (by simp [gp]);have bG:=bG.cT s6 (by simp [ed]);refine dW ?_;refine WP .r (PV.fa rH rfl)<|(j3) aq eE.range<|(bz) aq dL.range<|?_;refine WP .r (PV.Kp gS (p:=x.ae[i].key) (q:=k) rfl rfl)<|(aZ) (fun g17=>?_) fun g17=>?_
  ·
   simp at g17
   have hf:db x.ae k=x.ae[i]:=by unfold db;rw [lG cV gV (by simpa using g17)];rfl
   refine(bz) l6 eE.range<|?_;refine WL.go rfl (OX.pG xu bG rfl rfl rfl rfl rfl fun w7 s7 _ bG=>?_);have c7:=c6.own s7 iw;have dL:=dL.cT s7 (by simp [tO]);have eE:=eE.cT s7 (by simp [py]);refine(mz) l6 bG.range<|?_;exact⟨by rw [hf],c7⟩
  simp at g17
  refine gN ?_;refine EX.again (i+1) (Sub.k4 rfl rfl rfl rfl<|Sub.kO rfl (by simp)<|Sub.nil) ⟨c6,dL,bG,by omega,dG cV gV (by simpa using g17)⟩ (by omega)
 simp at g11
 have hf:db x.ae k=⟨k,⟨#[]⟩,0⟩:=by unfold db;rw [um (i:=i) (by omega) gV];rfl
 refine(bz) aq dL.range<|?_;refine WP .r (PV.bW (us:=(dB.mk k ⟨#[]⟩ 0).cells) K8 rfl rfl rfl)<|?_;refine WL.go rfl (OX.pG xu bG rfl rfl rfl rfl rfl fun w5 s5 _ bG=>?_);have c5:=c4.own s5 iw;have dL:=dL.cT s5 (by simp [tO]);refine(mz) l6 bG.range<|?_;exact⟨by rw [hf],c5⟩
theorem wt(hi:Rd RR.aF 4 Z w a1 n1 e1 x.ae) (hr:Rd RR.fV 8 Z w a2 n2 e2 x.ak) {k:Key}:CR prog 45 #[.agg (x.row a1 n1 e1 a2 n2 e2).toArray,k.val] w (.string (db x.ae k).value):=by
 refine enter func45 rfl ntmps45 rfl<|?_;have c0:aV [] w w:=aV.refl _ _;refine cS ?_;refine WL.go rfl (OX.box rfl rfl rfl fun b2 w1 nz fm=>?_);have s1:=nz.ext;have qM:=nz.ki c0;have c1:=c0.trans s1;refine WL.go rfl (OX.box rfl rfl rfl fun b3 w2 iR dL=>?_);have s2:=iR.ext;have qN:=iR.ki c1;have iy:b2≠b3:=iR.ne fm.lt;have px:b3≠b2:=Ne.symm iy;have c2:=c1.trans s2;have fm:=fm.ext s2;refine(bz) aP fm.range<|(bz) aq dL.range<|(dj) acM (xA (k:=k) (hi.ext c2) (hr.ext c2)) ?_;rintro _ w3 ⟨rfl,s3⟩;have c3:=c2.trans s3;have fm:=fm.ext s3;have dL:=dL.ext s3;refine WP .r (PV.y8 (fs:=[_,_,_]) (f:=1) (off:=2) (T:=102) underlying102 rfl rfl (show ∀w,(isAgg 9).run _ w=.ok false w from isAgg9) rfl rfl)<|(cA) ?_;exact⟨rfl,c3⟩
theorem He(hi:Rd RR.aF 4 Z w a1 n1 e1 x.ae) (hr:Rd RR.fV 8 Z w a2 n2 e2 x.ak) {k:Key}:CR prog 138 #[.agg (x.row a1 n1 e1 a2 n2 e2).toArray,k.val] w (.int .i64 (db x.ae k).changed):=by
 refine enter func138 rfl ntmps138 rfl<|?_;have c0:aV [] w w:=aV.refl _ _;refine cS ?_;refine WL.go rfl (OX.box rfl rfl rfl fun b2 w1 nz fm=>?_);have s1:=nz.ext;have qM:=nz.ki c0;have c1:=c0.trans s1;refine WL.go rfl (OX.box rfl rfl rfl fun b3 w2 iR dL=>?_);have s2:=iR.ext;have qN:=iR.ki c1;have iy:b2≠b3:=iR.ne fm.lt;have px:b3≠b2:=Ne.symm iy;have c2:=c1.trans s2;have fm:=fm.ext s2;refine(bz) aP fm.range<|(bz) aq dL.range<|(dj) acM (xA (k:=k) (hi.ext c2) (hr.ext c2)) ?_;rintro _ w3 ⟨rfl,s3⟩;have c3:=c2.trans s3;have fm:=fm.ext s3;have dL:=dL.ext s3;refine WP .r (PV.y8 (fs:=[_,_,_]) (f:=2) (off:=3) (T:=102) underlying102 rfl rfl (show ∀w,(isAgg 3).run _ w=.ok false w from isAgg3) rfl rfl)<|(cA) ?_;exact⟨rfl,c3⟩
theorem pz(hi:Rd RR.aF 4 Z w a1 n1 e1 x.ae) (hr:Rd RR.fV 8 Z w a2 n2 e2 x.ak):Calls prog 42 #[.agg (x.row a1 n1 e1 a2 n2 e2).toArray] w fun e w'=>∃b:Bool,e=.returned (.bool b)∧(b=true↔lJ x)∧aV [] w w':=by
 have hlen:=SR.len hi;have hle:=SR.le hi;have Al:=SR.len hr;have iS:=SR.le hr;refine enter func42 rfl ntmps42 rfl<|?_;have c0:aV [] w w:=aV.refl _ _;refine cS ?_;refine WL.go rfl (OX.box rfl rfl rfl fun b1 w1 oY dN=>?_);have s1:=oY.ext;have tI:=oY.ki c0;have c1:=c0.trans s1;refine ji ?_;refine WP .r (PV.fa Aa rfl)<|(bL) oM dN.range<|?_;refine WP .r (PV.jM ya rfl)<|dW ?_;refine WC.loop (σ:=Nat) (eJ:=fun i=>[(1,.pointer (some ⟨b1,0,none⟩)),(8,.slice a1 n1 e1),(9,.int .i64 (n1:Int)),(10,.int .i64 (i:Int))]) (I:=fun i w'=>aV [] w w'∧cW w' b1 31 (x.row a1 n1 e1 a2 n2 e2)∧i≤n1∧∀j y,j<i→x.ae[j]?=some y→jQ x.ad x.ae j=false) (μ:=fun i=>n1 - i) 0 Sub.t ⟨c1,dN,by omega,fun j y h=>by omega⟩ ?_;rintro i w2 ⟨c2,dN,iB,cZ⟩;refine(aZ) (fun g11=>?_) fun g11=>?_
 ·
  simp at g11
  have cV:i<x.ae.length:=by omega
  have jJ:=getElem!_pos x.ae i cV;obtain⟨Ta,Tb,Tc,oa,_,JH,js,_⟩:=SR.at hi (ao cV);have JH:=RR.cy JH;subst JH;refine ek ?_;have js:=bH js c2 (by simp);refine cS ?_;refine WP .r (PV.fI ya oa rfl rfl (by omega))<|(bz) l6 js<|?_;refine WL.go rfl (OX.alloc Le rfl fun b4 w3 jK bG=>?_);have s3:=jK.ext;have iw:=jK.ki c2;have nb:b1≠b4:=jK.ne dN.lt;have JJ:b4≠b1:=Ne.symm nb;have c3:=c2.trans s3;have dN:=dN.ext s3;refine nx ?_;refine WL.go rfl (OX.pG xu bG rfl rfl rfl rfl rfl fun w4 s4 _ bG=>?_);have c4:=c3.own s4 iw;have dN:=dN.cT s4 (by simp [nb]);refine dE ?_;refine WC.mJ (t:=59) (v:=.bool (jQ x.ad x.ae i)) (aV [] w4) ?_<|?_
  ·
   refine WC.drawn (m:=43) (C:=aV [] w4) (T:=fun _=>aV []) (E:=dr [(2,fun v _=>v=.bool (gO x.ae[i].key)),(7,fun v _=>v=.bool (az x.ae[i].key)),(23,fun v _=>v=.int .i64 (cw x.ae[i - 1].key x.ae[i].key))]) (bM (⟨fun _ _ _ _ _ _ _ h=>h,⟨fun _ _ _ _ _ _ _ h=>h,⟨fun _ _ _ _ _ _ _ h=>h,trivial⟩⟩⟩)) mixed (by kernel_rfl) (aV.drew _ _)<|?_;refine DP .r (fun _ hC=>PV.fa rH rfl)<|DP .r (fun _ hC=>PV.FU aq (bG.ext hC).range rfl rfl)<|?_;refine DW.e rfl rfl rfl rfl rfl (fun wx hC hF=>OX.call Pm rfl rfl ((kA (k:=x.ae[i].key)).mono ?_))<|?_
   ·
    rintro _ wy ⟨rfl,hy⟩;exact⟨_,rfl,hC.trans hy,hy,_,rfl,rfl⟩
   rintro _ wz _ rfl;refine(rS) (fun g19=>?_) (fun g19=>?_)
   ·
    refine bf ?_;refine bf ?_;refine bf ?_;refine(eh) ?_;rintro w5 s5 _;have c5:=c4.trans s5;have dN:=dN.ext s5;have bG:=bG.ext s5;exact(dt) (by unfold jQ;first | (simp only [jJ,qo,g19];done) | (simp only [jJ,qo,g19];rfl) | (simp only [jJ,g19];rfl) | (simp only [jJ,g19];done)) s5
   refine DP .r (fun _ hC=>PV.fa rH rfl)<|DP .r (fun _ hC=>PV.FU aq (bG.ext hC).range rfl rfl)<|?_;refine DW.e rfl rfl rfl rfl rfl (fun wx hC hF=>OX.call MC rfl rfl ((fD (k:=x.ae[i].key)).mono ?_))<|?_
   ·
    rintro _ wy ⟨rfl,hy⟩;exact⟨_,rfl,hC.trans hy,hy,_,rfl,rfl⟩
   rintro _ wz _ rfl;refine(rS) (fun fb=>?_) (fun fb=>?_)
   ·
    refine bf ?_;refine bf ?_;refine(eh) ?_;rintro w5 s5 _;have c5:=c4.trans s5;have dN:=dN.ext s5;have bG:=bG.ext s5;exact(dt) (by unfold jQ;first | (simp only [jJ,qo,g19,fb];done) | (simp only [jJ,qo,g19,fb];rfl) | (simp only [jJ,g19,fb];rfl) | (simp only [jJ,g19,fb];done)) s5
   refine(rS) (fun iP=>?_) (fun iP=>?_)
   ·
    have Ij:i - 1<x.ae.length:=by omega
    have qo:=getElem!_pos x.ae (i - 1) Ij;have ajA:=of_decide_eq_true iP;obtain⟨bx2,ox2,rx2,Bt,_,X6,yt,_⟩:=SR.at hi (ao Ij);have X6:=RR.cy X6;subst X6;have yt:=bH yt c4 (by simp);refine DP .r (fun _ hC=>PV.fa Aa rfl)<|DP .r (fun _ hC=>PV.ld1 oM (dN.ext hC).range rfl rfl)<|cS ?_;refine DP .r (fun _ hC=>PV.Ko ya (i - 1) Bt rfl rfl (by omega) (by omega))<|DP .r (fun _ hC=>PV.fa rH rfl)<|DP .r (fun _ hC=>PV.FU aq (bH yt hC (by simp)) rfl rfl)<|DP .r (fun _ hC=>PV.fa rH rfl)<|DP .r (fun _ hC=>PV.FU aq (bG.ext hC).range rfl rfl)<|?_;refine DW.e rfl rfl rfl rfl rfl (fun wx hC hF=>OX.call XO rfl rfl ((mE (k:=x.ae[i - 1].key) (q:=x.ae[i].key)).mono ?_))<|?_
    ·
     rintro _ wy ⟨rfl,hy⟩;exact⟨_,rfl,hC.trans hy,hy,_,rfl,rfl⟩
    rintro _ wz _ rfl;refine(rS) (fun lW=>?_) (fun lW=>?_)
    ·
     refine bf ?_;refine(eh) ?_;rintro w5 s5 _;have c5:=c4.trans s5;have dN:=dN.ext s5;have bG:=bG.ext s5;exact(dt) (by unfold jQ;first | (simp only [jJ,qo,g19,fb,iP,lW];done) | (simp only [jJ,qo,g19,fb,iP,lW];rfl) | (simp only [jJ,g19,fb,iP,lW];rfl) | (simp only [jJ,g19,fb,iP,lW];done)) s5
    refine DP .r (fun _ hC=>PV.fa Ek rfl)<|DP .r (fun _ hC=>PV.ld1 iG (bG.ext hC).range rfl rfl)<|DP .r (fun _ hC=>PV.yG vY rfl)<|(rS) (fun oi=>?_) (fun oi=>?_)
    ·
     refine(eh) ?_;rintro w5 s5 _;have c5:=c4.trans s5;have dN:=dN.ext s5;have bG:=bG.ext s5;exact(dt) (by unfold jQ;first | (simp only [jJ,qo,g19,fb,iP,lW,oi];done) | (simp only [jJ,qo,g19,fb,iP,lW,oi];rfl) | (simp only [jJ,g19,fb,iP,lW,oi];rfl) | (simp only [jJ,g19,fb,iP,lW,oi];done)) s5
    refine DP .r (fun _ hC=>PV.fa uO rfl)<|DP .r (fun _ hC=>PV.ld1 aT (bG.ext hC).range rfl rfl)<|(rS) (fun wu=>?_) (fun wu=>?_)
    ·
     refine(eh) ?_;rintro w5 s5 _;have c5:=c4.trans s5;have dN:=dN.ext s5;have bG:=bG.ext s5;exact(dt) (by unfold jQ;first | (simp only [jJ,qo,g19,fb,iP,lW,oi,wu];done) | (simp only [jJ,qo,g19,fb,iP,lW,oi,wu];rfl) | (simp only [jJ,g19,fb,iP,lW,oi,wu];rfl) | (simp only [jJ,g19,fb,iP,lW,oi,wu];done)) s5
    refine DP .r (fun _ hC=>PV.fa uO rfl)<|DP .r (fun _ hC=>PV.ld1 aT (bG.ext hC).range rfl rfl)<|DP .r (fun _ hC=>PV.fa n0 rfl)<|DP .r (fun _ hC=>PV.ld1 aT (dN.ext hC).range rfl rfl)<|(eh)<|?_;rintro w5 s5 _;have c5:=c4.trans s5;have dN:=dN.ext s5;have bG:=bG.ext s5;exact(dt) (by unfold jQ;first | (simp only [jJ,qo,g19,fb,iP,lW,oi,wu];done) | (simp only [jJ,qo,g19,fb,iP,lW,oi,wu];rfl) | (simp only [jJ,g19,fb,iP,lW,oi,wu];rfl) | (simp only [jJ,g19,fb,iP,lW,oi,wu];done)) s5
   refine bf ?_;refine cS ?_;refine DP .r (fun _ hC=>PV.fa Ek rfl)<|DP .r (fun _ hC=>PV.ld1 iG (bG.ext hC).range rfl rfl)<|DP .r (fun _ hC=>PV.yG vY rfl)<|(rS) (fun oi=>?_) (fun oi=>?_)
   ·
    refine(eh) ?_;rintro w5 s5 _;have c5:=c4.trans s5;have dN:=dN.ext s5;have bG:=bG.ext s5;exact(dt) (by unfold jQ;first | (simp only [jJ,qo,g19,fb,iP,oi];done) | (simp only [jJ,qo,g19,fb,iP,oi];rfl) | (simp only [jJ,g19,fb,iP,oi];rfl) | (simp only [jJ,g19,fb,iP,oi];done)) s5
   refine DP .r (fun _ hC=>PV.fa uO rfl)<|DP .r (fun _ hC=>PV.ld1 aT (bG.ext hC).range rfl rfl)<|(rS) (fun wu=>?_) (fun wu=>?_)
   ·
    refine(eh) ?_;rintro w5 s5 _;have c5:=c4.trans s5;have dN:=dN.ext s5;have bG:=bG.ext s5;exact(dt) (by unfold jQ;first | (simp only [jJ,qo,g19,fb,iP,oi,wu];done) | (simp only [jJ,qo,g19,fb,iP,oi,wu];rfl) | (simp only [jJ,g19,fb,iP,oi,wu];rfl) | (simp only [jJ,g19,fb,iP,oi,wu];done)) s5
   refine DP .r (fun _ hC=>PV.fa uO rfl)<|DP .r (fun _ hC=>PV.ld1 aT (bG.ext hC).range rfl rfl)<|DP .r (fun _ hC=>PV.fa n0 rfl)<|DP .r (fun _ hC=>PV.ld1 aT (dN.ext hC).range rfl rfl)<|(eh)<|?_;rintro w5 s5 _;have c5:=c4.trans s5;have dN:=dN.ext s5;have bG:=bG.ext s5;exact(dt) (by unfold jQ;first | (simp only [jJ,qo,g19,fb,iP,oi,wu];done) | (simp only [jJ,qo,g19,fb,iP,oi,wu];rfl) | (simp only [jJ,g19,fb,iP,oi,wu];rfl) | (simp only [jJ,g19,fb,iP,oi,wu];done)) s5
  intro w5 s5;have c5:=c4.trans s5;have dN:=dN.ext s5;have bG:=bG.ext s5;refine(aZ) (fun Lh=>?_) fun Lh=>?_
  ·
   skip
   refine(cA) ?_;exact⟨false,rfl,⟨fun h=>(by cases h),fun h=>absurd (h.1 i _ (ao cV)) (by simp [Lh])⟩,c5⟩
  refine gN ?_;refine EX.again (i+1) (Sub.k2 rfl rfl<|Sub.cons rfl<|Sub.kO rfl (by simp)<|Sub.nil) ⟨c5,dN,by omega,dG (P:=fun j _=>jQ x.ad x.ae j=false) cV cZ Lh⟩ (by omega)
 simp at g11
 have cZ:DL x.ad x.ae:=fun j y hx=>cZ j y (by have:=(List.getElem?_eq_some_iff.1 hx).1;omega) hx;refine kQ ?_;refine WP .r (PV.fa vZ rfl)<|(bL) eW dN.range<|?_;refine WP .r (PV.jM ky rfl)<|dW ?_;refine WC.loop (σ:=Nat) (eJ:=fun i=>[(1,.pointer (some ⟨b1,0,none⟩)),(62,.slice a2 n2 e2),(63,.int .i64 (n2:Int)),(64,.int .i64 (i:Int))]) (I:=fun i w'=>aV [] w w'∧cW w' b1 31 (x.row a1 n1 e1 a2 n2 e2)∧i≤n2∧∀(j:Nat) (y:Rec),j<i→x.ak[j]?=some y→y.ax≤x.ad) (μ:=fun i=>n2 - i) 0 Sub.t ⟨c2,dN,by omega,fun j y h=>by omega⟩ ?_;rintro i2 w3 ⟨c3,dN,aq9,Dk⟩;refine(aZ) (fun Es=>?_) fun Es=>?_
 ·
  simp at Es
  have cV:i2<x.ak.length:=by omega
  obtain⟨Ta,Tb,Tc,oa,_,⟨q1,q2,q3,rfl,rJ,qP⟩,js,_⟩:=SR.at hr (ao cV);refine ek ?_;have js:=bH js c3 (by simp);refine nx ?_;refine WP .r (PV.fI ky oa rfl rfl (by omega))<|(bz) ey js<|?_;refine WL.go rfl (OX.alloc tB rfl fun b6 w4 mD eE=>?_);have s4:=mD.ext;have gC:=mD.ki c3;have Ap:b1≠b6:=mD.ne dN.lt;have X7:b6≠b1:=Ne.symm Ap;have c4:=c3.trans s4;have dN:=dN.ext s4;refine WL.go rfl (OX.pG iH eE rfl rfl rfl rfl rfl fun w5 s5 _ eE=>?_);have c5:=c4.own s5 gC;have dN:=dN.cT s5 (by simp [Ap]);refine dW ?_;refine WP .r (PV.fa tE rfl)<|(bL) aT eE.range<|?_;refine WP .r (PV.fa n0 rfl)<|(bL) aT dN.range<|(aZ) (fun UY=>?_) fun UY=>?_
  ·
   simp at UY
   refine(cA) ?_;exact⟨false,rfl,⟨fun h=>(by cases h),fun h=>absurd (h.2.1 i2 _ (ao cV)) (by omega)⟩,c5⟩
  simp at UY
  refine gN ?_;refine EX.again (i2+1) (Sub.k2 rfl rfl<|Sub.cons rfl<|Sub.kO rfl (by simp)<|Sub.nil) ⟨c5,dN,by omega,dG (P:=fun _ (y:Rec)=>y.ax≤x.ad) cV Dk UY⟩ (by omega)
 simp at Es
 have Dk:∀(j:Nat) (y:Rec),x.ak[j]?=some y→y.ax≤x.ad:=fun j y hx=>Dk j y (by have:=(List.getElem?_eq_some_iff.1 hx).1;omega) hx;refine ji ?_;refine WC.oA (t:=2) (v:=.bool (pe x)) (aV [] w3) ?_<|?_
 ·
  refine nx ?_;refine WP .r (PV.fa n0 rfl)<|(bL) aT dN.range<|(dY) (fun PN=>?_) (fun PN=>?_)
  ·
   refine WP .r (PV.fa n0 rfl)<|(bL) aT dN.range<|(dY) (fun ov=>?_) (fun ov=>?_)
   ·
    refine WP .r (PV.fa Aa rfl)<|(bL) oM dN.range<|?_;refine WP .r (PV.jM ya rfl)<|(dY) (fun g88=>?_) (fun g88=>?_)
    ·
     refine WP .r (PV.fa vZ rfl)<|(bL) eW dN.range<|(dj) ai1 (wo (hr.ext c3)) ?_;rintro _ w4 ⟨rfl,s4⟩;have c4:=c3.trans s4;have dN:=dN.ext s4;exact(iK) (by unfold pe;simp only [PN,ov,g88,← hlen];first | rfl | simp) s4
    exact(iK) (by unfold pe;simp only [PN,ov,g88,← hlen];first | rfl | simp) (aV.refl _ _)
   exact(iK) (by unfold pe;simp only [PN,ov,← hlen];first | rfl | simp) (aV.refl _ _)
  refine bf ?_;exact(iK) (by unfold pe;simp only [PN,← hlen];first | rfl | simp) (aV.refl _ _)
 intro w4 s4;have c4:=c3.trans s4;have dN:=dN.ext s4;refine(cA) ?_;exact⟨_,rfl,⟨fun h=>by have:=(wW x).1 h;exact⟨cZ,Dk,this⟩,fun h=>(wW x).2 h.2.2⟩,c4⟩
end Go.Rc

