/- Walks over the program, part WF. Conditions: as each theorem says. -/
import Derived.Test.YtjpagoacbadijaaGreatDoorVFacts
import Derived.Test.YtjpagoacbadijaaGreatDoorVWB
import Derived.Test.YtjpagoacbadijaaGreatDoorVBe
set_option linter.all false
namespace Go.Rc
open Go Go.Proofs Go.Proofs.Tryz
variable {x:dP}{a a2 a1:Option Addr}{n c n2 e2 n1 e1:Nat}{w:World}{M Z:Nat→Prop}{l:List Rec}{k:Key}
set_option maxHeartbeats 400000
theorem lD{x:Rec}(bJ:St w M Z w []) (hk:Rd RR.key 2 Z w a n c x.reads) (h4:x.reads.length≤4000):Calls prog 35 #[.agg (x.row a n c).toArray] w fun e w'=>∃a' n' c',e=.returned (.agg (x.row a' n' c').toArray)∧St w M Z w' [As.os RR.key 39 2 a' n' c' x.reads]:=by
 have FQ:=hk.len;refine enter func35 rfl ntmps35 rfl<|?_;have bd:=bJ;have st1:=bd.fr hk;have st2:=st1.eR RR.key 39 2;refine(fm) st2 fun b1 w1 oU dK aW=>?_;refine(gy) aW fun b2 w2 nv fl ba=>?_;refine(bM) gJ ba.b1<|?_;refine WL.ap rfl rfl ba.p2 ((As.gr ba.g3)) fun a5 c'5 w3 hf5 hn5 bs=>?_;refine nx ?_;refine WL.s1 bs.p2 fun w4 _ bj=>?_;refine(bA) eB bj.b0<|(dB) iM bj.p2 fun w5 jV j0 bV=>?_;refine(my) eB bV.b0<|?_;exact⟨_,_,_,rfl,bV.p2.k1⟩
theorem G4(bJ:St w M Z w []) (hl:Rd RR.fT 8 Z w a n c l) (h6:l.length≤1000000):Calls prog 61 #[.slice a n c] w fun e w'=>∃a' n' c' Z',e=.returned (.slice a' n' c')∧cI w.heap.size Z Z'∧St w M Z' w' [As.os RR.fT 48 8 a' n' c' l]:=by
 have hlen:=hl.len;have hle:=hl.le;refine enter func61 rfl ntmps61 rfl<|?_;have bd:=bJ;have st1:=bd.fr hl;have st2:=st1.eR RR.fT 48 8;refine bf ?_;refine gM ?_;refine WC.kh (σ:=Nat × (Nat→Prop) × (List Rec) × (Option Addr) × Nat × Nat) (eP:=fun(i,Z1,acc,cE,cj,cF)=>[(3,.slice cE cj cF),(6,.slice a n c),(7,.int .i64 (n:Int)),(8,.int .i64 (i:Int))]) (F:=fun(i,Z1,acc,cE,cj,cF)=>[As.os RR.fT 48 8 cE cj cF (acc)]) (I:=fun(i,Z1,acc,cE,cj,cF)=>(i≤n)∧(cI w.heap.size Z Z1)∧(acc=l.take i)∧True) (μ:=fun(i,Z1,acc,cE,cj,cF)=>n - i) (Zf:=fun(i,Z1,acc,cE,cj,cF)=>Z1) (0,Z,[],none,0,0) (st2) Sub.t (⟨by omega,cI.refl _ _,by simp,trivial⟩)<|?_;rintro⟨i,Z1,acc,cE,cj,cF⟩ w1 aW ⟨hi,hZ,eu,_⟩;simp only [CA,NA] at aW hi hZ eu ⊢;have l4:=((As.gs aW.g0)).len
 have BA:acc.length≤1000000:=by rw [eu,List.length_take];omega
 refine(aZ) (fun g9=>?_) fun g9=>?_
 ·
  simp at g9
  have cT:i<l.length:=by omega
  refine eC ?_;obtain⟨iz,ku,jW,aX,gk,bF,cQ,dO⟩:=Rd.at (As.gr aW.g1) cT;obtain⟨q1,q2,q3,rfl,sB,rI⟩:=bF;have ba:=aW.fg dO cQ;have bs:=ba.fr sB;refine nx ?_;refine WP .r (PV.fO kK aX rfl rfl (by omega))<|(bA) eB (As.oS bs.g1)<|(gy) bs fun b5 w2 nh gw bj=>?_;refine(dB) iM bj fun w3 jV j0 bV=>?_;refine(bA) eB bV.b0<|?_;have bT:=bV;refine(dh) SU (lD bT.e0 (As.gr bT.g1) rI) ?_;rintro _ w4 ⟨e1,e2,e3,rfl,iV⟩;have cm:=St.lr bT iV;have qi:=St.cH iV;have hsz:=bT.size;have aM:=cm.bN (by omega);have ly:=hZ.trans (cI.fc (F:=fun x=>x∈aI e1) qi) hsz;refine WL.go rfl (OX.aR (us:=l[i].row e1 e2 e3) tu rfl rfl rfl rfl fun yu w5 BB Eh=>?_);have aO:=aM.eI BB Eh;refine WL.ap rfl rfl aO.p5 (SR.ek (A:=fun _=>True) (x:=l[i]) (As.gb aO.g0) trivial rfl (Rec.one _ _ _ _) ⟨e1,e2,e3,rfl,(As.gr aO.g1),rI⟩) fun a16 ajj w6 aqT aqU aS=>?_;refine kP ?_;refine fJ (i+1,_,acc++[l[i]],a16,(cj+1),ajj) ⟨aS.p6.p1.k2,⟨by omega,ly,by rw [eu,List.take_succ_eq_append_getElem cT],trivial⟩⟩
 simp at g9
 have cY:acc=l:=by rw [eu];exact List.take_of_length_le (by omega)
 subst cY;refine(cy) ?_;exact⟨_,_,_,_,rfl,hZ,aW.p1.drop⟩
theorem j3(bJ:St w M Z w []) (hl:Rd RR.fT 8 Z w a n c l):Calls prog 14 #[.slice a n c,k.val] w fun e w'=>∃a' n' c',e=.returned (.tuple #[.agg ((aH l k).row a' n' c').toArray,.bool (aB l k).isSome])∧(aH l k).reads.length≤4000∧St w M Z w' [As.os RR.key 39 2 a' n' c' (aH l k).reads]:=by
 have hlen:=hl.len;have hle:=hl.le;refine enter func14 rfl ntmps14 rfl<|?_;have bd:=bJ;have st1:=bd.fr hl;refine(fm) st1 fun b3 w1 iO dJ st2=>?_;refine(gy) st2 fun b4 w2 jG bE aW=>?_;refine bf ?_;refine WC.cq (σ:=Nat) (eP:=fun i=>[(3,.pointer (some ⟨b3,0,none⟩)),(4,.pointer (some ⟨b4,0,none⟩)),(8,.slice a n c),(9,.int .i64 (n:Int)),(10,.int .i64 (i:Int))]) (F:=fun i=>[]) (I:=fun i=>(i≤n)∧(∀j x,j<i→l[j]?=some x→(x.key == k)=false)∧True) (μ:=fun i=>n - i) (0) (aW) Sub.t (⟨by omega,fun j x h=>by omega,trivial⟩)<|?_;rintro i w3 ba ⟨hi,gR,_⟩;simp only [CA,NA] at ba hi gR ⊢;refine(aZ) (fun g11=>?_) fun g11=>?_
 ·
  simp at g11
  have cT:i<l.length:=by omega
  refine eC ?_;obtain⟨iz,ku,jW,aX,gk,bF,cQ,dO⟩:=Rd.at (As.gr ba.g2) cT;obtain⟨q1,q2,q3,rfl,sB,rI⟩:=bF;have bs:=ba.fg dO cQ;have bj:=bs.fr sB;refine nx ?_;refine WP .r (PV.fO kK aX rfl rfl (by omega))<|(bA) eB (As.oS bj.g1)<|(gy) bj fun b7 w4 vZ om bV=>?_;refine(dB) iM bV fun w5 jV j0 bT=>?_;refine(kB) aq bT.b0<|(bA) aq bT.b4<|?_;refine WP .r (PV.Kl gY (p:=l[i].key) (q:=k) rfl rfl)<|(aZ) (fun g17=>?_) fun g17=>?_
  ·
   simp at g17
   have hf:aB l k=some l[i]:=lE cT gR (by simpa using g17)
   have XJ:aH l k=l[i]:=by unfold aH;rw [hf];rfl
   refine(bA) eB bT.b0<|?_;have cm:=bT;refine(dh) SU (lD cm.e0 (As.gr cm.g1) rI) ?_;rintro _ w6 ⟨e1,e2,e3,rfl,mY⟩;have aM:=St.lr cm mY;refine(dB) iM aM.p4 fun w7 sC nj aO=>?_;refine qd ?_;refine EX.iT rfl (RS.cell eB rfl aO.b0 rfl<|RS.tmp rfl<|RS.nil) rfl<|?_;exact⟨e1,e2,e3,by rw [hf,XJ];rfl,by rw [XJ];exact rI,by rw [XJ];exact aO.p1.k1⟩
  simp at g17
  refine gM ?_;refine fJ (i+1) ⟨bT.p5.p5.p5.k3,⟨by omega,dD cT gR (by simpa using g17),trivial⟩⟩
 simp at g11
 have hf:aB l k=none:=uf (i:=i) (by omega) gR
 have XJ:aH l k=se:=by unfold aH;rw [hf];rfl
 have bs:=ba.eR RR.key 39 2;refine(dB) iM bs.p1 fun w4 BC rq bj=>?_;refine dV ?_;refine EX.iT rfl (RS.cell eB rfl bj.b0 rfl<|RS.tmp rfl<|RS.nil) rfl<|?_;exact⟨none,0,0,by rw [hf,XJ];rfl,by rw [XJ];simp [se],by rw [XJ];exact bj.p1.k1⟩
theorem fw(hl:Rd RR.fT 8 Z w a n c l):Calls prog 14 #[.slice a n c,k.val] w fun e w'=>∃a' n' c',e=.returned (.tuple #[.agg ((aH l k).row a' n' c').toArray,.bool (aB l k).isSome])∧aV [] w w':=
 (j3 (M:=fun _=>False) (St.start fun _ hx=>hx.2) hl.cut).mono fun _ _ ⟨a',n',c',h1,_,h2⟩=>⟨a',n',c',h1,h2.cg⟩
theorem G5{x:Rec}(h1:x.key.text.size≤4611686018427) (h2:x.value.size≤4611686018427) (h3:n≤4611686018427):CR prog 116 #[.agg (x.row a n c).toArray] w (.int .i64 (16+x.key.text.size+x.value.size+8*n:Int)):=by
 refine enter func116 rfl ntmps116 rfl<|?_;have c0:aV [] w w:=aV.refl _ _;refine cS ?_;refine WL.go rfl (OX.box rfl rfl rfl fun b1 w1 oU dK=>?_);have s1:=oU.ext;have tD:=oU.j9 c0;have c1:=c0.trans s1;refine eC ?_;refine WP .r (PV.fa tz rfl)<|WP .r (PV.fa tw rfl)<|(bM) iF dK.range<|?_;refine WP .r (PV.yx vT rfl)<|nx ?_;refine WP .r (PV.fa zS rfl)<|(bM) iF dK.range<|?_;refine WP .r (PV.yx vT rfl)<|nx ?_;refine WP .r (PV.fa D9 rfl)<|(bM) gJ dK.range<|?_;refine WP .r (PV.jH fV rfl)<|WP .r (PV.mul rfl rfl (by omega) (by omega))<|(cy) ?_;exact⟨rfl,c1⟩
theorem xm(bJ:St w M Z w []) (hl:Rd RR.fT 8 Z w a n c l) (h6:l.length≤1000000):Calls prog 79 #[.slice a n c,k.val] w fun e w'=>∃a' n' c',e=.returned (.slice a' n' c')∧St w M Z w' [As.os RR.fT 48 8 a' n' c' (jn l k)]:=by
 have hlen:=hl.len;refine enter func79 rfl ntmps79 rfl<|?_;have bd:=bJ;have st1:=bd.fr hl;have st2:=st1.eR RR.fT 48 8;refine(fm) st2 fun b3 w1 iO dJ aW=>?_;refine bf ?_;refine eC ?_;refine WC.cq (σ:=Nat × (List Rec) × (Option Addr) × Nat × Nat) (eP:=fun(i,acc,cE,cj,cF)=>[(3,.pointer (some ⟨b3,0,none⟩)),(5,.slice cE cj cF),(8,.slice a n c),(9,.int .i64 (n:Int)),(10,.int .i64 (i:Int))]) (F:=fun(i,acc,cE,cj,cF)=>[As.os RR.fT 48 8 cE cj cF (acc)]) (I:=fun(i,acc,cE,cj,cF)=>(i≤n)∧(acc=jn (l.take i) k)∧True) (μ:=fun(i,acc,cE,cj,cF)=>n - i) (0,[],none,0,0) (aW.p1) Sub.t (⟨by omega,by simp [jn],trivial⟩)<|?_;rintro⟨i,acc,cE,cj,cF⟩ w2 ba ⟨hi,eu,_⟩;simp only [CA,NA] at ba hi eu ⊢;have l4:=((As.gs ba.g0)).len;have BA:=vy (l.take i) k
 have aqV:acc.length≤1000000:=by rw [List.length_take,← eu] at BA;omega
 refine(aZ) (fun g11=>?_) fun g11=>?_
 ·
  simp at g11
  have cT:i<l.length:=by omega
  have T9:=Iw (k:=k) cT;refine eC ?_;obtain⟨iz,ku,jW,aX,gk,bF,cQ,dO⟩:=Rd.at (As.gr ba.g2) cT;obtain⟨q1,q2,q3,rfl,sB,rI⟩:=bF;have bs:=ba.fg dO cQ;have bj:=bs.fr sB;refine nx ?_;refine WP .r (PV.fO kK aX rfl rfl (by omega))<|(bA) eB (As.oS bj.g1)<|(gy) bj fun b7 w3 vZ om bV=>?_;refine(dB) iM bV fun w4 jV j0 bT=>?_;refine(kB) aq bT.b0<|(bA) aq bT.b4<|?_;refine WP .r (PV.NY gY (p:=l[i].key) (q:=k) rfl rfl)<|(aZ) (fun g17=>?_) fun g17=>?_
  ·
   simp at g17
   rw [if_neg g17] at T9;refine(bA) eB bT.b0<|?_;refine WL.go rfl (OX.aR (us:=l[i].row q1 q2 q3) tu rfl rfl rfl rfl fun b20 w5 XK XL=>?_);have cm:=bT.eI XK XL;refine WL.ap rfl rfl cm.p4 (SR.ek (A:=fun _=>True) (x:=l[i]) (As.gb cm.g0) trivial rfl (Rec.one _ _ _ _) ⟨q1,q2,q3,rfl,(As.gr cm.g2),rI⟩) fun a21 ajk w6 aqW aqX aM=>?_;refine kP ?_;refine fJ (i+1,acc++[l[i]],a21,(cj+1),ajk) ⟨aM.p6.p6.p2.k3,⟨by omega,by rw [T9,eu],trivial⟩⟩
  simp at g17
  rw [if_pos g17] at T9;refine gM ?_;refine fJ (i+1,acc,cE,cj,cF) ⟨bT.p5.p5.p5.k3,⟨by omega,by rw [T9,eu],trivial⟩⟩
 simp at g11
 have cY:acc=jn l k:=by rw [eu,List.take_of_length_le (by omega)]
 subst cY;refine(cy) ?_;exact⟨_,_,_,rfl,ba.p1.drop.p1.drop⟩
theorem Ag{x:Rec}(bJ:St w M Z w []) (hl:Rd RR.fT 8 Z w a n c l) (h6:l.length≤1000000) (hx:Rd RR.key 2 Z w a2 n2 e2 x.reads) (hx4:x.reads.length≤4000):Calls prog 101 #[.slice a n c,.agg (x.row a2 n2 e2).toArray] w fun e w'=>∃a' n' c' Z',e=.returned (.slice a' n' c')∧cI w.heap.size Z Z'∧St w M Z' w' [As.os RR.fT 48 8 a' n' c' (fP l x)]:=by
 have hlen:=hl.len;refine enter func101 rfl ntmps101 rfl<|?_;have bd:=bJ;have st1:=bd.fr hl;have st2:=st1.fr hx;have aW:=st2.eR RR.fT 48 8;refine(fm) aW fun b3 w1 iO dJ ba=>?_;refine bf ?_;refine oC ?_;refine WC.kh (σ:=Nat × Bool × (Nat→Prop) × (List Rec) × (Option Addr) × Nat × Nat) (eP:=fun(i,put,Z1,out,cE,cj,cF)=>[(3,.pointer (some ⟨b3,0,none⟩)),(5,.slice cE cj cF),(6,.bool put),(10,.slice a n c),(11,.int .i64 (n:Int)),(12,.int .i64 (i:Int))]) (F:=fun(i,put,Z1,out,cE,cj,cF)=>[As.os RR.fT 48 8 cE cj cF (out)]) (I:=fun(i,put,Z1,out,cE,cj,cF)=>(i≤n)∧(cI w.heap.size Z Z1)∧(out++fY x (l.drop i) put=fP l x)∧True) (μ:=fun(i,put,Z1,out,cE,cj,cF)=>n - i) (Zf:=fun(i,put,Z1,out,cE,cj,cF)=>Z1) (0,false,Z,[],none,0,0) (ba.p1) Sub.t (⟨by omega,cI.refl _ _,rfl,trivial⟩)<|?_;rintro⟨i,put,Z1,out,cE,cj,cF⟩ w2 bs ⟨hi,hZ,hinv,_⟩;simp only [CA,NA] at bs hi hZ hinv ⊢;have l4:=((As.gs bs.g0)).len
 have Ua:out.length≤1000001:=by have h1:=congrArg List.length hinv;have h2:=vx x l false;simp only [fP,List.length_append] at h1;omega
 refine(aZ) (fun g13=>?_) fun g13=>?_
 ·
  simp at g13
  have cT:i<l.length:=by omega
  have C7:fY x (l.drop i) put=(if decide (0≤cv l[i].key x.key) && !put then [x] else [])++(if cv l[i].key x.key=0 then [] else [l[i]])++fY x (l.drop (i+1)) (put || decide (0≤cv l[i].key x.key)):=by rw [List.drop_eq_getElem_cons cT];rfl
  refine eC ?_;obtain⟨iz,ku,jW,aX,gk,bF,cQ,dO⟩:=Rd.at (As.gr bs.g3) cT;obtain⟨q1,q2,q3,rfl,sB,rI⟩:=bF;have bj:=bs.fg dO cQ;have bV:=bj.fr sB;refine nx ?_;refine WP .r (PV.fO kK aX rfl rfl (by omega))<|(bA) eB (As.oS bV.g1)<|(gy) bV fun b8 w3 Da iY bT=>?_;refine(dB) iM bT fun w4 jV j0 cm=>?_;refine(kB) aq cm.b0<|(kB) aq cm.b4<|(iu) (mD (k:=l[i].key) (q:=x.key)) cm fun w5 s5 aM=>?_;refine eC ?_;refine WC.fE (t:=26) (v:=.bool (decide (0≤cv l[i].key x.key) && !put)) aM ?_<|?_
  ·
   refine(ed) (fun g23=>?_) (fun g23=>?_)
   ·
    exact(dp) (by simp only [g23];first | rfl | simp) (aM)
   exact(dp) (by simp only [g23];first | rfl | simp) (aM)
  intro w6 aO;refine(aZ) (fun kq=>?_) fun kq=>?_
  ·
   simp at kq
   obtain⟨hA,hB⟩:=kq;subst hB
   have hs:fY x (l.drop i) false=[x]++(if cv l[i].key x.key=0 then [] else [l[i]])++fY x (l.drop (i+1)) true:=by rw [C7];simp [hA]
   refine(bA) eB aO.b4<|?_;have aS:=aO;refine(dh) SU (lD aS.e0 (As.gr aS.g5) hx4) ?_;rintro _ w7 ⟨f1,f2,f3,rfl,n9⟩;have bC:=St.lr aS n9;have qi:=St.cH n9;have hsz:=aS.size;have br:=bC.bN (by omega);have ly:=hZ.trans (cI.fc (F:=fun x=>x∈aI f1) qi) hsz;refine WL.go rfl (OX.aR (us:=x.row f1 f2 f3) tu rfl rfl rfl rfl fun b30 w8 adL adM=>?_);have aY:=br.eI adL adM;refine WL.ap rfl rfl aY.p5 (SR.ek (A:=fun _=>True) (x:=x) (As.gb aY.g0) trivial rfl (Rec.one _ _ _ _) ⟨f1,f2,f3,rfl,(As.gr aY.g1),hx4⟩) fun a31 ajm w9 aqY aqZ aQ=>?_;refine(aZ) (fun jA=>?_) fun jA=>?_
   ·
    simp at jA
    rw [if_neg jA] at hs;refine(bA) eB aQ.b3<|?_;refine WL.go rfl (OX.aR (us:=l[i].row q1 q2 q3) tu rfl rfl rfl rfl fun b36 kE Py Pz=>?_);have bB:=aQ.eI Py Pz;refine WL.ap rfl rfl bB.p1 (SR.ek (A:=fun _=>True) (x:=l[i]) (As.gb bB.g0) trivial rfl (Rec.one _ _ _ _) ⟨q1,q2,q3,rfl,(As.gr bB.g5),rI⟩) fun a37 JD kF XM XN bL=>?_;refine kP ?_;refine fJ (i+1,true,_,_,a37,((cj+1)+1),JD) ⟨bL.p9.p9.p9.p3.k4,⟨by omega,ly,by rw [← hinv,hs];simp,trivial⟩⟩
   simp at jA
   rw [if_pos jA] at hs;refine gM ?_;refine fJ (i+1,true,_,_,a31,(cj+1),ajm) ⟨aQ.p8.p8.p8.p3.k4,⟨by omega,ly,by rw [← hinv,hs];simp,trivial⟩⟩
  have hs:fY x (l.drop i) put=[]++(if cv l[i].key x.key=0 then [] else [l[i]])++fY x (l.drop (i+1)) put:=by
   rw [C7]
   cases put
   ·
    simp at kq;rw [decide_eq_false (by omega)];rfl
   simp
  refine(aZ) (fun jA=>?_) fun jA=>?_
  ·
   simp at jA
   rw [if_neg jA] at hs;refine(bA) eB aO.b0<|?_;refine WL.go rfl (OX.aR (us:=l[i].row q1 q2 q3) tu rfl rfl rfl rfl fun b36 w7 Py Pz=>?_);have aS:=aO.eI Py Pz;refine WL.ap rfl rfl aS.p4 (SR.ek (A:=fun _=>True) (x:=l[i]) (As.gb aS.g0) trivial rfl (Rec.one _ _ _ _) ⟨q1,q2,q3,rfl,(As.gr aS.g2),rI⟩) fun a37 JD w8 XM XN bC=>?_;refine kP ?_;refine fJ (i+1,put,_,_,a37,(cj+1),JD) ⟨bC.p7.p7.p7.p3.k4,⟨by omega,hZ,by rw [← hinv,hs];simp,trivial⟩⟩
  simp at jA
  rw [if_pos jA] at hs;refine gM ?_;refine fJ (i+1,put,_,_,cE,cj,cF) ⟨aO.p6.p6.p6.p6.k4,⟨by omega,hZ,by rw [← hinv,hs];simp,trivial⟩⟩
 simp at g13
 have cY:l.drop i=[]:=List.drop_eq_nil_of_le (by omega);rw [cY] at hinv;refine(aZ) (fun Ae=>?_) fun Ae=>?_
 ·
  simp at Ae
  subst Ae;refine(bA) eB bs.b1<|?_;have bj:=bs;refine(dh) SU (lD bj.e0 (As.gr bj.g2) hx4) ?_;rintro _ w3 ⟨f1,f2,f3,rfl,eN⟩;have bV:=St.lr bj eN;have qi:=St.cH eN;have hsz:=bj.size;have bT:=bV.bN (by omega);have ly:=hZ.trans (cI.fc (F:=fun x=>x∈aI f1) qi) hsz;refine WL.go rfl (OX.aR (us:=x.row f1 f2 f3) tu rfl rfl rfl rfl fun b44 w4 ajn ajo=>?_);have cm:=bT.eI ajn ajo;refine WL.ap rfl rfl cm.p2 (SR.ek (A:=fun _=>True) (x:=x) (As.gb cm.g0) trivial rfl (Rec.one _ _ _ _) ⟨f1,f2,f3,rfl,(As.gr cm.g1),hx4⟩) fun a45 aq0 w5 aq1 aq2 aM=>?_;refine(cy) ?_;exact⟨_,_,_,_,rfl,ly,by rw [← hinv];exact aM.k1⟩
 simp at Ae
 subst Ae;refine(cy) ?_;exact⟨_,_,_,_,rfl,hZ,by rw [← hinv];simp only [fY,List.append_nil,if_true];exact bs.k1⟩
theorem Ei{x:Rec}(hk:Rd RR.key 2 Z w a n c x.reads):CR prog 104 #[.agg (x.row a n c).toArray] w (.bool (fI x)):=by
 have hlen:=SR.len hk;have hle:=SR.le hk;refine enter func104 rfl ntmps104 rfl<|?_;have c0:aV [] w w:=aV.refl _ _;refine cS ?_;refine WL.go rfl (OX.box rfl rfl rfl fun b1 w1 oU dK=>?_);have s1:=oU.ext;have tD:=oU.j9 c0;have c1:=c0.trans s1;refine jo ?_;refine WP .r (PV.fa D9 rfl)<|(bM) gJ dK.range<|?_;refine WP .r (PV.jH fV rfl)<|dV ?_;refine WC.loop (σ:=Nat) (eP:=fun i=>[(1,.pointer (some ⟨b1,0,none⟩)),(6,.slice a n c),(7,.int .i64 (n:Int)),(8,.int .i64 (i:Int))]) (I:=fun i w'=>aV [] w w'∧cV w' b1 48 (x.row a n c)∧i≤n∧∀j y,j<i→x.reads[j]?=some y→gN y=true) (μ:=fun i=>n - i) 0 Sub.t ⟨c1,dK,by omega,fun j y h=>by omega⟩ ?_;rintro i w2 ⟨c2,dK,hi,cY⟩;refine(aZ) (fun g9=>?_) fun g9=>?_
 ·
  simp at g9
  have cT:i<x.reads.length:=by omega
  refine eC ?_;obtain⟨S2,S3,S4,nY,_,JC,jr,_⟩:=SR.at hk (ao cT);have JC:=RR.cG JC;subst JC;have jr:=bH jr c2 (by simp);refine nx ?_;refine WP .r (PV.fO fV nY rfl rfl (by omega))<|(bA) aq jr<|?_;refine WL.go rfl (OX.alloc Jr rfl fun b4 w3 jG bE=>?_);have s3:=jG.ext;have iw:=jG.j9 c2;have mZ:b1≠b4:=jG.ne dK.lt;have JE:b4≠b1:=Ne.symm mZ;have c3:=c2.trans s3;have dK:=dK.ext s3;refine WL.go rfl (OX.pB jz bE rfl rfl rfl rfl rfl fun w4 s4 _ bE=>?_);have c4:=c3.own s4 iw;have dK:=dK.cW s4 (by simp [mZ]);refine(bA) aq bE.range<|(dh) Pg (ks (k:=x.reads[i])) ?_;rintro _ w5 ⟨rfl,s5⟩;have c5:=c4.trans s5;have dK:=dK.ext s5;have bE:=bE.ext s5;refine(aZ) (fun g14=>?_) fun g14=>?_
  ·
   simp at g14
   have hv:fI x=false:=by unfold fI;rw [Bool.and_eq_false_iff];left;rw [List.all_eq_false];exact⟨_,List.getElem_mem cT,by simp [g14]⟩
   refine(cy) ?_;exact⟨by rw [hv],c5⟩
  simp at g14
  refine gM ?_;refine EX.again (i+1) (Sub.k2 rfl rfl<|Sub.cons rfl<|Sub.kN rfl (by simp)<|Sub.nil) ⟨c5,dK,by omega,dD cT cY g14⟩ (by omega)
 simp at g9
 have hv:fI x=ir x:=by
  unfold fI
  rw [show x.reads.all gN=true from List.all_eq_true.2 fun y hy=>by obtain⟨j,hj,rfl⟩:=List.mem_iff_getElem.1 hy;exact cY j _ (by omega) (ao hj)]
  rfl
 refine jo ?_;refine WC.ou (t:=2) (v:=.bool (ir x)) (aV [] w2) ?_<|?_
 ·
  refine nx ?_;refine WP .r (PV.fa tz rfl)<|(kB) aq dK.range<|(dh) Pg (ks (k:=x.key)) ?_;rintro _ w3 ⟨rfl,s3⟩;have c3:=c2.trans s3;have dK:=dK.ext s3;refine(ed) (fun g19=>?_) (fun g19=>?_)
  ·
   refine WP .r (PV.fa tz rfl)<|(kB) aq dK.range<|(dh) My (fD (k:=x.key)) ?_;rintro _ w4 ⟨rfl,s4⟩;have c4:=c3.trans s4;have dK:=dK.ext s4;refine(ed) (fun eZ=>?_) (fun eZ=>?_)
   ·
    refine WP .r (PV.fa zS rfl)<|(bM) iF dK.range<|?_;refine WP .r (PV.yx vT rfl)<|(ed) (fun rV=>?_) (fun rV=>?_)
    ·
     refine WP .r (PV.fa D9 rfl)<|(bM) gJ dK.range<|?_;refine WP .r (PV.jH fV rfl)<|(ed) (fun uL=>?_) (fun uL=>?_)
     ·
      refine WP .r (PV.fa zT rfl)<|(bM) aU dK.range<|(ed) (fun lW=>?_) (fun lW=>?_)
      ·
       refine WP .r (PV.fa zT rfl)<|(bM) aU dK.range<|?_;refine WP .r (PV.fa tA rfl)<|(bM) aU dK.range<|(ed) (fun vm=>?_) (fun vm=>?_)
       ·
        refine WP .r (PV.fa tA rfl)<|(bM) aU dK.range<|(ed) (fun tI=>?_) (fun tI=>?_)
        ·
         refine WP .r (PV.fa Js rfl)<|(bM) aU dK.range<|(ed) (fun Lg=>?_) (fun Lg=>?_)
         ·
          refine WP .r (PV.fa Js rfl)<|(bM) aU dK.range<|(ed) (fun UH=>?_) (fun UH=>?_)
          ·
           refine WP .r (PV.fa Jt rfl)<|(bM) fq dK.range<|(ed) (fun XO=>?_) (fun XO=>?_)
           ·
            exact(iH) (by unfold ir;simp only [g19,eZ,rV,uL,lW,vm,tI,Lg,UH,XO,← hlen];first | rfl | simp) (s3.trans s4)
           refine WP .r (PV.fa tz rfl)<|(kB) aq dK.range<|(dh) Mz (ee (k:=x.key)) ?_;rintro _ w5 ⟨rfl,s5⟩;have c5:=c4.trans s5;have dK:=dK.ext s5;exact(iH) (by unfold ir;simp only [g19,eZ,rV,uL,lW,vm,tI,Lg,UH,XO,← hlen];first | rfl | simp) ((s3.trans s4).trans s5)
          exact(iH) (by unfold ir;simp only [g19,eZ,rV,uL,lW,vm,tI,Lg,UH,← hlen];first | rfl | simp) (s3.trans s4)
         refine bf ?_;exact(iH) (by unfold ir;simp only [g19,eZ,rV,uL,lW,vm,tI,Lg,← hlen];first | rfl | simp) (s3.trans s4)
        refine bf ?_;exact(iH) (by unfold ir;simp only [g19,eZ,rV,uL,lW,vm,tI,← hlen];first | rfl | simp) (s3.trans s4)
       refine bf ?_;refine bf ?_;exact(iH) (by unfold ir;simp only [g19,eZ,rV,uL,lW,vm,← hlen];first | rfl | simp) (s3.trans s4)
      refine bf ?_;refine bf ?_;exact(iH) (by unfold ir;simp only [g19,eZ,rV,uL,lW,← hlen];first | rfl | simp) (s3.trans s4)
     refine bf ?_;refine bf ?_;refine bf ?_;exact(iH) (by unfold ir;simp only [g19,eZ,rV,uL,← hlen];first | rfl | simp) (s3.trans s4)
    refine bf ?_;refine bf ?_;refine bf ?_;exact(iH) (by unfold ir;simp only [g19,eZ,rV,← hlen];first | rfl | simp) (s3.trans s4)
   refine bf ?_;refine bf ?_;refine bf ?_;refine bf ?_;exact(iH) (by unfold ir;simp only [g19,eZ,← hlen];first | rfl | simp) (s3.trans s4)
  refine bf ?_;refine bf ?_;refine bf ?_;refine bf ?_;exact(iH) (by unfold ir;simp only [g19,← hlen];first | rfl | simp) s3
 intro w3 s3;have c3:=c2.trans s3;have dK:=dK.ext s3;refine(cy) ?_;exact⟨by rw [hv],c3⟩
theorem xW(hl:Rd RR.fT 8 Z w a n c l):Calls prog 69 #[.slice a n c] w fun e w'=>∃b:Bool,e=.returned (.bool b)∧(b=true↔qp l)∧aV [] w w':=by
 have hlen:=SR.len hl;have hle:=SR.le hl;refine enter func69 rfl ntmps69 rfl<|?_;have c0:aV [] w w:=aV.refl _ _;refine qd ?_;refine WP .r (PV.jH kK rfl)<|dV ?_;refine WC.loop (σ:=Nat) (eP:=fun i=>[(0,.slice a n c),(5,.slice a n c),(6,.int .i64 (n:Int)),(7,.int .i64 (i:Int))]) (I:=fun i w'=>aV [] w w'∧i≤n∧∀j y,j<i→l[j]?=some y→ug l j y) (μ:=fun i=>n - i) 0 Sub.t ⟨c0,by omega,fun j y h=>by omega⟩ ?_;rintro i w1 ⟨c1,hi,cY⟩;refine(aZ) (fun g8=>?_) fun g8=>?_
 ·
  simp at g8
  have cT:i<l.length:=by omega
  have jF:=getElem!_pos l i cT;obtain⟨S2,S3,S4,nY,_,⟨q1,q2,q3,rfl,sB,rI⟩,jr,_⟩:=SR.at hl (ao cT);refine eC ?_;have jr:=bH jr c1 (by simp);refine cS ?_;refine WP .r (PV.fO kK nY rfl rfl (by omega))<|(bA) eB jr<|?_;refine WL.go rfl (OX.alloc tv rfl fun b4 w2 jG bE=>?_);have s2:=jG.ext;have iw:=jG.j9 c1;have c2:=c1.trans s2;refine nx ?_;refine WL.go rfl (OX.pB iM bE rfl rfl rfl rfl rfl fun w3 s3 _ bE=>?_);have c3:=c2.own s3 iw;refine dA ?_;refine WC.mI (t:=30) (v:=.bool (vz l i)) (aV [] w3) ?_<|?_
  ·
   refine WC.drawn (m:=15) (C:=aV [] w3) (T:=fun _=>aV []) (E:=dm [(1,fun v _=>v=.bool (fI l[i]))]) (bK (⟨fun _ _ _ _ _ _ _ h=>h,trivial⟩)) mixed (by kernel_rfl) (aV.drew _ _)<|?_;refine DP .r (fun _ hC=>PV.Lp eB (bE.ext hC).range rfl rfl)<|?_;refine DW.e rfl rfl rfl rfl rfl (fun wx hC hF=>OX.call acJ rfl rfl ((Ei (sB.ext (c3.trans hC))).mono ?_))<|?_
   ·
    rintro _ wy ⟨rfl,hy⟩;exact⟨_,rfl,hC.trans hy,hy,_,rfl,rfl⟩
   rintro _ wz _ rfl;refine(qe) (fun g15=>?_) (fun g15=>?_)
   ·
    refine(eb) ?_;rintro w4 s4 _;have c4:=c3.trans s4;have bE:=bE.ext s4;exact(dp) (by unfold vz;first | (simp only [jF,qm,g15];done) | (simp only [jF,qm,g15];rfl) | (simp only [jF,g15];rfl) | (simp only [jF];rw [Bool.not_eq_true'] at g15;simp [g15]) | (simp only [jF];simp at g15 g18;simp [g15,g18])) s4
   refine(qe) (fun g18=>?_) (fun g18=>?_)
   ·
    have Ia:i - 1<l.length:=by omega
    have qm:=getElem!_pos l (i - 1) Ia;have ajp:=of_decide_eq_true g18;obtain⟨bx2,ox2,rx2,Bj,_,⟨p1,p2,p3,rfl,_,_⟩,yj,_⟩:=SR.at hl (ao Ia);have yj:=bH yj c3 (by simp);refine dA ?_;refine DP .r (fun _ hC=>PV.Kk kK (i - 1) Bj rfl rfl (by omega) (by omega))<|DP .r (fun _ hC=>PV.fa tz rfl)<|DP .r (fun _ hC=>PV.FL aq (bH yj hC (by simp)) rfl rfl)<|DP .r (fun _ hC=>PV.fa tz rfl)<|DP .r (fun _ hC=>PV.FL aq (bE.ext hC).range rfl rfl)<|(eb)<|?_;rintro w4 s4 _;have c4:=c3.trans s4;have bE:=bE.ext s4;refine(dh) Xz (mD (k:=l[i - 1].key) (q:=l[i].key)) ?_;rintro _ w5 ⟨rfl,s5⟩;have c5:=c4.trans s5;have bE:=bE.ext s5;exact(dp) (by unfold vz;first | (simp only [jF,qm,g15,g18];done) | (simp only [jF,qm,g15,g18];rfl) | (simp only [jF,g15,g18];rfl) | (simp only [jF];rw [Bool.not_eq_true'] at g15;simp [g15]) | (simp only [jF];simp at g15 g18;simp [g15,g18])) (s4.trans s5)
   refine(eb) ?_;rintro w4 s4 _;have c4:=c3.trans s4;have bE:=bE.ext s4;exact(dp) (by unfold vz;first | (simp only [jF,qm,g15,g18];done) | (simp only [jF,qm,g15,g18];rfl) | (simp only [jF,g15,g18];rfl) | (simp only [jF];rw [Bool.not_eq_true'] at g15;simp [g15]) | (simp only [jF];simp at g15 g18;simp [g15,g18])) s4
  intro w4 s4;have c4:=c3.trans s4;have bE:=bE.ext s4;refine(aZ) (fun lO=>?_) fun lO=>?_
  ·
   skip
   refine(cy) ?_;exact⟨false,rfl,⟨fun h=>(by cases h),fun h=>absurd ((uh cT).2 (h.2 i _ (ao cT))) (by simp [lO])⟩,c4⟩
  refine gM ?_;refine EX.again (i+1) (Sub.k2 rfl rfl<|Sub.cons rfl<|Sub.kN rfl (by simp)<|Sub.nil) ⟨c4,by omega,dD cT cY ((uh cT).1 lO)⟩ (by omega)
 ·
  simp at g8
  have cY:∀j y,l[j]?=some y→ug l j y:=fun j x hx=>cY j x (by have:=(List.getElem?_eq_some_iff.1 hx).1;omega) hx;refine kP ?_;refine WP .r (PV.jH kK rfl)<|(cy) ?_;exact⟨_,rfl,⟨fun h=>⟨by simp at h;omega,cY⟩,fun h=>by have:=h.1;simp;omega⟩,c1⟩
 -- tJ je G17.T
set_option maxHeartbeats 400000
theorem wa(hl:Rd RR.fT 8 Z w a n c l):CR prog 69 #[.slice a n c] w (.bool (um l)):=
 (xW hl).mono fun _ _ ⟨b,h1,h2,h3⟩=>⟨by rw [h1,Iy h2],h3⟩
theorem gK(bJ:St w M Z w []) (hi:Rd RR.aF 4 Z w a1 n1 e1 x.ad) (hr:Rd RR.fT 8 Z w a2 n2 e2 x.ak) (h6:x.ak.length≤1000000) (h7:x.ad.length≤1000000):Calls prog 30 #[.agg (x.row a1 n1 e1 a2 n2 e2).toArray] w fun e w'=>∃PA PC PD PE PF PG Z',e=.returned (.agg (x.row PA PC PD PE PF PG).toArray)∧cI w.heap.size Z Z'∧St w M Z' w' [As.os RR.aF 102 4 PA PC PD x.ad,As.os RR.fT 48 8 PE PF PG x.ak]:=by
 have Bg:=hi.len;have Nh:=hr.len;refine enter func30 rfl ntmps30 rfl<|?_;have bd:=bJ;have st1:=bd.fr hi;have st2:=st1.fr hr;have aW:=st2.eR RR.aF 102 4;refine(fm) aW fun b1 w1 oU dK ba=>?_;refine(gy) ba fun b2 w2 nv fl bs=>?_;refine(bM) oI bs.b1<|?_;refine WL.ap rfl rfl bs.p2 ((As.gr bs.g4)) fun a5 c'5 w3 hf5 hn5 bj=>?_;refine nx ?_;refine WL.s1 bj.p2 fun w4 _ bV=>?_;refine(bM) fk bV.b0<|?_;have bT:=bV;refine(dh) aiK (G4 bT.e0 (As.gr bT.g3) h6) ?_;rintro _ w5 ⟨f1,f2,f3,Z1,rfl,oL,jB⟩;have cm:=St.lv bT jB oL;have ly:=oL.le bT.size;refine nx ?_;refine WL.s1 cm.p1 fun w6 _ aM=>?_;refine(bA) aP aM.b0<|(dB) fR aM.p3 fun w7 jV j0 aO=>?_;refine(my) aP aO.b0<|?_;exact⟨_,_,_,_,_,_,_,rfl,ly,aO.p2.p3.k2⟩
theorem xn(hi:Rd RR.aF 4 Z w a1 n1 e1 x.ad) (hr:Rd RR.fT 8 Z w a2 n2 e2 x.ak) {k:Key}:CR prog 71 #[.agg (x.row a1 n1 e1 a2 n2 e2).toArray,k.val] w (.agg (cZ x.ad k).cells.toArray):=by
 have hlen:=SR.len hi;have hle:=SR.le hi;refine enter func71 rfl ntmps71 rfl<|?_;have c0:aV [] w w:=aV.refl _ _;refine cS ?_;refine WL.go rfl (OX.box rfl rfl rfl fun b2 w1 nv fl=>?_);have s1:=nv.ext;have qK:=nv.j9 c0;have c1:=c0.trans s1;refine WL.go rfl (OX.box rfl rfl rfl fun b3 w2 iO dJ=>?_);have s2:=iO.ext;have qL:=iO.j9 c1;have iy:b2≠b3:=iO.ne fl.lt;have po:b3≠b2:=Ne.symm iy;have c2:=c1.trans s2;have fl:=fl.ext s2;refine WL.go rfl (OX.alloc Lc rfl fun b4 w3 jG bE=>?_);have s3:=jG.ext;have iw:=jG.j9 c2;have JF:b2≠b4:=jG.ne fl.lt;have XP:b4≠b2:=Ne.symm JF;have tK:b3≠b4:=jG.ne dJ.lt;have XQ:b4≠b3:=Ne.symm tK;have c3:=c2.trans s3;have fl:=fl.ext s3;have dJ:=dJ.ext s3;refine eC ?_;refine WP .r (PV.fa zR rfl)<|(bM) oI fl.range<|?_;refine WP .r (PV.jH xU rfl)<|dV ?_;refine WC.loop (σ:=Nat) (eP:=fun i=>[(3,.pointer (some ⟨b3,0,none⟩)),(4,.pointer (some ⟨b4,0,none⟩)),(8,.slice a1 n1 e1),(9,.int .i64 (n1:Int)),(10,.int .i64 (i:Int))]) (I:=fun i w'=>aV [] w w'∧cV w' b3 39 [.int .i64 k.kind,.string k.text]∧cV w' b4 102 [.int .i64 0,.string ⟨#[]⟩,.string ⟨#[]⟩,.int .i64 0]∧i≤n1∧(∀j y,j<i→x.ad[j]?=some y→(y.key == k)=false)) (μ:=fun i=>n1 - i) 0 Sub.t ⟨c3,dJ,bE,by omega,fun j x h=>by omega⟩ ?_;rintro i w4 ⟨c4,dJ,bE,hi1,gR⟩;refine(aZ) (fun g11=>?_) fun g11=>?_
 ·
  simp at g11
  have cT:i<x.ad.length:=by omega
  refine eC ?_;obtain⟨S2,S3,S4,nY,_,JC,jr,_⟩:=SR.at hi (ao cT);have JC:=RR.cG JC;subst JC;have jr:=bH jr c4 (by simp);refine nx ?_;refine WP .r (PV.fO xU nY rfl rfl (by omega))<|(bA) l6 jr<|?_;refine WL.go rfl (OX.alloc Lc rfl fun b6 w5 mC eE=>?_);have s5:=mC.ext;have gz:=mC.j9 c4;have gj:b3≠b6:=mC.ne dJ.lt;have tH:b6≠b3:=Ne.symm gj;have dY:b4≠b6:=mC.ne bE.lt;have pq:b6≠b4:=Ne.symm dY;have c5:=c4.trans s5;have dJ:=dJ.ext s5;have bE:=bE.ext s5;refine WL.go rfl (OX.pB xh eE rfl rfl rfl rfl rfl fun w6 s6 _ eE=>?_);have c6:=c5.own s6 gz;have dJ:=dJ.cW s6 (by simp [gj]);have bE:=bE.cW s6 (by simp [dY]);refine dV ?_;refine WP .r (PV.fa rG rfl)<|(kB) aq eE.range<|(bA) aq dJ.range<|?_;refine WP .r (PV.Kl gY (p:=x.ad[i].key) (q:=k) rfl rfl)<|(aZ) (fun g17=>?_) fun g17=>?_
  ·
   simp at g17
   have hf:cZ x.ad k=x.ad[i]:=by unfold cZ;rw [lE cT gR (by simpa using g17)];rfl
   refine(bA) l6 eE.range<|?_;refine WL.go rfl (OX.pB xh bE rfl rfl rfl rfl rfl fun w7 s7 _ bE=>?_);have c7:=c6.own s7 iw;have dJ:=dJ.cW s7 (by simp [tK]);have eE:=eE.cW s7 (by simp [pq]);refine(my) l6 bE.range<|?_;exact⟨by rw [hf],c7⟩
  simp at g17
  refine gM ?_;refine EX.again (i+1) (Sub.k4 rfl rfl rfl rfl<|Sub.kN rfl (by simp)<|Sub.nil) ⟨c6,dJ,bE,by omega,dD cT gR (by simpa using g17)⟩ (by omega)
 simp at g11
 have hf:cZ x.ad k=⟨k,⟨#[]⟩,0⟩:=by unfold cZ;rw [uf (i:=i) (by omega) gR];rfl
 refine(bA) aq dJ.range<|?_;refine WP .r (PV.bU (us:=(dy.mk k ⟨#[]⟩ 0).cells) K7 rfl rfl rfl)<|?_;refine WL.go rfl (OX.pB xh bE rfl rfl rfl rfl rfl fun w5 s5 _ bE=>?_);have c5:=c4.own s5 iw;have dJ:=dJ.cW s5 (by simp [tK]);refine(my) l6 bE.range<|?_;exact⟨by rw [hf],c5⟩
theorem we(hi:Rd RR.aF 4 Z w a1 n1 e1 x.ad) (hr:Rd RR.fT 8 Z w a2 n2 e2 x.ak) {k:Key}:CR prog 45 #[.agg (x.row a1 n1 e1 a2 n2 e2).toArray,k.val] w (.string (cZ x.ad k).value):=by
 refine enter func45 rfl ntmps45 rfl<|?_;have c0:aV [] w w:=aV.refl _ _;refine cS ?_;refine WL.go rfl (OX.box rfl rfl rfl fun b2 w1 nv fl=>?_);have s1:=nv.ext;have qK:=nv.j9 c0;have c1:=c0.trans s1;refine WL.go rfl (OX.box rfl rfl rfl fun b3 w2 iO dJ=>?_);have s2:=iO.ext;have qL:=iO.j9 c1;have iy:b2≠b3:=iO.ne fl.lt;have po:b3≠b2:=Ne.symm iy;have c2:=c1.trans s2;have fl:=fl.ext s2;refine(bA) aP fl.range<|(bA) aq dJ.range<|(dh) acD (xn (k:=k) (hi.ext c2) (hr.ext c2)) ?_;rintro _ w3 ⟨rfl,s3⟩;have c3:=c2.trans s3;have fl:=fl.ext s3;have dJ:=dJ.ext s3;refine WP .r (PV.yU (fs:=[_,_,_]) (f:=1) (off:=2) (T:=102) underlying102 rfl rfl (show ∀w,(isAgg 9).run _ w=.ok false w from isAgg9) rfl rfl)<|(cy) ?_;exact⟨rfl,c3⟩
theorem G6(hi:Rd RR.aF 4 Z w a1 n1 e1 x.ad) (hr:Rd RR.fT 8 Z w a2 n2 e2 x.ak) {k:Key}:CR prog 138 #[.agg (x.row a1 n1 e1 a2 n2 e2).toArray,k.val] w (.int .i64 (cZ x.ad k).changed):=by
 refine enter func138 rfl ntmps138 rfl<|?_;have c0:aV [] w w:=aV.refl _ _;refine cS ?_;refine WL.go rfl (OX.box rfl rfl rfl fun b2 w1 nv fl=>?_);have s1:=nv.ext;have qK:=nv.j9 c0;have c1:=c0.trans s1;refine WL.go rfl (OX.box rfl rfl rfl fun b3 w2 iO dJ=>?_);have s2:=iO.ext;have qL:=iO.j9 c1;have iy:b2≠b3:=iO.ne fl.lt;have po:b3≠b2:=Ne.symm iy;have c2:=c1.trans s2;have fl:=fl.ext s2;refine(bA) aP fl.range<|(bA) aq dJ.range<|(dh) acD (xn (k:=k) (hi.ext c2) (hr.ext c2)) ?_;rintro _ w3 ⟨rfl,s3⟩;have c3:=c2.trans s3;have fl:=fl.ext s3;have dJ:=dJ.ext s3;refine WP .r (PV.yU (fs:=[_,_,_]) (f:=2) (off:=3) (T:=102) underlying102 rfl rfl (show ∀w,(isAgg 3).run _ w=.ok false w from isAgg3) rfl rfl)<|(cy) ?_;exact⟨rfl,c3⟩
theorem pr(hi:Rd RR.aF 4 Z w a1 n1 e1 x.ad) (hr:Rd RR.fT 8 Z w a2 n2 e2 x.ak):Calls prog 42 #[.agg (x.row a1 n1 e1 a2 n2 e2).toArray] w fun e w'=>∃b:Bool,e=.returned (.bool b)∧(b=true↔lH x)∧aV [] w w':=by
 have hlen:=SR.len hi;have hle:=SR.le hi;have Ac:=SR.len hr;have iP:=SR.le hr;refine enter func42 rfl ntmps42 rfl<|?_;have c0:aV [] w w:=aV.refl _ _;refine cS ?_;refine WL.go rfl (OX.box rfl rfl rfl fun b1 w1 oU dK=>?_);have s1:=oU.ext;have tD:=oU.j9 c0;have c1:=c0.trans s1;refine jo ?_;refine WP .r (PV.fa zR rfl)<|(bM) oI dK.range<|?_;refine WP .r (PV.jH xU rfl)<|dV ?_;refine WC.loop (σ:=Nat) (eP:=fun i=>[(1,.pointer (some ⟨b1,0,none⟩)),(8,.slice a1 n1 e1),(9,.int .i64 (n1:Int)),(10,.int .i64 (i:Int))]) (I:=fun i w'=>aV [] w w'∧cV w' b1 31 (x.row a1 n1 e1 a2 n2 e2)∧i≤n1∧∀j y,j<i→x.ad[j]?=some y→jK x.ae x.ad j=false) (μ:=fun i=>n1 - i) 0 Sub.t ⟨c1,dK,by omega,fun j y h=>by omega⟩ ?_;rintro i w2 ⟨c2,dK,ij,cY⟩;refine(aZ) (fun g11=>?_) fun g11=>?_
 ·
  simp at g11
  have cT:i<x.ad.length:=by omega
  have jF:=getElem!_pos x.ad i cT;obtain⟨S2,S3,S4,nY,_,JC,jr,_⟩:=SR.at hi (ao cT);have JC:=RR.cG JC;subst JC;refine eC ?_;have jr:=bH jr c2 (by simp);refine cS ?_;refine WP .r (PV.fO xU nY rfl rfl (by omega))<|(bA) l6 jr<|?_;refine WL.go rfl (OX.alloc Lc rfl fun b4 w3 jG bE=>?_);have s3:=jG.ext;have iw:=jG.j9 c2;have mZ:b1≠b4:=jG.ne dK.lt;have JE:b4≠b1:=Ne.symm mZ;have c3:=c2.trans s3;have dK:=dK.ext s3;refine nx ?_;refine WL.go rfl (OX.pB xh bE rfl rfl rfl rfl rfl fun w4 s4 _ bE=>?_);have c4:=c3.own s4 iw;have dK:=dK.cW s4 (by simp [mZ]);refine dA ?_;refine WC.mI (t:=59) (v:=.bool (jK x.ae x.ad i)) (aV [] w4) ?_<|?_
  ·
   refine WC.drawn (m:=43) (C:=aV [] w4) (T:=fun _=>aV []) (E:=dm [(2,fun v _=>v=.bool (gN x.ad[i].key)),(7,fun v _=>v=.bool (az x.ad[i].key)),(23,fun v _=>v=.int .i64 (cv x.ad[i - 1].key x.ad[i].key))]) (bK (⟨fun _ _ _ _ _ _ _ h=>h,⟨fun _ _ _ _ _ _ _ h=>h,⟨fun _ _ _ _ _ _ _ h=>h,trivial⟩⟩⟩)) mixed (by kernel_rfl) (aV.drew _ _)<|?_;refine DP .r (fun _ hC=>PV.fa rG rfl)<|DP .r (fun _ hC=>PV.FL aq (bE.ext hC).range rfl rfl)<|?_;refine DW.e rfl rfl rfl rfl rfl (fun wx hC hF=>OX.call Pg rfl rfl ((ks (k:=x.ad[i].key)).mono ?_))<|?_
   ·
    rintro _ wy ⟨rfl,hy⟩;exact⟨_,rfl,hC.trans hy,hy,_,rfl,rfl⟩
   rintro _ wz _ rfl;refine(qe) (fun g19=>?_) (fun g19=>?_)
   ·
    refine bf ?_;refine bf ?_;refine bf ?_;refine(eb) ?_;rintro w5 s5 _;have c5:=c4.trans s5;have dK:=dK.ext s5;have bE:=bE.ext s5;exact(dp) (by unfold jK;first | (simp only [jF,qm,g19];done) | (simp only [jF,qm,g19];rfl) | (simp only [jF,g19];rfl) | (simp only [jF,g19];done)) s5
   refine DP .r (fun _ hC=>PV.fa rG rfl)<|DP .r (fun _ hC=>PV.FL aq (bE.ext hC).range rfl rfl)<|?_;refine DW.e rfl rfl rfl rfl rfl (fun wx hC hF=>OX.call My rfl rfl ((fD (k:=x.ad[i].key)).mono ?_))<|?_
   ·
    rintro _ wy ⟨rfl,hy⟩;exact⟨_,rfl,hC.trans hy,hy,_,rfl,rfl⟩
   rintro _ wz _ rfl;refine(qe) (fun eZ=>?_) (fun eZ=>?_)
   ·
    refine bf ?_;refine bf ?_;refine(eb) ?_;rintro w5 s5 _;have c5:=c4.trans s5;have dK:=dK.ext s5;have bE:=bE.ext s5;exact(dp) (by unfold jK;first | (simp only [jF,qm,g19,eZ];done) | (simp only [jF,qm,g19,eZ];rfl) | (simp only [jF,g19,eZ];rfl) | (simp only [jF,g19,eZ];done)) s5
   refine(qe) (fun iN=>?_) (fun iN=>?_)
   ·
    have Ia:i - 1<x.ad.length:=by omega
    have qm:=getElem!_pos x.ad (i - 1) Ia;have ajp:=of_decide_eq_true iN;obtain⟨bx2,ox2,rx2,Bj,_,XR,yj,_⟩:=SR.at hi (ao Ia);have XR:=RR.cG XR;subst XR;have yj:=bH yj c4 (by simp);refine DP .r (fun _ hC=>PV.fa zR rfl)<|DP .r (fun _ hC=>PV.ld1 oI (dK.ext hC).range rfl rfl)<|cS ?_;refine DP .r (fun _ hC=>PV.Kk xU (i - 1) Bj rfl rfl (by omega) (by omega))<|DP .r (fun _ hC=>PV.fa rG rfl)<|DP .r (fun _ hC=>PV.FL aq (bH yj hC (by simp)) rfl rfl)<|DP .r (fun _ hC=>PV.fa rG rfl)<|DP .r (fun _ hC=>PV.FL aq (bE.ext hC).range rfl rfl)<|?_;refine DW.e rfl rfl rfl rfl rfl (fun wx hC hF=>OX.call Xz rfl rfl ((mD (k:=x.ad[i - 1].key) (q:=x.ad[i].key)).mono ?_))<|?_
    ·
     rintro _ wy ⟨rfl,hy⟩;exact⟨_,rfl,hC.trans hy,hy,_,rfl,rfl⟩
    rintro _ wz _ rfl;refine(qe) (fun lW=>?_) (fun lW=>?_)
    ·
     refine bf ?_;refine(eb) ?_;rintro w5 s5 _;have c5:=c4.trans s5;have dK:=dK.ext s5;have bE:=bE.ext s5;exact(dp) (by unfold jK;first | (simp only [jF,qm,g19,eZ,iN,lW];done) | (simp only [jF,qm,g19,eZ,iN,lW];rfl) | (simp only [jF,g19,eZ,iN,lW];rfl) | (simp only [jF,g19,eZ,iN,lW];done)) s5
    refine DP .r (fun _ hC=>PV.fa Ec rfl)<|DP .r (fun _ hC=>PV.ld1 iF (bE.ext hC).range rfl rfl)<|DP .r (fun _ hC=>PV.yx vT rfl)<|(qe) (fun oa=>?_) (fun oa=>?_)
    ·
     refine(eb) ?_;rintro w5 s5 _;have c5:=c4.trans s5;have dK:=dK.ext s5;have bE:=bE.ext s5;exact(dp) (by unfold jK;first | (simp only [jF,qm,g19,eZ,iN,lW,oa];done) | (simp only [jF,qm,g19,eZ,iN,lW,oa];rfl) | (simp only [jF,g19,eZ,iN,lW,oa];rfl) | (simp only [jF,g19,eZ,iN,lW,oa];done)) s5
    refine DP .r (fun _ hC=>PV.fa uJ rfl)<|DP .r (fun _ hC=>PV.ld1 aU (bE.ext hC).range rfl rfl)<|(qe) (fun wg=>?_) (fun wg=>?_)
    ·
     refine(eb) ?_;rintro w5 s5 _;have c5:=c4.trans s5;have dK:=dK.ext s5;have bE:=bE.ext s5;exact(dp) (by unfold jK;first | (simp only [jF,qm,g19,eZ,iN,lW,oa,wg];done) | (simp only [jF,qm,g19,eZ,iN,lW,oa,wg];rfl) | (simp only [jF,g19,eZ,iN,lW,oa,wg];rfl) | (simp only [jF,g19,eZ,iN,lW,oa,wg];done)) s5
    refine DP .r (fun _ hC=>PV.fa uJ rfl)<|DP .r (fun _ hC=>PV.ld1 aU (bE.ext hC).range rfl rfl)<|DP .r (fun _ hC=>PV.fa nV rfl)<|DP .r (fun _ hC=>PV.ld1 aU (dK.ext hC).range rfl rfl)<|(eb)<|?_;rintro w5 s5 _;have c5:=c4.trans s5;have dK:=dK.ext s5;have bE:=bE.ext s5;exact(dp) (by unfold jK;first | (simp only [jF,qm,g19,eZ,iN,lW,oa,wg];done) | (simp only [jF,qm,g19,eZ,iN,lW,oa,wg];rfl) | (simp only [jF,g19,eZ,iN,lW,oa,wg];rfl) | (simp only [jF,g19,eZ,iN,lW,oa,wg];done)) s5
   refine bf ?_;refine cS ?_;refine DP .r (fun _ hC=>PV.fa Ec rfl)<|DP .r (fun _ hC=>PV.ld1 iF (bE.ext hC).range rfl rfl)<|DP .r (fun _ hC=>PV.yx vT rfl)<|(qe) (fun oa=>?_) (fun oa=>?_)
   ·
    refine(eb) ?_;rintro w5 s5 _;have c5:=c4.trans s5;have dK:=dK.ext s5;have bE:=bE.ext s5;exact(dp) (by unfold jK;first | (simp only [jF,qm,g19,eZ,iN,oa];done) | (simp only [jF,qm,g19,eZ,iN,oa];rfl) | (simp only [jF,g19,eZ,iN,oa];rfl) | (simp only [jF,g19,eZ,iN,oa];done)) s5
   refine DP .r (fun _ hC=>PV.fa uJ rfl)<|DP .r (fun _ hC=>PV.ld1 aU (bE.ext hC).range rfl rfl)<|(qe) (fun wg=>?_) (fun wg=>?_)
   ·
    refine(eb) ?_;rintro w5 s5 _;have c5:=c4.trans s5;have dK:=dK.ext s5;have bE:=bE.ext s5;exact(dp) (by unfold jK;first | (simp only [jF,qm,g19,eZ,iN,oa,wg];done) | (simp only [jF,qm,g19,eZ,iN,oa,wg];rfl) | (simp only [jF,g19,eZ,iN,oa,wg];rfl) | (simp only [jF,g19,eZ,iN,oa,wg];done)) s5
   refine DP .r (fun _ hC=>PV.fa uJ rfl)<|DP .r (fun _ hC=>PV.ld1 aU (bE.ext hC).range rfl rfl)<|DP .r (fun _ hC=>PV.fa nV rfl)<|DP .r (fun _ hC=>PV.ld1 aU (dK.ext hC).range rfl rfl)<|(eb)<|?_;rintro w5 s5 _;have c5:=c4.trans s5;have dK:=dK.ext s5;have bE:=bE.ext s5;exact(dp) (by unfold jK;first | (simp only [jF,qm,g19,eZ,iN,oa,wg];done) | (simp only [jF,qm,g19,eZ,iN,oa,wg];rfl) | (simp only [jF,g19,eZ,iN,oa,wg];rfl) | (simp only [jF,g19,eZ,iN,oa,wg];done)) s5
  intro w5 s5;have c5:=c4.trans s5;have dK:=dK.ext s5;have bE:=bE.ext s5;refine(aZ) (fun Lg=>?_) fun Lg=>?_
  ·
   skip
   refine(cy) ?_;exact⟨false,rfl,⟨fun h=>(by cases h),fun h=>absurd (h.1 i _ (ao cT)) (by simp [Lg])⟩,c5⟩
  refine gM ?_;refine EX.again (i+1) (Sub.k2 rfl rfl<|Sub.cons rfl<|Sub.kN rfl (by simp)<|Sub.nil) ⟨c5,dK,by omega,dD (P:=fun j _=>jK x.ae x.ad j=false) cT cY Lg⟩ (by omega)
 simp at g11
 have cY:DD x.ae x.ad:=fun j y hx=>cY j y (by have:=(List.getElem?_eq_some_iff.1 hx).1;omega) hx;refine kP ?_;refine WP .r (PV.fa vU rfl)<|(bM) fk dK.range<|?_;refine WP .r (PV.jH kK rfl)<|dV ?_;refine WC.loop (σ:=Nat) (eP:=fun i=>[(1,.pointer (some ⟨b1,0,none⟩)),(62,.slice a2 n2 e2),(63,.int .i64 (n2:Int)),(64,.int .i64 (i:Int))]) (I:=fun i w'=>aV [] w w'∧cV w' b1 31 (x.row a1 n1 e1 a2 n2 e2)∧i≤n2∧∀(j:Nat) (y:Rec),j<i→x.ak[j]?=some y→y.ax≤x.ae) (μ:=fun i=>n2 - i) 0 Sub.t ⟨c2,dK,by omega,fun j y h=>by omega⟩ ?_;rintro i2 w3 ⟨c3,dK,aq3,Dc⟩;refine(aZ) (fun Ej=>?_) fun Ej=>?_
 ·
  simp at Ej
  have cT:i2<x.ak.length:=by omega
  obtain⟨S2,S3,S4,nY,_,⟨q1,q2,q3,rfl,sB,rI⟩,jr,_⟩:=SR.at hr (ao cT);refine eC ?_;have jr:=bH jr c3 (by simp);refine nx ?_;refine WP .r (PV.fO kK nY rfl rfl (by omega))<|(bA) eB jr<|?_;refine WL.go rfl (OX.alloc tv rfl fun b6 w4 mC eE=>?_);have s4:=mC.ext;have gz:=mC.j9 c3;have Ah:b1≠b6:=mC.ne dK.lt;have XS:b6≠b1:=Ne.symm Ah;have c4:=c3.trans s4;have dK:=dK.ext s4;refine WL.go rfl (OX.pB iM eE rfl rfl rfl rfl rfl fun w5 s5 _ eE=>?_);have c5:=c4.own s5 gz;have dK:=dK.cW s5 (by simp [Ah]);refine dV ?_;refine WP .r (PV.fa tA rfl)<|(bM) aU eE.range<|?_;refine WP .r (PV.fa nV rfl)<|(bM) aU dK.range<|(aZ) (fun UG=>?_) fun UG=>?_
  ·
   simp at UG
   refine(cy) ?_;exact⟨false,rfl,⟨fun h=>(by cases h),fun h=>absurd (h.2.1 i2 _ (ao cT)) (by omega)⟩,c5⟩
  simp at UG
  refine gM ?_;refine EX.again (i2+1) (Sub.k2 rfl rfl<|Sub.cons rfl<|Sub.kN rfl (by simp)<|Sub.nil) ⟨c5,dK,by omega,dD (P:=fun _ (y:Rec)=>y.ax≤x.ae) cT Dc UG⟩ (by omega)
 simp at Ej
 have Dc:∀(j:Nat) (y:Rec),x.ak[j]?=some y→y.ax≤x.ae:=fun j y hx=>Dc j y (by have:=(List.getElem?_eq_some_iff.1 hx).1;omega) hx;refine jo ?_;refine WC.ou (t:=2) (v:=.bool (o8 x)) (aV [] w3) ?_<|?_
 ·
  refine nx ?_;refine WP .r (PV.fa nV rfl)<|(bM) aU dK.range<|(ed) (fun PH=>?_) (fun PH=>?_)
  ·
   refine WP .r (PV.fa nV rfl)<|(bM) aU dK.range<|(ed) (fun oj=>?_) (fun oj=>?_)
   ·
    refine WP .r (PV.fa zR rfl)<|(bM) oI dK.range<|?_;refine WP .r (PV.jH xU rfl)<|(ed) (fun g88=>?_) (fun g88=>?_)
    ·
     refine WP .r (PV.fa vU rfl)<|(bM) fk dK.range<|(dh) aiQ (wa (hr.ext c3)) ?_;rintro _ w4 ⟨rfl,s4⟩;have c4:=c3.trans s4;have dK:=dK.ext s4;exact(iH) (by unfold o8;simp only [PH,oj,g88,← hlen];first | rfl | simp) s4
    exact(iH) (by unfold o8;simp only [PH,oj,g88,← hlen];first | rfl | simp) (aV.refl _ _)
   exact(iH) (by unfold o8;simp only [PH,oj,← hlen];first | rfl | simp) (aV.refl _ _)
  refine bf ?_;exact(iH) (by unfold o8;simp only [PH,← hlen];first | rfl | simp) (aV.refl _ _)
 intro w4 s4;have c4:=c3.trans s4;have dK:=dK.ext s4;refine(cy) ?_;exact⟨_,rfl,⟨fun h=>by have:=(wP x).1 h;exact⟨cY,Dc,this⟩,fun h=>(wP x).2 h.2.2⟩,c4⟩
end Go.Rc

