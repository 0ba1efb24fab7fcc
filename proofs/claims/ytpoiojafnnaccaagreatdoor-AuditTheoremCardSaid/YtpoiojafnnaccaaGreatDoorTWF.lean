/- Walks over the program, part WF. Conditions: as each theorem says. -/
import Derived.Test.YtpoiojafnnaccaaGreatDoorTFacts
import Derived.Test.YtpoiojafnnaccaaGreatDoorTWB
import Derived.Test.YtpoiojafnnaccaaGreatDoorTBe
set_option linter.all false
namespace Go.Rc
open Go Go.Proofs Go.Proofs.Tryz
variable {x:dT}{a a2 a1:Option Addr}{n c n2 e2 n1 e1:Nat}{w:World}{M Z:Nat→Prop}{l:List Rec}{k:Key}
set_option maxHeartbeats 400000
theorem l3{x:Rec}(bF:St w M Z w []) (hk:Rd RR.key 2 Z w a n c x.reads) (h4:x.reads.length≤4000):Calls prog 56 #[.agg (x.row a n c).toArray] w fun e w'=>∃a' n' c',e=.returned (.agg (x.row a' n' c').toArray)∧St w M Z w' [As.os RR.key 58 2 a' n' c' x.reads]:=by
 have CP:=hk.len;refine enter func56 rfl ntmps56 rfl<|?_;have aW:=bF;have st1:=aW.fr hk;have st2:=st1.fc RR.key 58 2;refine(ef) st2 fun b1 w1 pR dO aP=>?_;refine(fU) aP fun b2 w2 lA eZ aU=>?_;refine(bO) fA aU.b1<|?_;refine WL.ap rfl rfl aU.p2 ((As.gr aU.g3)) fun a5 c'5 w3 hf5 hn5 aY=>?_;refine nx ?_;refine WL.s1 aY.p2 fun w4 _ bj=>?_;refine(bA) dn bj.b0<|(dA) gJ bj.p2 fun w5 jv jC bP=>?_;refine(mU) dn bP.b0<|?_;exact⟨_,_,_,rfl,bP.p2.k1⟩
theorem Is(bF:St w M Z w []) (hl:Rd RR.ff 8 Z w a n c l) (h6:l.length≤1000000):Calls prog 55 #[.slice a n c] w fun e w'=>∃a' n' c' Z',e=.returned (.slice a' n' c')∧cQ w.heap.size Z Z'∧St w M Z' w' [As.os RR.ff 60 8 a' n' c' l]:=by
 have hlen:=hl.len;have hle:=hl.le;refine enter func55 rfl ntmps55 rfl<|?_;have aW:=bF;have st1:=aW.fr hl;have st2:=st1.fc RR.ff 60 8;refine bC ?_;refine gp ?_;refine WC.jY (σ:=Nat × (Nat→Prop) × (List Rec) × (Option Addr) × Nat × Nat) (eI:=fun(i,Z1,acc,cO,cB,cS)=>[(3,.slice cO cB cS),(6,.slice a n c),(7,.int .i64 (n:Int)),(8,.int .i64 (i:Int))]) (F:=fun(i,Z1,acc,cO,cB,cS)=>[As.os RR.ff 60 8 cO cB cS (acc)]) (I:=fun(i,Z1,acc,cO,cB,cS)=>(i≤n)∧(cQ w.heap.size Z Z1)∧(acc=l.take i)∧True) (μ:=fun(i,Z1,acc,cO,cB,cS)=>n - i) (Zf:=fun(i,Z1,acc,cO,cB,cS)=>Z1) (0,Z,[],none,0,0) (st2) Sub.t (⟨by omega,cQ.refl _ _,by simp,trivial⟩)<|?_;rintro⟨i,Z1,acc,cO,cB,cS⟩ w1 aP ⟨hi,hZ,eJ,_⟩;simp only [CA,NA] at aP hi hZ eJ ⊢;have l8:=((As.gs aP.g0)).len
 have C5:acc.length≤1000000:=by rw [eJ,List.length_take];omega
 refine(br) (fun g9=>?_) fun g9=>?_
 ·
  simp at g9
  have cX:i<l.length:=by omega
  refine ew ?_;obtain⟨gF,js,iU,aT,fl,bz,ck,di⟩:=Rd.at (As.gr aP.g1) cX;obtain⟨q1,q2,q3,rfl,qz,pg⟩:=bz;have aU:=aP.fg di ck;have aY:=aU.fr qz;refine nx ?_;refine WP .r (PV.fC jk aT rfl rfl (by omega))<|(bA) dn (As.om aY.g1)<|(fU) aY fun b5 w2 mM gz bj=>?_;refine(dA) gJ bj fun w3 jv jC bP=>?_;refine(bA) dn bP.b0<|?_;have bQ:=bP;refine(cW) Uc (l3 bQ.e0 (As.gr bQ.g1) pg) ?_;rintro _ w4 ⟨e1,e2,e3,rfl,fE⟩;have bV:=St.lr bQ fE;have rK:=St.cH fE;have hsz:=bQ.size;have aL:=bV.bX (by omega);have kZ:=hZ.trans (cQ.fo (F:=fun x=>x∈aO e1) rK) hsz;refine WL.go rfl (OX.bB (us:=l[i].row e1 e2 e3) uE rfl rfl rfl rfl fun GY w5 Ul Um=>?_);have aQ:=aL.fb Ul Um;refine WL.ap rfl rfl aQ.p5 (SR.eP (A:=fun _=>True) (x:=l[i]) (As.gb aQ.g0) trivial rfl (Rec.one _ _ _ _) ⟨e1,e2,e3,rfl,(As.gr aQ.g1),pg⟩) fun a16 akQ w6 asj asl aV=>?_;refine kE ?_;refine fx (i+1,_,acc++[l[i]],a16,(cB+1),akQ) ⟨aV.p6.p1.k2,⟨by omega,kZ,by rw [eJ,List.take_succ_eq_append_getElem cX],trivial⟩⟩
 simp at g9
 have cx:acc=l:=by rw [eJ];exact List.take_of_length_le (by omega)
 subst cx;refine(cj) ?_;exact⟨_,_,_,_,rfl,hZ,aP.p1.drop⟩
theorem mi(bF:St w M Z w []) (hl:Rd RR.ff 8 Z w a n c l):Calls prog 24 #[.slice a n c,k.val] w fun e w'=>∃a' n' c',e=.returned (.tuple #[.agg ((aG l k).row a' n' c').toArray,.bool (aD l k).isSome])∧(aG l k).reads.length≤4000∧St w M Z w' [As.os RR.key 58 2 a' n' c' (aG l k).reads]:=by
 have hlen:=hl.len;have hle:=hl.le;refine enter func24 rfl ntmps24 rfl<|?_;have aW:=bF;have st1:=aW.fr hl;refine(ef) st1 fun b3 w1 gO dB st2=>?_;refine(fU) st2 fun b4 w2 jE bM aP=>?_;refine bC ?_;refine WC.bU (σ:=Nat) (eI:=fun i=>[(3,.pointer (some ⟨b3,0,none⟩)),(4,.pointer (some ⟨b4,0,none⟩)),(8,.slice a n c),(9,.int .i64 (n:Int)),(10,.int .i64 (i:Int))]) (F:=fun i=>[]) (I:=fun i=>(i≤n)∧(∀j x,j<i→l[j]?=some x→(x.key == k)=false)∧True) (μ:=fun i=>n - i) (0) (aP) Sub.t (⟨by omega,fun j x h=>by omega,trivial⟩)<|?_;rintro i w3 aU ⟨hi,gh,_⟩;simp only [CA,NA] at aU hi gh ⊢;refine(br) (fun g11=>?_) fun g11=>?_
 ·
  simp at g11
  have cX:i<l.length:=by omega
  refine ew ?_;obtain⟨gF,js,iU,aT,fl,bz,ck,di⟩:=Rd.at (As.gr aU.g2) cX;obtain⟨q1,q2,q3,rfl,qz,pg⟩:=bz;have aY:=aU.fg di ck;have bj:=aY.fr qz;refine nx ?_;refine WP .r (PV.fC jk aT rfl rfl (by omega))<|(bA) dn (As.om bj.g1)<|(fU) bj fun b7 w4 uR oo bP=>?_;refine(dA) gJ bP fun w5 jv jC bQ=>?_;refine(kF) av bQ.b0<|(bA) av bQ.b4<|?_;refine WP .r (PV.JD im (p:=l[i].key) (q:=k) rfl rfl)<|(br) (fun g17=>?_) fun g17=>?_
  ·
   simp at g17
   have hf:aD l k=some l[i]:=kx cX gh (by simpa using g17)
   have EC:aG l k=l[i]:=by unfold aG;rw [hf];rfl
   refine(bA) dn bQ.b0<|?_;have bV:=bQ;refine(cW) Uc (l3 bV.e0 (As.gr bV.g1) pg) ?_;rintro _ w6 ⟨e1,e2,e3,rfl,mE⟩;have aL:=St.lr bV mE;refine(dA) gJ aL.p4 fun w7 sr nc aQ=>?_;refine pQ ?_;refine EX.jd rfl (RS.cell dn rfl aQ.b0 rfl<|RS.tmp rfl<|RS.nil) rfl<|?_;exact⟨e1,e2,e3,by rw [hf,EC];rfl,by rw [EC];exact pg,by rw [EC];exact aQ.p1.k1⟩
  simp at g17
  refine gp ?_;refine fx (i+1) ⟨bQ.p5.p5.p5.k3,⟨by omega,dJ cX gh (by simpa using g17),trivial⟩⟩
 simp at g11
 have hf:aD l k=none:=rQ (i:=i) (by omega) gh
 have EC:aG l k=qN:=by unfold aG;rw [hf];rfl
 have aY:=aU.fc RR.key 58 2;refine(dA) gJ aY.p1 fun w4 ED tj bj=>?_;refine dC ?_;refine EX.jd rfl (RS.cell dn rfl bj.b0 rfl<|RS.tmp rfl<|RS.nil) rfl<|?_;exact⟨none,0,0,by rw [hf,EC];rfl,by rw [EC];simp [qN],by rw [EC];exact bj.p1.k1⟩
theorem fI(hl:Rd RR.ff 8 Z w a n c l):Calls prog 24 #[.slice a n c,k.val] w fun e w'=>∃a' n' c',e=.returned (.tuple #[.agg ((aG l k).row a' n' c').toArray,.bool (aD l k).isSome])∧bm [] w w':=
 (mi (M:=fun _=>False) (St.start fun _ hx=>hx.2) hl.cut).mono fun _ _ ⟨a',n',c',h1,_,h2⟩=>⟨a',n',c',h1,h2.cg⟩
theorem It{x:Rec}(h1:x.key.text.size≤4611686018427) (h2:x.value.size≤4611686018427) (h3:n≤4611686018427):CR prog 102 #[.agg (x.row a n c).toArray] w (.int .i64 (16+x.key.text.size+x.value.size+8*n:Int)):=by
 refine enter func102 rfl ntmps102 rfl<|?_;have c0:bm [] w w:=bm.refl _ _;refine cV ?_;refine WL.go rfl (OX.box rfl rfl rfl fun b1 w1 pR dO=>?_);have s1:=pR.ext;have uM:=pR.kK c0;have c1:=c0.trans s1;refine ew ?_;refine WP .r (PV.fa uI rfl)<|WP .r (PV.fa uH rfl)<|(bO) iq dO.range<|?_;refine WP .r (PV.zS xG rfl)<|nx ?_;refine WP .r (PV.fa Bt rfl)<|(bO) iq dO.range<|?_;refine WP .r (PV.zS xG rfl)<|nx ?_;refine WP .r (PV.fa FK rfl)<|(bO) fA dO.range<|?_;refine WP .r (PV.j9 fP rfl)<|WP .r (PV.mul rfl rfl (by omega) (by omega))<|(cj) ?_;exact⟨rfl,c1⟩
theorem yH(bF:St w M Z w []) (hl:Rd RR.ff 8 Z w a n c l) (h6:l.length≤1000000):Calls prog 42 #[.slice a n c,k.val] w fun e w'=>∃a' n' c',e=.returned (.slice a' n' c')∧St w M Z w' [As.os RR.ff 60 8 a' n' c' (jK l k)]:=by
 have hlen:=hl.len;refine enter func42 rfl ntmps42 rfl<|?_;have aW:=bF;have st1:=aW.fr hl;have st2:=st1.fc RR.ff 60 8;refine(ef) st2 fun b3 w1 gO dB aP=>?_;refine bC ?_;refine ew ?_;refine WC.bU (σ:=Nat × (List Rec) × (Option Addr) × Nat × Nat) (eI:=fun(i,acc,cO,cB,cS)=>[(3,.pointer (some ⟨b3,0,none⟩)),(5,.slice cO cB cS),(8,.slice a n c),(9,.int .i64 (n:Int)),(10,.int .i64 (i:Int))]) (F:=fun(i,acc,cO,cB,cS)=>[As.os RR.ff 60 8 cO cB cS (acc)]) (I:=fun(i,acc,cO,cB,cS)=>(i≤n)∧(acc=jK (l.take i) k)∧True) (μ:=fun(i,acc,cO,cB,cS)=>n - i) (0,[],none,0,0) (aP.p1) Sub.t (⟨by omega,by simp [jK],trivial⟩)<|?_;rintro⟨i,acc,cO,cB,cS⟩ w2 aU ⟨hi,eJ,_⟩;simp only [CA,NA] at aU hi eJ ⊢;have l8:=((As.gs aU.g0)).len;have C5:=xc (l.take i) k
 have asm:acc.length≤1000000:=by rw [List.length_take,← eJ] at C5;omega
 refine(br) (fun g11=>?_) fun g11=>?_
 ·
  simp at g11
  have cX:i<l.length:=by omega
  have OQ:=J4 (k:=k) cX;refine ew ?_;obtain⟨gF,js,iU,aT,fl,bz,ck,di⟩:=Rd.at (As.gr aU.g2) cX;obtain⟨q1,q2,q3,rfl,qz,pg⟩:=bz;have aY:=aU.fg di ck;have bj:=aY.fr qz;refine nx ?_;refine WP .r (PV.fC jk aT rfl rfl (by omega))<|(bA) dn (As.om bj.g1)<|(fU) bj fun b7 w3 uR oo bP=>?_;refine(dA) gJ bP fun w4 jv jC bQ=>?_;refine(kF) av bQ.b0<|(bA) av bQ.b4<|?_;refine WP .r (PV.R0 im (p:=l[i].key) (q:=k) rfl rfl)<|(br) (fun g17=>?_) fun g17=>?_
  ·
   simp at g17
   rw [if_neg g17] at OQ;refine(bA) dn bQ.b0<|?_;refine WL.go rfl (OX.bB (us:=l[i].row q1 q2 q3) uE rfl rfl rfl rfl fun U0 w5 Y2 Y3=>?_);have bV:=bQ.fb Y2 Y3;refine WL.ap rfl rfl bV.p4 (SR.eP (A:=fun _=>True) (x:=l[i]) (As.gb bV.g0) trivial rfl (Rec.one _ _ _ _) ⟨q1,q2,q3,rfl,(As.gr bV.g2),pg⟩) fun a21 akR w6 asn aso aL=>?_;refine kE ?_;refine fx (i+1,acc++[l[i]],a21,(cB+1),akR) ⟨aL.p6.p6.p2.k3,⟨by omega,by rw [OQ,eJ],trivial⟩⟩
  simp at g17
  rw [if_pos g17] at OQ;refine gp ?_;refine fx (i+1,acc,cO,cB,cS) ⟨bQ.p5.p5.p5.k3,⟨by omega,by rw [OQ,eJ],trivial⟩⟩
 simp at g11
 have cx:acc=jK l k:=by rw [eJ,List.take_of_length_le (by omega)]
 subst cx;refine(cj) ?_;exact⟨_,_,_,rfl,aU.p1.drop.p1.drop⟩
theorem BJ{x:Rec}(bF:St w M Z w []) (hl:Rd RR.ff 8 Z w a n c l) (h6:l.length≤1000000) (hx:Rd RR.key 2 Z w a2 n2 e2 x.reads) (hx4:x.reads.length≤4000):Calls prog 117 #[.slice a n c,.agg (x.row a2 n2 e2).toArray] w fun e w'=>∃a' n' c' Z',e=.returned (.slice a' n' c')∧cQ w.heap.size Z Z'∧St w M Z' w' [As.os RR.ff 60 8 a' n' c' (gW l x)]:=by
 have hlen:=hl.len;refine enter func117 rfl ntmps117 rfl<|?_;have aW:=bF;have st1:=aW.fr hl;have st2:=st1.fr hx;have aP:=st2.fc RR.ff 60 8;refine(ef) aP fun b3 w1 gO dB aU=>?_;refine bC ?_;refine mT ?_;refine WC.jY (σ:=Nat × Bool × (Nat→Prop) × (List Rec) × (Option Addr) × Nat × Nat) (eI:=fun(i,put,Z1,out,cO,cB,cS)=>[(3,.pointer (some ⟨b3,0,none⟩)),(5,.slice cO cB cS),(6,.bool put),(10,.slice a n c),(11,.int .i64 (n:Int)),(12,.int .i64 (i:Int))]) (F:=fun(i,put,Z1,out,cO,cB,cS)=>[As.os RR.ff 60 8 cO cB cS (out)]) (I:=fun(i,put,Z1,out,cO,cB,cS)=>(i≤n)∧(cQ w.heap.size Z Z1)∧(out++gM x (l.drop i) put=gW l x)∧True) (μ:=fun(i,put,Z1,out,cO,cB,cS)=>n - i) (Zf:=fun(i,put,Z1,out,cO,cB,cS)=>Z1) (0,false,Z,[],none,0,0) (aU.p1) Sub.t (⟨by omega,cQ.refl _ _,rfl,trivial⟩)<|?_;rintro⟨i,put,Z1,out,cO,cB,cS⟩ w2 aY ⟨hi,hZ,hinv,_⟩;simp only [CA,NA] at aY hi hZ hinv ⊢;have l8:=((As.gs aY.g0)).len
 have Vs:out.length≤1000001:=by have h1:=congrArg List.length hinv;have h2:=xa x l false;simp only [gW,List.length_append] at h1;omega
 refine(br) (fun g13=>?_) fun g13=>?_
 ·
  simp at g13
  have cX:i<l.length:=by omega
  have Ez:gM x (l.drop i) put=(if decide (0≤cE l[i].key x.key) && !put then [x] else [])++(if cE l[i].key x.key=0 then [] else [l[i]])++gM x (l.drop (i+1)) (put || decide (0≤cE l[i].key x.key)):=by rw [List.drop_eq_getElem_cons cX];rfl
  refine ew ?_;obtain⟨gF,js,iU,aT,fl,bz,ck,di⟩:=Rd.at (As.gr aY.g3) cX;obtain⟨q1,q2,q3,rfl,qz,pg⟩:=bz;have bj:=aY.fg di ck;have bP:=bj.fr qz;refine nx ?_;refine WP .r (PV.fC jk aT rfl rfl (by omega))<|(bA) dn (As.om bP.g1)<|(fU) bP fun b8 w3 zM jm bQ=>?_;refine(dA) gJ bQ fun w4 jv jC bV=>?_;refine(kF) av bV.b0<|(kF) av bV.b4<|(gg) (ny (k:=l[i].key) (q:=x.key)) bV fun w5 s5 aL=>?_;refine ew ?_;refine WC.fF (t:=26) (v:=.bool (decide (0≤cE l[i].key x.key) && !put)) aL ?_<|?_
  ·
   refine(dW) (fun g23=>?_) (fun g23=>?_)
   ·
    exact(dq) (by simp only [g23];first | rfl | simp) (aL)
   exact(dq) (by simp only [g23];first | rfl | simp) (aL)
  intro w6 aQ;refine(br) (fun kX=>?_) fun kX=>?_
  ·
   simp at kX
   obtain⟨hA,hB⟩:=kX;subst hB
   have hs:gM x (l.drop i) false=[x]++(if cE l[i].key x.key=0 then [] else [l[i]])++gM x (l.drop (i+1)) true:=by rw [Ez];simp [hA]
   refine(bA) dn aQ.b4<|?_;have aV:=aQ;refine(cW) Uc (l3 aV.e0 (As.gr aV.g5) hx4) ?_;rintro _ w7 ⟨f1,f2,f3,rfl,kI⟩;have bD:=St.lr aV kI;have rK:=St.cH kI;have hsz:=aV.size;have bp:=bD.bX (by omega);have kZ:=hZ.trans (cQ.fo (F:=fun x=>x∈aO f1) rK) hsz;refine WL.go rfl (OX.bB (us:=x.row f1 f2 f3) uE rfl rfl rfl rfl fun b30 w8 ae7 ae8=>?_);have ba:=bp.fb ae7 ae8;refine WL.ap rfl rfl ba.p5 (SR.eP (A:=fun _=>True) (x:=x) (As.gb ba.g0) trivial rfl (Rec.one _ _ _ _) ⟨f1,f2,f3,rfl,(As.gr ba.g1),hx4⟩) fun a31 akT w9 asp asq aX=>?_;refine(br) (fun j3=>?_) fun j3=>?_
   ·
    simp at j3
    rw [if_neg j3] at hs;refine(bA) dn aX.b3<|?_;refine WL.go rfl (OX.bB (us:=l[i].row q1 q2 q3) uE rfl rfl rfl rfl fun b36 kN Y4 Y5=>?_);have bN:=aX.fb Y4 Y5;refine WL.ap rfl rfl bN.p1 (SR.eP (A:=fun _=>True) (x:=l[i]) (As.gb bN.g0) trivial rfl (Rec.one _ _ _ _) ⟨q1,q2,q3,rfl,(As.gr bN.g5),pg⟩) fun a37 QL kO ae9 afa bR=>?_;refine kE ?_;refine fx (i+1,true,_,_,a37,((cB+1)+1),QL) ⟨bR.p9.p9.p9.p3.k4,⟨by omega,kZ,by rw [← hinv,hs];simp,trivial⟩⟩
   simp at j3
   rw [if_pos j3] at hs;refine gp ?_;refine fx (i+1,true,_,_,a31,(cB+1),akT) ⟨aX.p8.p8.p8.p3.k4,⟨by omega,kZ,by rw [← hinv,hs];simp,trivial⟩⟩
  have hs:gM x (l.drop i) put=[]++(if cE l[i].key x.key=0 then [] else [l[i]])++gM x (l.drop (i+1)) put:=by
   rw [Ez]
   cases put
   ·
    simp at kX;rw [decide_eq_false (by omega)];rfl
   simp
  refine(br) (fun j3=>?_) fun j3=>?_
  ·
   simp at j3
   rw [if_neg j3] at hs;refine(bA) dn aQ.b0<|?_;refine WL.go rfl (OX.bB (us:=l[i].row q1 q2 q3) uE rfl rfl rfl rfl fun b36 w7 Y4 Y5=>?_);have aV:=aQ.fb Y4 Y5;refine WL.ap rfl rfl aV.p4 (SR.eP (A:=fun _=>True) (x:=l[i]) (As.gb aV.g0) trivial rfl (Rec.one _ _ _ _) ⟨q1,q2,q3,rfl,(As.gr aV.g2),pg⟩) fun a37 QL w8 ae9 afa bD=>?_;refine kE ?_;refine fx (i+1,put,_,_,a37,(cB+1),QL) ⟨bD.p7.p7.p7.p3.k4,⟨by omega,hZ,by rw [← hinv,hs];simp,trivial⟩⟩
  simp at j3
  rw [if_pos j3] at hs;refine gp ?_;refine fx (i+1,put,_,_,cO,cB,cS) ⟨aQ.p6.p6.p6.p6.k4,⟨by omega,hZ,by rw [← hinv,hs];simp,trivial⟩⟩
 simp at g13
 have cx:l.drop i=[]:=List.drop_eq_nil_of_le (by omega);rw [cx] at hinv;refine(br) (fun BG=>?_) fun BG=>?_
 ·
  simp at BG
  subst BG;refine(bA) dn aY.b1<|?_;have bj:=aY;refine(cW) Uc (l3 bj.e0 (As.gr bj.g2) hx4) ?_;rintro _ w3 ⟨f1,f2,f3,rfl,eE⟩;have bP:=St.lr bj eE;have rK:=St.cH eE;have hsz:=bj.size;have bQ:=bP.bX (by omega);have kZ:=hZ.trans (cQ.fo (F:=fun x=>x∈aO f1) rK) hsz;refine WL.go rfl (OX.bB (us:=x.row f1 f2 f3) uE rfl rfl rfl rfl fun b44 w4 akU akV=>?_);have bV:=bQ.fb akU akV;refine WL.ap rfl rfl bV.p2 (SR.eP (A:=fun _=>True) (x:=x) (As.gb bV.g0) trivial rfl (Rec.one _ _ _ _) ⟨f1,f2,f3,rfl,(As.gr bV.g1),hx4⟩) fun a45 ass w5 ast asu aL=>?_;refine(cj) ?_;exact⟨_,_,_,_,rfl,kZ,by rw [← hinv];exact aL.k1⟩
 simp at BG
 subst BG;refine(cj) ?_;exact⟨_,_,_,_,rfl,hZ,by rw [← hinv];simp only [gM,List.append_nil,if_true];exact aY.k1⟩
theorem FQ{x:Rec}(hk:Rd RR.key 2 Z w a n c x.reads):CR prog 109 #[.agg (x.row a n c).toArray] w (.bool (fi x)):=by
 have hlen:=SR.len hk;have hle:=SR.le hk;refine enter func109 rfl ntmps109 rfl<|?_;have c0:bm [] w w:=bm.refl _ _;refine cV ?_;refine WL.go rfl (OX.box rfl rfl rfl fun b1 w1 pR dO=>?_);have s1:=pR.ext;have uM:=pR.kK c0;have c1:=c0.trans s1;refine jx ?_;refine WP .r (PV.fa FK rfl)<|(bO) fA dO.range<|?_;refine WP .r (PV.j9 fP rfl)<|dC ?_;refine WC.loop (σ:=Nat) (eI:=fun i=>[(1,.pointer (some ⟨b1,0,none⟩)),(6,.slice a n c),(7,.int .i64 (n:Int)),(8,.int .i64 (i:Int))]) (I:=fun i w'=>bm [] w w'∧cI w' b1 60 (x.row a n c)∧i≤n∧∀j y,j<i→x.reads[j]?=some y→ig y=true) (μ:=fun i=>n - i) 0 Sub.t ⟨c1,dO,by omega,fun j y h=>by omega⟩ ?_;rintro i w2 ⟨c2,dO,hi,cx⟩;refine(br) (fun g9=>?_) fun g9=>?_
 ·
  simp at g9
  have cX:i<x.reads.length:=by omega
  refine ew ?_;obtain⟨Uh,Ui,Uj,oX,_,K8,jH,_⟩:=SR.at hk (aq cX);have K8:=RR.cL K8;subst K8;have jH:=bG jH c2 (by simp);refine nx ?_;refine WP .r (PV.fC fP oX rfl rfl (by omega))<|(bA) av jH<|?_;refine WL.go rfl (OX.alloc KW rfl fun b4 w3 jE bM=>?_);have s3:=jE.ext;have iS:=jE.kK c2;have nY:b1≠b4:=jE.ne dO.lt;have K9:b4≠b1:=Ne.symm nY;have c3:=c2.trans s3;have dO:=dO.ext s3;refine WL.go rfl (OX.qJ jT bM rfl rfl rfl rfl rfl fun w4 s4 _ bM=>?_);have c4:=c3.own s4 iS;have dO:=dO.cT s4 (by simp [nY]);refine(bA) av bM.range<|(cW) Qx (kY (k:=x.reads[i])) ?_;rintro _ w5 ⟨rfl,s5⟩;have c5:=c4.trans s5;have dO:=dO.ext s5;have bM:=bM.ext s5;refine(br) (fun g14=>?_) fun g14=>?_
  ·
   simp at g14
   have hv:fi x=false:=by unfold fi;rw [Bool.and_eq_false_iff];left;rw [List.all_eq_false];exact⟨_,List.getElem_mem cX,by simp [g14]⟩
   refine(cj) ?_;exact⟨by rw [hv],c5⟩
  simp at g14
  refine gp ?_;refine EX.again (i+1) (Sub.k2 rfl rfl<|Sub.cons rfl<|Sub.lC rfl (by simp)<|Sub.nil) ⟨c5,dO,by omega,dJ cX cx g14⟩ (by omega)
 simp at g9
 have hv:fi x=iy x:=by
  unfold fi
  rw [show x.reads.all ig=true from List.all_eq_true.2 fun y hy=>by obtain⟨j,hj,rfl⟩:=List.mem_iff_getElem.1 hy;exact cx j _ (by omega) (aq hj)]
  rfl
 refine jx ?_;refine WC.po (t:=2) (v:=.bool (iy x)) (bm [] w2) ?_<|?_
 ·
  refine nx ?_;refine WP .r (PV.fa uI rfl)<|(kF) av dO.range<|(cW) Qx (kY (k:=x.key)) ?_;rintro _ w3 ⟨rfl,s3⟩;have c3:=c2.trans s3;have dO:=dO.ext s3;refine(dW) (fun g19=>?_) (fun g19=>?_)
  ·
   refine WP .r (PV.fa uI rfl)<|(kF) av dO.range<|(cW) N2 (fM (k:=x.key)) ?_;rintro _ w4 ⟨rfl,s4⟩;have c4:=c3.trans s4;have dO:=dO.ext s4;refine(dW) (fun fy=>?_) (fun fy=>?_)
   ·
    refine WP .r (PV.fa Bt rfl)<|(bO) iq dO.range<|?_;refine WP .r (PV.zS xG rfl)<|(dW) (fun pF=>?_) (fun pF=>?_)
    ·
     refine WP .r (PV.fa FK rfl)<|(bO) fA dO.range<|?_;refine WP .r (PV.j9 fP rfl)<|(dW) (fun vS=>?_) (fun vS=>?_)
     ·
      refine WP .r (PV.fa Bu rfl)<|(bO) aZ dO.range<|(dW) (fun jP=>?_) (fun jP=>?_)
      ·
       refine WP .r (PV.fa Bu rfl)<|(bO) aZ dO.range<|?_;refine WP .r (PV.fa uJ rfl)<|(bO) aZ dO.range<|(dW) (fun wQ=>?_) (fun wQ=>?_)
       ·
        refine WP .r (PV.fa uJ rfl)<|(bO) aZ dO.range<|(dW) (fun uQ=>?_) (fun uQ=>?_)
        ·
         refine WP .r (PV.fa KX rfl)<|(bO) aZ dO.range<|(dW) (fun MG=>?_) (fun MG=>?_)
         ·
          refine WP .r (PV.fa KX rfl)<|(bO) aZ dO.range<|(dW) (fun V8=>?_) (fun V8=>?_)
          ·
           refine WP .r (PV.fa KY rfl)<|(bO) fH dO.range<|(dW) (fun Sg=>?_) (fun Sg=>?_)
           ·
            exact(iu) (by unfold iy;simp only [g19,fy,pF,vS,jP,wQ,uQ,MG,V8,Sg,← hlen];first | rfl | simp) (s3.trans s4)
           refine WP .r (PV.fa uI rfl)<|(kF) av dO.range<|(cW) N3 (eA (k:=x.key)) ?_;rintro _ w5 ⟨rfl,s5⟩;have c5:=c4.trans s5;have dO:=dO.ext s5;exact(iu) (by unfold iy;simp only [g19,fy,pF,vS,jP,wQ,uQ,MG,V8,Sg,← hlen];first | rfl | simp) ((s3.trans s4).trans s5)
          exact(iu) (by unfold iy;simp only [g19,fy,pF,vS,jP,wQ,uQ,MG,V8,← hlen];first | rfl | simp) (s3.trans s4)
         refine bC ?_;exact(iu) (by unfold iy;simp only [g19,fy,pF,vS,jP,wQ,uQ,MG,← hlen];first | rfl | simp) (s3.trans s4)
        refine bC ?_;exact(iu) (by unfold iy;simp only [g19,fy,pF,vS,jP,wQ,uQ,← hlen];first | rfl | simp) (s3.trans s4)
       refine bC ?_;refine bC ?_;exact(iu) (by unfold iy;simp only [g19,fy,pF,vS,jP,wQ,← hlen];first | rfl | simp) (s3.trans s4)
      refine bC ?_;refine bC ?_;exact(iu) (by unfold iy;simp only [g19,fy,pF,vS,jP,← hlen];first | rfl | simp) (s3.trans s4)
     refine bC ?_;refine bC ?_;refine bC ?_;exact(iu) (by unfold iy;simp only [g19,fy,pF,vS,← hlen];first | rfl | simp) (s3.trans s4)
    refine bC ?_;refine bC ?_;refine bC ?_;exact(iu) (by unfold iy;simp only [g19,fy,pF,← hlen];first | rfl | simp) (s3.trans s4)
   refine bC ?_;refine bC ?_;refine bC ?_;refine bC ?_;exact(iu) (by unfold iy;simp only [g19,fy,← hlen];first | rfl | simp) (s3.trans s4)
  refine bC ?_;refine bC ?_;refine bC ?_;refine bC ?_;exact(iu) (by unfold iy;simp only [g19,← hlen];first | rfl | simp) s3
 intro w3 s3;have c3:=c2.trans s3;have dO:=dO.ext s3;refine(cj) ?_;exact⟨by rw [hv],c3⟩
theorem zm(hl:Rd RR.ff 8 Z w a n c l):Calls prog 65 #[.slice a n c] w fun e w'=>∃b:Bool,e=.returned (.bool b)∧(b=true↔rR l)∧bm [] w w':=by
 have hlen:=SR.len hl;have hle:=SR.le hl;refine enter func65 rfl ntmps65 rfl<|?_;have c0:bm [] w w:=bm.refl _ _;refine pQ ?_;refine WP .r (PV.j9 jk rfl)<|dC ?_;refine WC.loop (σ:=Nat) (eI:=fun i=>[(0,.slice a n c),(5,.slice a n c),(6,.int .i64 (n:Int)),(7,.int .i64 (i:Int))]) (I:=fun i w'=>bm [] w w'∧i≤n∧∀j y,j<i→l[j]?=some y→vm l j y) (μ:=fun i=>n - i) 0 Sub.t ⟨c0,by omega,fun j y h=>by omega⟩ ?_;rintro i w1 ⟨c1,hi,cx⟩;refine(br) (fun g8=>?_) fun g8=>?_
 ·
  simp at g8
  have cX:i<l.length:=by omega
  have jO:=getElem!_pos l i cX;obtain⟨Uh,Ui,Uj,oX,_,⟨q1,q2,q3,rfl,qz,pg⟩,jH,_⟩:=SR.at hl (aq cX);refine ew ?_;have jH:=bG jH c1 (by simp);refine cV ?_;refine WP .r (PV.fC jk oX rfl rfl (by omega))<|(bA) dn jH<|?_;refine WL.go rfl (OX.alloc uG rfl fun b4 w2 jE bM=>?_);have s2:=jE.ext;have iS:=jE.kK c1;have c2:=c1.trans s2;refine nx ?_;refine WL.go rfl (OX.qJ gJ bM rfl rfl rfl rfl rfl fun w3 s3 _ bM=>?_);have c3:=c2.own s3 iS;refine dy ?_;refine WC.nD (t:=30) (v:=.bool (xd l i)) (bm [] w3) ?_<|?_
  ·
   refine WC.drawn (m:=15) (C:=bm [] w3) (T:=fun _=>bm []) (E:=dx [(1,fun v _=>v=.bool (fi l[i]))]) (bS (⟨fun _ _ _ _ _ _ _ h=>h,trivial⟩)) mixed (by kernel_rfl) (bm.drew _ _)<|?_;refine DP .r (fun _ hC=>PV.MS dn (bM.ext hC).range rfl rfl)<|?_;refine DW.e rfl rfl rfl rfl rfl (fun wx hC hF=>OX.call aeb rfl rfl ((FQ (qz.ext (c3.trans hC))).mono ?_))<|?_
   ·
    rintro _ wy ⟨rfl,hy⟩;exact⟨_,rfl,hC.trans hy,hy,_,rfl,rfl⟩
   rintro _ wz _ rfl;refine(tm) (fun g15=>?_) (fun g15=>?_)
   ·
    refine(eu) ?_;rintro w4 s4 _;have c4:=c3.trans s4;have bM:=bM.ext s4;exact(dq) (by unfold xd;first | (simp only [jO,pW,g15];done) | (simp only [jO,pW,g15];rfl) | (simp only [jO,g15];rfl) | (simp only [jO];rw [Bool.not_eq_true'] at g15;simp [g15]) | (simp only [jO];simp at g15 g18;simp [g15,g18])) s4
   refine(tm) (fun g18=>?_) (fun g18=>?_)
   ·
    have yF:i - 1<l.length:=by omega
    have pW:=getElem!_pos l (i - 1) yF;have ac8:=of_decide_eq_true g18;obtain⟨bx2,ox2,rx2,CJ,_,⟨p1,p2,p3,rfl,_,_⟩,zC,_⟩:=SR.at hl (aq yF);have zC:=bG zC c3 (by simp);refine dy ?_;refine DP .r (fun _ hC=>PV.LQ jk (i - 1) CJ rfl rfl (by omega) (by omega))<|DP .r (fun _ hC=>PV.fa uI rfl)<|DP .r (fun _ hC=>PV.G4 av (bG zC hC (by simp)) rfl rfl)<|DP .r (fun _ hC=>PV.fa uI rfl)<|DP .r (fun _ hC=>PV.G4 av (bM.ext hC).range rfl rfl)<|(eu)<|?_;rintro w4 s4 _;have c4:=c3.trans s4;have bM:=bM.ext s4;refine(cW) YO (ny (k:=l[i - 1].key) (q:=l[i].key)) ?_;rintro _ w5 ⟨rfl,s5⟩;have c5:=c4.trans s5;have bM:=bM.ext s5;exact(dq) (by unfold xd;first | (simp only [jO,pW,g15,g18];done) | (simp only [jO,pW,g15,g18];rfl) | (simp only [jO,g15,g18];rfl) | (simp only [jO];rw [Bool.not_eq_true'] at g15;simp [g15]) | (simp only [jO];simp at g15 g18;simp [g15,g18])) (s4.trans s5)
   refine(eu) ?_;rintro w4 s4 _;have c4:=c3.trans s4;have bM:=bM.ext s4;exact(dq) (by unfold xd;first | (simp only [jO,pW,g15,g18];done) | (simp only [jO,pW,g15,g18];rfl) | (simp only [jO,g15,g18];rfl) | (simp only [jO];rw [Bool.not_eq_true'] at g15;simp [g15]) | (simp only [jO];simp at g15 g18;simp [g15,g18])) s4
  intro w4 s4;have c4:=c3.trans s4;have bM:=bM.ext s4;refine(br) (fun me=>?_) fun me=>?_
  ·
   skip
   refine(cj) ?_;exact⟨false,rfl,⟨fun h=>(by cases h),fun h=>absurd ((vo cX).2 (h.2 i _ (aq cX))) (by simp [me])⟩,c4⟩
  refine gp ?_;refine EX.again (i+1) (Sub.k2 rfl rfl<|Sub.cons rfl<|Sub.lC rfl (by simp)<|Sub.nil) ⟨c4,by omega,dJ cX cx ((vo cX).1 me)⟩ (by omega)
 ·
  simp at g8
  have cx:∀j y,l[j]?=some y→vm l j y:=fun j x hx=>cx j x (by have:=(List.getElem?_eq_some_iff.1 hx).1;omega) hx;refine kE ?_;refine WP .r (PV.j9 jk rfl)<|(cj) ?_;exact⟨_,rfl,⟨fun h=>⟨by simp at h;omega,cx⟩,fun h=>by have:=h.1;simp;omega⟩,c1⟩
 -- xO kC G17.T
set_option maxHeartbeats 400000
theorem xP(hl:Rd RR.ff 8 Z w a n c l):CR prog 65 #[.slice a n c] w (.bool (vt l)):=
 (zm hl).mono fun _ _ ⟨b,h1,h2,h3⟩=>⟨by rw [h1,J8 h2],h3⟩
theorem gu(bF:St w M Z w []) (hi:Rd RR.aH 4 Z w a1 n1 e1 x.ah) (hr:Rd RR.ff 8 Z w a2 n2 e2 x.ao) (h6:x.ao.length≤1000000) (h7:x.ah.length≤1000000):Calls prog 22 #[.agg (x.row a1 n1 e1 a2 n2 e2).toArray] w fun e w'=>∃QM QN QO QP QQ QR Z',e=.returned (.agg (x.row QM QN QO QP QQ QR).toArray)∧cQ w.heap.size Z Z'∧St w M Z' w' [As.os RR.aH 83 4 QM QN QO x.ah,As.os RR.ff 60 8 QP QQ QR x.ao]:=by
 have zI:=hi.len;have J5:=hr.len;refine enter func22 rfl ntmps22 rfl<|?_;have aW:=bF;have st1:=aW.fr hi;have st2:=st1.fr hr;have aP:=st2.fc RR.aH 83 4;refine(ef) aP fun b1 w1 pR dO aU=>?_;refine(fU) aU fun b2 w2 lA eZ aY=>?_;refine(bO) pE aY.b1<|?_;refine WL.ap rfl rfl aY.p2 ((As.gr aY.g4)) fun a5 c'5 w3 hf5 hn5 bj=>?_;refine nx ?_;refine WL.s1 bj.p2 fun w4 _ bP=>?_;refine(bO) eN bP.b0<|?_;have bQ:=bP;refine(cW) akf (Is bQ.e0 (As.gr bQ.g3) h6) ?_;rintro _ w5 ⟨f1,f2,f3,Z1,rfl,oZ,ic⟩;have bV:=St.lv bQ ic oZ;have kZ:=oZ.le bQ.size;refine nx ?_;refine WL.s1 bV.p1 fun w6 _ aL=>?_;refine(bA) aM aL.b0<|(dA) fL aL.p3 fun w7 jv jC aQ=>?_;refine(mU) aM aQ.b0<|?_;exact⟨_,_,_,_,_,_,_,rfl,kZ,aQ.p2.p3.k2⟩
theorem yI(hi:Rd RR.aH 4 Z w a1 n1 e1 x.ah) (hr:Rd RR.ff 8 Z w a2 n2 e2 x.ao) {k:Key}:CR prog 67 #[.agg (x.row a1 n1 e1 a2 n2 e2).toArray,k.val] w (.agg (dX x.ah k).cells.toArray):=by
 have hlen:=SR.len hi;have hle:=SR.le hi;refine enter func67 rfl ntmps67 rfl<|?_;have c0:bm [] w w:=bm.refl _ _;refine cV ?_;refine WL.go rfl (OX.box rfl rfl rfl fun b2 w1 lA eZ=>?_);have s1:=lA.ext;have sk:=lA.kK c0;have c1:=c0.trans s1;refine WL.go rfl (OX.box rfl rfl rfl fun b3 w2 gO dB=>?_);have s2:=gO.ext;have sn:=gO.kK c1;have iT:b2≠b3:=gO.ne eZ.lt;have qx:b3≠b2:=Ne.symm iT;have c2:=c1.trans s2;have eZ:=eZ.ext s2;refine WL.go rfl (OX.alloc TH rfl fun b4 w3 jE bM=>?_);have s3:=jE.ext;have iS:=jE.kK c2;have La:b2≠b4:=jE.ne eZ.lt;have Y6:b4≠b2:=Ne.symm La;have uS:b3≠b4:=jE.ne dB.lt;have Y7:b4≠b3:=Ne.symm uS;have c3:=c2.trans s3;have eZ:=eZ.ext s3;have dB:=dB.ext s3;refine ew ?_;refine WP .r (PV.fa Bs rfl)<|(bO) pE eZ.range<|?_;refine WP .r (PV.j9 zl rfl)<|dC ?_;refine WC.loop (σ:=Nat) (eI:=fun i=>[(3,.pointer (some ⟨b3,0,none⟩)),(4,.pointer (some ⟨b4,0,none⟩)),(8,.slice a1 n1 e1),(9,.int .i64 (n1:Int)),(10,.int .i64 (i:Int))]) (I:=fun i w'=>bm [] w w'∧cI w' b3 58 [.int .i64 k.kind,.string k.text]∧cI w' b4 83 [.int .i64 0,.string ⟨#[]⟩,.string ⟨#[]⟩,.int .i64 0]∧i≤n1∧(∀j y,j<i→x.ah[j]?=some y→(y.key == k)=false)) (μ:=fun i=>n1 - i) 0 Sub.t ⟨c3,dB,bM,by omega,fun j x h=>by omega⟩ ?_;rintro i w4 ⟨c4,dB,bM,hi1,gh⟩;refine(br) (fun g11=>?_) fun g11=>?_
 ·
  simp at g11
  have cX:i<x.ah.length:=by omega
  refine ew ?_;obtain⟨Uh,Ui,Uj,oX,_,K8,jH,_⟩:=SR.at hi (aq cX);have K8:=RR.cL K8;subst K8;have jH:=bG jH c4 (by simp);refine nx ?_;refine WP .r (PV.fC zl oX rfl rfl (by omega))<|(bA) qU jH<|?_;refine WL.go rfl (OX.alloc TH rfl fun b6 w5 mY eO=>?_);have s5:=mY.ext;have gP:=mY.kK c4;have gE:b3≠b6:=mY.ne dB.lt;have uP:b6≠b3:=Ne.symm gE;have et:b4≠b6:=mY.ne bM.lt;have qy:b6≠b4:=Ne.symm et;have c5:=c4.trans s5;have dB:=dB.ext s5;have bM:=bM.ext s5;refine WL.go rfl (OX.qJ Ii eO rfl rfl rfl rfl rfl fun w6 s6 _ eO=>?_);have c6:=c5.own s6 gP;have dB:=dB.cT s6 (by simp [gE]);have bM:=bM.cT s6 (by simp [et]);refine dC ?_;refine WP .r (PV.fa xJ rfl)<|(kF) av eO.range<|(bA) av dB.range<|?_;refine WP .r (PV.JD im (p:=x.ah[i].key) (q:=k) rfl rfl)<|(br) (fun g17=>?_) fun g17=>?_
  ·
   simp at g17
   have hf:dX x.ah k=x.ah[i]:=by unfold dX;rw [kx cX gh (by simpa using g17)];rfl
   refine(bA) qU eO.range<|?_;refine WL.go rfl (OX.qJ Ii bM rfl rfl rfl rfl rfl fun w7 s7 _ bM=>?_);have c7:=c6.own s7 iS;have dB:=dB.cT s7 (by simp [uS]);have eO:=eO.cT s7 (by simp [qy]);refine(mU) qU bM.range<|?_;exact⟨by rw [hf],c7⟩
  simp at g17
  refine gp ?_;refine EX.again (i+1) (Sub.k4 rfl rfl rfl rfl<|Sub.lC rfl (by simp)<|Sub.nil) ⟨c6,dB,bM,by omega,dJ cX gh (by simpa using g17)⟩ (by omega)
 simp at g11
 have hf:dX x.ah k=⟨k,⟨#[]⟩,0⟩:=by unfold dX;rw [rQ (i:=i) (by omega) gh];rfl
 refine(bA) av dB.range<|?_;refine WP .r (PV.cD (us:=(dE.mk k ⟨#[]⟩ 0).cells) TE rfl rfl rfl)<|?_;refine WL.go rfl (OX.qJ Ii bM rfl rfl rfl rfl rfl fun w5 s5 _ bM=>?_);have c5:=c4.own s5 iS;have dB:=dB.cT s5 (by simp [uS]);refine(mU) qU bM.range<|?_;exact⟨by rw [hf],c5⟩
theorem xQ(hi:Rd RR.aH 4 Z w a1 n1 e1 x.ah) (hr:Rd RR.ff 8 Z w a2 n2 e2 x.ao) {k:Key}:CR prog 32 #[.agg (x.row a1 n1 e1 a2 n2 e2).toArray,k.val] w (.string (dX x.ah k).value):=by
 refine enter func32 rfl ntmps32 rfl<|?_;have c0:bm [] w w:=bm.refl _ _;refine cV ?_;refine WL.go rfl (OX.box rfl rfl rfl fun b2 w1 lA eZ=>?_);have s1:=lA.ext;have sk:=lA.kK c0;have c1:=c0.trans s1;refine WL.go rfl (OX.box rfl rfl rfl fun b3 w2 gO dB=>?_);have s2:=gO.ext;have sn:=gO.kK c1;have iT:b2≠b3:=gO.ne eZ.lt;have qx:b3≠b2:=Ne.symm iT;have c2:=c1.trans s2;have eZ:=eZ.ext s2;refine(bA) aM eZ.range<|(bA) av dB.range<|(cW) ad0 (yI (k:=k) (hi.ext c2) (hr.ext c2)) ?_;rintro _ w3 ⟨rfl,s3⟩;have c3:=c2.trans s3;have eZ:=eZ.ext s3;have dB:=dB.ext s3;refine WP .r (PV.xj (fs:=[_,_,_]) (f:=1) (off:=2) (T:=83) underlying83 rfl rfl (show ∀w,(isAgg 9).run _ w=.ok false w from isAgg9) rfl rfl)<|(cj) ?_;exact⟨rfl,c3⟩
theorem Iu(hi:Rd RR.aH 4 Z w a1 n1 e1 x.ah) (hr:Rd RR.ff 8 Z w a2 n2 e2 x.ao) {k:Key}:CR prog 159 #[.agg (x.row a1 n1 e1 a2 n2 e2).toArray,k.val] w (.int .i64 (dX x.ah k).changed):=by
 refine enter func159 rfl ntmps159 rfl<|?_;have c0:bm [] w w:=bm.refl _ _;refine cV ?_;refine WL.go rfl (OX.box rfl rfl rfl fun b2 w1 lA eZ=>?_);have s1:=lA.ext;have sk:=lA.kK c0;have c1:=c0.trans s1;refine WL.go rfl (OX.box rfl rfl rfl fun b3 w2 gO dB=>?_);have s2:=gO.ext;have sn:=gO.kK c1;have iT:b2≠b3:=gO.ne eZ.lt;have qx:b3≠b2:=Ne.symm iT;have c2:=c1.trans s2;have eZ:=eZ.ext s2;refine(bA) aM eZ.range<|(bA) av dB.range<|(cW) ad0 (yI (k:=k) (hi.ext c2) (hr.ext c2)) ?_;rintro _ w3 ⟨rfl,s3⟩;have c3:=c2.trans s3;have eZ:=eZ.ext s3;have dB:=dB.ext s3;refine WP .r (PV.xj (fs:=[_,_,_]) (f:=2) (off:=3) (T:=83) underlying83 rfl rfl (show ∀w,(isAgg 3).run _ w=.ok false w from isAgg3) rfl rfl)<|(cj) ?_;exact⟨rfl,c3⟩
theorem qA(hi:Rd RR.aH 4 Z w a1 n1 e1 x.ah) (hr:Rd RR.ff 8 Z w a2 n2 e2 x.ao):Calls prog 29 #[.agg (x.row a1 n1 e1 a2 n2 e2).toArray] w fun e w'=>∃b:Bool,e=.returned (.bool b)∧(b=true↔lE x)∧bm [] w w':=by
 have hlen:=SR.len hi;have hle:=SR.le hi;have BE:=SR.len hr;have fT:=SR.le hr;refine enter func29 rfl ntmps29 rfl<|?_;have c0:bm [] w w:=bm.refl _ _;refine cV ?_;refine WL.go rfl (OX.box rfl rfl rfl fun b1 w1 pR dO=>?_);have s1:=pR.ext;have uM:=pR.kK c0;have c1:=c0.trans s1;refine jx ?_;refine WP .r (PV.fa Bs rfl)<|(bO) pE dO.range<|?_;refine WP .r (PV.j9 zl rfl)<|dC ?_;refine WC.loop (σ:=Nat) (eI:=fun i=>[(1,.pointer (some ⟨b1,0,none⟩)),(8,.slice a1 n1 e1),(9,.int .i64 (n1:Int)),(10,.int .i64 (i:Int))]) (I:=fun i w'=>bm [] w w'∧cI w' b1 31 (x.row a1 n1 e1 a2 n2 e2)∧i≤n1∧∀j y,j<i→x.ah[j]?=some y→ke x.ae x.ah j=false) (μ:=fun i=>n1 - i) 0 Sub.t ⟨c1,dO,by omega,fun j y h=>by omega⟩ ?_;rintro i w2 ⟨c2,dO,gk,cx⟩;refine(br) (fun g11=>?_) fun g11=>?_
 ·
  simp at g11
  have cX:i<x.ah.length:=by omega
  have jO:=getElem!_pos x.ah i cX;obtain⟨Uh,Ui,Uj,oX,_,K8,jH,_⟩:=SR.at hi (aq cX);have K8:=RR.cL K8;subst K8;refine ew ?_;have jH:=bG jH c2 (by simp);refine cV ?_;refine WP .r (PV.fC zl oX rfl rfl (by omega))<|(bA) qU jH<|?_;refine WL.go rfl (OX.alloc TH rfl fun b4 w3 jE bM=>?_);have s3:=jE.ext;have iS:=jE.kK c2;have nY:b1≠b4:=jE.ne dO.lt;have K9:b4≠b1:=Ne.symm nY;have c3:=c2.trans s3;have dO:=dO.ext s3;refine nx ?_;refine WL.go rfl (OX.qJ Ii bM rfl rfl rfl rfl rfl fun w4 s4 _ bM=>?_);have c4:=c3.own s4 iS;have dO:=dO.cT s4 (by simp [nY]);refine dy ?_;refine WC.nD (t:=59) (v:=.bool (ke x.ae x.ah i)) (bm [] w4) ?_<|?_
  ·
   refine WC.drawn (m:=43) (C:=bm [] w4) (T:=fun _=>bm []) (E:=dx [(2,fun v _=>v=.bool (ig x.ah[i].key)),(7,fun v _=>v=.bool (aB x.ah[i].key)),(23,fun v _=>v=.int .i64 (cE x.ah[i - 1].key x.ah[i].key))]) (bS (⟨fun _ _ _ _ _ _ _ h=>h,⟨fun _ _ _ _ _ _ _ h=>h,⟨fun _ _ _ _ _ _ _ h=>h,trivial⟩⟩⟩)) mixed (by kernel_rfl) (bm.drew _ _)<|?_;refine DP .r (fun _ hC=>PV.fa xJ rfl)<|DP .r (fun _ hC=>PV.G4 av (bM.ext hC).range rfl rfl)<|?_;refine DW.e rfl rfl rfl rfl rfl (fun wx hC hF=>OX.call Qx rfl rfl ((kY (k:=x.ah[i].key)).mono ?_))<|?_
   ·
    rintro _ wy ⟨rfl,hy⟩;exact⟨_,rfl,hC.trans hy,hy,_,rfl,rfl⟩
   rintro _ wz _ rfl;refine(tm) (fun g19=>?_) (fun g19=>?_)
   ·
    refine bC ?_;refine bC ?_;refine bC ?_;refine(eu) ?_;rintro w5 s5 _;have c5:=c4.trans s5;have dO:=dO.ext s5;have bM:=bM.ext s5;exact(dq) (by unfold ke;first | (simp only [jO,pW,g19];done) | (simp only [jO,pW,g19];rfl) | (simp only [jO,g19];rfl) | (simp only [jO,g19];done)) s5
   refine DP .r (fun _ hC=>PV.fa xJ rfl)<|DP .r (fun _ hC=>PV.G4 av (bM.ext hC).range rfl rfl)<|?_;refine DW.e rfl rfl rfl rfl rfl (fun wx hC hF=>OX.call N2 rfl rfl ((fM (k:=x.ah[i].key)).mono ?_))<|?_
   ·
    rintro _ wy ⟨rfl,hy⟩;exact⟨_,rfl,hC.trans hy,hy,_,rfl,rfl⟩
   rintro _ wz _ rfl;refine(tm) (fun fy=>?_) (fun fy=>?_)
   ·
    refine bC ?_;refine bC ?_;refine(eu) ?_;rintro w5 s5 _;have c5:=c4.trans s5;have dO:=dO.ext s5;have bM:=bM.ext s5;exact(dq) (by unfold ke;first | (simp only [jO,pW,g19,fy];done) | (simp only [jO,pW,g19,fy];rfl) | (simp only [jO,g19,fy];rfl) | (simp only [jO,g19,fy];done)) s5
   refine(tm) (fun iG=>?_) (fun iG=>?_)
   ·
    have yF:i - 1<x.ah.length:=by omega
    have pW:=getElem!_pos x.ah (i - 1) yF;have ac8:=of_decide_eq_true iG;obtain⟨bx2,ox2,rx2,CJ,_,Y8,zC,_⟩:=SR.at hi (aq yF);have Y8:=RR.cL Y8;subst Y8;have zC:=bG zC c4 (by simp);refine DP .r (fun _ hC=>PV.fa Bs rfl)<|DP .r (fun _ hC=>PV.ld1 pE (dO.ext hC).range rfl rfl)<|cV ?_;refine DP .r (fun _ hC=>PV.LQ zl (i - 1) CJ rfl rfl (by omega) (by omega))<|DP .r (fun _ hC=>PV.fa xJ rfl)<|DP .r (fun _ hC=>PV.G4 av (bG zC hC (by simp)) rfl rfl)<|DP .r (fun _ hC=>PV.fa xJ rfl)<|DP .r (fun _ hC=>PV.G4 av (bM.ext hC).range rfl rfl)<|?_;refine DW.e rfl rfl rfl rfl rfl (fun wx hC hF=>OX.call YO rfl rfl ((ny (k:=x.ah[i - 1].key) (q:=x.ah[i].key)).mono ?_))<|?_
    ·
     rintro _ wy ⟨rfl,hy⟩;exact⟨_,rfl,hC.trans hy,hy,_,rfl,rfl⟩
    rintro _ wz _ rfl;refine(tm) (fun jP=>?_) (fun jP=>?_)
    ·
     refine bC ?_;refine(eu) ?_;rintro w5 s5 _;have c5:=c4.trans s5;have dO:=dO.ext s5;have bM:=bM.ext s5;exact(dq) (by unfold ke;first | (simp only [jO,pW,g19,fy,iG,jP];done) | (simp only [jO,pW,g19,fy,iG,jP];rfl) | (simp only [jO,g19,fy,iG,jP];rfl) | (simp only [jO,g19,fy,iG,jP];done)) s5
    refine DP .r (fun _ hC=>PV.fa KZ rfl)<|DP .r (fun _ hC=>PV.ld1 iq (bM.ext hC).range rfl rfl)<|DP .r (fun _ hC=>PV.zS xG rfl)<|(tm) (fun o0=>?_) (fun o0=>?_)
    ·
     refine(eu) ?_;rintro w5 s5 _;have c5:=c4.trans s5;have dO:=dO.ext s5;have bM:=bM.ext s5;exact(dq) (by unfold ke;first | (simp only [jO,pW,g19,fy,iG,jP,o0];done) | (simp only [jO,pW,g19,fy,iG,jP,o0];rfl) | (simp only [jO,g19,fy,iG,jP,o0];rfl) | (simp only [jO,g19,fy,iG,jP,o0];done)) s5
    refine DP .r (fun _ hC=>PV.fa Bv rfl)<|DP .r (fun _ hC=>PV.ld1 aZ (bM.ext hC).range rfl rfl)<|(tm) (fun xR=>?_) (fun xR=>?_)
    ·
     refine(eu) ?_;rintro w5 s5 _;have c5:=c4.trans s5;have dO:=dO.ext s5;have bM:=bM.ext s5;exact(dq) (by unfold ke;first | (simp only [jO,pW,g19,fy,iG,jP,o0,xR];done) | (simp only [jO,pW,g19,fy,iG,jP,o0,xR];rfl) | (simp only [jO,g19,fy,iG,jP,o0,xR];rfl) | (simp only [jO,g19,fy,iG,jP,o0,xR];done)) s5
    refine DP .r (fun _ hC=>PV.fa Bv rfl)<|DP .r (fun _ hC=>PV.ld1 aZ (bM.ext hC).range rfl rfl)<|DP .r (fun _ hC=>PV.fa oU rfl)<|DP .r (fun _ hC=>PV.ld1 aZ (dO.ext hC).range rfl rfl)<|(eu)<|?_;rintro w5 s5 _;have c5:=c4.trans s5;have dO:=dO.ext s5;have bM:=bM.ext s5;exact(dq) (by unfold ke;first | (simp only [jO,pW,g19,fy,iG,jP,o0,xR];done) | (simp only [jO,pW,g19,fy,iG,jP,o0,xR];rfl) | (simp only [jO,g19,fy,iG,jP,o0,xR];rfl) | (simp only [jO,g19,fy,iG,jP,o0,xR];done)) s5
   refine bC ?_;refine cV ?_;refine DP .r (fun _ hC=>PV.fa KZ rfl)<|DP .r (fun _ hC=>PV.ld1 iq (bM.ext hC).range rfl rfl)<|DP .r (fun _ hC=>PV.zS xG rfl)<|(tm) (fun o0=>?_) (fun o0=>?_)
   ·
    refine(eu) ?_;rintro w5 s5 _;have c5:=c4.trans s5;have dO:=dO.ext s5;have bM:=bM.ext s5;exact(dq) (by unfold ke;first | (simp only [jO,pW,g19,fy,iG,o0];done) | (simp only [jO,pW,g19,fy,iG,o0];rfl) | (simp only [jO,g19,fy,iG,o0];rfl) | (simp only [jO,g19,fy,iG,o0];done)) s5
   refine DP .r (fun _ hC=>PV.fa Bv rfl)<|DP .r (fun _ hC=>PV.ld1 aZ (bM.ext hC).range rfl rfl)<|(tm) (fun xR=>?_) (fun xR=>?_)
   ·
    refine(eu) ?_;rintro w5 s5 _;have c5:=c4.trans s5;have dO:=dO.ext s5;have bM:=bM.ext s5;exact(dq) (by unfold ke;first | (simp only [jO,pW,g19,fy,iG,o0,xR];done) | (simp only [jO,pW,g19,fy,iG,o0,xR];rfl) | (simp only [jO,g19,fy,iG,o0,xR];rfl) | (simp only [jO,g19,fy,iG,o0,xR];done)) s5
   refine DP .r (fun _ hC=>PV.fa Bv rfl)<|DP .r (fun _ hC=>PV.ld1 aZ (bM.ext hC).range rfl rfl)<|DP .r (fun _ hC=>PV.fa oU rfl)<|DP .r (fun _ hC=>PV.ld1 aZ (dO.ext hC).range rfl rfl)<|(eu)<|?_;rintro w5 s5 _;have c5:=c4.trans s5;have dO:=dO.ext s5;have bM:=bM.ext s5;exact(dq) (by unfold ke;first | (simp only [jO,pW,g19,fy,iG,o0,xR];done) | (simp only [jO,pW,g19,fy,iG,o0,xR];rfl) | (simp only [jO,g19,fy,iG,o0,xR];rfl) | (simp only [jO,g19,fy,iG,o0,xR];done)) s5
  intro w5 s5;have c5:=c4.trans s5;have dO:=dO.ext s5;have bM:=bM.ext s5;refine(br) (fun MG=>?_) fun MG=>?_
  ·
   skip
   refine(cj) ?_;exact⟨false,rfl,⟨fun h=>(by cases h),fun h=>absurd (h.1 i _ (aq cX)) (by simp [MG])⟩,c5⟩
  refine gp ?_;refine EX.again (i+1) (Sub.k2 rfl rfl<|Sub.cons rfl<|Sub.lC rfl (by simp)<|Sub.nil) ⟨c5,dO,by omega,dJ (P:=fun j _=>ke x.ae x.ah j=false) cX cx MG⟩ (by omega)
 simp at g11
 have cx:Fc x.ae x.ah:=fun j y hx=>cx j y (by have:=(List.getElem?_eq_some_iff.1 hx).1;omega) hx;refine kE ?_;refine WP .r (PV.fa xH rfl)<|(bO) eN dO.range<|?_;refine WP .r (PV.j9 jk rfl)<|dC ?_;refine WC.loop (σ:=Nat) (eI:=fun i=>[(1,.pointer (some ⟨b1,0,none⟩)),(62,.slice a2 n2 e2),(63,.int .i64 (n2:Int)),(64,.int .i64 (i:Int))]) (I:=fun i w'=>bm [] w w'∧cI w' b1 31 (x.row a1 n1 e1 a2 n2 e2)∧i≤n2∧∀(j:Nat) (y:Rec),j<i→x.ao[j]?=some y→y.az≤x.ae) (μ:=fun i=>n2 - i) 0 Sub.t ⟨c2,dO,by omega,fun j y h=>by omega⟩ ?_;rintro i2 w3 ⟨c3,dO,asv,EE⟩;refine(br) (fun FR=>?_) fun FR=>?_
 ·
  simp at FR
  have cX:i2<x.ao.length:=by omega
  obtain⟨Uh,Ui,Uj,oX,_,⟨q1,q2,q3,rfl,qz,pg⟩,jH,_⟩:=SR.at hr (aq cX);refine ew ?_;have jH:=bG jH c3 (by simp);refine nx ?_;refine WP .r (PV.fC jk oX rfl rfl (by omega))<|(bA) dn jH<|?_;refine WL.go rfl (OX.alloc uG rfl fun b6 w4 mY eO=>?_);have s4:=mY.ext;have gP:=mY.kK c3;have BL:b1≠b6:=mY.ne dO.lt;have Y9:b6≠b1:=Ne.symm BL;have c4:=c3.trans s4;have dO:=dO.ext s4;refine WL.go rfl (OX.qJ gJ eO rfl rfl rfl rfl rfl fun w5 s5 _ eO=>?_);have c5:=c4.own s5 gP;have dO:=dO.cT s5 (by simp [BL]);refine dC ?_;refine WP .r (PV.fa uJ rfl)<|(bO) aZ eO.range<|?_;refine WP .r (PV.fa oU rfl)<|(bO) aZ dO.range<|(br) (fun V7=>?_) fun V7=>?_
  ·
   simp at V7
   refine(cj) ?_;exact⟨false,rfl,⟨fun h=>(by cases h),fun h=>absurd (h.2.1 i2 _ (aq cX)) (by omega)⟩,c5⟩
  simp at V7
  refine gp ?_;refine EX.again (i2+1) (Sub.k2 rfl rfl<|Sub.cons rfl<|Sub.lC rfl (by simp)<|Sub.nil) ⟨c5,dO,by omega,dJ (P:=fun _ (y:Rec)=>y.az≤x.ae) cX EE V7⟩ (by omega)
 simp at FR
 have EE:∀(j:Nat) (y:Rec),x.ao[j]?=some y→y.az≤x.ae:=fun j y hx=>EE j y (by have:=(List.getElem?_eq_some_iff.1 hx).1;omega) hx;refine jx ?_;refine WC.po (t:=2) (v:=.bool (qe x)) (bm [] w3) ?_<|?_
 ·
  refine nx ?_;refine WP .r (PV.fa oU rfl)<|(bO) aZ dO.range<|(dW) (fun QS=>?_) (fun QS=>?_)
  ·
   refine WP .r (PV.fa oU rfl)<|(bO) aZ dO.range<|(dW) (fun pf=>?_) (fun pf=>?_)
   ·
    refine WP .r (PV.fa Bs rfl)<|(bO) pE dO.range<|?_;refine WP .r (PV.j9 zl rfl)<|(dW) (fun g88=>?_) (fun g88=>?_)
    ·
     refine WP .r (PV.fa xH rfl)<|(bO) eN dO.range<|(cW) akl (xP (hr.ext c3)) ?_;rintro _ w4 ⟨rfl,s4⟩;have c4:=c3.trans s4;have dO:=dO.ext s4;exact(iu) (by unfold qe;simp only [QS,pf,g88,← hlen];first | rfl | simp) s4
    exact(iu) (by unfold qe;simp only [QS,pf,g88,← hlen];first | rfl | simp) (bm.refl _ _)
   exact(iu) (by unfold qe;simp only [QS,pf,← hlen];first | rfl | simp) (bm.refl _ _)
  refine bC ?_;exact(iu) (by unfold qe;simp only [QS,← hlen];first | rfl | simp) (bm.refl _ _)
 intro w4 s4;have c4:=c3.trans s4;have dO:=dO.ext s4;refine(cj) ?_;exact⟨_,rfl,⟨fun h=>by have:=(yj x).1 h;exact⟨cx,EE,this⟩,fun h=>(yj x).2 h.2.2⟩,c4⟩
end Go.Rc

