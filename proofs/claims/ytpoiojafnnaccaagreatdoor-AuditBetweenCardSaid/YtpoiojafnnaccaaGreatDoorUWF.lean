/- Walks over the program, part WF. Conditions: as each theorem says. -/
import Derived.Test.YtpoiojafnnaccaaGreatDoorUFacts
import Derived.Test.YtpoiojafnnaccaaGreatDoorUWB
import Derived.Test.YtpoiojafnnaccaaGreatDoorUBe
set_option linter.all false
namespace Go.Rc
open Go Go.Proofs Go.Proofs.Tryz
variable {x:dV}{a a2 a1:Option Addr}{n c n2 e2 n1 e1:Nat}{w:World}{M Z:Nat→Prop}{l:List Rec}{k:Key}
set_option maxHeartbeats 400000
theorem lU{x:Rec}(bF:St w M Z w []) (hk:Rd RR.key 2 Z w a n c x.reads) (h4:x.reads.length≤4000):Calls prog 56 #[.agg (x.row a n c).toArray] w fun e w'=>∃a' n' c',e=.returned (.agg (x.row a' n' c').toArray)∧St w M Z w' [As.os RR.key 58 2 a' n' c' x.reads]:=by
 have Dn:=hk.len;refine enter func56 rfl ntmps56 rfl<|?_;have aW:=bF;have st1:=aW.fr hk;have st2:=st1.eX RR.key 58 2;refine(eD) st2 fun b1 w1 pK dQ aP=>?_;refine(fT) aP fun b2 w2 lB eZ aV=>?_;refine(bN) fE aV.b1<|?_;refine WL.ap rfl rfl aV.p2 ((As.gr aV.g3)) fun a5 c'5 w3 hf5 hn5 bf=>?_;refine nx ?_;refine WL.s1 bf.p2 fun w4 _ br=>?_;refine(bz) dm br.b0<|(dB) gC br.p2 fun w5 jC jI bP=>?_;refine(mI) dm bP.b0<|?_;exact⟨_,_,_,rfl,bP.p2.k1⟩
theorem Ia(bF:St w M Z w []) (hl:Rd RR.fl 8 Z w a n c l) (h6:l.length≤1000000):Calls prog 55 #[.slice a n c] w fun e w'=>∃a' n' c' Z',e=.returned (.slice a' n' c')∧cQ w.heap.size Z Z'∧St w M Z' w' [As.os RR.fl 60 8 a' n' c' l]:=by
 have hlen:=hl.len;have hle:=hl.le;refine enter func55 rfl ntmps55 rfl<|?_;have aW:=bF;have st1:=aW.fr hl;have st2:=st1.eX RR.fl 60 8;refine bC ?_;refine gp ?_;refine WC.kj (σ:=Nat × (Nat→Prop) × (List Rec) × (Option Addr) × Nat × Nat) (eI:=fun(i,Z1,acc,cP,cB,cS)=>[(3,.slice cP cB cS),(6,.slice a n c),(7,.int .i64 (n:Int)),(8,.int .i64 (i:Int))]) (F:=fun(i,Z1,acc,cP,cB,cS)=>[As.os RR.fl 60 8 cP cB cS (acc)]) (I:=fun(i,Z1,acc,cP,cB,cS)=>(i≤n)∧(cQ w.heap.size Z Z1)∧(acc=l.take i)∧True) (μ:=fun(i,Z1,acc,cP,cB,cS)=>n - i) (Zf:=fun(i,Z1,acc,cP,cB,cS)=>Z1) (0,Z,[],none,0,0) (st2) Sub.t (⟨by omega,cQ.refl _ _,by simp,trivial⟩)<|?_;rintro⟨i,Z1,acc,cP,cB,cS⟩ w1 aP ⟨hi,hZ,ee,_⟩;simp only [CA,NA] at aP hi hZ ee ⊢;have l3:=((As.gs aP.g0)).len
 have CK:acc.length≤1000000:=by rw [ee,List.length_take];omega
 refine(bp) (fun g9=>?_) fun g9=>?_
 ·
  simp at g9
  have cV:i<l.length:=by omega
  refine eA ?_;obtain⟨gE,js,iT,aS,fi,bq,bY,di⟩:=Rd.at (As.gr aP.g1) cV;obtain⟨q1,q2,q3,rfl,pA,oM⟩:=bq;have aV:=aP.fg di bY;have bf:=aV.fr pA;refine nx ?_;refine WP .r (PV.fm iF aS rfl rfl (by omega))<|(bz) dm (As.nh bf.g1)<|(fT) bf fun b5 w2 nH gI br=>?_;refine(dB) gC br fun w3 jC jI bP=>?_;refine(bz) dm bP.b0<|?_;have bS:=bP;refine(df) TP (lU bS.e0 (As.gr bS.g1) oM) ?_;rintro _ w4 ⟨e1,e2,e3,rfl,fN⟩;have bX:=St.lr bS fN;have rp:=St.cK fN;have hsz:=bS.size;have aM:=bX.bV (by omega);have kZ:=hZ.trans (cQ.fo (F:=fun x=>x∈aL e1) rp) hsz;refine WL.go rfl (OX.bA (us:=l[i].row e1 e2 e3) ur rfl rfl rfl rfl fun Ju w5 Qu Qv=>?_);have aT:=aM.eW Qu Qv;refine WL.ap rfl rfl aT.p5 (SR.eP (A:=fun _=>True) (x:=l[i]) (As.gb aT.g0) trivial rfl (Rec.one _ _ _ _) ⟨e1,e2,e3,rfl,(As.gr aT.g1),oM⟩) fun a16 ako w6 arS arT aY=>?_;refine kJ ?_;refine fx (i+1,_,acc++[l[i]],a16,(cB+1),ako) ⟨aY.p6.p1.k2,⟨by omega,kZ,by rw [ee,List.take_succ_eq_append_getElem cV],trivial⟩⟩
 simp at g9
 have cy:acc=l:=by rw [ee];exact List.take_of_length_le (by omega)
 subst cy;refine(cm) ?_;exact⟨_,_,_,_,rfl,hZ,aP.p1.drop⟩
theorem kx(bF:St w M Z w []) (hl:Rd RR.fl 8 Z w a n c l):Calls prog 24 #[.slice a n c,k.val] w fun e w'=>∃a' n' c',e=.returned (.tuple #[.agg ((aG l k).row a' n' c').toArray,.bool (aD l k).isSome])∧(aG l k).reads.length≤4000∧St w M Z w' [As.os RR.key 58 2 a' n' c' (aG l k).reads]:=by
 have hlen:=hl.len;have hle:=hl.le;refine enter func24 rfl ntmps24 rfl<|?_;have aW:=bF;have st1:=aW.fr hl;refine(eD) st1 fun b3 w1 ic dA st2=>?_;refine(fT) st2 fun b4 w2 jS bL aP=>?_;refine bC ?_;refine WC.bQ (σ:=Nat) (eI:=fun i=>[(3,.pointer (some ⟨b3,0,none⟩)),(4,.pointer (some ⟨b4,0,none⟩)),(8,.slice a n c),(9,.int .i64 (n:Int)),(10,.int .i64 (i:Int))]) (F:=fun i=>[]) (I:=fun i=>(i≤n)∧(∀j x,j<i→l[j]?=some x→(x.key == k)=false)∧True) (μ:=fun i=>n - i) (0) (aP) Sub.t (⟨by omega,fun j x h=>by omega,trivial⟩)<|?_;rintro i w3 aV ⟨hi,gh,_⟩;simp only [CA,NA] at aV hi gh ⊢;refine(bp) (fun g11=>?_) fun g11=>?_
 ·
  simp at g11
  have cV:i<l.length:=by omega
  refine eA ?_;obtain⟨gE,js,iT,aS,fi,bq,bY,di⟩:=Rd.at (As.gr aV.g2) cV;obtain⟨q1,q2,q3,rfl,pA,oM⟩:=bq;have bf:=aV.fg di bY;have br:=bf.fr pA;refine nx ?_;refine WP .r (PV.fm iF aS rfl rfl (by omega))<|(bz) dm (As.nh br.g1)<|(fT) br fun b7 w4 tJ nT bP=>?_;refine(dB) gC bP fun w5 jC jI bS=>?_;refine(kl) av bS.b0<|(bz) av bS.b4<|?_;refine WP .r (PV.G3 gB (p:=l[i].key) (q:=k) rfl rfl)<|(bp) (fun g17=>?_) fun g17=>?_
  ·
   simp at g17
   have hf:aD l k=some l[i]:=ki cV gh (by simpa using g17)
   have Ei:aG l k=l[i]:=by unfold aG;rw [hf];rfl
   refine(bz) dm bS.b0<|?_;have bX:=bS;refine(df) TP (lU bX.e0 (As.gr bX.g1) oM) ?_;rintro _ w6 ⟨e1,e2,e3,rfl,nL⟩;have aM:=St.lr bX nL;refine(dB) gC aM.p4 fun w7 r7 mR aT=>?_;refine qC ?_;refine EX.je rfl (RS.cell dm rfl aT.b0 rfl<|RS.tmp rfl<|RS.nil) rfl<|?_;exact⟨e1,e2,e3,by rw [hf,Ei];rfl,by rw [Ei];exact oM,by rw [Ei];exact aT.p1.k1⟩
  simp at g17
  refine gp ?_;refine fx (i+1) ⟨bS.p5.p5.p5.k3,⟨by omega,dJ cV gh (by simpa using g17),trivial⟩⟩
 simp at g11
 have hf:aD l k=none:=rB (i:=i) (by omega) gh
 have Ei:aG l k=pd:=by unfold aG;rw [hf];rfl
 have bf:=aV.eX RR.key 58 2;refine(dB) gC bf.p1 fun w4 Ej td br=>?_;refine dF ?_;refine EX.je rfl (RS.cell dm rfl br.b0 rfl<|RS.tmp rfl<|RS.nil) rfl<|?_;exact⟨none,0,0,by rw [hf,Ei];rfl,by rw [Ei];simp [pd],by rw [Ei];exact br.p1.k1⟩
theorem fH(hl:Rd RR.fl 8 Z w a n c l):Calls prog 24 #[.slice a n c,k.val] w fun e w'=>∃a' n' c',e=.returned (.tuple #[.agg ((aG l k).row a' n' c').toArray,.bool (aD l k).isSome])∧bj [] w w':=
 (kx (M:=fun _=>False) (St.start fun _ hx=>hx.2) hl.cut).mono fun _ _ ⟨a',n',c',h1,_,h2⟩=>⟨a',n',c',h1,h2.cg⟩
theorem Ib{x:Rec}(h1:x.key.text.size≤4611686018427) (h2:x.value.size≤4611686018427) (h3:n≤4611686018427):CR prog 102 #[.agg (x.row a n c).toArray] w (.int .i64 (16+x.key.text.size+x.value.size+8*n:Int)):=by
 refine enter func102 rfl ntmps102 rfl<|?_;have c0:bj [] w w:=bj.refl _ _;refine db ?_;refine WL.go rfl (OX.box rfl rfl rfl fun b1 w1 pK dQ=>?_);have s1:=pK.ext;have uC:=pK.kI c0;have c1:=c0.trans s1;refine eA ?_;refine WP .r (PV.fa ux rfl)<|WP .r (PV.fa uw rfl)<|(bN) iq dQ.range<|?_;refine WP .r (PV.zz xo rfl)<|nx ?_;refine WP .r (PV.fa AZ rfl)<|(bN) iq dQ.range<|?_;refine WP .r (PV.zz xo rfl)<|nx ?_;refine WP .r (PV.fa Fs rfl)<|(bN) fE dQ.range<|?_;refine WP .r (PV.j0 fL rfl)<|WP .r (PV.mul rfl rfl (by omega) (by omega))<|(cm) ?_;exact⟨rfl,c1⟩
theorem yq(bF:St w M Z w []) (hl:Rd RR.fl 8 Z w a n c l) (h6:l.length≤1000000):Calls prog 42 #[.slice a n c,k.val] w fun e w'=>∃a' n' c',e=.returned (.slice a' n' c')∧St w M Z w' [As.os RR.fl 60 8 a' n' c' (jK l k)]:=by
 have hlen:=hl.len;refine enter func42 rfl ntmps42 rfl<|?_;have aW:=bF;have st1:=aW.fr hl;have st2:=st1.eX RR.fl 60 8;refine(eD) st2 fun b3 w1 ic dA aP=>?_;refine bC ?_;refine eA ?_;refine WC.bQ (σ:=Nat × (List Rec) × (Option Addr) × Nat × Nat) (eI:=fun(i,acc,cP,cB,cS)=>[(3,.pointer (some ⟨b3,0,none⟩)),(5,.slice cP cB cS),(8,.slice a n c),(9,.int .i64 (n:Int)),(10,.int .i64 (i:Int))]) (F:=fun(i,acc,cP,cB,cS)=>[As.os RR.fl 60 8 cP cB cS (acc)]) (I:=fun(i,acc,cP,cB,cS)=>(i≤n)∧(acc=jK (l.take i) k)∧True) (μ:=fun(i,acc,cP,cB,cS)=>n - i) (0,[],none,0,0) (aP.p1) Sub.t (⟨by omega,by simp [jK],trivial⟩)<|?_;rintro⟨i,acc,cP,cB,cS⟩ w2 aV ⟨hi,ee,_⟩;simp only [CA,NA] at aV hi ee ⊢;have l3:=((As.gs aV.g0)).len;have CK:=wO (l.take i) k
 have arU:acc.length≤1000000:=by rw [List.length_take,← ee] at CK;omega
 refine(bp) (fun g11=>?_) fun g11=>?_
 ·
  simp at g11
  have cV:i<l.length:=by omega
  have Vb:=JL (k:=k) cV;refine eA ?_;obtain⟨gE,js,iT,aS,fi,bq,bY,di⟩:=Rd.at (As.gr aV.g2) cV;obtain⟨q1,q2,q3,rfl,pA,oM⟩:=bq;have bf:=aV.fg di bY;have br:=bf.fr pA;refine nx ?_;refine WP .r (PV.fm iF aS rfl rfl (by omega))<|(bz) dm (As.nh br.g1)<|(fT) br fun b7 w3 tJ nT bP=>?_;refine(dB) gC bP fun w4 jC jI bS=>?_;refine(kl) av bS.b0<|(bz) av bS.b4<|?_;refine WP .r (PV.OT gB (p:=l[i].key) (q:=k) rfl rfl)<|(bp) (fun g17=>?_) fun g17=>?_
  ·
   simp at g17
   rw [if_neg g17] at Vb;refine(bz) dm bS.b0<|?_;refine WL.go rfl (OX.bA (us:=l[i].row q1 q2 q3) ur rfl rfl rfl rfl fun b20 w5 YP YQ=>?_);have bX:=bS.eW YP YQ;refine WL.ap rfl rfl bX.p4 (SR.eP (A:=fun _=>True) (x:=l[i]) (As.gb bX.g0) trivial rfl (Rec.one _ _ _ _) ⟨q1,q2,q3,rfl,(As.gr bX.g2),oM⟩) fun a21 akp w6 arV arW aM=>?_;refine kJ ?_;refine fx (i+1,acc++[l[i]],a21,(cB+1),akp) ⟨aM.p6.p6.p2.k3,⟨by omega,by rw [Vb,ee],trivial⟩⟩
  simp at g17
  rw [if_pos g17] at Vb;refine gp ?_;refine fx (i+1,acc,cP,cB,cS) ⟨bS.p5.p5.p5.k3,⟨by omega,by rw [Vb,ee],trivial⟩⟩
 simp at g11
 have cy:acc=jK l k:=by rw [ee,List.take_of_length_le (by omega)]
 subst cy;refine(cm) ?_;exact⟨_,_,_,rfl,aV.p1.drop.p1.drop⟩
theorem Br{x:Rec}(bF:St w M Z w []) (hl:Rd RR.fl 8 Z w a n c l) (h6:l.length≤1000000) (hx:Rd RR.key 2 Z w a2 n2 e2 x.reads) (hx4:x.reads.length≤4000):Calls prog 117 #[.slice a n c,.agg (x.row a2 n2 e2).toArray] w fun e w'=>∃a' n' c' Z',e=.returned (.slice a' n' c')∧cQ w.heap.size Z Z'∧St w M Z' w' [As.os RR.fl 60 8 a' n' c' (gW l x)]:=by
 have hlen:=hl.len;refine enter func117 rfl ntmps117 rfl<|?_;have aW:=bF;have st1:=aW.fr hl;have st2:=st1.fr hx;have aP:=st2.eX RR.fl 60 8;refine(eD) aP fun b3 w1 ic dA aV=>?_;refine bC ?_;refine nj ?_;refine WC.kj (σ:=Nat × Bool × (Nat→Prop) × (List Rec) × (Option Addr) × Nat × Nat) (eI:=fun(i,put,Z1,out,cP,cB,cS)=>[(3,.pointer (some ⟨b3,0,none⟩)),(5,.slice cP cB cS),(6,.bool put),(10,.slice a n c),(11,.int .i64 (n:Int)),(12,.int .i64 (i:Int))]) (F:=fun(i,put,Z1,out,cP,cB,cS)=>[As.os RR.fl 60 8 cP cB cS (out)]) (I:=fun(i,put,Z1,out,cP,cB,cS)=>(i≤n)∧(cQ w.heap.size Z Z1)∧(out++gL x (l.drop i) put=gW l x)∧True) (μ:=fun(i,put,Z1,out,cP,cB,cS)=>n - i) (Zf:=fun(i,put,Z1,out,cP,cB,cS)=>Z1) (0,false,Z,[],none,0,0) (aV.p1) Sub.t (⟨by omega,cQ.refl _ _,rfl,trivial⟩)<|?_;rintro⟨i,put,Z1,out,cP,cB,cS⟩ w2 bf ⟨hi,hZ,hinv,_⟩;simp only [CA,NA] at bf hi hZ hinv ⊢;have l3:=((As.gs bf.g0)).len
 have Vd:out.length≤1000001:=by have h1:=congrArg List.length hinv;have h2:=wN x l false;simp only [gW,List.length_append] at h1;omega
 refine(bp) (fun g13=>?_) fun g13=>?_
 ·
  simp at g13
  have cV:i<l.length:=by omega
  have Ef:gL x (l.drop i) put=(if decide (0≤cE l[i].key x.key) && !put then [x] else [])++(if cE l[i].key x.key=0 then [] else [l[i]])++gL x (l.drop (i+1)) (put || decide (0≤cE l[i].key x.key)):=by rw [List.drop_eq_getElem_cons cV];rfl
  refine eA ?_;obtain⟨gE,js,iT,aS,fi,bq,bY,di⟩:=Rd.at (As.gr bf.g3) cV;obtain⟨q1,q2,q3,rfl,pA,oM⟩:=bq;have br:=bf.fg di bY;have bP:=br.fr pA;refine nx ?_;refine WP .r (PV.fm iF aS rfl rfl (by omega))<|(bz) dm (As.nh bP.g1)<|(fT) bP fun b8 w3 Bn jm bS=>?_;refine(dB) gC bS fun w4 jC jI bX=>?_;refine(kl) av bX.b0<|(kl) av bX.b4<|(gw) (mW (k:=l[i].key) (q:=x.key)) bX fun w5 s5 aM=>?_;refine eA ?_;refine WC.fQ (t:=26) (v:=.bool (decide (0≤cE l[i].key x.key) && !put)) aM ?_<|?_
  ·
   refine(dT) (fun g23=>?_) (fun g23=>?_)
   ·
    exact(dx) (by simp only [g23];first | rfl | simp) (aM)
   exact(dx) (by simp only [g23];first | rfl | simp) (aM)
  intro w6 aT;refine(bp) (fun kX=>?_) fun kX=>?_
  ·
   simp at kX
   obtain⟨hA,hB⟩:=kX;subst hB
   have hs:gL x (l.drop i) false=[x]++(if cE l[i].key x.key=0 then [] else [l[i]])++gL x (l.drop (i+1)) true:=by rw [Ef];simp [hA]
   refine(bz) dm aT.b4<|?_;have aY:=aT;refine(df) TP (lU aY.e0 (As.gr aY.g5) hx4) ?_;rintro _ w7 ⟨f1,f2,f3,rfl,ke⟩;have bG:=St.lr aY ke;have rp:=St.cK ke;have hsz:=aY.size;have bB:=bG.bV (by omega);have kZ:=hZ.trans (cQ.fo (F:=fun x=>x∈aL f1) rp) hsz;refine WL.go rfl (OX.bA (us:=x.row f1 f2 f3) ur rfl rfl rfl rfl fun b30 w8 aeQ aeR=>?_);have bd:=bB.eW aeQ aeR;refine WL.ap rfl rfl bd.p5 (SR.eP (A:=fun _=>True) (x:=x) (As.gb bd.g0) trivial rfl (Rec.one _ _ _ _) ⟨f1,f2,f3,rfl,(As.gr bd.g1),hx4⟩) fun a31 akr w9 arX arY aU=>?_;refine(bp) (fun jX=>?_) fun jX=>?_
   ·
    simp at jX
    rw [if_neg jX] at hs;refine(bz) dm aU.b3<|?_;refine WL.go rfl (OX.bA (us:=l[i].row q1 q2 q3) ur rfl rfl rfl rfl fun b36 kM YR YS=>?_);have bM:=aU.eW YR YS;refine WL.ap rfl rfl bM.p1 (SR.eP (A:=fun _=>True) (x:=l[i]) (As.gb bM.g0) trivial rfl (Rec.one _ _ _ _) ⟨q1,q2,q3,rfl,(As.gr bM.g5),oM⟩) fun a37 Qw kN aeS aeT bO=>?_;refine kJ ?_;refine fx (i+1,true,_,_,a37,((cB+1)+1),Qw) ⟨bO.p9.p9.p9.p3.k4,⟨by omega,kZ,by rw [← hinv,hs];simp,trivial⟩⟩
   simp at jX
   rw [if_pos jX] at hs;refine gp ?_;refine fx (i+1,true,_,_,a31,(cB+1),akr) ⟨aU.p8.p8.p8.p3.k4,⟨by omega,kZ,by rw [← hinv,hs];simp,trivial⟩⟩
  have hs:gL x (l.drop i) put=[]++(if cE l[i].key x.key=0 then [] else [l[i]])++gL x (l.drop (i+1)) put:=by
   rw [Ef]
   cases put
   ·
    simp at kX;rw [decide_eq_false (by omega)];rfl
   simp
  refine(bp) (fun jX=>?_) fun jX=>?_
  ·
   simp at jX
   rw [if_neg jX] at hs;refine(bz) dm aT.b0<|?_;refine WL.go rfl (OX.bA (us:=l[i].row q1 q2 q3) ur rfl rfl rfl rfl fun b36 w7 YR YS=>?_);have aY:=aT.eW YR YS;refine WL.ap rfl rfl aY.p4 (SR.eP (A:=fun _=>True) (x:=l[i]) (As.gb aY.g0) trivial rfl (Rec.one _ _ _ _) ⟨q1,q2,q3,rfl,(As.gr aY.g2),oM⟩) fun a37 Qw w8 aeS aeT bG=>?_;refine kJ ?_;refine fx (i+1,put,_,_,a37,(cB+1),Qw) ⟨bG.p7.p7.p7.p3.k4,⟨by omega,hZ,by rw [← hinv,hs];simp,trivial⟩⟩
  simp at jX
  rw [if_pos jX] at hs;refine gp ?_;refine fx (i+1,put,_,_,cP,cB,cS) ⟨aT.p6.p6.p6.p6.k4,⟨by omega,hZ,by rw [← hinv,hs];simp,trivial⟩⟩
 simp at g13
 have cy:l.drop i=[]:=List.drop_eq_nil_of_le (by omega);rw [cy] at hinv;refine(bp) (fun Bp=>?_) fun Bp=>?_
 ·
  simp at Bp
  subst Bp;refine(bz) dm bf.b1<|?_;have br:=bf;refine(df) TP (lU br.e0 (As.gr br.g2) hx4) ?_;rintro _ w3 ⟨f1,f2,f3,rfl,eG⟩;have bP:=St.lr br eG;have rp:=St.cK eG;have hsz:=br.size;have bS:=bP.bV (by omega);have kZ:=hZ.trans (cQ.fo (F:=fun x=>x∈aL f1) rp) hsz;refine WL.go rfl (OX.bA (us:=x.row f1 f2 f3) ur rfl rfl rfl rfl fun b44 w4 aks akt=>?_);have bX:=bS.eW aks akt;refine WL.ap rfl rfl bX.p2 (SR.eP (A:=fun _=>True) (x:=x) (As.gb bX.g0) trivial rfl (Rec.one _ _ _ _) ⟨f1,f2,f3,rfl,(As.gr bX.g1),hx4⟩) fun a45 ar0 w5 ar1 ar2 aM=>?_;refine(cm) ?_;exact⟨_,_,_,_,rfl,kZ,by rw [← hinv];exact aM.k1⟩
 simp at Bp
 subst Bp;refine(cm) ?_;exact⟨_,_,_,_,rfl,hZ,by rw [← hinv];simp only [gL,List.append_nil,if_true];exact bf.k1⟩
theorem Fy{x:Rec}(hk:Rd RR.key 2 Z w a n c x.reads):CR prog 109 #[.agg (x.row a n c).toArray] w (.bool (fb x)):=by
 have hlen:=SR.len hk;have hle:=SR.le hk;refine enter func109 rfl ntmps109 rfl<|?_;have c0:bj [] w w:=bj.refl _ _;refine db ?_;refine WL.go rfl (OX.box rfl rfl rfl fun b1 w1 pK dQ=>?_);have s1:=pK.ext;have uC:=pK.kI c0;have c1:=c0.trans s1;refine jo ?_;refine WP .r (PV.fa Fs rfl)<|(bN) fE dQ.range<|?_;refine WP .r (PV.j0 fL rfl)<|dF ?_;refine WC.loop (σ:=Nat) (eI:=fun i=>[(1,.pointer (some ⟨b1,0,none⟩)),(6,.slice a n c),(7,.int .i64 (n:Int)),(8,.int .i64 (i:Int))]) (I:=fun i w'=>bj [] w w'∧cJ w' b1 60 (x.row a n c)∧i≤n∧∀j y,j<i→x.reads[j]?=some y→ik y=true) (μ:=fun i=>n - i) 0 Sub.t ⟨c1,dQ,by omega,fun j y h=>by omega⟩ ?_;rintro i w2 ⟨c2,dQ,hi,cy⟩;refine(bp) (fun g9=>?_) fun g9=>?_
 ·
  simp at g9
  have cV:i<x.reads.length:=by omega
  refine eA ?_;obtain⟨TW,TX,TY,oK,_,KJ,jG,_⟩:=SR.at hk (aq cV);have KJ:=RR.cH KJ;subst KJ;have jG:=bE jG c2 (by simp);refine nx ?_;refine WP .r (PV.fm fL oK rfl rfl (by omega))<|(bz) av jG<|?_;refine WL.go rfl (OX.alloc Kx rfl fun b4 w3 jS bL=>?_);have s3:=jS.ext;have iR:=jS.kI c2;have nM:b1≠b4:=jS.ne dQ.lt;have KL:b4≠b1:=Ne.symm nM;have c3:=c2.trans s3;have dQ:=dQ.ext s3;refine WL.go rfl (OX.qx jH bL rfl rfl rfl rfl rfl fun w4 s4 _ bL=>?_);have c4:=c3.own s4 iR;have dQ:=dQ.cX s4 (by simp [nM]);refine(bz) av bL.range<|(df) Qg (kY (k:=x.reads[i])) ?_;rintro _ w5 ⟨rfl,s5⟩;have c5:=c4.trans s5;have dQ:=dQ.ext s5;have bL:=bL.ext s5;refine(bp) (fun g14=>?_) fun g14=>?_
  ·
   simp at g14
   have hv:fb x=false:=by unfold fb;rw [Bool.and_eq_false_iff];left;rw [List.all_eq_false];exact⟨_,List.getElem_mem cV,by simp [g14]⟩
   refine(cm) ?_;exact⟨by rw [hv],c5⟩
  simp at g14
  refine gp ?_;refine EX.again (i+1) (Sub.k2 rfl rfl<|Sub.cons rfl<|Sub.lz rfl (by simp)<|Sub.nil) ⟨c5,dQ,by omega,dJ cV cy g14⟩ (by omega)
 simp at g9
 have hv:fb x=iy x:=by
  unfold fb
  rw [show x.reads.all ik=true from List.all_eq_true.2 fun y hy=>by obtain⟨j,hj,rfl⟩:=List.mem_iff_getElem.1 hy;exact cy j _ (by omega) (aq hj)]
  rfl
 refine jo ?_;refine WC.o8 (t:=2) (v:=.bool (iy x)) (bj [] w2) ?_<|?_
 ·
  refine nx ?_;refine WP .r (PV.fa ux rfl)<|(kl) av dQ.range<|(df) Qg (kY (k:=x.key)) ?_;rintro _ w3 ⟨rfl,s3⟩;have c3:=c2.trans s3;have dQ:=dQ.ext s3;refine(dT) (fun g19=>?_) (fun g19=>?_)
  ·
   refine WP .r (PV.fa ux rfl)<|(kl) av dQ.range<|(df) NG (fM (k:=x.key)) ?_;rintro _ w4 ⟨rfl,s4⟩;have c4:=c3.trans s4;have dQ:=dQ.ext s4;refine(dT) (fun fB=>?_) (fun fB=>?_)
   ·
    refine WP .r (PV.fa AZ rfl)<|(bN) iq dQ.range<|?_;refine WP .r (PV.zz xo rfl)<|(dT) (fun px=>?_) (fun px=>?_)
    ·
     refine WP .r (PV.fa Fs rfl)<|(bN) fE dQ.range<|?_;refine WP .r (PV.j0 fL rfl)<|(dT) (fun vL=>?_) (fun vL=>?_)
     ·
      refine WP .r (PV.fa Ba rfl)<|(bN) aX dQ.range<|(dT) (fun kE=>?_) (fun kE=>?_)
      ·
       refine WP .r (PV.fa Ba rfl)<|(bN) aX dQ.range<|?_;refine WP .r (PV.fa uy rfl)<|(bN) aX dQ.range<|(dT) (fun wC=>?_) (fun wC=>?_)
       ·
        refine WP .r (PV.fa uy rfl)<|(bN) aX dQ.range<|(dT) (fun uG=>?_) (fun uG=>?_)
        ·
         refine WP .r (PV.fa Ky rfl)<|(bN) aX dQ.range<|(dT) (fun Mp=>?_) (fun Mp=>?_)
         ·
          refine WP .r (PV.fa Ky rfl)<|(bN) aX dQ.range<|(dT) (fun VS=>?_) (fun VS=>?_)
          ·
           refine WP .r (PV.fa Kz rfl)<|(bN) fG dQ.range<|(dT) (fun YT=>?_) (fun YT=>?_)
           ·
            exact(iw) (by unfold iy;simp only [g19,fB,px,vL,kE,wC,uG,Mp,VS,YT,← hlen];first | rfl | simp) (s3.trans s4)
           refine WP .r (PV.fa ux rfl)<|(kl) av dQ.range<|(df) NH (eB (k:=x.key)) ?_;rintro _ w5 ⟨rfl,s5⟩;have c5:=c4.trans s5;have dQ:=dQ.ext s5;exact(iw) (by unfold iy;simp only [g19,fB,px,vL,kE,wC,uG,Mp,VS,YT,← hlen];first | rfl | simp) ((s3.trans s4).trans s5)
          exact(iw) (by unfold iy;simp only [g19,fB,px,vL,kE,wC,uG,Mp,VS,← hlen];first | rfl | simp) (s3.trans s4)
         refine bC ?_;exact(iw) (by unfold iy;simp only [g19,fB,px,vL,kE,wC,uG,Mp,← hlen];first | rfl | simp) (s3.trans s4)
        refine bC ?_;exact(iw) (by unfold iy;simp only [g19,fB,px,vL,kE,wC,uG,← hlen];first | rfl | simp) (s3.trans s4)
       refine bC ?_;refine bC ?_;exact(iw) (by unfold iy;simp only [g19,fB,px,vL,kE,wC,← hlen];first | rfl | simp) (s3.trans s4)
      refine bC ?_;refine bC ?_;exact(iw) (by unfold iy;simp only [g19,fB,px,vL,kE,← hlen];first | rfl | simp) (s3.trans s4)
     refine bC ?_;refine bC ?_;refine bC ?_;exact(iw) (by unfold iy;simp only [g19,fB,px,vL,← hlen];first | rfl | simp) (s3.trans s4)
    refine bC ?_;refine bC ?_;refine bC ?_;exact(iw) (by unfold iy;simp only [g19,fB,px,← hlen];first | rfl | simp) (s3.trans s4)
   refine bC ?_;refine bC ?_;refine bC ?_;refine bC ?_;exact(iw) (by unfold iy;simp only [g19,fB,← hlen];first | rfl | simp) (s3.trans s4)
  refine bC ?_;refine bC ?_;refine bC ?_;refine bC ?_;exact(iw) (by unfold iy;simp only [g19,← hlen];first | rfl | simp) s3
 intro w3 s3;have c3:=c2.trans s3;have dQ:=dQ.ext s3;refine(cm) ?_;exact⟨by rw [hv],c3⟩
theorem yS(hl:Rd RR.fl 8 Z w a n c l):Calls prog 65 #[.slice a n c] w fun e w'=>∃b:Bool,e=.returned (.bool b)∧(b=true↔rC l)∧bj [] w w':=by
 have hlen:=SR.len hl;have hle:=SR.le hl;refine enter func65 rfl ntmps65 rfl<|?_;have c0:bj [] w w:=bj.refl _ _;refine qC ?_;refine WP .r (PV.j0 iF rfl)<|dF ?_;refine WC.loop (σ:=Nat) (eI:=fun i=>[(0,.slice a n c),(5,.slice a n c),(6,.int .i64 (n:Int)),(7,.int .i64 (i:Int))]) (I:=fun i w'=>bj [] w w'∧i≤n∧∀j y,j<i→l[j]?=some y→vf l j y) (μ:=fun i=>n - i) 0 Sub.t ⟨c0,by omega,fun j y h=>by omega⟩ ?_;rintro i w1 ⟨c1,hi,cy⟩;refine(bp) (fun g8=>?_) fun g8=>?_
 ·
  simp at g8
  have cV:i<l.length:=by omega
  have jM:=getElem!_pos l i cV;obtain⟨TW,TX,TY,oK,_,⟨q1,q2,q3,rfl,pA,oM⟩,jG,_⟩:=SR.at hl (aq cV);refine eA ?_;have jG:=bE jG c1 (by simp);refine db ?_;refine WP .r (PV.fm iF oK rfl rfl (by omega))<|(bz) dm jG<|?_;refine WL.go rfl (OX.alloc uv rfl fun b4 w2 jS bL=>?_);have s2:=jS.ext;have iR:=jS.kI c1;have c2:=c1.trans s2;refine nx ?_;refine WL.go rfl (OX.qx gC bL rfl rfl rfl rfl rfl fun w3 s3 _ bL=>?_);have c3:=c2.own s3 iR;refine dw ?_;refine WC.nb (t:=30) (v:=.bool (wP l i)) (bj [] w3) ?_<|?_
  ·
   refine WC.drawn (m:=15) (C:=bj [] w3) (T:=fun _=>bj []) (E:=dy [(1,fun v _=>v=.bool (fb l[i]))]) (bT (⟨fun _ _ _ _ _ _ _ h=>h,trivial⟩)) mixed (by kernel_rfl) (bj.drew _ _)<|?_;refine DP .r (fun _ hC=>PV.MC dm (bL.ext hC).range rfl rfl)<|?_;refine DW.e rfl rfl rfl rfl rfl (fun wx hC hF=>OX.call adV rfl rfl ((Fy (pA.ext (c3.trans hC))).mono ?_))<|?_
   ·
    rintro _ wy ⟨rfl,hy⟩;exact⟨_,rfl,hC.trans hy,hy,_,rfl,rfl⟩
   rintro _ wz _ rfl;refine(tf) (fun g15=>?_) (fun g15=>?_)
   ·
    refine(ey) ?_;rintro w4 s4 _;have c4:=c3.trans s4;have bL:=bL.ext s4;exact(dx) (by unfold wP;first | (simp only [jM,pP,g15];done) | (simp only [jM,pP,g15];rfl) | (simp only [jM,g15];rfl) | (simp only [jM];rw [Bool.not_eq_true'] at g15;simp [g15]) | (simp only [jM];simp at g15 g18;simp [g15,g18])) s4
   refine(tf) (fun g18=>?_) (fun g18=>?_)
   ·
    have yo:i - 1<l.length:=by omega
    have pP:=getElem!_pos l (i - 1) yo;have acW:=of_decide_eq_true g18;obtain⟨bx2,ox2,rx2,Co,_,⟨p1,p2,p3,rfl,_,_⟩,zd,_⟩:=SR.at hl (aq yo);have zd:=bE zd c3 (by simp);refine dw ?_;refine DP .r (fun _ hC=>PV.Ls iF (i - 1) Co rfl rfl (by omega) (by omega))<|DP .r (fun _ hC=>PV.fa ux rfl)<|DP .r (fun _ hC=>PV.GC av (bE zd hC (by simp)) rfl rfl)<|DP .r (fun _ hC=>PV.fa ux rfl)<|DP .r (fun _ hC=>PV.GC av (bL.ext hC).range rfl rfl)<|(ey)<|?_;rintro w4 s4 _;have c4:=c3.trans s4;have bL:=bL.ext s4;refine(df) YC (mW (k:=l[i - 1].key) (q:=l[i].key)) ?_;rintro _ w5 ⟨rfl,s5⟩;have c5:=c4.trans s5;have bL:=bL.ext s5;exact(dx) (by unfold wP;first | (simp only [jM,pP,g15,g18];done) | (simp only [jM,pP,g15,g18];rfl) | (simp only [jM,g15,g18];rfl) | (simp only [jM];rw [Bool.not_eq_true'] at g15;simp [g15]) | (simp only [jM];simp at g15 g18;simp [g15,g18])) (s4.trans s5)
   refine(ey) ?_;rintro w4 s4 _;have c4:=c3.trans s4;have bL:=bL.ext s4;exact(dx) (by unfold wP;first | (simp only [jM,pP,g15,g18];done) | (simp only [jM,pP,g15,g18];rfl) | (simp only [jM,g15,g18];rfl) | (simp only [jM];rw [Bool.not_eq_true'] at g15;simp [g15]) | (simp only [jM];simp at g15 g18;simp [g15,g18])) s4
  intro w4 s4;have c4:=c3.trans s4;have bL:=bL.ext s4;refine(bp) (fun l9=>?_) fun l9=>?_
  ·
   skip
   refine(cm) ?_;exact⟨false,rfl,⟨fun h=>(by cases h),fun h=>absurd ((vg cV).2 (h.2 i _ (aq cV))) (by simp [l9])⟩,c4⟩
  refine gp ?_;refine EX.again (i+1) (Sub.k2 rfl rfl<|Sub.cons rfl<|Sub.lz rfl (by simp)<|Sub.nil) ⟨c4,by omega,dJ cV cy ((vg cV).1 l9)⟩ (by omega)
 ·
  simp at g8
  have cy:∀j y,l[j]?=some y→vf l j y:=fun j x hx=>cy j x (by have:=(List.getElem?_eq_some_iff.1 hx).1;omega) hx;refine kJ ?_;refine WP .r (PV.j0 iF rfl)<|(cm) ?_;exact⟨_,rfl,⟨fun h=>⟨by simp at h;omega,cy⟩,fun h=>by have:=h.1;simp;omega⟩,c1⟩
 -- xz ky G17.T
set_option maxHeartbeats 400000
theorem xA(hl:Rd RR.fl 8 Z w a n c l):CR prog 65 #[.slice a n c] w (.bool (vj l)):=
 (yS hl).mono fun _ _ ⟨b,h1,h2,h3⟩=>⟨by rw [h1,JO h2],h3⟩
theorem fO(bF:St w M Z w []) (hi:Rd RR.aH 4 Z w a1 n1 e1 x.ah) (hr:Rd RR.fl 8 Z w a2 n2 e2 x.ak) (h6:x.ak.length≤1000000) (h7:x.ah.length≤1000000):Calls prog 22 #[.agg (x.row a1 n1 e1 a2 n2 e2).toArray] w fun e w'=>∃Qx Qy Qz QA QB QC Z',e=.returned (.agg (x.row Qx Qy Qz QA QB QC).toArray)∧cQ w.heap.size Z Z'∧St w M Z' w' [As.os RR.aH 83 4 Qx Qy Qz x.ah,As.os RR.fl 60 8 QA QB QC x.ak]:=by
 have zm:=hi.len;have Cv:=hr.len;refine enter func22 rfl ntmps22 rfl<|?_;have aW:=bF;have st1:=aW.fr hi;have st2:=st1.fr hr;have aP:=st2.eX RR.aH 83 4;refine(eD) aP fun b1 w1 pK dQ aV=>?_;refine(fT) aV fun b2 w2 lB eZ bf=>?_;refine(bN) pw bf.b1<|?_;refine WL.ap rfl rfl bf.p2 ((As.gr bf.g4)) fun a5 c'5 w3 hf5 hn5 br=>?_;refine nx ?_;refine WL.s1 br.p2 fun w4 _ bP=>?_;refine(bN) ez bP.b0<|?_;have bS:=bP;refine(df) ajN (Ia bS.e0 (As.gr bS.g3) h6) ?_;rintro _ w5 ⟨f1,f2,f3,Z1,rfl,oN,ja⟩;have bX:=St.lv bS ja oN;have kZ:=oN.le bS.size;refine nx ?_;refine WL.s1 bX.p1 fun w6 _ aM=>?_;refine(bz) aN aM.b0<|(dB) gg aM.p3 fun w7 jC jI aT=>?_;refine(mI) aN aT.b0<|?_;exact⟨_,_,_,_,_,_,_,rfl,kZ,aT.p2.p3.k2⟩
theorem yt(hi:Rd RR.aH 4 Z w a1 n1 e1 x.ah) (hr:Rd RR.fl 8 Z w a2 n2 e2 x.ak) {k:Key}:CR prog 67 #[.agg (x.row a1 n1 e1 a2 n2 e2).toArray,k.val] w (.agg (ek x.ah k).cells.toArray):=by
 have hlen:=SR.len hi;have hle:=SR.le hi;refine enter func67 rfl ntmps67 rfl<|?_;have c0:bj [] w w:=bj.refl _ _;refine db ?_;refine WL.go rfl (OX.box rfl rfl rfl fun b2 w1 lB eZ=>?_);have s1:=lB.ext;have rZ:=lB.kI c0;have c1:=c0.trans s1;refine WL.go rfl (OX.box rfl rfl rfl fun b3 w2 ic dA=>?_);have s2:=ic.ext;have r5:=ic.kI c1;have iS:b2≠b3:=ic.ne eZ.lt;have qo:b3≠b2:=Ne.symm iS;have c2:=c1.trans s2;have eZ:=eZ.ext s2;refine WL.go rfl (OX.alloc Tn rfl fun b4 w3 jS bL=>?_);have s3:=jS.ext;have iR:=jS.kI c2;have KN:b2≠b4:=jS.ne eZ.lt;have YU:b4≠b2:=Ne.symm KN;have uH:b3≠b4:=jS.ne dA.lt;have YV:b4≠b3:=Ne.symm uH;have c3:=c2.trans s3;have eZ:=eZ.ext s3;have dA:=dA.ext s3;refine eA ?_;refine WP .r (PV.fa AY rfl)<|(bN) pw eZ.range<|?_;refine WP .r (PV.j0 yR rfl)<|dF ?_;refine WC.loop (σ:=Nat) (eI:=fun i=>[(3,.pointer (some ⟨b3,0,none⟩)),(4,.pointer (some ⟨b4,0,none⟩)),(8,.slice a1 n1 e1),(9,.int .i64 (n1:Int)),(10,.int .i64 (i:Int))]) (I:=fun i w'=>bj [] w w'∧cJ w' b3 58 [.int .i64 k.kind,.string k.text]∧cJ w' b4 83 [.int .i64 0,.string ⟨#[]⟩,.string ⟨#[]⟩,.int .i64 0]∧i≤n1∧(∀j y,j<i→x.ah[j]?=some y→(y.key == k)=false)) (μ:=fun i=>n1 - i) 0 Sub.t ⟨c3,dA,bL,by omega,fun j x h=>by omega⟩ ?_;rintro i w4 ⟨c4,dA,bL,hi1,gh⟩;refine(bp) (fun g11=>?_) fun g11=>?_
 ·
  simp at g11
  have cV:i<x.ah.length:=by omega
  refine eA ?_;obtain⟨TW,TX,TY,oK,_,KJ,jG,_⟩:=SR.at hi (aq cV);have KJ:=RR.cH KJ;subst KJ;have jG:=bE jG c4 (by simp);refine nx ?_;refine WP .r (PV.fm yR oK rfl rfl (by omega))<|(bz) qJ jG<|?_;refine WL.go rfl (OX.alloc Tn rfl fun b6 w5 mV eM=>?_);have s5:=mV.ext;have gO:=mV.kI c4;have gD:b3≠b6:=mV.ne dA.lt;have uF:b6≠b3:=Ne.symm gD;have eu:b4≠b6:=mV.ne bL.lt;have qp:b6≠b4:=Ne.symm eu;have c5:=c4.trans s5;have dA:=dA.ext s5;have bL:=bL.ext s5;refine WL.go rfl (OX.qx H0 eM rfl rfl rfl rfl rfl fun w6 s6 _ eM=>?_);have c6:=c5.own s6 gO;have dA:=dA.cX s6 (by simp [gD]);have bL:=bL.cX s6 (by simp [eu]);refine dF ?_;refine WP .r (PV.fa xu rfl)<|(kl) av eM.range<|(bz) av dA.range<|?_;refine WP .r (PV.G3 gB (p:=x.ah[i].key) (q:=k) rfl rfl)<|(bp) (fun g17=>?_) fun g17=>?_
  ·
   simp at g17
   have hf:ek x.ah k=x.ah[i]:=by unfold ek;rw [ki cV gh (by simpa using g17)];rfl
   refine(bz) qJ eM.range<|?_;refine WL.go rfl (OX.qx H0 bL rfl rfl rfl rfl rfl fun w7 s7 _ bL=>?_);have c7:=c6.own s7 iR;have dA:=dA.cX s7 (by simp [uH]);have eM:=eM.cX s7 (by simp [qp]);refine(mI) qJ bL.range<|?_;exact⟨by rw [hf],c7⟩
  simp at g17
  refine gp ?_;refine EX.again (i+1) (Sub.k4 rfl rfl rfl rfl<|Sub.lz rfl (by simp)<|Sub.nil) ⟨c6,dA,bL,by omega,dJ cV gh (by simpa using g17)⟩ (by omega)
 simp at g11
 have hf:ek x.ah k=⟨k,⟨#[]⟩,0⟩:=by unfold ek;rw [rB (i:=i) (by omega) gh];rfl
 refine(bz) av dA.range<|?_;refine WP .r (PV.cD (us:=(dE.mk k ⟨#[]⟩ 0).cells) Tk rfl rfl rfl)<|?_;refine WL.go rfl (OX.qx H0 bL rfl rfl rfl rfl rfl fun w5 s5 _ bL=>?_);have c5:=c4.own s5 iR;have dA:=dA.cX s5 (by simp [uH]);refine(mI) qJ bL.range<|?_;exact⟨by rw [hf],c5⟩
theorem xB(hi:Rd RR.aH 4 Z w a1 n1 e1 x.ah) (hr:Rd RR.fl 8 Z w a2 n2 e2 x.ak) {k:Key}:CR prog 32 #[.agg (x.row a1 n1 e1 a2 n2 e2).toArray,k.val] w (.string (ek x.ah k).value):=by
 refine enter func32 rfl ntmps32 rfl<|?_;have c0:bj [] w w:=bj.refl _ _;refine db ?_;refine WL.go rfl (OX.box rfl rfl rfl fun b2 w1 lB eZ=>?_);have s1:=lB.ext;have rZ:=lB.kI c0;have c1:=c0.trans s1;refine WL.go rfl (OX.box rfl rfl rfl fun b3 w2 ic dA=>?_);have s2:=ic.ext;have r5:=ic.kI c1;have iS:b2≠b3:=ic.ne eZ.lt;have qo:b3≠b2:=Ne.symm iS;have c2:=c1.trans s2;have eZ:=eZ.ext s2;refine(bz) aN eZ.range<|(bz) av dA.range<|(df) adJ (yt (k:=k) (hi.ext c2) (hr.ext c2)) ?_;rintro _ w3 ⟨rfl,s3⟩;have c3:=c2.trans s3;have eZ:=eZ.ext s3;have dA:=dA.ext s3;refine WP .r (PV.wT (fs:=[_,_,_]) (f:=1) (off:=2) (T:=83) underlying83 rfl rfl (show ∀w,(isAgg 9).run _ w=.ok false w from isAgg9) rfl rfl)<|(cm) ?_;exact⟨rfl,c3⟩
theorem Ic(hi:Rd RR.aH 4 Z w a1 n1 e1 x.ah) (hr:Rd RR.fl 8 Z w a2 n2 e2 x.ak) {k:Key}:CR prog 159 #[.agg (x.row a1 n1 e1 a2 n2 e2).toArray,k.val] w (.int .i64 (ek x.ah k).changed):=by
 refine enter func159 rfl ntmps159 rfl<|?_;have c0:bj [] w w:=bj.refl _ _;refine db ?_;refine WL.go rfl (OX.box rfl rfl rfl fun b2 w1 lB eZ=>?_);have s1:=lB.ext;have rZ:=lB.kI c0;have c1:=c0.trans s1;refine WL.go rfl (OX.box rfl rfl rfl fun b3 w2 ic dA=>?_);have s2:=ic.ext;have r5:=ic.kI c1;have iS:b2≠b3:=ic.ne eZ.lt;have qo:b3≠b2:=Ne.symm iS;have c2:=c1.trans s2;have eZ:=eZ.ext s2;refine(bz) aN eZ.range<|(bz) av dA.range<|(df) adJ (yt (k:=k) (hi.ext c2) (hr.ext c2)) ?_;rintro _ w3 ⟨rfl,s3⟩;have c3:=c2.trans s3;have eZ:=eZ.ext s3;have dA:=dA.ext s3;refine WP .r (PV.wT (fs:=[_,_,_]) (f:=2) (off:=3) (T:=83) underlying83 rfl rfl (show ∀w,(isAgg 3).run _ w=.ok false w from isAgg3) rfl rfl)<|(cm) ?_;exact⟨rfl,c3⟩
theorem qq(hi:Rd RR.aH 4 Z w a1 n1 e1 x.ah) (hr:Rd RR.fl 8 Z w a2 n2 e2 x.ak):Calls prog 29 #[.agg (x.row a1 n1 e1 a2 n2 e2).toArray] w fun e w'=>∃b:Bool,e=.returned (.bool b)∧(b=true↔mB x)∧bj [] w w':=by
 have hlen:=SR.len hi;have hle:=SR.le hi;have Bm:=SR.len hr;have fU:=SR.le hr;refine enter func29 rfl ntmps29 rfl<|?_;have c0:bj [] w w:=bj.refl _ _;refine db ?_;refine WL.go rfl (OX.box rfl rfl rfl fun b1 w1 pK dQ=>?_);have s1:=pK.ext;have uC:=pK.kI c0;have c1:=c0.trans s1;refine jo ?_;refine WP .r (PV.fa AY rfl)<|(bN) pw dQ.range<|?_;refine WP .r (PV.j0 yR rfl)<|dF ?_;refine WC.loop (σ:=Nat) (eI:=fun i=>[(1,.pointer (some ⟨b1,0,none⟩)),(8,.slice a1 n1 e1),(9,.int .i64 (n1:Int)),(10,.int .i64 (i:Int))]) (I:=fun i w'=>bj [] w w'∧cJ w' b1 31 (x.row a1 n1 e1 a2 n2 e2)∧i≤n1∧∀j y,j<i→x.ah[j]?=some y→j5 x.ae x.ah j=false) (μ:=fun i=>n1 - i) 0 Sub.t ⟨c1,dQ,by omega,fun j y h=>by omega⟩ ?_;rintro i w2 ⟨c2,dQ,gQ,cy⟩;refine(bp) (fun g11=>?_) fun g11=>?_
 ·
  simp at g11
  have cV:i<x.ah.length:=by omega
  have jM:=getElem!_pos x.ah i cV;obtain⟨TW,TX,TY,oK,_,KJ,jG,_⟩:=SR.at hi (aq cV);have KJ:=RR.cH KJ;subst KJ;refine eA ?_;have jG:=bE jG c2 (by simp);refine db ?_;refine WP .r (PV.fm yR oK rfl rfl (by omega))<|(bz) qJ jG<|?_;refine WL.go rfl (OX.alloc Tn rfl fun b4 w3 jS bL=>?_);have s3:=jS.ext;have iR:=jS.kI c2;have nM:b1≠b4:=jS.ne dQ.lt;have KL:b4≠b1:=Ne.symm nM;have c3:=c2.trans s3;have dQ:=dQ.ext s3;refine nx ?_;refine WL.go rfl (OX.qx H0 bL rfl rfl rfl rfl rfl fun w4 s4 _ bL=>?_);have c4:=c3.own s4 iR;have dQ:=dQ.cX s4 (by simp [nM]);refine dw ?_;refine WC.nb (t:=59) (v:=.bool (j5 x.ae x.ah i)) (bj [] w4) ?_<|?_
  ·
   refine WC.drawn (m:=43) (C:=bj [] w4) (T:=fun _=>bj []) (E:=dy [(2,fun v _=>v=.bool (ik x.ah[i].key)),(7,fun v _=>v=.bool (aB x.ah[i].key)),(23,fun v _=>v=.int .i64 (cE x.ah[i - 1].key x.ah[i].key))]) (bT (⟨fun _ _ _ _ _ _ _ h=>h,⟨fun _ _ _ _ _ _ _ h=>h,⟨fun _ _ _ _ _ _ _ h=>h,trivial⟩⟩⟩)) mixed (by kernel_rfl) (bj.drew _ _)<|?_;refine DP .r (fun _ hC=>PV.fa xu rfl)<|DP .r (fun _ hC=>PV.GC av (bL.ext hC).range rfl rfl)<|?_;refine DW.e rfl rfl rfl rfl rfl (fun wx hC hF=>OX.call Qg rfl rfl ((kY (k:=x.ah[i].key)).mono ?_))<|?_
   ·
    rintro _ wy ⟨rfl,hy⟩;exact⟨_,rfl,hC.trans hy,hy,_,rfl,rfl⟩
   rintro _ wz _ rfl;refine(tf) (fun g19=>?_) (fun g19=>?_)
   ·
    refine bC ?_;refine bC ?_;refine bC ?_;refine(ey) ?_;rintro w5 s5 _;have c5:=c4.trans s5;have dQ:=dQ.ext s5;have bL:=bL.ext s5;exact(dx) (by unfold j5;first | (simp only [jM,pP,g19];done) | (simp only [jM,pP,g19];rfl) | (simp only [jM,g19];rfl) | (simp only [jM,g19];done)) s5
   refine DP .r (fun _ hC=>PV.fa xu rfl)<|DP .r (fun _ hC=>PV.GC av (bL.ext hC).range rfl rfl)<|?_;refine DW.e rfl rfl rfl rfl rfl (fun wx hC hF=>OX.call NG rfl rfl ((fM (k:=x.ah[i].key)).mono ?_))<|?_
   ·
    rintro _ wy ⟨rfl,hy⟩;exact⟨_,rfl,hC.trans hy,hy,_,rfl,rfl⟩
   rintro _ wz _ rfl;refine(tf) (fun fB=>?_) (fun fB=>?_)
   ·
    refine bC ?_;refine bC ?_;refine(ey) ?_;rintro w5 s5 _;have c5:=c4.trans s5;have dQ:=dQ.ext s5;have bL:=bL.ext s5;exact(dx) (by unfold j5;first | (simp only [jM,pP,g19,fB];done) | (simp only [jM,pP,g19,fB];rfl) | (simp only [jM,g19,fB];rfl) | (simp only [jM,g19,fB];done)) s5
   refine(tf) (fun iU=>?_) (fun iU=>?_)
   ·
    have yo:i - 1<x.ah.length:=by omega
    have pP:=getElem!_pos x.ah (i - 1) yo;have acW:=of_decide_eq_true iU;obtain⟨bx2,ox2,rx2,Co,_,YW,zd,_⟩:=SR.at hi (aq yo);have YW:=RR.cH YW;subst YW;have zd:=bE zd c4 (by simp);refine DP .r (fun _ hC=>PV.fa AY rfl)<|DP .r (fun _ hC=>PV.ld1 pw (dQ.ext hC).range rfl rfl)<|db ?_;refine DP .r (fun _ hC=>PV.Ls yR (i - 1) Co rfl rfl (by omega) (by omega))<|DP .r (fun _ hC=>PV.fa xu rfl)<|DP .r (fun _ hC=>PV.GC av (bE zd hC (by simp)) rfl rfl)<|DP .r (fun _ hC=>PV.fa xu rfl)<|DP .r (fun _ hC=>PV.GC av (bL.ext hC).range rfl rfl)<|?_;refine DW.e rfl rfl rfl rfl rfl (fun wx hC hF=>OX.call YC rfl rfl ((mW (k:=x.ah[i - 1].key) (q:=x.ah[i].key)).mono ?_))<|?_
    ·
     rintro _ wy ⟨rfl,hy⟩;exact⟨_,rfl,hC.trans hy,hy,_,rfl,rfl⟩
    rintro _ wz _ rfl;refine(tf) (fun kE=>?_) (fun kE=>?_)
    ·
     refine bC ?_;refine(ey) ?_;rintro w5 s5 _;have c5:=c4.trans s5;have dQ:=dQ.ext s5;have bL:=bL.ext s5;exact(dx) (by unfold j5;first | (simp only [jM,pP,g19,fB,iU,kE];done) | (simp only [jM,pP,g19,fB,iU,kE];rfl) | (simp only [jM,g19,fB,iU,kE];rfl) | (simp only [jM,g19,fB,iU,kE];done)) s5
    refine DP .r (fun _ hC=>PV.fa KA rfl)<|DP .r (fun _ hC=>PV.ld1 iq (bL.ext hC).range rfl rfl)<|DP .r (fun _ hC=>PV.zz xo rfl)<|(tf) (fun oO=>?_) (fun oO=>?_)
    ·
     refine(ey) ?_;rintro w5 s5 _;have c5:=c4.trans s5;have dQ:=dQ.ext s5;have bL:=bL.ext s5;exact(dx) (by unfold j5;first | (simp only [jM,pP,g19,fB,iU,kE,oO];done) | (simp only [jM,pP,g19,fB,iU,kE,oO];rfl) | (simp only [jM,g19,fB,iU,kE,oO];rfl) | (simp only [jM,g19,fB,iU,kE,oO];done)) s5
    refine DP .r (fun _ hC=>PV.fa Bb rfl)<|DP .r (fun _ hC=>PV.ld1 aX (bL.ext hC).range rfl rfl)<|(tf) (fun xC=>?_) (fun xC=>?_)
    ·
     refine(ey) ?_;rintro w5 s5 _;have c5:=c4.trans s5;have dQ:=dQ.ext s5;have bL:=bL.ext s5;exact(dx) (by unfold j5;first | (simp only [jM,pP,g19,fB,iU,kE,oO,xC];done) | (simp only [jM,pP,g19,fB,iU,kE,oO,xC];rfl) | (simp only [jM,g19,fB,iU,kE,oO,xC];rfl) | (simp only [jM,g19,fB,iU,kE,oO,xC];done)) s5
    refine DP .r (fun _ hC=>PV.fa Bb rfl)<|DP .r (fun _ hC=>PV.ld1 aX (bL.ext hC).range rfl rfl)<|DP .r (fun _ hC=>PV.fa oH rfl)<|DP .r (fun _ hC=>PV.ld1 aX (dQ.ext hC).range rfl rfl)<|(ey)<|?_;rintro w5 s5 _;have c5:=c4.trans s5;have dQ:=dQ.ext s5;have bL:=bL.ext s5;exact(dx) (by unfold j5;first | (simp only [jM,pP,g19,fB,iU,kE,oO,xC];done) | (simp only [jM,pP,g19,fB,iU,kE,oO,xC];rfl) | (simp only [jM,g19,fB,iU,kE,oO,xC];rfl) | (simp only [jM,g19,fB,iU,kE,oO,xC];done)) s5
   refine bC ?_;refine db ?_;refine DP .r (fun _ hC=>PV.fa KA rfl)<|DP .r (fun _ hC=>PV.ld1 iq (bL.ext hC).range rfl rfl)<|DP .r (fun _ hC=>PV.zz xo rfl)<|(tf) (fun oO=>?_) (fun oO=>?_)
   ·
    refine(ey) ?_;rintro w5 s5 _;have c5:=c4.trans s5;have dQ:=dQ.ext s5;have bL:=bL.ext s5;exact(dx) (by unfold j5;first | (simp only [jM,pP,g19,fB,iU,oO];done) | (simp only [jM,pP,g19,fB,iU,oO];rfl) | (simp only [jM,g19,fB,iU,oO];rfl) | (simp only [jM,g19,fB,iU,oO];done)) s5
   refine DP .r (fun _ hC=>PV.fa Bb rfl)<|DP .r (fun _ hC=>PV.ld1 aX (bL.ext hC).range rfl rfl)<|(tf) (fun xC=>?_) (fun xC=>?_)
   ·
    refine(ey) ?_;rintro w5 s5 _;have c5:=c4.trans s5;have dQ:=dQ.ext s5;have bL:=bL.ext s5;exact(dx) (by unfold j5;first | (simp only [jM,pP,g19,fB,iU,oO,xC];done) | (simp only [jM,pP,g19,fB,iU,oO,xC];rfl) | (simp only [jM,g19,fB,iU,oO,xC];rfl) | (simp only [jM,g19,fB,iU,oO,xC];done)) s5
   refine DP .r (fun _ hC=>PV.fa Bb rfl)<|DP .r (fun _ hC=>PV.ld1 aX (bL.ext hC).range rfl rfl)<|DP .r (fun _ hC=>PV.fa oH rfl)<|DP .r (fun _ hC=>PV.ld1 aX (dQ.ext hC).range rfl rfl)<|(ey)<|?_;rintro w5 s5 _;have c5:=c4.trans s5;have dQ:=dQ.ext s5;have bL:=bL.ext s5;exact(dx) (by unfold j5;first | (simp only [jM,pP,g19,fB,iU,oO,xC];done) | (simp only [jM,pP,g19,fB,iU,oO,xC];rfl) | (simp only [jM,g19,fB,iU,oO,xC];rfl) | (simp only [jM,g19,fB,iU,oO,xC];done)) s5
  intro w5 s5;have c5:=c4.trans s5;have dQ:=dQ.ext s5;have bL:=bL.ext s5;refine(bp) (fun Mp=>?_) fun Mp=>?_
  ·
   skip
   refine(cm) ?_;exact⟨false,rfl,⟨fun h=>(by cases h),fun h=>absurd (h.1 i _ (aq cV)) (by simp [Mp])⟩,c5⟩
  refine gp ?_;refine EX.again (i+1) (Sub.k2 rfl rfl<|Sub.cons rfl<|Sub.lz rfl (by simp)<|Sub.nil) ⟨c5,dQ,by omega,dJ (P:=fun j _=>j5 x.ae x.ah j=false) cV cy Mp⟩ (by omega)
 simp at g11
 have cy:EP x.ae x.ah:=fun j y hx=>cy j y (by have:=(List.getElem?_eq_some_iff.1 hx).1;omega) hx;refine kJ ?_;refine WP .r (PV.fa xp rfl)<|(bN) ez dQ.range<|?_;refine WP .r (PV.j0 iF rfl)<|dF ?_;refine WC.loop (σ:=Nat) (eI:=fun i=>[(1,.pointer (some ⟨b1,0,none⟩)),(62,.slice a2 n2 e2),(63,.int .i64 (n2:Int)),(64,.int .i64 (i:Int))]) (I:=fun i w'=>bj [] w w'∧cJ w' b1 31 (x.row a1 n1 e1 a2 n2 e2)∧i≤n2∧∀(j:Nat) (y:Rec),j<i→x.ak[j]?=some y→y.az≤x.ae) (μ:=fun i=>n2 - i) 0 Sub.t ⟨c2,dQ,by omega,fun j y h=>by omega⟩ ?_;rintro i2 w3 ⟨c3,dQ,ar4,Ek⟩;refine(bp) (fun Fz=>?_) fun Fz=>?_
 ·
  simp at Fz
  have cV:i2<x.ak.length:=by omega
  obtain⟨TW,TX,TY,oK,_,⟨q1,q2,q3,rfl,pA,oM⟩,jG,_⟩:=SR.at hr (aq cV);refine eA ?_;have jG:=bE jG c3 (by simp);refine nx ?_;refine WP .r (PV.fm iF oK rfl rfl (by omega))<|(bz) dm jG<|?_;refine WL.go rfl (OX.alloc uv rfl fun b6 w4 mV eM=>?_);have s4:=mV.ext;have gO:=mV.kI c3;have Bs:b1≠b6:=mV.ne dQ.lt;have YX:b6≠b1:=Ne.symm Bs;have c4:=c3.trans s4;have dQ:=dQ.ext s4;refine WL.go rfl (OX.qx gC eM rfl rfl rfl rfl rfl fun w5 s5 _ eM=>?_);have c5:=c4.own s5 gO;have dQ:=dQ.cX s5 (by simp [Bs]);refine dF ?_;refine WP .r (PV.fa uy rfl)<|(bN) aX eM.range<|?_;refine WP .r (PV.fa oH rfl)<|(bN) aX dQ.range<|(bp) (fun VQ=>?_) fun VQ=>?_
  ·
   simp at VQ
   refine(cm) ?_;exact⟨false,rfl,⟨fun h=>(by cases h),fun h=>absurd (h.2.1 i2 _ (aq cV)) (by omega)⟩,c5⟩
  simp at VQ
  refine gp ?_;refine EX.again (i2+1) (Sub.k2 rfl rfl<|Sub.cons rfl<|Sub.lz rfl (by simp)<|Sub.nil) ⟨c5,dQ,by omega,dJ (P:=fun _ (y:Rec)=>y.az≤x.ae) cV Ek VQ⟩ (by omega)
 simp at Fz
 have Ek:∀(j:Nat) (y:Rec),x.ak[j]?=some y→y.az≤x.ae:=fun j y hx=>Ek j y (by have:=(List.getElem?_eq_some_iff.1 hx).1;omega) hx;refine jo ?_;refine WC.o8 (t:=2) (v:=.bool (pX x)) (bj [] w3) ?_<|?_
 ·
  refine nx ?_;refine WP .r (PV.fa oH rfl)<|(bN) aX dQ.range<|(dT) (fun QD=>?_) (fun QD=>?_)
  ·
   refine WP .r (PV.fa oH rfl)<|(bN) aX dQ.range<|(dT) (fun oY=>?_) (fun oY=>?_)
   ·
    refine WP .r (PV.fa AY rfl)<|(bN) pw dQ.range<|?_;refine WP .r (PV.j0 yR rfl)<|(dT) (fun g88=>?_) (fun g88=>?_)
    ·
     refine WP .r (PV.fa xp rfl)<|(bN) ez dQ.range<|(df) ajT (xA (hr.ext c3)) ?_;rintro _ w4 ⟨rfl,s4⟩;have c4:=c3.trans s4;have dQ:=dQ.ext s4;exact(iw) (by unfold pX;simp only [QD,oY,g88,← hlen];first | rfl | simp) s4
    exact(iw) (by unfold pX;simp only [QD,oY,g88,← hlen];first | rfl | simp) (bj.refl _ _)
   exact(iw) (by unfold pX;simp only [QD,oY,← hlen];first | rfl | simp) (bj.refl _ _)
  refine bC ?_;exact(iw) (by unfold pX;simp only [QD,← hlen];first | rfl | simp) (bj.refl _ _)
 intro w4 s4;have c4:=c3.trans s4;have dQ:=dQ.ext s4;refine(cm) ?_;exact⟨_,rfl,⟨fun h=>by have:=(xU x).1 h;exact⟨cy,Ek,this⟩,fun h=>(xU x).2 h.2.2⟩,c4⟩
end Go.Rc

