/- Walks over the program, part WYm. Conditions: as each theorem says. -/
import Derived.Test.YtmpkegmkoclbhaaGreatDoorMFacts
import Derived.Test.YtmpkegmkoclbhaaGreatDoorMWZl
import Derived.Test.YtmpkegmkoclbhaaGreatDoorMWF
import Derived.Test.YtmpkegmkoclbhaaGreatDoorMBf
import Derived.Test.YtmpkegmkoclbhaaGreatDoorMBh
import Derived.Test.YtmpkegmkoclbhaaGreatDoorMWYk
import Derived.Test.YtmpkegmkoclbhaaGreatDoorMWUa
import Derived.Test.YtmpkegmkoclbhaaGreatDoorMBi
import Derived.Test.YtmpkegmkoclbhaaGreatDoorMBg
set_option linter.all false
namespace Go.Rc
open Go Go.Proofs Go.Proofs.Tryz
variable {x:cm}{a1 a2 a b:Option Addr}{n1 e1 n2 e2 n c m e:Nat}{w:World}{M Z Z2:Nat→Prop}{l q:List Key}
set_option maxHeartbeats 400000
set_option maxHeartbeats 1600000 in
set_option maxRecDepth 8000 in
theorem mr{l:List Change}{al:Option Addr}{nl f:Nat}(gE:St w M Z w []) (hi:Rd RR.aC 4 Z w a1 n1 e1 x.ab) (hr:Rd RR.ei 8 Z w a2 n2 e2 x.ah) (hl:Rd RR.bV 3 Z w al nl f l) (hb:jz x) (hx:jA x.ad x.ab) (hs:∀c∈l,c.small) (hl4:l.length≤32):Calls prog 16 #[.agg (x.row a1 n1 e1 a2 n2 e2).toArray,.slice al nl f] w fun e w'=>∃(y:cm) (b1 b2:Option Addr) (m1 d1 m2 d2:Nat) (er:Int) (Z':Nat→Prop),e=.returned (.tuple #[.agg (y.row b1 m1 d1 b2 m2 d2).toArray,.int .i64 er])∧y.ah=x.ah∧x.ad≤y.ad∧y.ad≤1073741824∧jA y.ad y.ab∧y.ab.length≤64∧y.ad≤x.ad+1∧Wj x l y∧AO x l y∧(x.ad+1≤1073741824→er=0)∧Rd RR.aC 4 Z' w' b1 m1 d1 y.ab∧Rd RR.ei 8 Z' w' b2 m2 d2 y.ah∧bH w.heap.size Z Z'∧St w M Z' w' []:=by
 have hln:=hl.len;have h7a:=hb.2.2.2.2.1;have h6a:=hb.2.2.2.2.2.1
 have h6:x.ah.length≤1000000:=by omega
 have h7:x.ab.length≤1000000:=by omega
 have hv0:=hb.2.2.1;have FB:=hb.2.2.2.1;refine enter func16 rfl ntmps16 rfl<|?_;have aP:=St.rb gE;have st1:=aP.fr hi;have st2:=st1.fr hr;have iV:=st2.fr hl;refine(dy) iV fun b2 w1 TL wo iq=>?_;refine(eW) iq fun b4 w2 Ff IK i7=>?_;refine(aZ) aM i7.b1<|?_;have iE:=i7;refine(bX) zy (fx (x:=x) iE.e0 (As.gr iE.g4) (As.gr iE.g3) h6 h7) ?_;rintro _ w3 ⟨f1,f2,f3,f4,f5,f6,Z1,rfl,nS,kz⟩;have hJ:=St.lv iE kz nS;have ag2:=St.bP kz;have ag3:=St.bP kz.p1;have r6:=iE.size;have wt:=nS.le r6;have ag4:=St.fresh hJ;have iK:=hJ.aY (by omega);have ag5:=St.fresh iK.p1;have iH:=iK.p1.aY (by omega);have ag6:=(wt.trans (bH.dA (F:=fun x=>x∈aI f1) ag2) r6).trans (bH.dA (F:=fun x=>x∈aI f4) ag3) r6;refine(cI) dL iH.p3 fun w4 jS jZ eD=>?_;refine(aZ) aM eD.b0<|(bX) Sj (mh (x:=x) (As.gr eD.g2) (As.gr eD.g1)) ?_;rintro _ w5 ⟨bb,rfl,hbb,s5⟩;have di:=eD.step s5;obtain rfl:bb=true:=hbb.2 hb;refine(aT) (fun g24=>?_) fun g24=>?_
 ·
  exact dz g24
 ·
  refine(aT) (fun LQ=>?_) fun LQ=>?_
  ·
   exact dz LQ
  refine aX ?_;refine WC.bq (σ:=Nat) (dn:=fun i=>[(1,.slice al nl f),(2,.pointer (some ⟨b2,0,none⟩)),(4,.pointer (some ⟨b4,0,none⟩)),(34,.slice al nl f),(35,.int .i64 (nl:Int)),(36,.int .i64 (i:Int))]) (F:=fun i=>[]) (I:=fun i=>(i≤l.length)∧True) (μ:=fun i=>l.length - i) (0) (di) Sub.t (⟨by omega,trivial⟩)<|?_;rintro i w6 cY ⟨eQ,_⟩;simp only [CA,NA] at cY eQ ⊢;refine(aT) (fun g37=>?_) fun g37=>?_
  ·
   simp at g37
   have D:i<l.length:=by omega
   have GJ:=hs _ (List.getElem_mem D);have hsk:=GJ.ok;have FE:=GJ.2;refine de ?_;obtain⟨gV,k8,ky,cW,gW,G,eG,eV⟩:=Rd.at (As.gr cY.g4) D;have G:=RR.ba G;subst G;have N:=cY.fg eV eG;refine nx ?_;refine WP .r (PV.dQ HR cW rfl rfl (by omega))<|(aZ) Cd (As.lG N.g0)<|(eW) N fun b7 w7 SB SC K=>?_;refine(cI) Kl K fun w8 re mz T=>?_;refine(hW) ao T.b0<|?_;refine WL.c1 (u:=.bool true) (iR (k:=l[i].key)) (by rw [hsk.1]) T fun w9 s9 O=>?_;refine(hW) ao O.b0<|?_;refine WL.c1 (u:=.bool true) (eu (k:=l[i].key)) (by rw [hsk.2]) O fun iS s10 ew=>?_;refine cj ?_;refine WC.fi rfl<|ez ?_;refine eC (i+1) ⟨ew.drop.drop,⟨by omega,trivial⟩⟩
  skip
  refine aX ?_;refine bN ?_;refine WC.bq (σ:=Nat) (dn:=fun i=>[(1,.slice al nl f),(2,.pointer (some ⟨b2,0,none⟩)),(4,.pointer (some ⟨b4,0,none⟩)),(52,.slice al nl f),(53,.int .i64 (nl:Int)),(54,.int .i64 (i:Int))]) (F:=fun i=>[]) (I:=fun i=>(i≤l.length)∧True) (μ:=fun i=>l.length - i) (0) (cY) Sub.t (⟨by omega,trivial⟩)<|?_;rintro i w7 N ⟨eQ,_⟩;simp only [CA,NA] at N eQ ⊢;refine(aT) (fun PW=>?_) fun PW=>?_
  ·
   simp at PW
   have D:i<l.length:=by omega
   have GJ:=hs _ (List.getElem_mem D);have FE:=GJ.2;refine de ?_;obtain⟨gV,k8,ky,cW,gW,G,eG,eV⟩:=Rd.at (As.gr N.g4) D;have G:=RR.ba G;subst G;have K:=N.fg eV eG;refine nx ?_;refine WP .r (PV.dQ HR cW rfl rfl (by omega))<|(aZ) Cd (As.lG K.g0)<|(eW) K fun b9 w8 nw9 hb9 T=>?_;refine(cI) Kl T fun w9 zB sw O=>?_;refine(a8) fw O.b0<|(aT) (fun NQ=>?_) fun NQ=>?_
   ·
    exact dz NQ
   refine ez ?_;refine eC (i+1) ⟨O.drop.drop,⟨by omega,trivial⟩⟩
  skip
  refine(aZ) aM N.b0<|?_;have K:=N;refine(bX) zy (fx (x:=x) K.e0 (As.gr K.g2) (As.gr K.g1) h6 h7) ?_;rintro _ w8 ⟨k1,k2,k3,k4,k5,k6,Z2,rfl,vD,j0⟩;have T:=St.lv K j0 vD;have ag7:=St.bP j0;have ag8:=St.bP j0.p1;have oA:=K.size;have mG:=ag6.trans vD oA;have ag9:=St.fresh T;have O:=T.aY (by omega);have aha:=St.fresh O.p1;have ew:=O.p1.aY (by omega);have ahb:=(mG.trans (bH.dA (F:=fun x=>x∈aI k1) ag7) oA).trans (bH.dA (F:=fun x=>x∈aI k4) ag8) oA;refine(eW) ew fun P w9 FH FJ eb=>?_;refine(cI) dL eb fun iS LI LJ dG=>?_;refine(a8) aN dG.b0<|bN ?_;refine WL.s1 dG fun iX _ dP=>?_;refine aX ?_;refine cj ?_;refine WC.ia (σ:=Nat × Bool × (List cv) × (Option Addr) × Nat × Nat × (Nat→Prop)) (dn:=fun(i,ch,li,H,ni,J,Q)=>[(1,.slice al nl f),(2,.pointer (some ⟨b2,0,none⟩)),(4,.pointer (some ⟨b4,0,none⟩)),(10,.pointer (some ⟨P,0,none⟩)),(11,.bool ch),(70,.slice al nl f),(71,.int .i64 (nl:Int)),(72,.int .i64 (i:Int))]) (F:=fun(i,ch,li,H,ni,J,Q)=>[As.blk P 31 [.int .i64 (x.ad+1),.slice H ni J,.slice k4 k5 k6],As.ro RR.aC 4 H ni J li]) (I:=fun(i,ch,li,H,ni,J,Q)=>(i≤l.length)∧(jA (x.ad+1) li)∧(li.length≤x.ab.length+i)∧(∀k,(∀c∈l,c.key≠k)→bz li k=bz x.ab k)∧(∀k,bz li k=bz x.ab k∨(bz li k).changed=x.ad+1)∧(bH w.heap.size Z Q)∧(HC x l i ch li)∧True) (μ:=fun(i,ch,li,H,ni,J,Q)=>l.length - i) (Zf:=fun(i,ch,li,H,ni,J,Q)=>Q) (0,false,x.ab,k1,k2,k3,_) (dP.p2.p1) Sub.t (⟨by omega,hx.mono (by omega),by omega,fun _ _=>rfl,fun _=>.inl rfl,ahb,.start,trivial⟩)<|?_;rintro⟨i,ch,li,H,ni,J,Q⟩ ly z ⟨eQ,hG,ahc,hfi,hfc,mU,Lb,_⟩;simp only [CA,NA] at z eQ hG ahc hfi hfc mU Lb ⊢;refine(aT) (fun LS=>?_) fun LS=>?_
  ·
   have ahd:=((As.gr z.g1)).len
   simp at LS
   have D:i<l.length:=by omega
   have GJ:=hs _ (List.getElem_mem D);refine de ?_;obtain⟨gV,k8,ky,cW,gW,G,eG,eV⟩:=Rd.at (As.gr z.g7) D;have G:=RR.ba G;subst G;have o:=z.fg eV eG;refine bN ?_;refine WP .r (PV.dQ HR cW rfl rfl (by omega))<|(aZ) Cd (As.lG o.g0)<|(eW) o fun U7 oo N0 afm eJ=>?_;refine(cI) Kl eJ fun r7 LO D5 fB=>?_;refine aX ?_;refine nx ?_;refine WP .r (PV.yA HR (i:=i+1) (As.gr fB.g9) rfl rfl (by omega))<|cq ?_;have ee:=fB.fr (SR.drop (i:=i+1) (As.gr fB.g9) (by omega));refine bN ?_;refine WC.bq (σ:=Nat × Bool) (dn:=fun(q,U)=>[(1,.slice al nl f),(2,.pointer (some ⟨b2,0,none⟩)),(4,.pointer (some ⟨b4,0,none⟩)),(10,.pointer (some ⟨P,0,none⟩)),(11,.bool ch),(13,.pointer (some ⟨U7,0,none⟩)),(14,.bool U),(70,.slice al nl f),(71,.int .i64 (nl:Int)),(72,.int .i64 (i:Int)),(80,.slice (my al (i+1) 3 f) (nl - (i+1)) (f - (i+1))),(81,.int .i64 ((nl - (i+1):Nat):Int)),(82,.int .i64 (q:Int))]) (F:=fun(q,U)=>[]) (I:=fun(q,U)=>(q≤nl - (i+1))∧(q=0→U=true)∧True) (μ:=fun(q,U)=>nl - (i+1) - q) (0,true) (ee) Sub.t (⟨by omega,fun _=>rfl,trivial⟩)<|?_;rintro⟨q,U⟩ pU eP ⟨hq,hla,_⟩;simp only [CA,NA] at eP hq hla ⊢;refine(aT) (fun Vg=>?_) fun Vg=>?_
   ·
    simp at Vg
    have hq2:q<(l.drop (i+1)).length:=by rw [List.length_drop];omega
    refine de ?_;obtain⟨tA,H6,Fq,kO,vt,mI,mH,nO⟩:=Rd.at (As.gr eP.g0) hq2;have mI:=RR.ba mI;subst mI;have L:=eP.fg nO mH;refine nx ?_;refine WP .r (PV.dQ HR kO rfl rfl (by omega))<|(aZ) Cd (As.lG L.g0)<|(eW) L fun b16 tE NZ Tk fD=>?_;refine(cI) Kl fD fun zI S9 Ta V=>?_;refine bN ?_;have B:=V;refine WC.jy (σ:=Bool) [] (fun TN=>[(1,.slice al nl f),(2,.pointer (some ⟨b2,0,none⟩)),(4,.pointer (some ⟨b4,0,none⟩)),(10,.pointer (some ⟨P,0,none⟩)),(11,.bool ch),(13,.pointer (some ⟨U7,0,none⟩)),(14,.bool TN),(70,.slice al nl f),(71,.int .i64 (nl:Int)),(72,.int .i64 (i:Int)),(80,.slice (my al (i+1) 3 f) (nl - (i+1)) (f - (i+1))),(81,.int .i64 ((nl - (i+1):Nat):Int)),(82,.int .i64 (q:Int))]) (fun TN=>[]) (fun TN=>True) B ?_ ?_
    ·
     refine(dc) (fun FP=>?_) (fun FP=>?_)
     ·
      refine(hW) ao B.b0<|(hW) ao B.b3<|?_;refine WP .r (PV.Lv fK (p:=(l.drop (i+1))[q].key) (q:=l[i].key) rfl rfl)<|cq ?_;exact mS (_) ⟨B,trivial⟩
     refine gX ?_;exact mS (_) ⟨B,trivial⟩
    rintro TN yo C _;simp only [CA,NA] at C ⊢;refine fO ?_;refine eC (q+1,_) ⟨C.drop.drop,⟨by omega,fun h=>absurd h (Nat.succ_ne_zero _),trivial⟩⟩
   skip
   refine ez ?_;refine WC.dW (t:=105) (v:=.bool (!U || decide ((bz x.ab l[i].key).value=l[i].value))) eP ?_<|?_
   ·
    have apz:=eP.bO;refine WC.dB (m:=9) (E:=cB [(6,fun v _=>v=.string (bz x.ab l[i].key).value)]) eP (bm (⟨fun _ _ _ _ _ _ _ h=>h,trivial⟩)) mixed (by kernel_rfl)<|(ot) (fun LU=>?_) (fun LU=>?_)
    ·
     refine(cQ) ?_;rintro tE ⟨Zz,L⟩ _;exact(cz) (tG LU) (L)
    refine(gM) aM St.g6<|(tr) ao St.g1<|?_;refine DW.c0 (fun wx hC hF=>r5 (x:=x) (k:=l[i].key) (As.gr hC.2.g8) (As.gr hC.2.g7))<|(iu) fw St.g1<|(cQ)<|?_;rintro tE ⟨Zz,L⟩ ⟨_,_⟩;exact(cz) (tG LU) (L)
   intro tE L;refine(aT) (fun F5=>?_) fun F5=>?_
   ·
    refine gX ?_;refine eC (i+1,ch,li,H,ni,J,Q) ⟨L.drop.drop.drop,⟨by omega,hG,by show li.length≤x.ab.length+(i+1);omega,hfi,hfc,mU,Lb.skip D (fun e=>hla (by omega)) F5,trivial⟩⟩
   refine aX ?_;refine(a8) i6 L.b3<|de ?_;have fD:=L.dq RR.aC 78 4;refine WC.bq (σ:=Nat × Bool × (List cv) × (Option Addr) × Nat × Nat) (dn:=fun(q,put,acc,g,d,j)=>[(1,.slice al nl f),(2,.pointer (some ⟨b2,0,none⟩)),(4,.pointer (some ⟨b4,0,none⟩)),(10,.pointer (some ⟨P,0,none⟩)),(11,.bool true),(13,.pointer (some ⟨U7,0,none⟩)),(17,.slice g d j),(18,.bool put),(70,.slice al nl f),(71,.int .i64 (nl:Int)),(72,.int .i64 (i:Int)),(107,.slice H ni J),(108,.int .i64 (ni:Int)),(109,.int .i64 (q:Int))]) (F:=fun(q,put,acc,g,d,j)=>[As.os RR.aC 78 4 g d j (acc)]) (I:=fun(q,put,acc,g,d,j)=>(q≤li.length)∧(acc++fU (⟨l[i].key,l[i].value,x.ad+1⟩:cv) (li.drop q) put=fU (⟨l[i].key,l[i].value,x.ad+1⟩:cv) li false)∧True) (μ:=fun(q,put,acc,g,d,j)=>li.length - q) (0,false,[],none,0,0) (fD) Sub.t (⟨by omega,rfl,trivial⟩)<|?_;rintro⟨q,put,acc,g,d,j⟩ zI V ⟨hq,R,_⟩;simp only [CA,NA] at V hq R ⊢;have ZA:=Mt R;have ahe:=((As.gs V.g0)).len;refine(aT) (fun oy=>?_) fun oy=>?_
   ·
    simp at oy
    have hq2:q<li.length:=by omega
    have Ib:=Ms hq2 R
    dsimp only at Ib
    refine de ?_;obtain⟨KJ,apA,afy,lP,YG,G1,PH,ZB⟩:=Rd.at (As.gr V.g5) hq2;have G1:=RR.ba G1;subst G1;have B:=V.fg ZB PH;refine nx ?_;refine WP .r (PV.dQ qC lP rfl rfl (by omega))<|(aZ) ks (As.lG B.g0)<|(eW) B fun b20 yo ahf ahg C=>?_;refine(cI) zs C fun Fz U4 U5 W=>?_;refine(hW) ao W.b0<|(hW) ao W.b4<|(eN) (kb (k:=li[q].key) (q:=l[i].key)) W fun Ih s20 oB=>?_;refine de ?_;have pO:=oB;refine WC.jy (σ:=Bool) [] (fun Ir=>[(1,.slice al nl f),(2,.pointer (some ⟨b2,0,none⟩)),(4,.pointer (some ⟨b4,0,none⟩)),(10,.pointer (some ⟨P,0,none⟩)),(11,.bool true),(13,.pointer (some ⟨U7,0,none⟩)),(17,.slice g d j),(18,.bool put),(20,.pointer (some ⟨b20,0,none⟩)),(21,.int .i64 (bC li[q].key l[i].key)),(70,.slice al nl f),(71,.int .i64 (nl:Int)),(72,.int .i64 (i:Int)),(107,.slice H ni J),(108,.int .i64 (ni:Int)),(109,.int .i64 (q:Int)),(123,.bool Ir)]) (fun Ir=>[]) (fun Ir=>(Ir=(decide (0≤bC li[q].key l[i].key) && !put))∧True) pO ?_ ?_
    ·
     refine(dc) (fun Ub=>?_) (fun Ub=>?_)
     ·
      refine cj ?_;exact mS (!put) ⟨pO,⟨by rw [decide_eq_true (show 0≤bC li[q].key l[i].key by simp at Ub;omega)];rfl,trivial⟩⟩
     refine cj ?_;exact mS (false) ⟨pO,⟨by rw [decide_eq_false (show ¬0≤bC li[q].key l[i].key by simp at Ub;omega)];rfl,trivial⟩⟩
    rintro Ir IL lR ⟨Uc,_⟩;simp only [CA,NA] at lR Uc ⊢;refine nx ?_;have j3:=lR.p2;refine WC.jy (σ:=Bool × (List cv) × (Option Addr) × Nat × Nat) [_] (fun(X,s,g,d,j)=>[(1,.slice al nl f),(2,.pointer (some ⟨b2,0,none⟩)),(4,.pointer (some ⟨b4,0,none⟩)),(10,.pointer (some ⟨P,0,none⟩)),(11,.bool true),(13,.pointer (some ⟨U7,0,none⟩)),(17,.slice g d j),(18,.bool X),(20,.pointer (some ⟨b20,0,none⟩)),(21,.int .i64 (bC li[q].key l[i].key)),(70,.slice al nl f),(71,.int .i64 (nl:Int)),(72,.int .i64 (i:Int)),(107,.slice H ni J),(108,.int .i64 (ni:Int)),(109,.int .i64 (q:Int))]) (fun(X,s,g,d,j)=>[As.os RR.aC 78 4 g d j (s)]) (fun(X,s,g,d,j)=>(s++(if bC li[q].key l[i].key=0 then [] else [li[q]])++fU (⟨l[i].key,l[i].value,x.ad+1⟩:cv) (li.drop (q+1)) X=fU (⟨l[i].key,l[i].value,x.ad+1⟩:cv) li false)∧True) j3 ?_ ?_
    ·
     refine(aT) (fun FD=>?_) fun FD=>?_
     ·
      refine(hW) ao j3.b4<|(a8) fw j3.b4<|(a8) aN (bT.range (As.gb j3.g6))<|?_;refine WP .r (PV.bB (us:=(⟨l[i].key,l[i].value,x.ad+1⟩:cv).cells) MX rfl rfl rfl)<|?_;refine WL.go rfl (OX.aO (us:=(⟨l[i].key,l[i].value,x.ad+1⟩:cv).cells) EU rfl rfl rfl rfl fun apB LP ZC ZD=>?_);have S:=j3.cX ZC ZD;refine WL.ap rfl rfl S.p1 (SR.dd (A:=fun _=>True) (x:=(⟨l[i].key,l[i].value,x.ad+1⟩:cv)) (As.gb S.g0) trivial rfl (by simp [cv.cells,Value.oneCell']) rfl) fun ahh ZE PR ak1 ak2 oC=>?_;refine cq ?_;exact mS (true,acc++[(⟨l[i].key,l[i].value,x.ad+1⟩:cv)],ahh,(d+1),ZE) ⟨oC.p1.drop,⟨by have h2:(decide (0≤bC li[q].key l[i].key) && !put)=true:=(by rw [← Uc];simpa using FD);have h3:(put || decide (0≤bC li[q].key l[i].key))=true:=(by revert h2;cases put <;> simp);rw [if_pos h2,h3] at Ib;exact Ib,trivial⟩⟩
     refine nx ?_;exact mS (put,acc,g,d,j) ⟨j3,⟨by have h2:(decide (0≤bC li[q].key l[i].key) && !put)=false:=(by rw [← Uc];simpa using FD);have h3:(put || decide (0≤bC li[q].key l[i].key))=put:=(by revert h2;cases put <;> simp);rw [if_neg (by rw [h2];simp),h3,List.append_nil] at Ib;exact Ib,trivial⟩⟩
    rintro⟨X,s,g,d,j⟩ LP S ⟨wm,_⟩;simp only [CA,NA] at S wm ⊢
    have ak3:s.length≤li.length+1:=by have h1:=congrArg List.length wm;rw [List.length_append,List.length_append] at h1;have:=nA (⟨l[i].key,l[i].value,x.ad+1⟩:cv) li false;omega
    have ak4:=((As.gs S.g0)).len;refine(aT) (fun Lc=>?_) fun Lc=>?_
    ·
     simp at Lc
     refine(aZ) ks S.b1<|?_;refine WL.go rfl (OX.aO (us:=li[q].cells) EU rfl rfl rfl rfl fun apC PR ZF ZG=>?_);have oC:=S.cX ZF ZG;refine WL.ap rfl rfl oC.p1 (SR.dd (A:=fun _=>True) (x:=li[q]) (As.gb oC.g0) trivial rfl (by simp [cv.cells,Value.oneCell']) rfl) fun a139 ZH PT ak5 ak6 qT=>?_;refine gX ?_;refine eC (q+1,X,s++[li[q]],a139,(d+1),ZH) ⟨qT.p1.drop.p1.drop.p1.drop,⟨by omega,by rw [← wm,if_neg Lc],trivial⟩⟩
    simp at Lc
    refine ez ?_;refine eC (q+1,X,s,g,d,j) ⟨S.p1.drop.p1.drop,⟨by omega,by rw [← wm,if_pos Lc,List.append_nil],trivial⟩⟩
   simp at oy
   rw [List.drop_eq_nil_of_le (by omega)] at R;refine aX ?_;have B:=V;refine WC.jy (σ:=(List cv) × (Option Addr) × Nat × Nat) [_] (fun(s,g,d,j)=>[(1,.slice al nl f),(2,.pointer (some ⟨b2,0,none⟩)),(4,.pointer (some ⟨b4,0,none⟩)),(10,.pointer (some ⟨P,0,none⟩)),(11,.bool true),(17,.slice g d j),(70,.slice al nl f),(71,.int .i64 (nl:Int)),(72,.int .i64 (i:Int))]) (fun(s,g,d,j)=>[As.os RR.aC 78 4 g d j (s)]) (fun(s,g,d,j)=>(s=fU (⟨l[i].key,l[i].value,x.ad+1⟩:cv) li false)∧True) B ?_ ?_
   ·
    refine(aT) (fun Ud=>?_) fun Ud=>?_
    ·
     refine(hW) ao B.b2<|(a8) fw B.b2<|(a8) aN B.b4<|?_;refine WP .r (PV.bB (us:=(⟨l[i].key,l[i].value,x.ad+1⟩:cv).cells) MX rfl rfl rfl)<|?_;refine WL.go rfl (OX.aO (us:=(⟨l[i].key,l[i].value,x.ad+1⟩:cv).cells) EU rfl rfl rfl rfl fun apD yo ZI ZJ=>?_);have C:=B.cX ZI ZJ;refine WL.ap rfl rfl C.p1 (SR.dd (A:=fun _=>True) (x:=(⟨l[i].key,l[i].value,x.ad+1⟩:cv)) (As.gb C.g0) trivial rfl (by simp [cv.cells,Value.oneCell']) rfl) fun a152 ZK Fz ak7 ak8 W=>?_;refine bN ?_;exact mS (acc++[(⟨l[i].key,l[i].value,x.ad+1⟩:cv)],a152,(d+1),ZK) ⟨W.p1.drop,⟨by have hp:put=false:=(by simpa using Ud);rw [hp] at R;exact R,trivial⟩⟩
    refine nx ?_;exact mS (acc,g,d,j) ⟨B,⟨by have hp:put=true:=(by simpa using Ud);rw [hp] at R;exact(List.append_nil acc).symm.trans R,trivial⟩⟩
   rintro⟨s,g,d,j⟩ yo C ⟨Y,_⟩;simp only [CA,NA] at C Y ⊢;refine nx ?_;have ZA:=nA (⟨l[i].key,l[i].value,x.ad+1⟩:cv) li false;have ahe:=((As.gs C.g0)).len;rw [← Y] at ZA;have Ue:=St.fresh C;have W:=C.aY (by omega);have qL:=mU.trans (bH.dA (F:=fun x=>x∈aI g) Ue) (Nat.le_refl _);have oB:=W.p5.drop;refine cq ?_;refine WL.s1 oB.p4 fun Fz _ pO=>?_;refine ez ?_;refine eC (i+1,true,s,g,d,j,_) ⟨pO.p2.drop.p2.drop.p2.drop,⟨by omega,by rw [Y];exact hG.put GJ (by omega),by show s.length≤x.ab.length+(i+1);rw [Y];have:=nA (⟨l[i].key,l[i].value,x.ad+1⟩:cv) li false;omega,fun k hk=>by rw [Y,oh (hk _ (List.getElem_mem D))];exact hfi k hk,by rw [Y];exact MC hfc _ rfl,qL,by rw [Y];exact Lb.put D F5,trivial⟩⟩
  have ahd:=((As.gr z.g1)).len
  simp at LS
  refine aX ?_;refine(aT) (fun ahi=>?_) fun ahi=>?_
  ·
   refine(aZ) aM z.b3<|(cI) dL z.p6 fun oo ss7 hs7 o=>?_;refine fO ?_;refine EX.ey rfl (RS.cell aM rfl o.b0 rfl<|RS.tmp rfl<|RS.nil) rfl<|?_;exact⟨x,_,_,_,_,_,_,_,_,rfl,rfl,Int.le_refl _,FB,hx,h7a,by omega,.refl _ _,Lb.same (by omega) (by simp_all),fun _=>rfl,(As.gr o.g6),(As.gr o.g5),mU,(St.wk o.k0)⟩
  refine(a8) i6 z.b0<|(aT) (fun Uf=>?_) fun Uf=>?_
  ·
   refine(aZ) aM z.b3<|(cI) dL z.p6 fun oo ss8 hs8 o=>?_;refine fO ?_;refine EX.ey rfl (RS.cell aM rfl o.b0 rfl<|RS.tmp rfl<|RS.nil) rfl<|?_;exact absurd Uf (by have:=hG.len;simp;omega)
  refine(a8) aN z.b0<|(aT) (fun Oh=>?_) fun Oh=>?_
  ·
   refine(aZ) aM z.b3<|(cI) dL z.p6 fun oo ss9 Y7 o=>?_;refine fO ?_;refine EX.ey rfl (RS.cell aM rfl o.b0 rfl<|RS.tmp rfl<|RS.nil) rfl<|?_;exact⟨x,_,_,_,_,_,_,_,_,rfl,rfl,Int.le_refl _,FB,hx,h7a,by omega,.refl _ _,⟨fun c _ _ h=>by(simp at Oh;omega),fun _=>.inl rfl,fun _=>.inl rfl⟩,fun h=>by(simp at Oh;omega),(As.gr o.g6),(As.gr o.g5),mU,(St.wk o.k0)⟩
  refine(aZ) aM z.b0<|(cI) dL z.p6 fun oo ahj ahk o=>?_;refine cj ?_;refine EX.ey rfl (RS.cell aM rfl o.b0 rfl<|RS.tmp rfl<|RS.nil) rfl<|?_;exact⟨⟨x.ad+1,li,x.ah⟩,_,_,_,_,_,_,_,_,rfl,rfl,by show x.ad≤x.ad+1;omega,by simp at Oh;show x.ad+1≤_;omega,hG,by simp at Uf;show li.length≤64;omega,Int.le_refl _,⟨hfi,.inr ⟨rfl,hfc⟩⟩,Lb.done (by omega),fun _=>rfl,(As.gr o.g2),(As.gr o.g3),mU,(St.wk o.k0)⟩
 -- k9 eM C49
theorem qU{{x:cm}} {{l:List Change}} {{a1 a2 al:Option Addr}} {{n1 e1 n2 e2 nl f:Nat}} {{w:World}} {{M Z:Nat→Prop}} (h:St w M Z w []) (hi:Rd RR.aC 4 Z w a1 n1 e1 x.ab) (hr:Rd RR.ei 8 Z w a2 n2 e2 x.ah) (hl:Rd RR.bV 3 Z w al nl f l) (hb:jz x) (i:jA x.ad x.ab) (j:∀c∈l,c.small) (k:l.length≤32):Calls prog 16 #[.agg (x.row a1 n1 e1 a2 n2 e2).toArray,.slice al nl f] w fun e w'=>∃(y:cm) (b1 b2:Option Addr) (m1 d1 m2 d2:Nat) (d:Int) (Z':Nat→Prop),e=.returned (.tuple #[.agg (y.row b1 m1 d1 b2 m2 d2).toArray,.int .i64 d])∧y.ah=x.ah∧x.ad≤y.ad∧y.ad≤1073741824∧jA y.ad y.ab∧y.ab.length≤64∧y.ad≤x.ad+1∧Wj x l y∧(x.ad+1≤1073741824→d=0)∧Rd RR.aC 4 Z' w' b1 m1 d1 y.ab∧Rd RR.ei 8 Z' w' b2 m2 d2 y.ah∧bH w.heap.size Z Z'∧St w M Z' w' []:=
 (mr h hi hr hl hb i j k).mono fun _ _ ⟨y,b1,b2,m1,d1,m2,d2,d,Z',g1,g2,g3,g4,g5,g6,g7,g8,_,g⟩=>⟨y,b1,b2,m1,d1,m2,d2,d,Z',g1,g2,g3,g4,g5,g6,g7,g8,g⟩
set_option maxHeartbeats 400000
theorem Dh(hl:Rd RR.key 2 Z w a n c l) (hm:Rd RR.key 2 Z2 w b m e q):CR prog 13 #[.slice a n c,.slice b m e] w (.bool (decide (l=q))):=by
 have v:=hl.len;have y:=hm.len;have hle:=hl.le;refine enter func13 rfl ntmps13 rfl<|?_;have aP:=St.s0 w;refine aX ?_;refine(aT) (fun g11=>?_) fun g11=>?_
 ·
  simp at g11
  refine(bw) ?_;exact⟨by rw [decide_eq_false fun h=>g11 (by rw [v,y,h])],(St.cg aP)⟩
 simp at g11
 refine kE ?_;refine WC.bq (σ:=Nat) (dn:=fun i=>[(1,.slice b m e),(12,.slice a n c),(13,.int .i64 (n:Int)),(14,.int .i64 (i:Int))]) (F:=fun i=>[]) (I:=fun i=>(i≤n)∧(l.take i=q.take i)∧True) (μ:=fun i=>n - i) (0) (aP) Sub.t (⟨by omega,by simp,trivial⟩)<|?_;rintro i w1 st1 ⟨hi,d,_⟩;simp only [CA,NA] at st1 hi d ⊢;refine(aT) (fun g15=>?_) fun g15=>?_
 ·
  simp at g15
  have j:i<l.length:=by omega
  have k:i<q.length:=by omega
  obtain⟨G,H,J,z,K,f,A,L⟩:=Rd.at hl j;have f:=RR.ba f;subst f;obtain⟨N,O,P,B,Q,g,C,R⟩:=Rd.at hm k;have g:=RR.ba g;subst g;refine ez ?_;refine WP .r (PV.dQ et z rfl rfl (by omega))<|(aZ) ao (aW A (St.cg st1) (by simp))<|(eW) st1 fun S w2 T U st2=>?_;refine(cI) hP st2 fun w3 V W o=>?_;refine cq ?_;have X:=o.bO;refine WC.dS (m:=5) o mixed<|bN ?_;refine DP .r (fun _ s=>PV.dQ et B rfl rfl (by omega))<|DP .r (fun _ s=>VA ao (aW C (St.cg s.2) (by simp)) .r)<|(gM) ao St.g0<|(cQ)<|?_;rintro w4 ⟨Y,u⟩ _;refine WP .r (PV.Lv fK (p:=q[i]) (q:=l[i]) rfl rfl)<|(aT) (fun g24=>?_) fun g24=>?_
  ·
   simp at g24
   refine(bw) ?_;exact⟨by rw [decide_eq_false fun h=>g24 (by subst h;rfl)],(St.cg u)⟩
  simp at g24
  have D:=g24.symm;refine ez ?_;refine eC (i+1) ⟨u.drop,⟨by omega,by rw [List.take_succ_eq_append_getElem j,List.take_succ_eq_append_getElem k,d,D],trivial⟩⟩
 simp at g15
 refine(bw) ?_;exact⟨by rw [decide_eq_true];have h1:l.take i=l:=List.take_of_length_le (by omega);have E:q.take i=q:=List.take_of_length_le (by omega);rw [← h1,← E];exact d,(St.cg st1)⟩
theorem nW(hl:Rd RR.key 2 Z w a n c l) (hm:Rd RR.key 2 Z2 w b m e q) (h:l=q):CR prog 13 #[.slice a n c,.slice b m e] w (.bool true):=by
 have:=Dh hl hm
 rwa [decide_eq_true h] at this
set_option maxHeartbeats 400000
theorem An(y:St w M Z w []):Calls prog 15 #[] w fun e w'=>∃(a:Option Addr) (n c:Nat) (Z':Nat→Prop),e=.returned (.slice a n c)∧Rd RR.eX 4 Z' w' a n c H2∧bH w.heap.size Z Z'∧St w M Z' w' []:=by
 refine enter func15 rfl ntmps15 rfl<|?_;have aP:=St.rb y;refine ez ?_;refine WP .r (PV.bB (us:=[.bool true,.bool false,.int .i64 0,.int .i64 0]) Kj rfl rfl rfl)<|?_;refine WL.go rfl (OX.aO (us:=[.bool true,.bool false,.int .i64 0,.int .i64 0]) Kh rfl rfl rfl rfl fun b2 w1 j z=>?_);have st1:=St.pf (R:=RR.ask) (E:=81) (k:=4) (a:=some ⟨b2,0,none⟩) (n:=1) (c:=1) (xs:=[(⟨true,false,0,0⟩:Ask)]) aP j.ext (OR.dd z (Nat.zero_le _) rfl (by simp [Value.oneCell']) rfl) (fun x d=>by simp [aI] at d;subst d;exact j.ge);refine WP .r (PV.bB (us:=[.bool false,.slice (some ⟨b2,0,none⟩) 1 1,.int .i64 2,.int .i64 0]) MY rfl rfl rfl)<|WP .r (PV.bB (us:=[.bool false,.bool false,.int .i64 0,.int .i64 0]) Kj rfl rfl rfl)<|WP .r (PV.bB (us:=[.bool true,.bool false,.int .i64 1,.int .i64 0]) Kj rfl rfl rfl)<|?_;refine WL.go rfl (OX.aO (us:=([.bool false,.bool false,.int .i64 0,.int .i64 0]++[.bool true,.bool false,.int .i64 1,.int .i64 0])) RZ rfl rfl rfl rfl fun f w2 o A=>?_);have st2:=St.pf (R:=RR.ask) (E:=81) (k:=4) (a:=some ⟨f,0,none⟩) (n:=2) (c:=2) (xs:=[(⟨false,false,0,0⟩:Ask),⟨true,false,1,0⟩]) st1 o.ext (OR.QU (r:=[.bool false,.bool false,.int .i64 0,.int .i64 0]) (s:=[.bool true,.bool false,.int .i64 1,.int .i64 0]) A (Nat.zero_le _) rfl rfl (by simp [Value.oneCell']) rfl rfl) (fun x d=>by simp [aI] at d;subst d;exact o.ge);refine WP .r (PV.bB (us:=[.bool false,.slice (some ⟨f,0,none⟩) 2 2,.int .i64 1,.int .i64 0]) MY rfl rfl rfl)<|?_;refine WL.go rfl (OX.aO (us:=([.bool false,.slice (some ⟨b2,0,none⟩) 1 1,.int .i64 2,.int .i64 0]++[.bool false,.slice (some ⟨f,0,none⟩) 2 2,.int .i64 1,.int .i64 0])) RX rfl rfl rfl rfl fun i w3 C D=>?_);have p:=st2.cX C D;refine bN ?_;have F:=St.fresh p.p2;have t:=p.p2.aY (by simp);have G:=St.fresh t.p2;have H:=t.p2.aY (by simp);have g:=H.p2;have u:=g.conv (B:=As.os RR.eX 84 4 (some ⟨i,0,none⟩) 2 2 H2) (OR.QU (As.gb g.g0) (Nat.zero_le _) rfl rfl (by simp [Value.oneCell']) ⟨some ⟨b2,0,none⟩,1,1,rfl,(As.gr g.g2)⟩ ⟨some ⟨f,0,none⟩,2,2,rfl,(As.gr g.g1)⟩) (fun x h=>by show x=i;change x∈aI (some ⟨i,0,none⟩) at h;simpa [aI] using h);have I:=St.fresh u;have v:=u.aY (by decide);refine(bw) ?_;exact⟨_,_,_,_,rfl,(As.gr v.g0),((bH.dA F).trans (bH.dA G) (Nat.le_refl _)).trans (bH.dA I) (Nat.le_refl _),(St.wk v.k0)⟩
set_option maxHeartbeats 4000000 in
theorem o7(gE:St w M Z w []) (ht:lE prog Z w):Calls prog 6 #[] w fun e w'=>∃Z':Nat→Prop,e=.returned (.bool true)∧St w M Z' w' []:=by
 have g:∀k∈[K1],dX H2 k:=fun k hk=>by rw [List.mem_singleton.1 hk];exact EJ
 refine enter func6 rfl ntmps6 rfl<|?_;have aP:=gE;have st1:=aP.fact (B:=As.fz (FZ.Js prog)) ht (fun _ o=>o);refine ez ?_;have st2:=st1;refine(bX) adD (An st2.e0) ?_;rintro _ w1 ⟨ra,rn,rc,Zh,rfl,Gv,hZh,Ug⟩;have iV:=St.lv st2 Ug hZh;have iq:=iV.fr (Gv);refine de ?_;refine WP .r (PV.bB (us:=((⟨0,[],[]⟩:cm).row none 0 0 none 0 0)) WN rfl rfl rfl)<|(eN) (gT (n:=0)) iq fun w2 s2 i7=>?_;refine WP .r (PV.bB (us:=(⟨C0,z4⟩:Change).cells) R1 rfl rfl rfl)<|?_;refine WL.go rfl (OX.aO (us:=(⟨C0,z4⟩:Change).cells) EV rfl rfl rfl rfl fun U9 w3 W N2=>?_);have iE:=St.pf (R:=RR.bV) (E:=49) (k:=3) (a:=some ⟨U9,0,none⟩) (n:=1) (c:=1) (xs:=[(⟨C0,z4⟩:Change)]) i7 W.ext (OR.dd N2 (Nat.zero_le _) rfl (by simp [Change.cells,Value.oneCell']) rfl) (fun x o=>by simp [aI] at o;subst o;exact W.ge);have hJ:=iE.aY (by simp);have G:=hJ;refine(bX) ND (mr (x:=⟨0,[],[]⟩) (l:=[(⟨C0,z4⟩:Change)]) G.e0 (Rd.nil _ _ _ _) (Rd.nil _ _ _ _) (As.gr G.g0) MM (jA.nil _) smA (by simp)) ?_;rintro _ w4 ⟨y,ya1,ya2,apG,apH,apI,apJ,apK,yaZ,rfl,apL,apM,apN,ahl,apO,apP,apQ,ahm,apR,ahn,aho,ahp,oz⟩;have iH:=St.lv G oz ahp;obtain rfl:=aoA ahm;have p:=LC.nil H2 (⟨1,iA,[]⟩:cm) rfl (by decide) (by decide) ahl (by simp);have eD:=iH.fr (ahn);have di:=eD.fr (aho);refine(eW) di fun b2 w5 TL wo cY=>?_;refine(cI) dL cY fun w6 jS jZ dm=>?_;refine cj ?_;refine WC.bL (m:=10) [8,9] [3,4,5] [2,3,4,0,1,5,6,7,8,9] [] dm (ai.k4 M0 M1 M2 M3<|ai.cons M4<|ai.cons M5<|ai.nil) mixed (by kernel_rfl) (by kernel_rfl) rfl<|(fM) (fun w7 H I J K=>?_);simp only [CA,NA] at J;refine OX.call zx rfl rfl ((gU (n:=1) (aa:=H2) (As.gr J.g4)).mono ?_);rintro _ w8 ⟨rfl,X⟩;have ed:=J.step X;refine⟨_,rfl,X.size,_,rfl,_,_,_,ed,aw.k4<|aw.k2<|aw.nil,ai.k4 M0 M1 M2 M3<|ai.cons M4<|ai.cons M5<|ai.nil,?_⟩;refine(fM) (fun w9 Y vI gx lQ=>?_);simp only [CA,NA] at gx;refine OX.aO (us:=K1.cells) dx rfl rfl rfl rfl fun L iS ZL ahq=>?_;have ew:=gx.cX ZL ahq;have eb:=ew;have dG:=eb.conv (B:=As.os RR.key 40 2 (some ⟨L,0,none⟩) 1 1 [K1]) (OR.dd (As.gb eb.g0) (Nat.zero_le _) rfl (by simp [Key.cells,Value.oneCell']) rfl) (fun x h=>by show x=L;change x∈aI (some ⟨L,0,none⟩) at h;simpa [aI] using h);have dP:=dG.aY (by simp);refine⟨ZL.ext.size,_,rfl,_,_,_,dP,aw.k4<|aw.k2<|aw.cons<|aw.nil,ai.k4 M1 M2 M3 M4<|ai.cons M5<|ai.cons M6<|ai.nil,?_⟩;refine(lx) aM SV.g0<|(fM) (fun iX G2 qR fA jF=>?_);simp only [CA,NA] at fA;have d:=fA;refine OX.call HS rfl rfl ((fh (x:=(⟨1,iA,[]⟩:cm)) (goals:=[K1]) d.e0 (As.gf d.g6) (As.gr d.g5) (As.gr d.g3) (As.gr d.g2) (As.gr d.g0) jR p g (by simp)).mono ?_);rintro _ ly ⟨v,ahr,rs3,p31,p32,p33,j31,k31,j32,k32,j33,k33,Z3x,rfl,N,ahs,La,ZM,Oi,Uh,nP⟩;have z:=St.lv d nP Uh;obtain⟨i,SH,KI,hw3,PZ⟩:=N.done jR p g;have ZN:az v K1=true:=(La K1 (List.mem_singleton.2 rfl)).resolve_left (by rw [J5];simp);have Le:=i.lb.ok.fH.len;have Le:v.ah.length≤4000:=Le;have Ui:=i.lb.ok.nB;obtain⟨_,_,_,aht,_⟩:=N.ready jR p g;have ahu:=Oi.length_eq;have ahv:=((As.gs z.g0)).len;have Uj:=((As.gs z.g1)).len;have ZO:=((As.gs z.g2)).len;obtain⟨hh1,hh2⟩:=MO p rfl N ZN
 obtain rfl:j33=2:=by omega
 have fB:=z.aY (by omega);have ee:=fB.p1.aY (by omega);have eP:=ee.p2.aY (by omega);refine⟨_,rfl,nP.bV.size,_,rfl,_,_,_,eP,aw.k4<|aw.k4<|aw.k2<|aw.nil,ai.k4 M4 M5 M6 M7<|ai.cons M8<|ai.cons M9<|ai.nil,?_⟩
 iterate 4 refine DG.a ?_
 refine(jm) ?_;intro oo pJ dM;simp only [CM,NM,CA,NA,hV.it] at dM;refine(cI) dL dM.p4 fun r7 re mz fD=>?_;refine bN ?_;refine WL.nil (EX.np ?_);refine bN ?_;refine WC.bL (m:=9) [7] [1,3,4] [1,2,3,0,4,5,6,7,8] [(8,.blk 31 [.int .i64 0,.slice none 0 0,.slice none 0 0])] fD (ai.k4 M0 M1 M2 M3<|ai.k4 M4 M5 M6 M7<|ai.cons M8<|ai.cons M9<|ai.nil) mixed (by kernel_rfl) (by kernel_rfl) rfl<|(fM) (fun pU R1x Za kA PQ=>?_);simp only [CA,NA] at kA;refine OX.call HT rfl rfl ((gT (n:=0)).mono ?_);rintro _ tE ⟨rfl,S3⟩;have lq:=kA.step S3;refine⟨_,rfl,S3.size,_,rfl,_,_,_,lq,aw.k4<|aw.k4<|aw.k2<|aw.nil,ai.k4 M0 M1 M2 M3<|ai.k4 M4 M5 M6 M7<|ai.cons M8<|ai.cons M9<|ai.nil,?_⟩;refine DQ .r (fun wx Zx Rx _ pN wu=>PV.bB (us:=(⟨C0,z5⟩:Change).cells) R1 rfl rfl rfl)<|(fM) (fun zI H I oD K=>?_);simp only [CA,NA] at oD;refine OX.aO (us:=(⟨C0,z5⟩:Change).cells) EV rfl rfl rfl rfl fun O yo ZP ahw=>?_;have oE:=oD.cX ZP ahw;have oB:=oE;have pO:=oB.conv (B:=As.os RR.bV 49 3 (some ⟨O,0,none⟩) 1 1 [(⟨C0,z5⟩:Change)]) (OR.dd (As.gb oB.g0) (Nat.zero_le _) rfl (by simp [Change.cells,Value.oneCell']) rfl) (fun x h=>by show x=O;change x∈aI (some ⟨O,0,none⟩) at h;simpa [aI] using h);have lR:=pO.aY (by simp);refine⟨ZP.ext.size,_,rfl,_,_,_,lR,aw.k4<|aw.k4<|aw.k2<|aw.cons<|aw.nil,ai.k4 M1 M2 M3 M4<|ai.k4 M5 M6 M7 M8<|ai.cons M9<|ai.cons gN<|ai.nil,?_⟩;refine(lx) aM SV.g0<|(fM) (fun Fz Y vI j3 lQ=>?_);simp only [CA,NA] at j3;have j:=j3;refine OX.call ND rfl rfl ((mr (x:=v) (l:=[(⟨C0,z5⟩:Change)]) j.e0 (As.gr j.g4) (As.gr j.g3) (As.gr j.g0) i.lb.ok.jz i.lb.aC smQ (by simp)).mono ?_);rintro _ Ih ⟨y,yb1,yb2,ap4,ap5,ap6,ap7,ap8,ybZ,rfl,ahx,ahy,ahz,ahA,ahB,ap9,ahC,ahD,aqa,ahE,ahF,ahG,vJ⟩;have oC:=St.lv j vJ ahG;have C:=i.apply ahC ahx ahy ahz ahA ahB;obtain rfl:=aoB SH KI ahD;have qT:=oC.fr (ahE);have tH:=qT.fr (ahF);refine⟨_,rfl,vJ.bV.size,_,rfl,_,_,_,tH,aw.k4<|aw.k4<|aw.k4<|aw.cons<|aw.nil,ai.k4 M3 M4 M5 M6<|ai.k4 M7 M8 M9 gN<|ai.cons hU<|ai.cons jG<|ai.nil,?_⟩
 iterate 3 refine DG.a ?_
 refine DG.side (s:=.blk 31 [.int .i64 0,.slice none 0 0,.slice none 0 0]) rfl rfl rfl rfl rfl rfl (fun wx Zx Rx pV pN=>OX.alloc Na rfl fun b wy nw hb=>⟨nw.ext.size,_,rfl,⟨b,rfl⟩,pN.cX nw hb⟩)<|?_;rintro _ ⟨b6,rfl⟩;refine(jm) ?_;intro IL r8 iY;simp only [CM,NM,CA,NA,hV.it] at iY;refine(cI) dL iY fun LP zB sw Is=>?_;refine nx ?_;refine WL.nil (EX.np ?_);refine bN ?_;refine WC.bL (m:=10) [8,9] [3,4,5] [2,3,4,0,1,5,6,7,8,9] [] Is (ai.k4 M0 M1 M2 M3<|ai.k4 M4 M5 M6 M7<|ai.k4 M8 M9 gN hU<|ai.cons jG<|ai.cons mu<|ai.nil) mixed (by kernel_rfl) (by kernel_rfl) rfl<|(fM) (fun PR H I P K=>?_);simp only [CA,NA] at P;refine OX.call zx rfl rfl ((gU (n:=1) (aa:=H2) (As.gr P.g12)).mono ?_);rintro _ PT ⟨rfl,s24⟩;have lT:=P.step s24;refine⟨_,rfl,s24.size,_,rfl,_,_,_,lT,aw.k4<|aw.k4<|aw.k4<|aw.k2<|aw.nil,ai.k4 M0 M1 M2 M3<|ai.k4 M4 M5 M6 M7<|ai.k4 M8 M9 gN hU<|ai.cons jG<|ai.cons mu<|ai.nil,?_⟩;refine(fM) (fun Vd Y vI jl lQ=>?_);simp only [CA,NA] at jl;refine OX.aO (us:=K1.cells) dx rfl rfl rfl rfl fun Q w26 NJ SE=>?_;have F6:=jl.cX NJ SE;have pP:=F6;have nX:=pP.conv (B:=As.os RR.key 40 2 (some ⟨Q,0,none⟩) 1 1 [K1]) (OR.dd (As.gb pP.g0) (Nat.zero_le _) rfl (by simp [Key.cells,Value.oneCell']) rfl) (fun x h=>by show x=Q;change x∈aI (some ⟨Q,0,none⟩) at h;simpa [aI] using h);have pQ:=nX.aY (by simp);refine⟨NJ.ext.size,_,rfl,_,_,_,pQ,aw.k4<|aw.k4<|aw.k4<|aw.k2<|aw.cons<|aw.nil,ai.k4 M1 M2 M3 M4<|ai.k4 M5 M6 M7 M8<|ai.k4 M9 gN hU jG<|ai.cons mu<|ai.cons tJ<|ai.nil,?_⟩;refine(lx) aM SV.g0<|(fM) (fun w27 G2 qR qV jF=>?_);simp only [CA,NA] at qV;have f:=qV;refine OX.call HS rfl rfl ((fh (x:=(⟨2,iB,v.ah⟩:cm)) (goals:=[K1]) f.e0 (As.gf f.g14) (As.gr f.g13) (As.gr f.g3) (As.gr f.g2) (As.gr f.g0) jR C g (by simp)).mono ?_);rintro _ w28 ⟨b5x,aqb,rs5,p51,p52,p53,j51,k51,j52,k52,j53,k53,Z5x,rfl,S,aqc,ahK,aqd,ZQ,ahL,P0⟩;have D:=St.lv f P0 ahL;obtain⟨lc5,LN,NV,hw5,ale⟩:=S.done jR C g;have ahM:az b5x K1=true:=(ahK K1 (List.mem_singleton.2 rfl)).resolve_left (by rw [J5];simp);have ZR:=lc5.lb.ok.fH.len;have ZR:b5x.ah.length≤4000:=ZR;have aqe:=lc5.lb.ok.nB;obtain⟨_,_,_,aqf,_⟩:=S.ready jR C g;have aqg:=ZQ.length_eq;have aqh:=((As.gs D.g0)).len;have ahN:=((As.gs D.g1)).len;have aqi:=((As.gs D.g2)).len;obtain⟨hrs,B5,DA⟩:=MP i KI hh2 ZN PZ C rfl S ahM ZQ;subst hrs;have Ao:=D.aY (by omega);have qW:=Ao.p1.aY (by omega);have xf:=qW.p2.aY (by omega);refine⟨_,rfl,P0.bV.size,_,rfl,_,_,_,xf,aw.k4<|aw.k4<|aw.k4<|aw.k4<|aw.k2<|aw.nil,ai.k4 M4 M5 M6 M7<|ai.k4 M8 M9 gN hU<|ai.k4 jG mu tJ DJ<|ai.cons Iu<|ai.cons Qk<|ai.nil,?_⟩
 iterate 4 refine DG.a ?_
 refine(jm) ?_;intro w29 vO xg;simp only [CM,NM,CA,NA,hV.it] at xg;refine(cI) dL xg.p4 fun w30 LI LJ Lf=>?_;refine bN ?_;refine WL.nil (EX.np ?_);refine bN ?_;refine WC.bL (m:=7) [6] [2,3] [1,2,0,3,4,5,6] [] Lf (ai.k4 M0 M1 M2 M3<|ai.k4 M4 M5 M6 M7<|ai.k4 M8 M9 gN hU<|ai.k4 jG mu tJ DJ<|ai.cons Iu<|ai.cons Qk<|ai.nil) mixed (by kernel_rfl) (by kernel_rfl) rfl<|(fM) (fun w31 Oa Aa T qQ=>?_);simp only [CA,NA] at T;refine OX.call zx rfl rfl ((gU (n:=1) (aa:=H2) (As.gr T.g16)).mono ?_);rintro _ w32 ⟨rfl,s32⟩;have xh:=T.step s32;refine⟨_,rfl,s32.size,_,rfl,_,_,_,xh,aw.k4<|aw.k4<|aw.k4<|aw.k4<|aw.k2<|aw.nil,ai.k4 M0 M1 M2 M3<|ai.k4 M4 M5 M6 M7<|ai.k4 M8 M9 gN hU<|ai.k4 jG mu tJ DJ<|ai.cons Iu<|ai.cons Qk<|ai.nil,?_⟩;refine(lx) aM SV.g0<|(fM) (fun w33 H I Oj K=>?_);simp only [CA,NA] at Oj;have F:=Oj;refine OX.call adE rfl rfl ((xd (k:=K1) F.e0 (As.gr F.g3) (As.gr F.g2)).mono ?_);rintro _ w34 ⟨rfl,P1⟩;have ahO:=St.lr F P1;rw [B5,DA];refine⟨_,rfl,P1.bV.size,_,rfl,_,_,_,ahO,aw.k4<|aw.k4<|aw.k4<|aw.k4<|aw.k2<|aw.nil,ai.k4 M0 M1 M2 M3<|ai.k4 M4 M5 M6 M7<|ai.k4 M8 M9 gN hU<|ai.k4 jG mu tJ DJ<|ai.cons Iu<|ai.cons Qk<|ai.nil,?_⟩
 iterate 3 refine DG.a ?_
 refine(jm) ?_;intro w35 qH U;simp only [CM,NM,CA,NA,hV.it] at U;refine bN ?_;refine WL.nil (EX.np ?_);refine fO ?_;refine WL.cS (t:=58) rfl (fun g58=>?_) (fun g58=>?_)
 ·
  refine cj ?_;refine WL.cS (t:=62) rfl (fun SA=>?_) (fun SA=>?_)
  ·
   refine de ?_;refine WL.cS (t:=67) rfl (fun Vi=>?_) (fun Vi=>?_)
   ·
    refine bN ?_;refine WL.c1 (u:=K0.val) (gU (n:=0) (aa:=H2) (As.gr U.g16)) (by rw [show aL H2 0=K0 from qv]) U fun w36 s36 Ol=>?_;refine WL.go rfl (OX.aO (us:=K0.cells) dx rfl rfl rfl rfl fun b71 w37 S8 NT=>?_);have V:=Ol.cX S8 NT;refine(eN) (nW (As.gr V.g2) (SR.dd (A:=fun _=>True) (x:=K0) (As.gb V.g0) trivial rfl (by simp [Key.cells,Value.oneCell']) rfl) rfl) V fun w38 s38 Uk=>?_;refine fO ?_;refine WL.cS (t:=78) rfl (fun g78=>?_) (fun g78=>?_)
    ·
     refine(bw) ?_;exact⟨_,rfl,Uk.k0⟩
    exact dz g78
   exact dz Vi
  exact dz SA
 ·
  exact dz g58
 -- k9 eM G74
set_option maxHeartbeats 400000
theorem ipT:IpT prog 78:=Rk (fun a b s t w=>MN underlying40 rfl rfl rfl rfl (by decide) (by decide) underlying3 underlying9 isAgg3 isAgg9 (by kernel_rfl) 9997 a b s t w) underlying78 rfl rfl rfl rfl rfl rfl (by decide) (by decide) (by decide) underlying9 underlying3 isAgg40 sizeOf40 isAgg9 isAgg3 (by kernel_rfl) (by kernel_rfl)
theorem vY{r:Rec}(hl:Rd RR.key 2 Z w a n c r.reads) (hm:Rd RR.key 2 Z2 w b m e r.reads):CR prog 71 #[.agg (r.row a n c).toArray,.agg (r.row b m e).toArray] w (.bool true):=by
 refine enter func71 rfl ntmps71 rfl<|?_;have aP:=St.s0 w;refine(dy) aP fun b2 w1 f g st1=>?_;refine(dy) st1 fun b3 w2 h i st2=>?_;refine(hW) ao st2.b1<|(hW) ao st2.b0<|?_;refine WP .r ((PV.DV fK (p:=r.key) (q:=r.key) rfl rfl).cast (v':=.bool true) (congrArg Value.bool (decide_eq_true rfl)))<|(a8) fw st2.b1<|(a8) fw st2.b0<|?_;refine WP .r ((PV.eqs rfl rfl).cast (v':=.bool true) (congrArg Value.bool (decide_eq_true rfl)))<|(a8) dE st2.b1<|(a8) dE st2.b0<|(eN) (nW (hl.ext (St.cg st2)) (hm.ext (St.cg st2)) rfl) st2 fun w3 j d=>?_;refine(a8) aN d.b1<|(a8) aN d.b0<|?_;refine WP .r ((PV.IU rfl rfl).cast (v':=.bool true) (congrArg Value.bool (decide_eq_true rfl)))<|(a8) aN d.b1<|(a8) aN d.b0<|?_;refine WP .r ((PV.IU rfl rfl).cast (v':=.bool true) (congrArg Value.bool (decide_eq_true rfl)))<|(a8) aN d.b1<|(a8) aN d.b0<|?_;refine WP .r ((PV.IU rfl rfl).cast (v':=.bool true) (congrArg Value.bool (decide_eq_true rfl)))<|(a8) dH d.b1<|(a8) dH d.b0<|?_;refine WP .r ((PV.eqB adx rfl rfl).cast (v':=.bool true) (congrArg Value.bool (decide_eq_true rfl)))<|(bw) ?_;exact⟨rfl,(St.cg d)⟩
 -- k o s t u v y z
theorem xi{l:List Rec}(hl:Rd RR.ei 8 Z w a n c l) (hm:Rd RR.ei 8 Z2 w b m e l):CR prog 33 #[.slice a n c,.slice b m e] w (.bool true):=by
 have j:=hl.len;have k:=hm.len;have hle:=hl.le;refine enter func33 rfl ntmps33 rfl<|?_;have aP:=St.s0 w;refine aX ?_;refine(aT) (fun g11=>?_) fun g11=>?_
 ·
  exact absurd (congrArg Nat.cast (j.trans k.symm)) (by simpa using g11)
 ·
  skip
  refine kE ?_;refine WC.bq (σ:=Nat) (dn:=fun i=>[(1,.slice b m e),(12,.slice a n c),(13,.int .i64 (n:Int)),(14,.int .i64 (i:Int))]) (F:=fun i=>[]) (I:=fun i=>(i≤n)∧True) (μ:=fun i=>n - i) (0) (aP) Sub.t (⟨by omega,trivial⟩)<|?_;rintro i w1 st1 ⟨hi,_⟩;simp only [CA,NA] at st1 hi ⊢;refine(aT) (fun g15=>?_) fun g15=>?_
  ·
   simp at g15
   have f:i<l.length:=by omega
   obtain⟨C,D,E,o,G,p,s,H⟩:=Rd.at hl f;obtain⟨p1,p2,p3,rfl,u,J⟩:=p;obtain⟨K,L,N,v,O,y,z,P⟩:=Rd.at hm f;obtain⟨q1,Q,R,rfl,A,S⟩:=y;refine ez ?_;refine WP .r (PV.dQ iG o rfl rfl (by omega))<|(aZ) cV (aW s (St.cg st1) (by simp))<|(eW) st1 fun T w2 U V st2=>?_;refine(cI) fY st2 fun w3 W X g=>?_;refine cq ?_;have Y:=g.bO;refine WC.dS (m:=5) g mixed<|(gM) cV St.g0<|bN ?_;refine DP .r (fun _ h=>PV.dQ iG v rfl rfl (by omega))<|DP .r (fun _ h=>VA cV (aW z (St.cg h.2) (by simp)) .r)<|(cQ)<|?_;rintro w4 ⟨qH,d⟩ _;refine(eN) (vY (u.ext (St.cg d)) (A.ext (St.cg d))) d fun w5 s5 B=>?_;refine cq ?_;refine WC.fi rfl<|ez ?_;refine eC (i+1) ⟨B.drop,⟨by omega,trivial⟩⟩
  skip
  refine(bw) ?_;exact⟨rfl,(St.cg st1)⟩
 -- k9 eM C25
theorem xj{b1 b2:Option Addr}{m1 d1 m2 d2:Nat}(hi:Rd RR.aC 4 Z w a1 n1 e1 x.ab) (hr:Rd RR.ei 8 Z w a2 n2 e2 x.ah) (j:Rd RR.aC 4 Z2 w b1 m1 d1 x.ab) (kr:Rd RR.ei 8 Z2 w b2 m2 d2 x.ah):CR prog 12 #[.agg (x.row a1 n1 e1 a2 n2 e2).toArray,.agg (x.row b1 m1 d1 b2 m2 d2).toArray] w (.bool true):=by
 have H:=hi.len;have J:=j.len;have hle:=hi.le
 have y:(n1:Int)=(m1:Int):=by omega
 refine enter func12 rfl ntmps12 rfl<|?_;have aP:=St.s0 w;refine(dy) aP fun b2 w1 K L st1=>?_;refine(dy) st1 fun b3 w2 N O st2=>?_;refine(a8) aN st2.b1<|(a8) aN st2.b0<|?_;refine WP .r ((PV.Vr rfl rfl).cast (v':=.bool false) (congrArg Value.bool (decide_eq_false fun h=>h rfl)))<|(a8) i6 st2.b1<|(a8) i6 st2.b0<|nx ?_;refine WP .r ((PV.Vr rfl rfl).cast (v':=.bool false) (congrArg Value.bool (decide_eq_false fun h=>h y)))<|(a8) dD st2.b1<|(a8) dD st2.b0<|(eN) (xi (hr.ext (St.cg st2)) (kr.ext (St.cg st2))) st2 fun w3 P k=>?_;refine cj ?_;refine WC.fi rfl<|(a8) i6 k.b1<|de ?_;refine WC.bq (σ:=Nat) (dn:=fun i=>[(3,.pointer (some ⟨b3,0,none⟩)),(30,.slice a1 n1 e1),(31,.int .i64 (n1:Int)),(32,.int .i64 (i:Int))]) (F:=fun i=>[]) (I:=fun i=>(i≤n1)∧True) (μ:=fun i=>n1 - i) (0) (k) Sub.t (⟨by omega,trivial⟩)<|?_;rintro i w4 d ⟨z,_⟩;simp only [CA,NA] at d z ⊢;refine(aT) (fun o=>?_) fun o=>?_
 ·
  simp at o
  have s:i<x.ab.length:=by omega
  obtain⟨Q,R,S,A,T,f,B,U⟩:=Rd.at hi s;have f:=RR.ba f;subst f;obtain⟨V,W,X,C,Y,g,D,aqp⟩:=Rd.at j s;have g:=RR.ba g;subst g;refine ez ?_;refine WP .r (PV.dQ qC A rfl rfl (by omega))<|(aZ) ks (aW B (St.cg d) (by simp))<|(eW) d fun b6 w5 DD IF E=>?_;refine(cI) zs E fun w6 jS jZ u=>?_;refine cq ?_;have PF:=u.bO;refine WC.dS (m:=6) u mixed<|(iu) i6 St.g1<|nx ?_;refine DP .r (fun _ v=>PV.dQ qC C rfl rfl (by omega))<|DP .r (fun _ v=>VA ks (aW D (St.cg v.2) (by simp)) .r)<|(gM) ks St.g0<|(cQ)<|?_;rintro w7 ⟨qH,G⟩ _;refine WP .r (PV.ac9 ipT (p:=x.ab[i]) rfl rfl)<|bN ?_;refine WC.fi rfl<|ez ?_;refine eC (i+1) ⟨G.drop,⟨by omega,trivial⟩⟩
 ·
  skip
  refine(bw) ?_;exact⟨rfl,(St.cg d)⟩
 -- k9 eM C28 C43 G12 G21
end Go.Rc

