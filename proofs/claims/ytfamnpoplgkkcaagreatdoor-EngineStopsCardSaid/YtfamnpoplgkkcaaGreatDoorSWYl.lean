/- Walks over the program, part WYl. Conditions: as each theorem says. -/
import Derived.Test.YtfamnpoplgkkcaaGreatDoorSFacts
import Derived.Test.YtfamnpoplgkkcaaGreatDoorSWZl
import Derived.Test.YtfamnpoplgkkcaaGreatDoorSWF
import Derived.Test.YtfamnpoplgkkcaaGreatDoorSBf
import Derived.Test.YtfamnpoplgkkcaaGreatDoorSBh
import Derived.Test.YtfamnpoplgkkcaaGreatDoorSWYk
import Derived.Test.YtfamnpoplgkkcaaGreatDoorSWUa
import Derived.Test.YtfamnpoplgkkcaaGreatDoorSBi
import Derived.Test.YtfamnpoplgkkcaaGreatDoorSBg
set_option linter.all false
namespace Go.Rc
open Go Go.Proofs Go.Proofs.Tryz
variable {w:World}{M Z Z2:Nat→Prop}{l q:List Key}{a b:Option Addr}{n c m e:Nat}
set_option maxHeartbeats 400000
set_option maxHeartbeats 1600000 in
set_option maxRecDepth 8000 in
theorem j0{x:cz}{l:List Change}{a1 a2 al:Option Addr}{n1 e1 n2 e2 nl f:Nat}(gp:St w M Z w []) (hi:Rd RR.aD 4 Z w a1 n1 e1 x.ab) (hr:Rd RR.ew 8 Z w a2 n2 e2 x.ah) (hl:Rd RR.bW 3 Z w al nl f l) (hb:hV x) (hx:jg x.ad x.ab) (hs:∀c∈l,c.small) (hl4:l.length≤32):Calls prog 18 #[.agg (x.row a1 n1 e1 a2 n2 e2).toArray,.slice al nl f] w fun e w'=>∃(y:cz) (b1 b2:Option Addr) (m1 d1 m2 d2:Nat) (er:Int) (Z':Nat→Prop),e=.returned (.tuple #[.agg (y.row b1 m1 d1 b2 m2 d2).toArray,.int .i64 er])∧y.ah=x.ah∧x.ad≤y.ad∧y.ad≤1073741824∧jg y.ad y.ab∧y.ab.length≤64∧y.ad≤x.ad+1∧LX x l y∧AO x l y∧(x.ad+1≤1073741824→er=0)∧Rd RR.aD 4 Z' w' b1 m1 d1 y.ab∧Rd RR.ew 8 Z' w' b2 m2 d2 y.ah∧bJ w.heap.size Z Z'∧St w M Z' w' []:=by
 have hln:=hl.len;have h7a:=hb.2.2.2.2.1;have h6a:=hb.2.2.2.2.2.1
 have h6:x.ah.length≤1000000:=by omega
 have h7:x.ab.length≤1000000:=by omega
 have hv0:=hb.2.2.1;have FH:=hb.2.2.2.1;refine enter func18 rfl ntmps18 rfl<|?_;have aQ:=St.rb gp;have st1:=aQ.fr hi;have st2:=st1.fr hr;have ir:=st2.fr hl;refine(dz) ir fun b2 w1 TH wN hJ=>?_;refine(eT) hJ fun b4 w2 Fh IY iY=>?_;refine(aX) aN iY.b1<|?_;have hM:=iY;refine(bY) zD (fx (x:=x) hM.e0 (As.gr hM.g4) (As.gr hM.g3) h6 h7) ?_;rintro _ w3 ⟨f1,f2,f3,f4,f5,f6,Z1,rfl,nN,ky⟩;have hh:=St.lv hM ky nN;have agP:=St.bN ky;have agQ:=St.bN ky.p1;have sf:=hM.size;have wC:=nN.le sf;have agR:=St.fresh hh;have iI:=hh.a8 (by omega);have agS:=St.fresh iI.p1;have iF:=iI.p1.a8 (by omega);have agT:=(wC.trans (bJ.dC (F:=fun x=>x∈aJ f1) agP) sf).trans (bJ.dC (F:=fun x=>x∈aJ f4) agQ) sf;refine(cI) dP iF.p3 fun w4 jW ka eE=>?_;refine(aX) aN eE.b0<|(bY) N4 (jX (x:=x) (As.gr eE.g2) (As.gr eE.g1)) ?_;rintro _ w5 ⟨bb,rfl,hbb,s5⟩;have di:=eE.step s5;obtain rfl:bb=true:=hbb.2 hb;refine(aS) (fun g24=>?_) fun g24=>?_
 ·
  exact dr g24
 ·
  refine(aS) (fun Mi=>?_) fun Mi=>?_
  ·
   exact dr Mi
  refine aW ?_;refine WC.bm (σ:=Nat) (dn:=fun i=>[(1,.slice al nl f),(2,.pointer (some ⟨b2,0,none⟩)),(4,.pointer (some ⟨b4,0,none⟩)),(34,.slice al nl f),(35,.int .i64 (nl:Int)),(36,.int .i64 (i:Int))]) (F:=fun i=>[]) (I:=fun i=>(i≤l.length)∧True) (μ:=fun i=>l.length - i) (0) (di) Sub.t (⟨by omega,trivial⟩)<|?_;rintro i w6 cX ⟨eS,_⟩;simp only [CA,NA] at cX eS ⊢;refine(aS) (fun g37=>?_) fun g37=>?_
  ·
   simp at g37
   have D:i<l.length:=by omega
   have F8:=hs _ (List.getElem_mem D);have hsk:=F8.ok;have Ir:=F8.2;refine dd ?_;obtain⟨gJ,kF,jV,cR,gI,G,ek,eJ⟩:=Rd.at (As.gr cX.g4) D;have G:=RR.ba G;subst G;have N:=cX.fg eJ ek;refine nx ?_;refine WP .r (PV.dV HZ cR rfl rfl (by omega))<|(aX) Ce (As.kT N.g0)<|(eT) N fun b7 w7 SF SG K=>?_;refine(cI) Kv K fun w8 ry mu T=>?_;refine(ia) ao T.b0<|?_;refine WL.c1 (u:=.bool true) (iO (k:=l[i].key)) (by rw [hsk.1]) T fun w9 s9 O=>?_;refine(ia) ao O.b0<|?_;refine WL.c1 (u:=.bool true) (ei (k:=l[i].key)) (by rw [hsk.2]) O fun iP s10 ep=>?_;refine ck ?_;refine WC.fX rfl<|eD ?_;refine ez (i+1) ⟨ep.drop.drop,⟨by omega,trivial⟩⟩
  skip
  refine aW ?_;refine bO ?_;refine WC.bm (σ:=Nat) (dn:=fun i=>[(1,.slice al nl f),(2,.pointer (some ⟨b2,0,none⟩)),(4,.pointer (some ⟨b4,0,none⟩)),(52,.slice al nl f),(53,.int .i64 (nl:Int)),(54,.int .i64 (i:Int))]) (F:=fun i=>[]) (I:=fun i=>(i≤l.length)∧True) (μ:=fun i=>l.length - i) (0) (cX) Sub.t (⟨by omega,trivial⟩)<|?_;rintro i w7 N ⟨eS,_⟩;simp only [CA,NA] at N eS ⊢;refine(aS) (fun Qc=>?_) fun Qc=>?_
  ·
   simp at Qc
   have D:i<l.length:=by omega
   have F8:=hs _ (List.getElem_mem D);have Ir:=F8.2;refine dd ?_;obtain⟨gJ,kF,jV,cR,gI,G,ek,eJ⟩:=Rd.at (As.gr N.g4) D;have G:=RR.ba G;subst G;have K:=N.fg eJ ek;refine nx ?_;refine WP .r (PV.dV HZ cR rfl rfl (by omega))<|(aX) Ce (As.kT K.g0)<|(eT) K fun b9 w8 nw9 hb9 T=>?_;refine(cI) Kv T fun w9 zH tR O=>?_;refine(aZ) e7 O.b0<|(aS) (fun Og=>?_) fun Og=>?_
   ·
    exact dr Og
   refine eD ?_;refine ez (i+1) ⟨O.drop.drop,⟨by omega,trivial⟩⟩
  skip
  refine(aX) aN N.b0<|?_;have K:=N;refine(bY) zD (fx (x:=x) K.e0 (As.gr K.g2) (As.gr K.g1) h6 h7) ?_;rintro _ w8 ⟨k1,k2,k3,k4,k5,k6,Z2,rfl,vK,kG⟩;have T:=St.lv K kG vK;have agU:=St.bN kG;have agV:=St.bN kG.p1;have oz:=K.size;have mC:=agT.trans vK oz;have agW:=St.fresh T;have O:=T.a8 (by omega);have agX:=St.fresh O.p1;have ep:=O.p1.a8 (by omega);have agY:=(mC.trans (bJ.dC (F:=fun x=>x∈aJ k1) agU) oz).trans (bJ.dC (F:=fun x=>x∈aJ k4) agV) oz;refine(eT) ep fun P w9 FL FM eb=>?_;refine(cI) dP eb fun iP L7 L8 dH=>?_;refine(aZ) aO dH.b0<|bO ?_;refine WL.s1 dH fun iW _ dI=>?_;refine aW ?_;refine ck ?_;refine WC.gY (σ:=Nat × Bool × (List cB) × (Option Addr) × Nat × Nat × (Nat→Prop)) (dn:=fun(i,ch,li,H,ni,J,Q)=>[(1,.slice al nl f),(2,.pointer (some ⟨b2,0,none⟩)),(4,.pointer (some ⟨b4,0,none⟩)),(10,.pointer (some ⟨P,0,none⟩)),(11,.bool ch),(70,.slice al nl f),(71,.int .i64 (nl:Int)),(72,.int .i64 (i:Int))]) (F:=fun(i,ch,li,H,ni,J,Q)=>[As.blk P 31 [.int .i64 (x.ad+1),.slice H ni J,.slice k4 k5 k6],As.ro RR.aD 4 H ni J li]) (I:=fun(i,ch,li,H,ni,J,Q)=>(i≤l.length)∧(jg (x.ad+1) li)∧(li.length≤x.ab.length+i)∧(∀k,(∀c∈l,c.key≠k)→bw li k=bw x.ab k)∧(∀k,bw li k=bw x.ab k∨(bw li k).changed=x.ad+1)∧(bJ w.heap.size Z Q)∧(HJ x l i ch li)∧True) (μ:=fun(i,ch,li,H,ni,J,Q)=>l.length - i) (Zf:=fun(i,ch,li,H,ni,J,Q)=>Q) (0,false,x.ab,k1,k2,k3,_) (dI.p2.p1) Sub.t (⟨by omega,hx.mono (by omega),by omega,fun _ _=>rfl,fun _=>.inl rfl,agY,.start,trivial⟩)<|?_;rintro⟨i,ch,li,H,ni,J,Q⟩ lB z ⟨eS,hG,agZ,hfi,hfc,mS,Lr,_⟩;simp only [CA,NA] at z eS hG agZ hfi hfc mS Lr ⊢;refine(aS) (fun Mj=>?_) fun Mj=>?_
  ·
   have ag0:=((As.gr z.g1)).len
   simp at Mj
   have D:i<l.length:=by omega
   have F8:=hs _ (List.getElem_mem D);refine dd ?_;obtain⟨gJ,kF,jV,cR,gI,G,ek,eJ⟩:=Rd.at (As.gr z.g7) D;have G:=RR.ba G;subst G;have o:=z.fg eJ ek;refine bO ?_;refine WP .r (PV.dV HZ cR rfl rfl (by omega))<|(aX) Ce (As.kT o.g0)<|(eT) o fun U2 oh Ou afa eN=>?_;refine(cI) Kv eN fun sg Mg Ed fh=>?_;refine aW ?_;refine nx ?_;refine WP .r (PV.yG HZ (i:=i+1) (As.gr fh.g9) rfl rfl (by omega))<|cm ?_;have dQ:=fh.fr (SR.drop (i:=i+1) (As.gr fh.g9) (by omega));refine bO ?_;refine WC.bm (σ:=Nat × Bool) (dn:=fun(q,U)=>[(1,.slice al nl f),(2,.pointer (some ⟨b2,0,none⟩)),(4,.pointer (some ⟨b4,0,none⟩)),(10,.pointer (some ⟨P,0,none⟩)),(11,.bool ch),(13,.pointer (some ⟨U2,0,none⟩)),(14,.bool U),(70,.slice al nl f),(71,.int .i64 (nl:Int)),(72,.int .i64 (i:Int)),(80,.slice (mr al (i+1) 3 f) (nl - (i+1)) (f - (i+1))),(81,.int .i64 ((nl - (i+1):Nat):Int)),(82,.int .i64 (q:Int))]) (F:=fun(q,U)=>[]) (I:=fun(q,U)=>(q≤nl - (i+1))∧(q=0→U=true)∧True) (μ:=fun(q,U)=>nl - (i+1) - q) (0,true) (dQ) Sub.t (⟨by omega,fun _=>rfl,trivial⟩)<|?_;rintro⟨q,U⟩ pR eZ ⟨hq,hla,_⟩;simp only [CA,NA] at eZ hq hla ⊢;refine(aS) (fun Vc=>?_) fun Vc=>?_
   ·
    simp at Vc
    have hq2:q<(l.drop (i+1)).length:=by rw [List.length_drop];omega
    refine dd ?_;obtain⟨tH,Ic,Fu,kQ,vC,mE,mD,nK⟩:=Rd.at (As.gr eZ.g0) hq2;have mE:=RR.ba mE;subst mE;have L:=eZ.fg nK mD;refine nx ?_;refine WP .r (PV.dV HZ kQ rfl rfl (by omega))<|(aX) Ce (As.kT L.g0)<|(eT) L fun YO tL K5 Ot eK=>?_;refine(cI) Kv eK fun zN PZ P0 V=>?_;refine bO ?_;have B:=V;refine WC.jx (σ:=Bool) [] (fun TL=>[(1,.slice al nl f),(2,.pointer (some ⟨b2,0,none⟩)),(4,.pointer (some ⟨b4,0,none⟩)),(10,.pointer (some ⟨P,0,none⟩)),(11,.bool ch),(13,.pointer (some ⟨U2,0,none⟩)),(14,.bool TL),(70,.slice al nl f),(71,.int .i64 (nl:Int)),(72,.int .i64 (i:Int)),(80,.slice (mr al (i+1) 3 f) (nl - (i+1)) (f - (i+1))),(81,.int .i64 ((nl - (i+1):Nat):Int)),(82,.int .i64 (q:Int))]) (fun TL=>[]) (fun TL=>True) B ?_ ?_
    ·
     refine(de) (fun FU=>?_) (fun FU=>?_)
     ·
      refine(ia) ao B.b0<|(ia) ao B.b3<|?_;refine WP .r (PV.LP fS (p:=(l.drop (i+1))[q].key) (q:=l[i].key) rfl rfl)<|cm ?_;exact mQ (_) ⟨B,trivial⟩
     refine gK ?_;exact mQ (_) ⟨B,trivial⟩
    rintro TL yt C _;simp only [CA,NA] at C ⊢;refine fH ?_;refine ez (q+1,_) ⟨C.drop.drop,⟨by omega,fun h=>absurd h (Nat.succ_ne_zero _),trivial⟩⟩
   skip
   refine eD ?_;refine WC.dJ (t:=105) (v:=.bool (!U || decide ((bw x.ab l[i].key).value=l[i].value))) eZ ?_<|?_
   ·
    have ape:=eZ.bQ;refine WC.dD (m:=9) (E:=cF [(6,fun v _=>v=.string (bw x.ab l[i].key).value)]) eZ (bj (⟨fun _ _ _ _ _ _ _ h=>h,trivial⟩)) mixed (by kernel_rfl)<|(om) (fun Ub=>?_) (fun Ub=>?_)
    ·
     refine(cS) ?_;rintro tL ⟨ZJ,L⟩ _;exact(bZ) (tG Ub) (L)
    refine(gU) aN St.g6<|(tv) ao St.g1<|?_;refine DW.c0 (fun wx hC hF=>se (x:=x) (k:=l[i].key) (As.gr hC.2.g8) (As.gr hC.2.g7))<|(iD) e7 St.g1<|(cS)<|?_;rintro tL ⟨ZJ,L⟩ ⟨_,_⟩;exact(bZ) (tG Ub) (L)
   intro tL L;refine(aS) (fun we=>?_) fun we=>?_
   ·
    refine gK ?_;refine ez (i+1,ch,li,H,ni,J,Q) ⟨L.drop.drop.drop,⟨by omega,hG,by show li.length≤x.ab.length+(i+1);omega,hfi,hfc,mS,Lr.skip D (fun e=>hla (by omega)) we,trivial⟩⟩
   refine aW ?_;refine(aZ) kO L.b3<|dd ?_;have eK:=L.dp RR.aD 88 4;refine WC.bm (σ:=Nat × Bool × (List cB) × (Option Addr) × Nat × Nat) (dn:=fun(q,put,acc,g,d,j)=>[(1,.slice al nl f),(2,.pointer (some ⟨b2,0,none⟩)),(4,.pointer (some ⟨b4,0,none⟩)),(10,.pointer (some ⟨P,0,none⟩)),(11,.bool true),(13,.pointer (some ⟨U2,0,none⟩)),(17,.slice g d j),(18,.bool put),(70,.slice al nl f),(71,.int .i64 (nl:Int)),(72,.int .i64 (i:Int)),(107,.slice H ni J),(108,.int .i64 (ni:Int)),(109,.int .i64 (q:Int))]) (F:=fun(q,put,acc,g,d,j)=>[As.os RR.aD 88 4 g d j (acc)]) (I:=fun(q,put,acc,g,d,j)=>(q≤li.length)∧(acc++fP (⟨l[i].key,l[i].value,x.ad+1⟩:cB) (li.drop q) put=fP (⟨l[i].key,l[i].value,x.ad+1⟩:cB) li false)∧True) (μ:=fun(q,put,acc,g,d,j)=>li.length - q) (0,false,[],none,0,0) (eK) Sub.t (⟨by omega,rfl,trivial⟩)<|?_;rintro⟨q,put,acc,g,d,j⟩ zN V ⟨hq,R,_⟩;simp only [CA,NA] at V hq R ⊢;have ZK:=MO R;have ag1:=((As.gs V.g0)).len;refine(aS) (fun ox=>?_) fun ox=>?_
   ·
    simp at ox
    have hq2:q<li.length:=by omega
    have Ij:=MN hq2 R
    dsimp only at Ij
    refine dd ?_;obtain⟨Ip,ag2,YT,kz,P3,tj,G8,Ls⟩:=Rd.at (As.gr V.g5) hq2;have tj:=RR.ba tj;subst tj;have B:=V.fg Ls G8;refine nx ?_;refine WP .r (PV.dV tE kz rfl rfl (by omega))<|(aX) mA (As.kT B.g0)<|(eT) B fun b20 yt ag3 ag4 C=>?_;refine(cI) Ck C fun FE Ta Tb W=>?_;refine(ia) ao W.b0<|(ia) ao W.b4<|(eV) (j9 (k:=li[q].key) (q:=l[i].key)) W fun Io s20 nS=>?_;refine dd ?_;have pM:=nS;refine WC.jx (σ:=Bool) [] (fun IB=>[(1,.slice al nl f),(2,.pointer (some ⟨b2,0,none⟩)),(4,.pointer (some ⟨b4,0,none⟩)),(10,.pointer (some ⟨P,0,none⟩)),(11,.bool true),(13,.pointer (some ⟨U2,0,none⟩)),(17,.slice g d j),(18,.bool put),(20,.pointer (some ⟨b20,0,none⟩)),(21,.int .i64 (bD li[q].key l[i].key)),(70,.slice al nl f),(71,.int .i64 (nl:Int)),(72,.int .i64 (i:Int)),(107,.slice H ni J),(108,.int .i64 (ni:Int)),(109,.int .i64 (q:Int)),(123,.bool IB)]) (fun IB=>[]) (fun IB=>(IB=(decide (0≤bD li[q].key l[i].key) && !put))∧True) pM ?_ ?_
    ·
     refine(de) (fun Uc=>?_) (fun Uc=>?_)
     ·
      refine ck ?_;exact mQ (!put) ⟨pM,⟨by rw [decide_eq_true (show 0≤bD li[q].key l[i].key by simp at Uc;omega)];rfl,trivial⟩⟩
     refine ck ?_;exact mQ (false) ⟨pM,⟨by rw [decide_eq_false (show ¬0≤bD li[q].key l[i].key by simp at Uc;omega)];rfl,trivial⟩⟩
    rintro IB IZ jY ⟨Ud,_⟩;simp only [CA,NA] at jY Ud ⊢;refine nx ?_;have jZ:=jY.p2;refine WC.jx (σ:=Bool × (List cB) × (Option Addr) × Nat × Nat) [_] (fun(X,s,g,d,j)=>[(1,.slice al nl f),(2,.pointer (some ⟨b2,0,none⟩)),(4,.pointer (some ⟨b4,0,none⟩)),(10,.pointer (some ⟨P,0,none⟩)),(11,.bool true),(13,.pointer (some ⟨U2,0,none⟩)),(17,.slice g d j),(18,.bool X),(20,.pointer (some ⟨b20,0,none⟩)),(21,.int .i64 (bD li[q].key l[i].key)),(70,.slice al nl f),(71,.int .i64 (nl:Int)),(72,.int .i64 (i:Int)),(107,.slice H ni J),(108,.int .i64 (ni:Int)),(109,.int .i64 (q:Int))]) (fun(X,s,g,d,j)=>[As.os RR.aD 88 4 g d j (s)]) (fun(X,s,g,d,j)=>(s++(if bD li[q].key l[i].key=0 then [] else [li[q]])++fP (⟨l[i].key,l[i].value,x.ad+1⟩:cB) (li.drop (q+1)) X=fP (⟨l[i].key,l[i].value,x.ad+1⟩:cB) li false)∧True) jZ ?_ ?_
    ·
     refine(aS) (fun FK=>?_) fun FK=>?_
     ·
      refine(ia) ao jZ.b4<|(aZ) e7 jZ.b4<|(aZ) aO (bR.range (As.gb jZ.g6))<|?_;refine WP .r (PV.bC (us:=(⟨l[i].key,l[i].value,x.ad+1⟩:cB).cells) Nv rfl rfl rfl)<|?_;refine WL.go rfl (OX.aP (us:=(⟨l[i].key,l[i].value,x.ad+1⟩:cB).cells) E1 rfl rfl rfl rfl fun apf Mh ZL ZM=>?_);have S:=jZ.cZ ZL ZM;refine WL.ap rfl rfl S.p1 (SR.dc (A:=fun _=>True) (x:=(⟨l[i].key,l[i].value,x.ad+1⟩:cB)) (As.gb S.g0) trivial rfl (by simp [cB.cells,Value.oneCell']) rfl) fun ag5 ZN P9 akT akU mN=>?_;refine cm ?_;exact mQ (true,acc++[(⟨l[i].key,l[i].value,x.ad+1⟩:cB)],ag5,(d+1),ZN) ⟨mN.p1.drop,⟨by have h2:(decide (0≤bD li[q].key l[i].key) && !put)=true:=(by rw [← Ud];simpa using FK);have h3:(put || decide (0≤bD li[q].key l[i].key))=true:=(by revert h2;cases put <;> simp);rw [if_pos h2,h3] at Ij;exact Ij,trivial⟩⟩
     refine nx ?_;exact mQ (put,acc,g,d,j) ⟨jZ,⟨by have h2:(decide (0≤bD li[q].key l[i].key) && !put)=false:=(by rw [← Ud];simpa using FK);have h3:(put || decide (0≤bD li[q].key l[i].key))=put:=(by revert h2;cases put <;> simp);rw [if_neg (by rw [h2];simp),h3,List.append_nil] at Ij;exact Ij,trivial⟩⟩
    rintro⟨X,s,g,d,j⟩ Mh S ⟨wB,_⟩;simp only [CA,NA] at S wB ⊢
    have akV:s.length≤li.length+1:=by have h1:=congrArg List.length wB;rw [List.length_append,List.length_append] at h1;have:=nv (⟨l[i].key,l[i].value,x.ad+1⟩:cB) li false;omega
    have akW:=((As.gs S.g0)).len;refine(aS) (fun Lt=>?_) fun Lt=>?_
    ·
     simp at Lt
     refine(aX) mA S.b1<|?_;refine WL.go rfl (OX.aP (us:=li[q].cells) E1 rfl rfl rfl rfl fun apg P9 ZO ZP=>?_);have mN:=S.cZ ZO ZP;refine WL.ap rfl rfl mN.p1 (SR.dc (A:=fun _=>True) (x:=li[q]) (As.gb mN.g0) trivial rfl (by simp [cB.cells,Value.oneCell']) rfl) fun a139 ZQ Qa akX akY su=>?_;refine gK ?_;refine ez (q+1,X,s++[li[q]],a139,(d+1),ZQ) ⟨su.p1.drop.p1.drop.p1.drop,⟨by omega,by rw [← wB,if_neg Lt],trivial⟩⟩
    simp at Lt
    refine eD ?_;refine ez (q+1,X,s,g,d,j) ⟨S.p1.drop.p1.drop,⟨by omega,by rw [← wB,if_pos Lt,List.append_nil],trivial⟩⟩
   simp at ox
   rw [List.drop_eq_nil_of_le (by omega)] at R;refine aW ?_;have B:=V;refine WC.jx (σ:=(List cB) × (Option Addr) × Nat × Nat) [_] (fun(s,g,d,j)=>[(1,.slice al nl f),(2,.pointer (some ⟨b2,0,none⟩)),(4,.pointer (some ⟨b4,0,none⟩)),(10,.pointer (some ⟨P,0,none⟩)),(11,.bool true),(17,.slice g d j),(70,.slice al nl f),(71,.int .i64 (nl:Int)),(72,.int .i64 (i:Int))]) (fun(s,g,d,j)=>[As.os RR.aD 88 4 g d j (s)]) (fun(s,g,d,j)=>(s=fP (⟨l[i].key,l[i].value,x.ad+1⟩:cB) li false)∧True) B ?_ ?_
   ·
    refine(aS) (fun Ue=>?_) fun Ue=>?_
    ·
     refine(ia) ao B.b2<|(aZ) e7 B.b2<|(aZ) aO B.b4<|?_;refine WP .r (PV.bC (us:=(⟨l[i].key,l[i].value,x.ad+1⟩:cB).cells) Nv rfl rfl rfl)<|?_;refine WL.go rfl (OX.aP (us:=(⟨l[i].key,l[i].value,x.ad+1⟩:cB).cells) E1 rfl rfl rfl rfl fun aph yt ZR ZS=>?_);have C:=B.cZ ZR ZS;refine WL.ap rfl rfl C.p1 (SR.dc (A:=fun _=>True) (x:=(⟨l[i].key,l[i].value,x.ad+1⟩:cB)) (As.gb C.g0) trivial rfl (by simp [cB.cells,Value.oneCell']) rfl) fun a152 ZT FE akZ ak0 W=>?_;refine bO ?_;exact mQ (acc++[(⟨l[i].key,l[i].value,x.ad+1⟩:cB)],a152,(d+1),ZT) ⟨W.p1.drop,⟨by have hp:put=false:=(by simpa using Ue);rw [hp] at R;exact R,trivial⟩⟩
    refine nx ?_;exact mQ (acc,g,d,j) ⟨B,⟨by have hp:put=true:=(by simpa using Ue);rw [hp] at R;exact(List.append_nil acc).symm.trans R,trivial⟩⟩
   rintro⟨s,g,d,j⟩ yt C ⟨Y,_⟩;simp only [CA,NA] at C Y ⊢;refine nx ?_;have ZK:=nv (⟨l[i].key,l[i].value,x.ad+1⟩:cB) li false;have ag1:=((As.gs C.g0)).len;rw [← Y] at ZK;have Uf:=St.fresh C;have W:=C.a8 (by omega);have qP:=mS.trans (bJ.dC (F:=fun x=>x∈aJ g) Uf) (Nat.le_refl _);have nS:=W.p5.drop;refine cm ?_;refine WL.s1 nS.p4 fun FE _ pM=>?_;refine eD ?_;refine ez (i+1,true,s,g,d,j,_) ⟨pM.p2.drop.p2.drop.p2.drop,⟨by omega,by rw [Y];exact hG.put F8 (by omega),by show s.length≤x.ab.length+(i+1);rw [Y];have:=nv (⟨l[i].key,l[i].value,x.ad+1⟩:cB) li false;omega,fun k hk=>by rw [Y,ob (hk _ (List.getElem_mem D))];exact hfi k hk,by rw [Y];exact MW hfc _ rfl,qP,by rw [Y];exact Lr.put D we,trivial⟩⟩
  have ag0:=((As.gr z.g1)).len
  simp at Mj
  refine aW ?_;refine(aS) (fun ag6=>?_) fun ag6=>?_
  ·
   refine(aX) aN z.b3<|(cI) dP z.p6 fun oh YK YL o=>?_;refine fH ?_;refine EX.et rfl (RS.cell aN rfl o.b0 rfl<|RS.tmp rfl<|RS.nil) rfl<|?_;exact⟨x,_,_,_,_,_,_,_,_,rfl,rfl,Int.le_refl _,FH,hx,h7a,by omega,.refl _ _,Lr.same (by omega) (by simp_all),fun _=>rfl,(As.gr o.g6),(As.gr o.g5),mS,(St.wk o.k0)⟩
  refine(aZ) kO z.b0<|(aS) (fun Ug=>?_) fun Ug=>?_
  ·
   refine(aX) aN z.b3<|(cI) dP z.p6 fun oh ss8 hs8 o=>?_;refine fH ?_;refine EX.et rfl (RS.cell aN rfl o.b0 rfl<|RS.tmp rfl<|RS.nil) rfl<|?_;exact absurd Ug (by have:=hG.len;simp;omega)
  refine(aZ) aO z.b0<|(aS) (fun Dn=>?_) fun Dn=>?_
  ·
   refine(aX) aN z.b3<|(cI) dP z.p6 fun oh ss9 Zn o=>?_;refine fH ?_;refine EX.et rfl (RS.cell aN rfl o.b0 rfl<|RS.tmp rfl<|RS.nil) rfl<|?_;exact⟨x,_,_,_,_,_,_,_,_,rfl,rfl,Int.le_refl _,FH,hx,h7a,by omega,.refl _ _,⟨fun c _ _ h=>by(simp at Dn;omega),fun _=>.inl rfl,fun _=>.inl rfl⟩,fun h=>by(simp at Dn;omega),(As.gr o.g6),(As.gr o.g5),mS,(St.wk o.k0)⟩
  refine(aX) aN z.b0<|(cI) dP z.p6 fun oh ag9 aha o=>?_;refine ck ?_;refine EX.et rfl (RS.cell aN rfl o.b0 rfl<|RS.tmp rfl<|RS.nil) rfl<|?_;exact⟨⟨x.ad+1,li,x.ah⟩,_,_,_,_,_,_,_,_,rfl,rfl,by show x.ad≤x.ad+1;omega,by simp at Dn;show x.ad+1≤_;omega,hG,by simp at Ug;show li.length≤64;omega,Int.le_refl _,⟨hfi,.inr ⟨rfl,hfc⟩⟩,Lr.done (by omega),fun _=>rfl,(As.gr o.g2),(As.gr o.g3),mS,(St.wk o.k0)⟩
 -- pG gT C49
theorem qZ{{x:cz}} {{l:List Change}} {{a1 a2 al:Option Addr}} {{n1 e1 n2 e2 nl f:Nat}} {{w:World}} {{M Z:Nat→Prop}} (h:St w M Z w []) (hi:Rd RR.aD 4 Z w a1 n1 e1 x.ab) (hr:Rd RR.ew 8 Z w a2 n2 e2 x.ah) (hl:Rd RR.bW 3 Z w al nl f l) (hb:hV x) (i:jg x.ad x.ab) (j:∀c∈l,c.small) (k:l.length≤32):Calls prog 18 #[.agg (x.row a1 n1 e1 a2 n2 e2).toArray,.slice al nl f] w fun e w'=>∃(y:cz) (b1 b2:Option Addr) (m1 d1 m2 d2:Nat) (d:Int) (Z':Nat→Prop),e=.returned (.tuple #[.agg (y.row b1 m1 d1 b2 m2 d2).toArray,.int .i64 d])∧y.ah=x.ah∧x.ad≤y.ad∧y.ad≤1073741824∧jg y.ad y.ab∧y.ab.length≤64∧y.ad≤x.ad+1∧LX x l y∧(x.ad+1≤1073741824→d=0)∧Rd RR.aD 4 Z' w' b1 m1 d1 y.ab∧Rd RR.ew 8 Z' w' b2 m2 d2 y.ah∧bJ w.heap.size Z Z'∧St w M Z' w' []:=
 (j0 h hi hr hl hb i j k).mono fun _ _ ⟨y,b1,b2,m1,d1,m2,d2,d,Z',g1,g2,g3,g4,g5,g6,g7,g8,_,g⟩=>⟨y,b1,b2,m1,d1,m2,d2,d,Z',g1,g2,g3,g4,g5,g6,g7,g8,g⟩
set_option maxHeartbeats 400000
theorem Dp(hl:Rd RR.key 2 Z w a n c l) (hm:Rd RR.key 2 Z2 w b m e q):CR prog 27 #[.slice a n c,.slice b m e] w (.bool (decide (l=q))):=by
 have v:=hl.len;have x:=hm.len;have hle:=hl.le;refine enter func27 rfl ntmps27 rfl<|?_;have aQ:=St.s0 w;refine aW ?_;refine(aS) (fun g11=>?_) fun g11=>?_
 ·
  simp at g11
  refine(bA) ?_;exact⟨by rw [decide_eq_false fun h=>g11 (by rw [v,x,h])],(St.cg aQ)⟩
 simp at g11
 refine kg ?_;refine WC.bm (σ:=Nat) (dn:=fun i=>[(1,.slice b m e),(12,.slice a n c),(13,.int .i64 (n:Int)),(14,.int .i64 (i:Int))]) (F:=fun i=>[]) (I:=fun i=>(i≤n)∧(l.take i=q.take i)∧True) (μ:=fun i=>n - i) (0) (aQ) Sub.t (⟨by omega,by simp,trivial⟩)<|?_;rintro i w1 st1 ⟨hi,d,_⟩;simp only [CA,NA] at st1 hi d ⊢;refine(aS) (fun g15=>?_) fun g15=>?_
 ·
  simp at g15
  have j:i<l.length:=by omega
  have k:i<q.length:=by omega
  obtain⟨E,G,H,y,J,f,z,K⟩:=Rd.at hl j;have f:=RR.ba f;subst f;obtain⟨L,N,O,A,P,g,B,Q⟩:=Rd.at hm k;have g:=RR.ba g;subst g;refine eD ?_;refine WP .r (PV.dV ey y rfl rfl (by omega))<|(aX) ao (a7 z (St.cg st1) (by simp))<|(eT) st1 fun R w2 S T st2=>?_;refine(cI) gR st2 fun w3 U V o=>?_;refine cm ?_;have W:=o.bQ;refine WC.dS (m:=5) o mixed<|bO ?_;refine DP .r (fun _ s=>PV.dV ey A rfl rfl (by omega))<|DP .r (fun _ s=>VA ao (a7 B (St.cg s.2) (by simp)) .r)<|(gU) ao St.g0<|(cS)<|?_;rintro w4 ⟨X,u⟩ _;refine WP .r (PV.LP fS (p:=q[i]) (q:=l[i]) rfl rfl)<|(aS) (fun g24=>?_) fun g24=>?_
  ·
   simp at g24
   refine(bA) ?_;exact⟨by rw [decide_eq_false fun h=>g24 (by subst h;rfl)],(St.cg u)⟩
  simp at g24
  have C:=g24.symm;refine eD ?_;refine ez (i+1) ⟨u.drop,⟨by omega,by rw [List.take_succ_eq_append_getElem j,List.take_succ_eq_append_getElem k,d,C],trivial⟩⟩
 simp at g15
 refine(bA) ?_;exact⟨by rw [decide_eq_true];have h1:l.take i=l:=List.take_of_length_le (by omega);have D:q.take i=q:=List.take_of_length_le (by omega);rw [← h1,← D];exact d,(St.cg st1)⟩
theorem Dq(hl:Rd RR.key 2 Z w a n c l) (hm:Rd RR.key 2 Z2 w b m e q) (h:l=q):CR prog 27 #[.slice a n c,.slice b m e] w (.bool true):=by
 have:=Dp hl hm
 rwa [decide_eq_true h] at this
set_option maxHeartbeats 400000
theorem Ar(y:St w M Z w []):Calls prog 26 #[] w fun e w'=>∃(a:Option Addr) (n c:Nat) (Z':Nat→Prop),e=.returned (.slice a n c)∧Rd RR.eG 4 Z' w' a n c H2∧bJ w.heap.size Z Z'∧St w M Z' w' []:=by
 refine enter func26 rfl ntmps26 rfl<|?_;have aQ:=St.rb y;refine eD ?_;refine WP .r (PV.bC (us:=[.bool true,.bool false,.int .i64 0,.int .i64 0]) Ch rfl rfl rfl)<|?_;refine WL.go rfl (OX.aP (us:=[.bool true,.bool false,.int .i64 0,.int .i64 0]) Kr rfl rfl rfl rfl fun b2 w1 j z=>?_);have st1:=St.qe (R:=RR.ask) (E:=102) (k:=4) (a:=some ⟨b2,0,none⟩) (n:=1) (c:=1) (xs:=[(⟨true,false,0,0⟩:Ask)]) aQ j.ext (OR.dc z (Nat.zero_le _) rfl (by simp [Value.oneCell']) rfl) (fun x d=>by simp [aJ] at d;subst d;exact j.ge);refine WP .r (PV.bC (us:=[.bool false,.slice (some ⟨b2,0,none⟩) 1 1,.int .i64 2,.int .i64 0]) Nu rfl rfl rfl)<|WP .r (PV.bC (us:=[.bool false,.bool false,.int .i64 0,.int .i64 0]) Ch rfl rfl rfl)<|WP .r (PV.bC (us:=[.bool true,.bool false,.int .i64 1,.int .i64 0]) Ch rfl rfl rfl)<|?_;refine WL.go rfl (OX.aP (us:=([.bool false,.bool false,.int .i64 0,.int .i64 0]++[.bool true,.bool false,.int .i64 1,.int .i64 0])) R9 rfl rfl rfl rfl fun f w2 o A=>?_);have st2:=St.qe (R:=RR.ask) (E:=102) (k:=4) (a:=some ⟨f,0,none⟩) (n:=2) (c:=2) (xs:=[(⟨false,false,0,0⟩:Ask),⟨true,false,1,0⟩]) st1 o.ext (OR.V4 (r:=[.bool false,.bool false,.int .i64 0,.int .i64 0]) (s:=[.bool true,.bool false,.int .i64 1,.int .i64 0]) A (Nat.zero_le _) rfl rfl (by simp [Value.oneCell']) rfl rfl) (fun x d=>by simp [aJ] at d;subst d;exact o.ge);refine WP .r (PV.bC (us:=[.bool false,.slice (some ⟨f,0,none⟩) 2 2,.int .i64 1,.int .i64 0]) Nu rfl rfl rfl)<|?_;refine WL.go rfl (OX.aP (us:=([.bool false,.slice (some ⟨b2,0,none⟩) 1 1,.int .i64 2,.int .i64 0]++[.bool false,.slice (some ⟨f,0,none⟩) 2 2,.int .i64 1,.int .i64 0])) R8 rfl rfl rfl rfl fun i w3 C D=>?_);have p:=st2.cZ C D;refine bO ?_;have F:=St.fresh p.p2;have t:=p.p2.a8 (by simp);have G:=St.fresh t.p2;have H:=t.p2.a8 (by simp);have g:=H.p2;have u:=g.conv (B:=As.os RR.eG 58 4 (some ⟨i,0,none⟩) 2 2 H2) (OR.V4 (As.gb g.g0) (Nat.zero_le _) rfl rfl (by simp [Value.oneCell']) ⟨some ⟨b2,0,none⟩,1,1,rfl,(As.gr g.g2)⟩ ⟨some ⟨f,0,none⟩,2,2,rfl,(As.gr g.g1)⟩) (fun x h=>by show x=i;change x∈aJ (some ⟨i,0,none⟩) at h;simpa [aJ] using h);have I:=St.fresh u;have v:=u.a8 (by decide);refine(bA) ?_;exact⟨_,_,_,_,rfl,(As.gr v.g0),((bJ.dC F).trans (bJ.dC G) (Nat.le_refl _)).trans (bJ.dC I) (Nat.le_refl _),(St.wk v.k0)⟩
set_option maxHeartbeats 4000000 in
theorem oV(gp:St w M Z w []) (ht:lA prog Z w):Calls prog 7 #[] w fun e w'=>∃Z':Nat→Prop,e=.returned (.bool true)∧St w M Z' w' []:=by
 have g:∀k∈[K1],eA H2 k:=fun k hk=>by rw [List.mem_singleton.1 hk];exact EP
 refine enter func7 rfl ntmps7 rfl<|?_;have aQ:=gp;have st1:=aQ.fact (B:=As.fz (FZ.IH prog)) ht (fun _ o=>o);refine eD ?_;have st2:=st1;refine(bY) adz (Ar st2.e0) ?_;rintro _ w1 ⟨ra,rn,rc,Zh,rfl,GC,hZh,Uh⟩;have ir:=St.lv st2 Uh hZh;have hJ:=ir.fr (GC);refine dd ?_;refine WP .r (PV.bC (us:=((⟨0,[],[]⟩:cz).row none 0 0 none 0 0)) WQ rfl rfl rfl)<|(eV) (jk (n:=0)) hJ fun w2 s2 iY=>?_;refine WP .r (PV.bC (us:=(⟨C0,z4⟩:Change).cells) Sb rfl rfl rfl)<|?_;refine WL.go rfl (OX.aP (us:=(⟨C0,z4⟩:Change).cells) E4 rfl rfl rfl rfl fun Tl w3 W K7=>?_);have hM:=St.qe (R:=RR.bW) (E:=65) (k:=3) (a:=some ⟨Tl,0,none⟩) (n:=1) (c:=1) (xs:=[(⟨C0,z4⟩:Change)]) iY W.ext (OR.dc K7 (Nat.zero_le _) rfl (by simp [Change.cells,Value.oneCell']) rfl) (fun x o=>by simp [aJ] at o;subst o;exact W.ge);have hh:=hM.a8 (by simp);have G:=hh;refine(bY) KB (j0 (x:=⟨0,[],[]⟩) (l:=[(⟨C0,z4⟩:Change)]) G.e0 (Rd.nil _ _ _ _) (Rd.nil _ _ _ _) (As.gr G.g0) Nh (jg.nil _) smA (by simp)) ?_;rintro _ w4 ⟨y,ya1,ya2,apk,apl,apm,apn,apo,yaZ,rfl,apq,apr,aps,ahb,apt,apu,apv,ahc,apw,ahd,ahe,ahf,oy⟩;have iF:=St.lv G oy ahf;obtain rfl:=aoA ahc;have p:=LC.nil H2 (⟨1,iA,[]⟩:cz) rfl (by decide) (by decide) ahb (by simp);have eE:=iF.fr (ahd);have di:=eE.fr (ahe);refine(eT) di fun b2 w5 TH wN cX=>?_;refine(cI) dP cX fun w6 jW ka dm=>?_;refine ck ?_;refine WC.bM (m:=10) [8,9] [3,4,5] [2,3,4,0,1,5,6,7,8,9] [] dm (ai.k4 M0 M1 M2 M3<|ai.cons M4<|ai.cons M5<|ai.nil) mixed (by kernel_rfl) (by kernel_rfl) rfl<|(fL) (fun w7 H I J K=>?_);simp only [CA,NA] at J;refine OX.call zC rfl rfl ((fV (n:=1) (aa:=H2) (As.gr J.g4)).mono ?_);rintro _ w8 ⟨rfl,X⟩;have ed:=J.step X;refine⟨_,rfl,X.size,_,rfl,_,_,_,ed,aw.k4<|aw.k2<|aw.nil,ai.k4 M0 M1 M2 M3<|ai.cons M4<|ai.cons M5<|ai.nil,?_⟩;refine(fL) (fun w9 Y xc fJ mG=>?_);simp only [CA,NA] at fJ;refine OX.aP (us:=K1.cells) dt rfl rfl rfl rfl fun L iP ZU ahg=>?_;have ep:=fJ.cZ ZU ahg;have eb:=ep;have dH:=eb.conv (B:=As.os RR.key 41 2 (some ⟨L,0,none⟩) 1 1 [K1]) (OR.dc (As.gb eb.g0) (Nat.zero_le _) rfl (by simp [Key.cells,Value.oneCell']) rfl) (fun x h=>by show x=L;change x∈aJ (some ⟨L,0,none⟩) at h;simpa [aJ] using h);have dI:=dH.a8 (by simp);refine⟨ZU.ext.size,_,rfl,_,_,_,dI,aw.k4<|aw.k2<|aw.cons<|aw.nil,ai.k4 M1 M2 M3 M4<|ai.cons M5<|ai.cons M6<|ai.nil,?_⟩;refine(kW) aN SV.g0<|(fL) (fun iW IA sr fb jM=>?_);simp only [CA,NA] at fb;have d:=fb;refine OX.call N3 rfl rfl ((ib (x:=(⟨1,iA,[]⟩:cz)) (goals:=[K1]) d.e0 (As.gf d.g6) (As.gr d.g5) (As.gr d.g3) (As.gr d.g2) (As.gr d.g0) jL p g (by simp)).mono ?_);rintro _ lB ⟨v,apx,rs3,p31,p32,p33,j31,k31,j32,k32,j33,k33,Z3x,rfl,N,apz,Ua,apA,ahh,ahi,kR⟩;have z:=St.lv d kR ahi;obtain⟨i,UY,Ma,hw3,ZW⟩:=N.done jL p g;have ZX:az v K1=true:=(Ua K1 (List.mem_singleton.2 rfl)).resolve_left (by rw [Kc];simp);have ZY:=i.lb.ok.fQ.len;have ZY:v.ah.length≤4000:=ZY;have apB:=i.lb.ok.pq;obtain⟨_,_,_,apC,_⟩:=N.ready jL p g;have apD:=ahh.length_eq;have apE:=((As.gs z.g0)).len;have ZZ:=((As.gs z.g1)).len;have ahj:=((As.gs z.g2)).len;obtain⟨hh1,hh2⟩:=Ni p rfl N ZX
 obtain rfl:j33=2:=by omega
 have fh:=z.a8 (by omega);have dQ:=fh.p1.a8 (by omega);have eZ:=dQ.p2.a8 (by omega);refine⟨_,rfl,kR.bW.size,_,rfl,_,_,_,eZ,aw.k4<|aw.k4<|aw.k2<|aw.nil,ai.k4 M4 M5 M6 M7<|ai.cons M8<|ai.cons M9<|ai.nil,?_⟩
 iterate 4 refine DG.a ?_
 refine(jm) ?_;intro oh pI dB;simp only [CM,NM,CA,NA,hK.it] at dB;refine(cI) dP dB.p4 fun sg ry mu eK=>?_;refine bO ?_;refine WL.nil (EX.np ?_);refine bO ?_;refine WC.bM (m:=9) [7] [1,3,4] [1,2,3,0,4,5,6,7,8] [(8,.blk 31 [.int .i64 0,.slice none 0 0,.slice none 0 0])] eK (ai.k4 M0 M1 M2 M3<|ai.k4 M4 M5 M6 M7<|ai.cons M8<|ai.cons M9<|ai.nil) mixed (by kernel_rfl) (by kernel_rfl) rfl<|(fL) (fun pR R1x Zp kH P8=>?_);simp only [CA,NA] at kH;refine OX.call N5 rfl rfl ((jk (n:=0)).mono ?_);rintro _ tL ⟨rfl,S4⟩;have lP:=kH.step S4;refine⟨_,rfl,S4.size,_,rfl,_,_,_,lP,aw.k4<|aw.k4<|aw.k2<|aw.nil,ai.k4 M0 M1 M2 M3<|ai.k4 M4 M5 M6 M7<|ai.cons M8<|ai.cons M9<|ai.nil,?_⟩;refine DQ .r (fun wx Zx Rx _ oA yw=>PV.bC (us:=(⟨C0,z5⟩:Change).cells) Sb rfl rfl rfl)<|(fL) (fun zN H I oB K=>?_);simp only [CA,NA] at oB;refine OX.aP (us:=(⟨C0,z5⟩:Change).cells) E4 rfl rfl rfl rfl fun O yt Z0 ahk=>?_;have nT:=oB.cZ Z0 ahk;have nS:=nT;have pM:=nS.conv (B:=As.os RR.bW 65 3 (some ⟨O,0,none⟩) 1 1 [(⟨C0,z5⟩:Change)]) (OR.dc (As.gb nS.g0) (Nat.zero_le _) rfl (by simp [Change.cells,Value.oneCell']) rfl) (fun x h=>by show x=O;change x∈aJ (some ⟨O,0,none⟩) at h;simpa [aJ] using h);have jY:=pM.a8 (by simp);refine⟨Z0.ext.size,_,rfl,_,_,_,jY,aw.k4<|aw.k4<|aw.k2<|aw.cons<|aw.nil,ai.k4 M1 M2 M3 M4<|ai.k4 M5 M6 M7 M8<|ai.cons M9<|ai.cons hP<|ai.nil,?_⟩;refine(kW) aN SV.g0<|(fL) (fun FE Y xc jZ mG=>?_);simp only [CA,NA] at jZ;have j:=jZ;refine OX.call KB rfl rfl ((j0 (x:=v) (l:=[(⟨C0,z5⟩:Change)]) j.e0 (As.gr j.g4) (As.gr j.g3) (As.gr j.g0) i.lb.ok.hV i.lb.aD smQ (by simp)).mono ?_);rintro _ Io ⟨y,yb1,yb2,apG,apH,apI,apJ,apK,ybZ,rfl,ahl,ahm,ahn,aho,ahp,apL,ahq,ahr,apM,ahs,aht,ahu,vP⟩;have mN:=St.lv j vP ahu;have C:=i.apply ahq ahl ahm ahn aho ahp;obtain rfl:=aoB UY Ma ahr;have su:=mN.fr (ahs);have wg:=su.fr (aht);refine⟨_,rfl,vP.bW.size,_,rfl,_,_,_,wg,aw.k4<|aw.k4<|aw.k4<|aw.cons<|aw.nil,ai.k4 M3 M4 M5 M6<|ai.k4 M7 M8 M9 hP<|ai.cons iJ<|ai.cons kB<|ai.nil,?_⟩
 iterate 3 refine DG.a ?_
 refine DG.side (s:=.blk 31 [.int .i64 0,.slice none 0 0,.slice none 0 0]) rfl rfl rfl rfl rfl rfl (fun wx Zx Rx qS oA=>OX.alloc Se rfl fun b wy nw hb=>⟨nw.ext.size,_,rfl,⟨b,rfl⟩,oA.cZ nw hb⟩)<|?_;rintro _ ⟨b6,rfl⟩;refine(jm) ?_;intro IZ si jC;simp only [CM,NM,CA,NA,hK.it] at jC;refine(cI) dP jC fun Mh zH tR IC=>?_;refine nx ?_;refine WL.nil (EX.np ?_);refine bO ?_;refine WC.bM (m:=10) [8,9] [3,4,5] [2,3,4,0,1,5,6,7,8,9] [] IC (ai.k4 M0 M1 M2 M3<|ai.k4 M4 M5 M6 M7<|ai.k4 M8 M9 hP iJ<|ai.cons kB<|ai.cons oj<|ai.nil) mixed (by kernel_rfl) (by kernel_rfl) rfl<|(fL) (fun P9 H I P K=>?_);simp only [CA,NA] at P;refine OX.call zC rfl rfl ((fV (n:=1) (aa:=H2) (As.gr P.g12)).mono ?_);rintro _ Qa ⟨rfl,s24⟩;have lz:=P.step s24;refine⟨_,rfl,s24.size,_,rfl,_,_,_,lz,aw.k4<|aw.k4<|aw.k4<|aw.k2<|aw.nil,ai.k4 M0 M1 M2 M3<|ai.k4 M4 M5 M6 M7<|ai.k4 M8 M9 hP iJ<|ai.cons kB<|ai.cons oj<|ai.nil,?_⟩;refine(fL) (fun U8 Y xc jl mG=>?_);simp only [CA,NA] at jl;refine OX.aP (us:=K1.cells) dt rfl rfl rfl rfl fun Q w26 Ob SH=>?_;have F9:=jl.cZ Ob SH;have nU:=F9;have mj:=nU.conv (B:=As.os RR.key 41 2 (some ⟨Q,0,none⟩) 1 1 [K1]) (OR.dc (As.gb nU.g0) (Nat.zero_le _) rfl (by simp [Key.cells,Value.oneCell']) rfl) (fun x h=>by show x=Q;change x∈aJ (some ⟨Q,0,none⟩) at h;simpa [aJ] using h);have nV:=mj.a8 (by simp);refine⟨Ob.ext.size,_,rfl,_,_,_,nV,aw.k4<|aw.k4<|aw.k4<|aw.k2<|aw.cons<|aw.nil,ai.k4 M1 M2 M3 M4<|ai.k4 M5 M6 M7 M8<|ai.k4 M9 hP iJ kB<|ai.cons oj<|ai.cons xt<|ai.nil,?_⟩;refine(kW) aN SV.g0<|(fL) (fun w27 IA sr re jM=>?_);simp only [CA,NA] at re;have f:=re;refine OX.call N3 rfl rfl ((ib (x:=(⟨2,iB,v.ah⟩:cz)) (goals:=[K1]) f.e0 (As.gf f.g14) (As.gr f.g13) (As.gr f.g3) (As.gr f.g2) (As.gr f.g0) jL C g (by simp)).mono ?_);rintro _ w28 ⟨b5x,apN,rs5,p51,p52,p53,j51,k51,j52,k52,j53,k53,Z5x,rfl,S,apO,ahz,apP,aaa,ahA,Qf⟩;have D:=St.lv f Qf ahA;obtain⟨lc5,Mf,Om,hw5,ak2⟩:=S.done jL C g;have ahB:az b5x K1=true:=(ahz K1 (List.mem_singleton.2 rfl)).resolve_left (by rw [Kc];simp);have aab:=lc5.lb.ok.fQ.len;have aab:b5x.ah.length≤4000:=aab;have apQ:=lc5.lb.ok.pq;obtain⟨_,_,_,apR,_⟩:=S.ready jL C g;have apS:=aaa.length_eq;have apT:=((As.gs D.g0)).len;have ahC:=((As.gs D.g1)).len;have apU:=((As.gs D.g2)).len;obtain⟨hrs,DR,GL⟩:=Nj i Ma hh2 ZX ZW C rfl S ahB aaa;subst hrs;have rf:=D.a8 (by omega);have wi:=rf.p1.a8 (by omega);have rh:=wi.p2.a8 (by omega);refine⟨_,rfl,Qf.bW.size,_,rfl,_,_,_,rh,aw.k4<|aw.k4<|aw.k4<|aw.k4<|aw.k2<|aw.nil,ai.k4 M4 M5 M6 M7<|ai.k4 M8 M9 hP iJ<|ai.k4 kB oj xt I1<|ai.cons Mk<|ai.cons UL<|ai.nil,?_⟩
 iterate 4 refine DG.a ?_
 refine(jm) ?_;intro w29 vU Ga;simp only [CM,NM,CA,NA,hK.it] at Ga;refine(cI) dP Ga.p4 fun w30 L7 L8 xi=>?_;refine bO ?_;refine WL.nil (EX.np ?_);refine bO ?_;refine WC.bM (m:=7) [6] [2,3] [1,2,0,3,4,5,6] [] xi (ai.k4 M0 M1 M2 M3<|ai.k4 M4 M5 M6 M7<|ai.k4 M8 M9 hP iJ<|ai.k4 kB oj xt I1<|ai.cons Mk<|ai.cons UL<|ai.nil) mixed (by kernel_rfl) (by kernel_rfl) rfl<|(fL) (fun w31 OE Ae T qW=>?_);simp only [CA,NA] at T;refine OX.call zC rfl rfl ((fV (n:=1) (aa:=H2) (As.gr T.g16)).mono ?_);rintro _ w32 ⟨rfl,s32⟩;have Gb:=T.step s32;refine⟨_,rfl,s32.size,_,rfl,_,_,_,Gb,aw.k4<|aw.k4<|aw.k4<|aw.k4<|aw.k2<|aw.nil,ai.k4 M0 M1 M2 M3<|ai.k4 M4 M5 M6 M7<|ai.k4 M8 M9 hP iJ<|ai.k4 kB oj xt I1<|ai.cons Mk<|ai.cons UL<|ai.nil,?_⟩;refine(kW) aN SV.g0<|(fL) (fun w33 H I Dr K=>?_);simp only [CA,NA] at Dr;have F:=Dr;refine OX.call W0 rfl rfl ((oU (k:=K1) F.e0 (As.gr F.g3) (As.gr F.g2)).mono ?_);rintro _ w34 ⟨rfl,Qg⟩;have ahE:=St.lr F Qg;rw [DR,GL];refine⟨_,rfl,Qg.bW.size,_,rfl,_,_,_,ahE,aw.k4<|aw.k4<|aw.k4<|aw.k4<|aw.k2<|aw.nil,ai.k4 M0 M1 M2 M3<|ai.k4 M4 M5 M6 M7<|ai.k4 M8 M9 hP iJ<|ai.k4 kB oj xt I1<|ai.cons Mk<|ai.cons UL<|ai.nil,?_⟩
 iterate 3 refine DG.a ?_
 refine(jm) ?_;intro w35 tM U;simp only [CM,NM,CA,NA,hK.it] at U;refine bO ?_;refine WL.nil (EX.np ?_);refine fH ?_;refine WL.cq (t:=58) rfl (fun g58=>?_) (fun g58=>?_)
 ·
  refine ck ?_;refine WL.cq (t:=62) rfl (fun SE=>?_) (fun SE=>?_)
  ·
   refine dd ?_;refine WL.cq (t:=67) rfl (fun Vf=>?_) (fun Vf=>?_)
   ·
    refine bO ?_;refine WL.c1 (u:=K0.val) (fV (n:=0) (aa:=H2) (As.gr U.g16)) (by rw [show aI H2 0=K0 from qw]) U fun w36 s36 ahF=>?_;refine WL.go rfl (OX.aP (us:=K0.cells) dt rfl rfl rfl rfl fun b71 w37 S9 Oj=>?_);have V:=ahF.cZ S9 Oj;refine(eV) (Dq (As.gr V.g2) (SR.dc (A:=fun _=>True) (x:=K0) (As.gb V.g0) trivial rfl (by simp [Key.cells,Value.oneCell']) rfl) rfl) V fun w38 s38 ahG=>?_;refine fH ?_;refine WL.cq (t:=78) rfl (fun g78=>?_) (fun g78=>?_)
    ·
     refine(bA) ?_;exact⟨_,rfl,ahG.k0⟩
    exact dr g78
   exact dr Vf
  exact dr SE
 ·
  exact dr g58
 -- pG gT G74
end Go.Rc

