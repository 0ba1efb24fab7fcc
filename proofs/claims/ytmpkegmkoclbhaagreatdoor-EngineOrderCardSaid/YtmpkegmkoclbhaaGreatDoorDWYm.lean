/- Walks over the program, part WYm. Conditions: as each theorem says. -/
import Derived.Test.YtmpkegmkoclbhaaGreatDoorDFacts
import Derived.Test.YtmpkegmkoclbhaaGreatDoorDWZl
import Derived.Test.YtmpkegmkoclbhaaGreatDoorDWF
import Derived.Test.YtmpkegmkoclbhaaGreatDoorDBf
import Derived.Test.YtmpkegmkoclbhaaGreatDoorDBh
import Derived.Test.YtmpkegmkoclbhaaGreatDoorDWYk
import Derived.Test.YtmpkegmkoclbhaaGreatDoorDWUa
import Derived.Test.YtmpkegmkoclbhaaGreatDoorDBi
import Derived.Test.YtmpkegmkoclbhaaGreatDoorDBg
set_option linter.all false
namespace Go.Rc
open Go Go.Proofs Go.Proofs.Tryz
variable {x:bZ}{a1 a2 a b:Option Addr}{n1 e1 n2 e2 n c m e:Nat}{w:World}{M Z Z2:Nat→Prop}{l q:List Key}
set_option maxHeartbeats 400000
set_option maxHeartbeats 1600000 in
set_option maxRecDepth 8000 in
theorem mi{l:List Change}{al:Option Addr}{nl f:Nat}(gF:St w M Z w []) (hi:Rd RR.aD 4 Z w a1 n1 e1 x.ab) (hr:Rd RR.ei 8 Z w a2 n2 e2 x.ah) (hl:Rd RR.bX 3 Z w al nl f l) (hb:jB x) (hx:jC x.ad x.ab) (hs:∀c∈l,c.small) (hl4:l.length≤32):Calls prog 16 #[.agg (x.row a1 n1 e1 a2 n2 e2).toArray,.slice al nl f] w fun e w'=>∃(y:bZ) (b1 b2:Option Addr) (m1 d1 m2 d2:Nat) (er:Int) (Z':Nat→Prop),e=.returned (.tuple #[.agg (y.row b1 m1 d1 b2 m2 d2).toArray,.int .i64 er])∧y.ah=x.ah∧x.ad≤y.ad∧y.ad≤1073741824∧jC y.ad y.ab∧y.ab.length≤64∧y.ad≤x.ad+1∧V9 x l y∧AO x l y∧(x.ad+1≤1073741824→er=0)∧Rd RR.aD 4 Z' w' b1 m1 d1 y.ab∧Rd RR.ei 8 Z' w' b2 m2 d2 y.ah∧bK w.heap.size Z Z'∧St w M Z' w' []:=by
 have hln:=hl.len;have h7a:=hb.2.2.2.2.1;have h6a:=hb.2.2.2.2.2.1
 have h6:x.ah.length≤1000000:=by omega
 have h7:x.ab.length≤1000000:=by omega
 have hv0:=hb.2.2.1;have FD:=hb.2.2.2.1;refine enter func16 rfl ntmps16 rfl<|?_;have aQ:=St.rb gF;have st1:=aQ.fr hi;have st2:=st1.fr hr;have iW:=st2.fr hl;refine(dy) iW fun b2 w1 TB wJ hU=>?_;refine(eZ) hU fun b4 w2 Fh IV ja=>?_;refine(aZ) aO ja.b1<|?_;have hY:=ja;refine(bY) zv (fA (x:=x) hY.e0 (As.gr hY.g4) (As.gr hY.g3) h6 h7) ?_;rintro _ w3 ⟨f1,f2,f3,f4,f5,f6,Z1,rfl,nR,kA⟩;have hh:=St.lv hY kA nR;have agI:=St.bP kA;have agJ:=St.bP kA.p1;have rX:=hY.size;have wt:=nR.le rX;have agK:=St.fresh hh;have iK:=hh.ba (by omega);have agL:=St.fresh iK.p1;have iH:=iK.p1.ba (by omega);have agM:=(wt.trans (bK.dA (F:=fun x=>x∈aJ f1) agI) rX).trans (bK.dA (F:=fun x=>x∈aJ f4) agJ) rX;refine(cJ) dN iH.p3 fun w4 jU j3 eE=>?_;refine(aZ) aO eE.b0<|(bY) Se (mb (x:=x) (As.gr eE.g2) (As.gr eE.g1)) ?_;rintro _ w5 ⟨bb,rfl,hbb,s5⟩;have dh:=eE.step s5;obtain rfl:bb=true:=hbb.2 hb;refine(aS) (fun g24=>?_) fun g24=>?_
 ·
  exact dL g24
 ·
  refine(aS) (fun LY=>?_) fun LY=>?_
  ·
   exact dL LY
  refine aY ?_;refine WC.br (σ:=Nat) (dn:=fun i=>[(1,.slice al nl f),(2,.pointer (some ⟨b2,0,none⟩)),(4,.pointer (some ⟨b4,0,none⟩)),(34,.slice al nl f),(35,.int .i64 (nl:Int)),(36,.int .i64 (i:Int))]) (F:=fun i=>[]) (I:=fun i=>(i≤l.length)∧True) (μ:=fun i=>l.length - i) (0) (dh) Sub.t (⟨by omega,trivial⟩)<|?_;rintro i w6 cX ⟨eK,_⟩;simp only [CA,NA] at cX eK ⊢;refine(aS) (fun g37=>?_) fun g37=>?_
  ·
   simp at g37
   have D:i<l.length:=by omega
   have II:=hs _ (List.getElem_mem D);have hsk:=II.ok;have Il:=II.2;refine dd ?_;obtain⟨gT,k8,kz,cW,gU,G,eH,eV⟩:=Rd.at (As.gr cX.g4) D;have G:=RR.bd G;subst G;have N:=cX.fg eV eH;refine nx ?_;refine WP .r (PV.dU HU cW rfl rfl (by omega))<|(aZ) Cb (As.lF N.g0)<|(eZ) N fun b7 w7 Px Py K=>?_;refine(cJ) Kr K fun w8 qU mu T=>?_;refine(hW) ao T.b0<|?_;refine WL.c1 (u:=.bool true) (iS (k:=l[i].key)) (by rw [hsk.1]) T fun w9 s9 O=>?_;refine(hW) ao O.b0<|?_;refine WL.c1 (u:=.bool true) (ew (k:=l[i].key)) (by rw [hsk.2]) O fun iT s10 dT=>?_;refine cy ?_;refine WC.fK rfl<|ez ?_;refine eB (i+1) ⟨dT.drop.drop,⟨by omega,trivial⟩⟩
  skip
  refine aY ?_;refine bO ?_;refine WC.br (σ:=Nat) (dn:=fun i=>[(1,.slice al nl f),(2,.pointer (some ⟨b2,0,none⟩)),(4,.pointer (some ⟨b4,0,none⟩)),(52,.slice al nl f),(53,.int .i64 (nl:Int)),(54,.int .i64 (i:Int))]) (F:=fun i=>[]) (I:=fun i=>(i≤l.length)∧True) (μ:=fun i=>l.length - i) (0) (cX) Sub.t (⟨by omega,trivial⟩)<|?_;rintro i w7 N ⟨eK,_⟩;simp only [CA,NA] at N eK ⊢;refine(aS) (fun PX=>?_) fun PX=>?_
  ·
   simp at PX
   have D:i<l.length:=by omega
   have II:=hs _ (List.getElem_mem D);have Il:=II.2;refine dd ?_;obtain⟨gT,k8,kz,cW,gU,G,eH,eV⟩:=Rd.at (As.gr N.g4) D;have G:=RR.bd G;subst G;have K:=N.fg eV eH;refine nx ?_;refine WP .r (PV.dU HU cW rfl rfl (by omega))<|(aZ) Cb (As.lF K.g0)<|(eZ) K fun b9 w8 nw9 hb9 T=>?_;refine(cJ) Kr T fun w9 zy tK O=>?_;refine(a7) fy O.b0<|(aS) (fun IU=>?_) fun IU=>?_
   ·
    exact dL IU
   refine ez ?_;refine eB (i+1) ⟨O.drop.drop,⟨by omega,trivial⟩⟩
  skip
  refine(aZ) aO N.b0<|?_;have K:=N;refine(bY) zv (fA (x:=x) K.e0 (As.gr K.g2) (As.gr K.g1) h6 h7) ?_;rintro _ w8 ⟨k1,k2,k3,k4,k5,k6,Z2,rfl,vD,kE⟩;have T:=St.lv K kE vD;have agN:=St.bP kE;have agO:=St.bP kE.p1;have oy:=K.size;have mC:=agM.trans vD oy;have agP:=St.fresh T;have O:=T.ba (by omega);have agQ:=St.fresh O.p1;have dT:=O.p1.ba (by omega);have agR:=(mC.trans (bK.dA (F:=fun x=>x∈aJ k1) agN) oy).trans (bK.dA (F:=fun x=>x∈aJ k4) agO) oy;refine(eZ) dT fun P w9 Cz CB ef=>?_;refine(cJ) dN ef fun iT LP LQ dR=>?_;refine(a7) aP dR.b0<|bO ?_;refine WL.s1 dR fun iY _ dG=>?_;refine aY ?_;refine cy ?_;refine WC.gY (σ:=Nat × Bool × (List ct) × (Option Addr) × Nat × Nat × (Nat→Prop)) (dn:=fun(i,ch,li,H,ni,J,Q)=>[(1,.slice al nl f),(2,.pointer (some ⟨b2,0,none⟩)),(4,.pointer (some ⟨b4,0,none⟩)),(10,.pointer (some ⟨P,0,none⟩)),(11,.bool ch),(70,.slice al nl f),(71,.int .i64 (nl:Int)),(72,.int .i64 (i:Int))]) (F:=fun(i,ch,li,H,ni,J,Q)=>[As.blk P 31 [.int .i64 (x.ad+1),.slice H ni J,.slice k4 k5 k6],As.ro RR.aD 4 H ni J li]) (I:=fun(i,ch,li,H,ni,J,Q)=>(i≤l.length)∧(jC (x.ad+1) li)∧(li.length≤x.ab.length+i)∧(∀k,(∀c∈l,c.key≠k)→bA li k=bA x.ab k)∧(∀k,bA li k=bA x.ab k∨(bA li k).changed=x.ad+1)∧(bK w.heap.size Z Q)∧(HF x l i ch li)∧True) (μ:=fun(i,ch,li,H,ni,J,Q)=>l.length - i) (Zf:=fun(i,ch,li,H,ni,J,Q)=>Q) (0,false,x.ab,k1,k2,k3,_) (dG.p2.p1) Sub.t (⟨by omega,hx.mono (by omega),by omega,fun _ _=>rfl,fun _=>.inl rfl,agR,.start,trivial⟩)<|?_;rintro⟨i,ch,li,H,ni,J,Q⟩ lx z ⟨eK,hG,agS,hfi,hfc,mU,Lj,_⟩;simp only [CA,NA] at z eK hG agS hfi hfc mU Lj ⊢;refine(aS) (fun LZ=>?_) fun LZ=>?_
  ·
   have agT:=((As.gr z.g1)).len
   simp at LZ
   have D:i<l.length:=by omega
   have II:=hs _ (List.getElem_mem D);refine dd ?_;obtain⟨gT,k8,kz,cW,gU,G,eH,eV⟩:=Rd.at (As.gr z.g7) D;have G:=RR.bd G;subst G;have o:=z.fg eV eH;refine bO ?_;refine WP .r (PV.dU HU cW rfl rfl (by omega))<|(aZ) Cb (As.lF o.g0)<|(eZ) o fun Td nN N6 ae1 eR=>?_;refine(cJ) Kr eR fun qV LX D6 fi=>?_;refine aY ?_;refine nx ?_;refine WP .r (PV.yx HU (i:=i+1) (As.gr fi.g9) rfl rfl (by omega))<|cq ?_;have eh:=fi.fr (SR.drop (i:=i+1) (As.gr fi.g9) (by omega));refine bO ?_;refine WC.br (σ:=Nat × Bool) (dn:=fun(q,U)=>[(1,.slice al nl f),(2,.pointer (some ⟨b2,0,none⟩)),(4,.pointer (some ⟨b4,0,none⟩)),(10,.pointer (some ⟨P,0,none⟩)),(11,.bool ch),(13,.pointer (some ⟨Td,0,none⟩)),(14,.bool U),(70,.slice al nl f),(71,.int .i64 (nl:Int)),(72,.int .i64 (i:Int)),(80,.slice (kf al (i+1) 3 f) (nl - (i+1)) (f - (i+1))),(81,.int .i64 ((nl - (i+1):Nat):Int)),(82,.int .i64 (q:Int))]) (F:=fun(q,U)=>[]) (I:=fun(q,U)=>(q≤nl - (i+1))∧(q=0→U=true)∧True) (μ:=fun(q,U)=>nl - (i+1) - q) (0,true) (eh) Sub.t (⟨by omega,fun _=>rfl,trivial⟩)<|?_;rintro⟨q,U⟩ pD eX ⟨hq,hla,_⟩;simp only [CA,NA] at eX hq hla ⊢;refine(aS) (fun U5=>?_) fun U5=>?_
   ·
    simp at U5
    have hq2:q<(l.drop (i+1)).length:=by rw [List.length_drop];omega
    refine dd ?_;obtain⟨tw,H7,Ft,kP,vt,mE,mD,nM⟩:=Rd.at (As.gr eX.g0) hq2;have mE:=RR.bd mE;subst mE;have L:=eX.fg nM mD;refine nx ?_;refine WP .r (PV.dU HU kP rfl rfl (by omega))<|(aZ) Cb (As.lF L.g0)<|(eZ) L fun b16 tB N5 Tc eY=>?_;refine(cJ) Kr eY fun zF S1 S2 V=>?_;refine bO ?_;have B:=V;refine WC.jA (σ:=Bool) [] (fun TE=>[(1,.slice al nl f),(2,.pointer (some ⟨b2,0,none⟩)),(4,.pointer (some ⟨b4,0,none⟩)),(10,.pointer (some ⟨P,0,none⟩)),(11,.bool ch),(13,.pointer (some ⟨Td,0,none⟩)),(14,.bool TE),(70,.slice al nl f),(71,.int .i64 (nl:Int)),(72,.int .i64 (i:Int)),(80,.slice (kf al (i+1) 3 f) (nl - (i+1)) (f - (i+1))),(81,.int .i64 ((nl - (i+1):Nat):Int)),(82,.int .i64 (q:Int))]) (fun TE=>[]) (fun TE=>True) B ?_ ?_
    ·
     refine(db) (fun FO=>?_) (fun FO=>?_)
     ·
      refine(hW) ao B.b0<|(hW) ao B.b3<|?_;refine WP .r (PV.LG fI (p:=(l.drop (i+1))[q].key) (q:=l[i].key) rfl rfl)<|cq ?_;exact mS (_) ⟨B,trivial⟩
     refine gV ?_;exact mS (_) ⟨B,trivial⟩
    rintro TE yk C _;simp only [CA,NA] at C ⊢;refine fL ?_;refine eB (q+1,_) ⟨C.drop.drop,⟨by omega,fun h=>absurd h (Nat.succ_ne_zero _),trivial⟩⟩
   skip
   refine ez ?_;refine WC.dZ (t:=105) (v:=.bool (!U || decide ((bA x.ab l[i].key).value=l[i].value))) eX ?_<|?_
   ·
    have apd:=eX.bN;refine WC.dB (m:=9) (E:=cB [(6,fun v _=>v=.string (bA x.ab l[i].key).value)]) eX (bm (⟨fun _ _ _ _ _ _ _ h=>h,trivial⟩)) mixed (by kernel_rfl)<|(oo) (fun T6=>?_) (fun T6=>?_)
    ·
     refine(cQ) ?_;rintro tB ⟨Zo,L⟩ _;exact(cA) (tG T6) (L)
    refine(gN) aO St.g6<|(tn) ao St.g1<|?_;refine DW.c0 (fun wx hC hF=>rW (x:=x) (k:=l[i].key) (As.gr hC.2.g8) (As.gr hC.2.g7))<|(iv) fy St.g1<|(cQ)<|?_;rintro tB ⟨Zo,L⟩ ⟨_,_⟩;exact(cA) (tG T6) (L)
   intro tB L;refine(aS) (fun F3=>?_) fun F3=>?_
   ·
    refine gV ?_;refine eB (i+1,ch,li,H,ni,J,Q) ⟨L.drop.drop.drop,⟨by omega,hG,by show li.length≤x.ab.length+(i+1);omega,hfi,hfc,mU,Lj.skip D (fun e=>hla (by omega)) F3,trivial⟩⟩
   refine aY ?_;refine(a7) i7 L.b3<|dd ?_;have eY:=L.dp RR.aD 78 4;refine WC.br (σ:=Nat × Bool × (List ct) × (Option Addr) × Nat × Nat) (dn:=fun(q,put,acc,g,d,j)=>[(1,.slice al nl f),(2,.pointer (some ⟨b2,0,none⟩)),(4,.pointer (some ⟨b4,0,none⟩)),(10,.pointer (some ⟨P,0,none⟩)),(11,.bool true),(13,.pointer (some ⟨Td,0,none⟩)),(17,.slice g d j),(18,.bool put),(70,.slice al nl f),(71,.int .i64 (nl:Int)),(72,.int .i64 (i:Int)),(107,.slice H ni J),(108,.int .i64 (ni:Int)),(109,.int .i64 (q:Int))]) (F:=fun(q,put,acc,g,d,j)=>[As.os RR.aD 78 4 g d j (acc)]) (I:=fun(q,put,acc,g,d,j)=>(q≤li.length)∧(acc++fS (⟨l[i].key,l[i].value,x.ad+1⟩:ct) (li.drop q) put=fS (⟨l[i].key,l[i].value,x.ad+1⟩:ct) li false)∧True) (μ:=fun(q,put,acc,g,d,j)=>li.length - q) (0,false,[],none,0,0) (eY) Sub.t (⟨by omega,rfl,trivial⟩)<|?_;rintro⟨q,put,acc,g,d,j⟩ zF V ⟨hq,R,_⟩;simp only [CA,NA] at V hq R ⊢;have Zp:=Mz R;have agU:=((As.gs V.g0)).len;refine(aS) (fun ov=>?_) fun ov=>?_
   ·
    simp at ov
    have hq2:q<li.length:=by omega
    have Ic:=My hq2 R
    dsimp only at Ic
    refine dd ?_;obtain⟨KQ,ape,afd,lO,Yy,G3,PJ,Zq⟩:=Rd.at (As.gr V.g5) hq2;have G3:=RR.bd G3;subst G3;have B:=V.fg Zq PJ;refine nx ?_;refine WP .r (PV.dU qv lO rfl rfl (by omega))<|(aZ) ku (As.lF B.g0)<|(eZ) B fun b20 yk agV agW C=>?_;refine(cJ) zn C fun FC UW UX W=>?_;refine(hW) ao W.b0<|(hW) ao W.b4<|(eP) (kb (k:=li[q].key) (q:=l[i].key)) W fun Ii s20 qN=>?_;refine dd ?_;have pI:=qN;refine WC.jA (σ:=Bool) [] (fun Iv=>[(1,.slice al nl f),(2,.pointer (some ⟨b2,0,none⟩)),(4,.pointer (some ⟨b4,0,none⟩)),(10,.pointer (some ⟨P,0,none⟩)),(11,.bool true),(13,.pointer (some ⟨Td,0,none⟩)),(17,.slice g d j),(18,.bool put),(20,.pointer (some ⟨b20,0,none⟩)),(21,.int .i64 (bC li[q].key l[i].key)),(70,.slice al nl f),(71,.int .i64 (nl:Int)),(72,.int .i64 (i:Int)),(107,.slice H ni J),(108,.int .i64 (ni:Int)),(109,.int .i64 (q:Int)),(123,.bool Iv)]) (fun Iv=>[]) (fun Iv=>(Iv=(decide (0≤bC li[q].key l[i].key) && !put))∧True) pI ?_ ?_
    ·
     refine(db) (fun T7=>?_) (fun T7=>?_)
     ·
      refine cy ?_;exact mS (!put) ⟨pI,⟨by rw [decide_eq_true (show 0≤bC li[q].key l[i].key by simp at T7;omega)];rfl,trivial⟩⟩
     refine cy ?_;exact mS (false) ⟨pI,⟨by rw [decide_eq_false (show ¬0≤bC li[q].key l[i].key by simp at T7;omega)];rfl,trivial⟩⟩
    rintro Iv K9 mO ⟨T8,_⟩;simp only [CA,NA] at mO T8 ⊢;refine nx ?_;have j4:=mO.p2;refine WC.jA (σ:=Bool × (List ct) × (Option Addr) × Nat × Nat) [_] (fun(X,s,g,d,j)=>[(1,.slice al nl f),(2,.pointer (some ⟨b2,0,none⟩)),(4,.pointer (some ⟨b4,0,none⟩)),(10,.pointer (some ⟨P,0,none⟩)),(11,.bool true),(13,.pointer (some ⟨Td,0,none⟩)),(17,.slice g d j),(18,.bool X),(20,.pointer (some ⟨b20,0,none⟩)),(21,.int .i64 (bC li[q].key l[i].key)),(70,.slice al nl f),(71,.int .i64 (nl:Int)),(72,.int .i64 (i:Int)),(107,.slice H ni J),(108,.int .i64 (ni:Int)),(109,.int .i64 (q:Int))]) (fun(X,s,g,d,j)=>[As.os RR.aD 78 4 g d j (s)]) (fun(X,s,g,d,j)=>(s++(if bC li[q].key l[i].key=0 then [] else [li[q]])++fS (⟨l[i].key,l[i].value,x.ad+1⟩:ct) (li.drop (q+1)) X=fS (⟨l[i].key,l[i].value,x.ad+1⟩:ct) li false)∧True) j4 ?_ ?_
    ·
     refine(aS) (fun FH=>?_) fun FH=>?_
     ·
      refine(hW) ao j4.b4<|(a7) fy j4.b4<|(a7) aP (bU.range (As.gb j4.g6))<|?_;refine WP .r (PV.bB (us:=(⟨l[i].key,l[i].value,x.ad+1⟩:ct).cells) Nh rfl rfl rfl)<|?_;refine WL.go rfl (OX.aR (us:=(⟨l[i].key,l[i].value,x.ad+1⟩:ct).cells) EW rfl rfl rfl rfl fun apf Oe Zr Zs=>?_);have S:=j4.da Zr Zs;refine WL.ap rfl rfl S.p1 (SR.dc (A:=fun _=>True) (x:=(⟨l[i].key,l[i].value,x.ad+1⟩:ct)) (As.gb S.g0) trivial rfl (by simp [ct.cells,Value.oneCell']) rfl) fun agX Zt TF akF akG mj=>?_;refine cq ?_;exact mS (true,acc++[(⟨l[i].key,l[i].value,x.ad+1⟩:ct)],agX,(d+1),Zt) ⟨mj.p1.drop,⟨by have h2:(decide (0≤bC li[q].key l[i].key) && !put)=true:=(by rw [← T8];simpa using FH);have h3:(put || decide (0≤bC li[q].key l[i].key))=true:=(by revert h2;cases put <;> simp);rw [if_pos h2,h3] at Ic;exact Ic,trivial⟩⟩
     refine nx ?_;exact mS (put,acc,g,d,j) ⟨j4,⟨by have h2:(decide (0≤bC li[q].key l[i].key) && !put)=false:=(by rw [← T8];simpa using FH);have h3:(put || decide (0≤bC li[q].key l[i].key))=put:=(by revert h2;cases put <;> simp);rw [if_neg (by rw [h2];simp),h3,List.append_nil] at Ic;exact Ic,trivial⟩⟩
    rintro⟨X,s,g,d,j⟩ Oe S ⟨wo,_⟩;simp only [CA,NA] at S wo ⊢
    have akH:s.length≤li.length+1:=by have h1:=congrArg List.length wo;rw [List.length_append,List.length_append] at h1;have:=nz (⟨l[i].key,l[i].value,x.ad+1⟩:ct) li false;omega
    have akI:=((As.gs S.g0)).len;refine(aS) (fun Lk=>?_) fun Lk=>?_
    ·
     simp at Lk
     refine(aZ) ku S.b1<|?_;refine WL.go rfl (OX.aR (us:=li[q].cells) EW rfl rfl rfl rfl fun apg TF Zu Zv=>?_);have mj:=S.da Zu Zv;refine WL.ap rfl rfl mj.p1 (SR.dc (A:=fun _=>True) (x:=li[q]) (As.gb mj.g0) trivial rfl (by simp [ct.cells,Value.oneCell']) rfl) fun a139 Zw TG akJ akK sa=>?_;refine gV ?_;refine eB (q+1,X,s++[li[q]],a139,(d+1),Zw) ⟨sa.p1.drop.p1.drop.p1.drop,⟨by omega,by rw [← wo,if_neg Lk],trivial⟩⟩
    simp at Lk
    refine ez ?_;refine eB (q+1,X,s,g,d,j) ⟨S.p1.drop.p1.drop,⟨by omega,by rw [← wo,if_pos Lk,List.append_nil],trivial⟩⟩
   simp at ov
   rw [List.drop_eq_nil_of_le (by omega)] at R;refine aY ?_;have B:=V;refine WC.jA (σ:=(List ct) × (Option Addr) × Nat × Nat) [_] (fun(s,g,d,j)=>[(1,.slice al nl f),(2,.pointer (some ⟨b2,0,none⟩)),(4,.pointer (some ⟨b4,0,none⟩)),(10,.pointer (some ⟨P,0,none⟩)),(11,.bool true),(17,.slice g d j),(70,.slice al nl f),(71,.int .i64 (nl:Int)),(72,.int .i64 (i:Int))]) (fun(s,g,d,j)=>[As.os RR.aD 78 4 g d j (s)]) (fun(s,g,d,j)=>(s=fS (⟨l[i].key,l[i].value,x.ad+1⟩:ct) li false)∧True) B ?_ ?_
   ·
    refine(aS) (fun T9=>?_) fun T9=>?_
    ·
     refine(hW) ao B.b2<|(a7) fy B.b2<|(a7) aP B.b4<|?_;refine WP .r (PV.bB (us:=(⟨l[i].key,l[i].value,x.ad+1⟩:ct).cells) Nh rfl rfl rfl)<|?_;refine WL.go rfl (OX.aR (us:=(⟨l[i].key,l[i].value,x.ad+1⟩:ct).cells) EW rfl rfl rfl rfl fun aph yk Zy Zz=>?_);have C:=B.da Zy Zz;refine WL.ap rfl rfl C.p1 (SR.dc (A:=fun _=>True) (x:=(⟨l[i].key,l[i].value,x.ad+1⟩:ct)) (As.gb C.g0) trivial rfl (by simp [ct.cells,Value.oneCell']) rfl) fun a152 ZA FC akL akM W=>?_;refine bO ?_;exact mS (acc++[(⟨l[i].key,l[i].value,x.ad+1⟩:ct)],a152,(d+1),ZA) ⟨W.p1.drop,⟨by have hp:put=false:=(by simpa using T9);rw [hp] at R;exact R,trivial⟩⟩
    refine nx ?_;exact mS (acc,g,d,j) ⟨B,⟨by have hp:put=true:=(by simpa using T9);rw [hp] at R;exact(List.append_nil acc).symm.trans R,trivial⟩⟩
   rintro⟨s,g,d,j⟩ yk C ⟨Y,_⟩;simp only [CA,NA] at C Y ⊢;refine nx ?_;have Zp:=nz (⟨l[i].key,l[i].value,x.ad+1⟩:ct) li false;have agU:=((As.gs C.g0)).len;rw [← Y] at Zp;have Ua:=St.fresh C;have W:=C.ba (by omega);have qF:=mU.trans (bK.dA (F:=fun x=>x∈aJ g) Ua) (Nat.le_refl _);have qN:=W.p5.drop;refine cq ?_;refine WL.s1 qN.p4 fun FC _ pI=>?_;refine ez ?_;refine eB (i+1,true,s,g,d,j,_) ⟨pI.p2.drop.p2.drop.p2.drop,⟨by omega,by rw [Y];exact hG.put II (by omega),by show s.length≤x.ab.length+(i+1);rw [Y];have:=nz (⟨l[i].key,l[i].value,x.ad+1⟩:ct) li false;omega,fun k hk=>by rw [Y,og (hk _ (List.getElem_mem D))];exact hfi k hk,by rw [Y];exact MI hfc _ rfl,qF,by rw [Y];exact Lj.put D F3,trivial⟩⟩
  have agT:=((As.gr z.g1)).len
  simp at LZ
  refine aY ?_;refine(aS) (fun agY=>?_) fun agY=>?_
  ·
   refine(aZ) aO z.b3<|(cJ) dN z.p6 fun nN ss7 hs7 o=>?_;refine fL ?_;refine EX.ey rfl (RS.cell aO rfl o.b0 rfl<|RS.tmp rfl<|RS.nil) rfl<|?_;exact⟨x,_,_,_,_,_,_,_,_,rfl,rfl,Int.le_refl _,FD,hx,h7a,by omega,.refl _ _,Lj.same (by omega) (by simp_all),fun _=>rfl,(As.gr o.g6),(As.gr o.g5),mU,(St.wk o.k0)⟩
  refine(a7) i7 z.b0<|(aS) (fun Ub=>?_) fun Ub=>?_
  ·
   refine(aZ) aO z.b3<|(cJ) dN z.p6 fun nN ss8 hs8 o=>?_;refine fL ?_;refine EX.ey rfl (RS.cell aO rfl o.b0 rfl<|RS.tmp rfl<|RS.nil) rfl<|?_;exact absurd Ub (by have:=hG.len;simp;omega)
  refine(a7) aP z.b0<|(aS) (fun On=>?_) fun On=>?_
  ·
   refine(aZ) aO z.b3<|(cJ) dN z.p6 fun nN ss9 YY o=>?_;refine fL ?_;refine EX.ey rfl (RS.cell aO rfl o.b0 rfl<|RS.tmp rfl<|RS.nil) rfl<|?_;exact⟨x,_,_,_,_,_,_,_,_,rfl,rfl,Int.le_refl _,FD,hx,h7a,by omega,.refl _ _,⟨fun c _ _ h=>by(simp at On;omega),fun _=>.inl rfl,fun _=>.inl rfl⟩,fun h=>by(simp at On;omega),(As.gr o.g6),(As.gr o.g5),mU,(St.wk o.k0)⟩
  refine(aZ) aO z.b0<|(cJ) dN z.p6 fun nN agZ ag0 o=>?_;refine cy ?_;refine EX.ey rfl (RS.cell aO rfl o.b0 rfl<|RS.tmp rfl<|RS.nil) rfl<|?_;exact⟨⟨x.ad+1,li,x.ah⟩,_,_,_,_,_,_,_,_,rfl,rfl,by show x.ad≤x.ad+1;omega,by simp at On;show x.ad+1≤_;omega,hG,by simp at Ub;show li.length≤64;omega,Int.le_refl _,⟨hfi,.inr ⟨rfl,hfc⟩⟩,Lj.done (by omega),fun _=>rfl,(As.gr o.g2),(As.gr o.g3),mU,(St.wk o.k0)⟩
 -- k9 eN C49
theorem qO{{x:bZ}} {{l:List Change}} {{a1 a2 al:Option Addr}} {{n1 e1 n2 e2 nl f:Nat}} {{w:World}} {{M Z:Nat→Prop}} (h:St w M Z w []) (hi:Rd RR.aD 4 Z w a1 n1 e1 x.ab) (hr:Rd RR.ei 8 Z w a2 n2 e2 x.ah) (hl:Rd RR.bX 3 Z w al nl f l) (hb:jB x) (i:jC x.ad x.ab) (j:∀c∈l,c.small) (k:l.length≤32):Calls prog 16 #[.agg (x.row a1 n1 e1 a2 n2 e2).toArray,.slice al nl f] w fun e w'=>∃(y:bZ) (b1 b2:Option Addr) (m1 d1 m2 d2:Nat) (d:Int) (Z':Nat→Prop),e=.returned (.tuple #[.agg (y.row b1 m1 d1 b2 m2 d2).toArray,.int .i64 d])∧y.ah=x.ah∧x.ad≤y.ad∧y.ad≤1073741824∧jC y.ad y.ab∧y.ab.length≤64∧y.ad≤x.ad+1∧V9 x l y∧(x.ad+1≤1073741824→d=0)∧Rd RR.aD 4 Z' w' b1 m1 d1 y.ab∧Rd RR.ei 8 Z' w' b2 m2 d2 y.ah∧bK w.heap.size Z Z'∧St w M Z' w' []:=
 (mi h hi hr hl hb i j k).mono fun _ _ ⟨y,b1,b2,m1,d1,m2,d2,d,Z',g1,g2,g3,g4,g5,g6,g7,g8,_,g⟩=>⟨y,b1,b2,m1,d1,m2,d2,d,Z',g1,g2,g3,g4,g5,g6,g7,g8,g⟩
set_option maxHeartbeats 400000
theorem Dj(hl:Rd RR.key 2 Z w a n c l) (hm:Rd RR.key 2 Z2 w b m e q):CR prog 13 #[.slice a n c,.slice b m e] w (.bool (decide (l=q))):=by
 have v:=hl.len;have y:=hm.len;have hle:=hl.le;refine enter func13 rfl ntmps13 rfl<|?_;have aQ:=St.s0 w;refine aY ?_;refine(aS) (fun g11=>?_) fun g11=>?_
 ·
  simp at g11
  refine(bz) ?_;exact⟨by rw [decide_eq_false fun h=>g11 (by rw [v,y,h])],(St.cg aQ)⟩
 simp at g11
 refine kg ?_;refine WC.br (σ:=Nat) (dn:=fun i=>[(1,.slice b m e),(12,.slice a n c),(13,.int .i64 (n:Int)),(14,.int .i64 (i:Int))]) (F:=fun i=>[]) (I:=fun i=>(i≤n)∧(l.take i=q.take i)∧True) (μ:=fun i=>n - i) (0) (aQ) Sub.t (⟨by omega,by simp,trivial⟩)<|?_;rintro i w1 st1 ⟨hi,d,_⟩;simp only [CA,NA] at st1 hi d ⊢;refine(aS) (fun g15=>?_) fun g15=>?_
 ·
  simp at g15
  have j:i<l.length:=by omega
  have k:i<q.length:=by omega
  obtain⟨G,H,J,z,K,f,A,L⟩:=Rd.at hl j;have f:=RR.bd f;subst f;obtain⟨N,O,P,B,Q,g,C,R⟩:=Rd.at hm k;have g:=RR.bd g;subst g;refine ez ?_;refine WP .r (PV.dU eA z rfl rfl (by omega))<|(aZ) ao (aW A (St.cg st1) (by simp))<|(eZ) st1 fun S w2 T U st2=>?_;refine(cJ) hP st2 fun w3 V W o=>?_;refine cq ?_;have X:=o.bN;refine WC.dS (m:=5) o mixed<|bO ?_;refine DP .r (fun _ s=>PV.dU eA B rfl rfl (by omega))<|DP .r (fun _ s=>VA ao (aW C (St.cg s.2) (by simp)) .r)<|(gN) ao St.g0<|(cQ)<|?_;rintro w4 ⟨Y,u⟩ _;refine WP .r (PV.LG fI (p:=q[i]) (q:=l[i]) rfl rfl)<|(aS) (fun g24=>?_) fun g24=>?_
  ·
   simp at g24
   refine(bz) ?_;exact⟨by rw [decide_eq_false fun h=>g24 (by subst h;rfl)],(St.cg u)⟩
  simp at g24
  have D:=g24.symm;refine ez ?_;refine eB (i+1) ⟨u.drop,⟨by omega,by rw [List.take_succ_eq_append_getElem j,List.take_succ_eq_append_getElem k,d,D],trivial⟩⟩
 simp at g15
 refine(bz) ?_;exact⟨by rw [decide_eq_true];have h1:l.take i=l:=List.take_of_length_le (by omega);have E:q.take i=q:=List.take_of_length_le (by omega);rw [← h1,← E];exact d,(St.cg st1)⟩
theorem nW(hl:Rd RR.key 2 Z w a n c l) (hm:Rd RR.key 2 Z2 w b m e q) (h:l=q):CR prog 13 #[.slice a n c,.slice b m e] w (.bool true):=by
 have:=Dj hl hm
 rwa [decide_eq_true h] at this
set_option maxHeartbeats 400000
theorem Aj(y:St w M Z w []):Calls prog 15 #[] w fun e w'=>∃(a:Option Addr) (n c:Nat) (Z':Nat→Prop),e=.returned (.slice a n c)∧Rd RR.fb 4 Z' w' a n c H2∧bK w.heap.size Z Z'∧St w M Z' w' []:=by
 refine enter func15 rfl ntmps15 rfl<|?_;have aQ:=St.rb y;refine ez ?_;refine WP .r (PV.bB (us:=[.bool true,.bool false,.int .i64 0,.int .i64 0]) Kp rfl rfl rfl)<|?_;refine WL.go rfl (OX.aR (us:=[.bool true,.bool false,.int .i64 0,.int .i64 0]) Kn rfl rfl rfl rfl fun b2 w1 j z=>?_);have st1:=St.pY (R:=RR.ask) (E:=81) (k:=4) (a:=some ⟨b2,0,none⟩) (n:=1) (c:=1) (xs:=[(⟨true,false,0,0⟩:Ask)]) aQ j.ext (OR.dc z (Nat.zero_le _) rfl (by simp [Value.oneCell']) rfl) (fun x d=>by simp [aJ] at d;subst d;exact j.ge);refine WP .r (PV.bB (us:=[.bool false,.slice (some ⟨b2,0,none⟩) 1 1,.int .i64 2,.int .i64 0]) Ni rfl rfl rfl)<|WP .r (PV.bB (us:=[.bool false,.bool false,.int .i64 0,.int .i64 0]) Kp rfl rfl rfl)<|WP .r (PV.bB (us:=[.bool true,.bool false,.int .i64 1,.int .i64 0]) Kp rfl rfl rfl)<|?_;refine WL.go rfl (OX.aR (us:=([.bool false,.bool false,.int .i64 0,.int .i64 0]++[.bool true,.bool false,.int .i64 1,.int .i64 0])) RQ rfl rfl rfl rfl fun f w2 o A=>?_);have st2:=St.pY (R:=RR.ask) (E:=81) (k:=4) (a:=some ⟨f,0,none⟩) (n:=2) (c:=2) (xs:=[(⟨false,false,0,0⟩:Ask),⟨true,false,1,0⟩]) st1 o.ext (OR.VV (r:=[.bool false,.bool false,.int .i64 0,.int .i64 0]) (s:=[.bool true,.bool false,.int .i64 1,.int .i64 0]) A (Nat.zero_le _) rfl rfl (by simp [Value.oneCell']) rfl rfl) (fun x d=>by simp [aJ] at d;subst d;exact o.ge);refine WP .r (PV.bB (us:=[.bool false,.slice (some ⟨f,0,none⟩) 2 2,.int .i64 1,.int .i64 0]) Ni rfl rfl rfl)<|?_;refine WL.go rfl (OX.aR (us:=([.bool false,.slice (some ⟨b2,0,none⟩) 1 1,.int .i64 2,.int .i64 0]++[.bool false,.slice (some ⟨f,0,none⟩) 2 2,.int .i64 1,.int .i64 0])) RP rfl rfl rfl rfl fun i w3 C D=>?_);have p:=st2.da C D;refine bO ?_;have F:=St.fresh p.p2;have t:=p.p2.ba (by simp);have G:=St.fresh t.p2;have H:=t.p2.ba (by simp);have g:=H.p2;have u:=g.conv (B:=As.os RR.fb 84 4 (some ⟨i,0,none⟩) 2 2 H2) (OR.VV (As.gb g.g0) (Nat.zero_le _) rfl rfl (by simp [Value.oneCell']) ⟨some ⟨b2,0,none⟩,1,1,rfl,(As.gr g.g2)⟩ ⟨some ⟨f,0,none⟩,2,2,rfl,(As.gr g.g1)⟩) (fun x h=>by show x=i;change x∈aJ (some ⟨i,0,none⟩) at h;simpa [aJ] using h);have I:=St.fresh u;have v:=u.ba (by decide);refine(bz) ?_;exact⟨_,_,_,_,rfl,(As.gr v.g0),((bK.dA F).trans (bK.dA G) (Nat.le_refl _)).trans (bK.dA I) (Nat.le_refl _),(St.wk v.k0)⟩
set_option maxHeartbeats 4000000 in
theorem oT(gF:St w M Z w []) (ht:lD prog Z w):Calls prog 6 #[] w fun e w'=>∃Z':Nat→Prop,e=.returned (.bool true)∧St w M Z' w' []:=by
 have g:∀k∈[K1],ep H2 k:=fun k hk=>by rw [List.mem_singleton.1 hk];exact EL
 refine enter func6 rfl ntmps6 rfl<|?_;have aQ:=gF;have st1:=aQ.fact (B:=As.fz (FZ.Jw prog)) ht (fun _ o=>o);refine ez ?_;have st2:=st1;refine(bY) ade (Aj st2.e0) ?_;rintro _ w1 ⟨ra,rn,rc,Zh,rfl,Gx,hZh,Uc⟩;have iW:=St.lv st2 Uc hZh;have hU:=iW.fr (Gx);refine dd ?_;refine WP .r (PV.bB (us:=((⟨0,[],[]⟩:bZ).row none 0 0 none 0 0)) Wt rfl rfl rfl)<|(eP) (jm (n:=0)) hU fun w2 s2 ja=>?_;refine WP .r (PV.bB (us:=(⟨C0,z4⟩:Change).cells) RV rfl rfl rfl)<|?_;refine WL.go rfl (OX.aR (us:=(⟨C0,z4⟩:Change).cells) EY rfl rfl rfl rfl fun Yu w3 W N8=>?_);have hY:=St.pY (R:=RR.bX) (E:=49) (k:=3) (a:=some ⟨Yu,0,none⟩) (n:=1) (c:=1) (xs:=[(⟨C0,z4⟩:Change)]) ja W.ext (OR.dc N8 (Nat.zero_le _) rfl (by simp [Change.cells,Value.oneCell']) rfl) (fun x o=>by simp [aJ] at o;subst o;exact W.ge);have hh:=hY.ba (by simp);have G:=hh;refine(bY) NQ (mi (x:=⟨0,[],[]⟩) (l:=[(⟨C0,z4⟩:Change)]) G.e0 (Rd.nil _ _ _ _) (Rd.nil _ _ _ _) (As.gr G.g0) MT (jC.nil _) smA (by simp)) ?_;rintro _ w4 ⟨y,ya1,ya2,apk,apl,apm,apn,apo,yaZ,rfl,apq,apr,aps,ag1,apt,apu,apv,ag2,apw,ag3,ag4,ag5,ox⟩;have iH:=St.lv G ox ag5;obtain rfl:=aoA ag2;have p:=LC.nil H2 (⟨1,iA,[]⟩:bZ) rfl (by decide) (by decide) ag1 (by simp);have eE:=iH.fr (ag3);have dh:=eE.fr (ag4);refine(eZ) dh fun b2 w5 TB wJ cX=>?_;refine(cJ) dN cX fun w6 jU j3 dj=>?_;refine cy ?_;refine WC.bL (m:=10) [8,9] [3,4,5] [2,3,4,0,1,5,6,7,8,9] [] dj (ai.k4 M0 M1 M2 M3<|ai.cons M4<|ai.cons M5<|ai.nil) mixed (by kernel_rfl) (by kernel_rfl) rfl<|(gh) (fun w7 H I J K=>?_);simp only [CA,NA] at J;refine OX.call zt rfl rfl ((gS (n:=1) (aa:=H2) (As.gr J.g4)).mono ?_);rintro _ w8 ⟨rfl,X⟩;have dI:=J.step X;refine⟨_,rfl,X.size,_,rfl,_,_,_,dI,ax.k4<|ax.k2<|ax.nil,ai.k4 M0 M1 M2 M3<|ai.cons M4<|ai.cons M5<|ai.nil,?_⟩;refine(gh) (fun w9 Y wX gy mF=>?_);simp only [CA,NA] at gy;refine OX.aR (us:=K1.cells) dx rfl rfl rfl rfl fun L iT ZB ag6=>?_;have dT:=gy.da ZB ag6;have ef:=dT;have dR:=ef.conv (B:=As.os RR.key 40 2 (some ⟨L,0,none⟩) 1 1 [K1]) (OR.dc (As.gb ef.g0) (Nat.zero_le _) rfl (by simp [Key.cells,Value.oneCell']) rfl) (fun x h=>by show x=L;change x∈aJ (some ⟨L,0,none⟩) at h;simpa [aJ] using h);have dG:=dR.ba (by simp);refine⟨ZB.ext.size,_,rfl,_,_,_,dG,ax.k4<|ax.k2<|ax.cons<|ax.nil,ai.k4 M1 M2 M3 M4<|ai.cons M5<|ai.cons M6<|ai.nil,?_⟩;refine(lq) aO SV.g0<|(gh) (fun iY Iu r8 eW jV=>?_);simp only [CA,NA] at eW;have d:=eW;refine OX.call NL rfl rfl ((ic (x:=(⟨1,iA,[]⟩:bZ)) (goals:=[K1]) d.e0 (As.gf d.g6) (As.gr d.g5) (As.gr d.g3) (As.gr d.g2) (As.gr d.g0) jT p g (by simp)).mono ?_);rintro _ lx ⟨v,ag7,rs3,p31,p32,p33,j31,k31,j32,k32,j33,k33,Z3x,rfl,N,ag9,Li,aha,Oo,Ud,nO⟩;have z:=St.lv d nO Ud;obtain⟨i,Sy,KP,hw3,PZ⟩:=N.done jT p g;have ZC:ay v K1=true:=(Li K1 (List.mem_singleton.2 rfl)).resolve_left (by rw [J9];simp);have Ll:=i.lb.ok.fT.len;have Ll:v.ah.length≤4000:=Ll;have ahb:=i.lb.ok.po;obtain⟨_,_,_,ahc,_⟩:=N.ready jT p g;have ahd:=Oo.length_eq;have ahe:=((As.gs z.g0)).len;have Ue:=((As.gs z.g1)).len;have ZD:=((As.gs z.g2)).len;obtain⟨hh1,hh2⟩:=MV p rfl N ZC
 obtain rfl:j33=2:=by omega
 have fi:=z.ba (by omega);have eh:=fi.p1.ba (by omega);have eX:=eh.p2.ba (by omega);refine⟨_,rfl,nO.bX.size,_,rfl,_,_,_,eX,ax.k4<|ax.k4<|ax.k2<|ax.nil,ai.k4 M4 M5 M6 M7<|ai.cons M8<|ai.cons M9<|ai.nil,?_⟩
 iterate 4 refine DG.a ?_
 refine(jo) ?_;intro nN pC dz;simp only [CM,NM,CA,NA,hV.it] at dz;refine(cJ) dN dz.p4 fun qV qU mu eY=>?_;refine bO ?_;refine WL.nil (EX.np ?_);refine bO ?_;refine WC.bL (m:=9) [7] [1,3,4] [1,2,3,0,4,5,6,7,8] [(8,.blk 31 [.int .i64 0,.slice none 0 0,.slice none 0 0])] eY (ai.k4 M0 M1 M2 M3<|ai.k4 M4 M5 M6 M7<|ai.cons M8<|ai.cons M9<|ai.nil) mixed (by kernel_rfl) (by kernel_rfl) rfl<|(gh) (fun pD R1x Y0 kF PT=>?_);simp only [CA,NA] at kF;refine OX.call NN rfl rfl ((jm (n:=0)).mono ?_);rintro _ tB ⟨rfl,SS⟩;have mP:=kF.step SS;refine⟨_,rfl,SS.size,_,rfl,_,_,_,mP,ax.k4<|ax.k4<|ax.k2<|ax.nil,ai.k4 M0 M1 M2 M3<|ai.k4 M4 M5 M6 M7<|ai.cons M8<|ai.cons M9<|ai.nil,?_⟩;refine DQ .r (fun wx Zx Rx _ pH vI=>PV.bB (us:=(⟨C0,z5⟩:Change).cells) RV rfl rfl rfl)<|(gh) (fun zF H I qP K=>?_);simp only [CA,NA] at qP;refine OX.aR (us:=(⟨C0,z5⟩:Change).cells) EY rfl rfl rfl rfl fun O yk ZE ahf=>?_;have qQ:=qP.da ZE ahf;have qN:=qQ;have pI:=qN.conv (B:=As.os RR.bX 49 3 (some ⟨O,0,none⟩) 1 1 [(⟨C0,z5⟩:Change)]) (OR.dc (As.gb qN.g0) (Nat.zero_le _) rfl (by simp [Change.cells,Value.oneCell']) rfl) (fun x h=>by show x=O;change x∈aJ (some ⟨O,0,none⟩) at h;simpa [aJ] using h);have mO:=pI.ba (by simp);refine⟨ZE.ext.size,_,rfl,_,_,_,mO,ax.k4<|ax.k4<|ax.k2<|ax.cons<|ax.nil,ai.k4 M1 M2 M3 M4<|ai.k4 M5 M6 M7 M8<|ai.cons M9<|ai.cons hJ<|ai.nil,?_⟩;refine(lq) aO SV.g0<|(gh) (fun FC Y wX j4 mF=>?_);simp only [CA,NA] at j4;have j:=j4;refine OX.call NQ rfl rfl ((mi (x:=v) (l:=[(⟨C0,z5⟩:Change)]) j.e0 (As.gr j.g4) (As.gr j.g3) (As.gr j.g0) i.lb.ok.jB i.lb.aD smQ (by simp)).mono ?_);rintro _ Ii ⟨y,yb1,yb2,apC,apD,apE,apF,apG,ybZ,rfl,ahg,ahh,ahi,ahj,ahk,apH,ahl,ahm,apI,ahn,aho,ahp,vJ⟩;have mj:=St.lv j vJ ahp;have C:=i.apply ahl ahg ahh ahi ahj ahk;obtain rfl:=aoB Sy KP ahm;have sa:=mj.fr (ahn);have Ak:=sa.fr (aho);refine⟨_,rfl,vJ.bX.size,_,rfl,_,_,_,Ak,ax.k4<|ax.k4<|ax.k4<|ax.cons<|ax.nil,ai.k4 M3 M4 M5 M6<|ai.k4 M7 M8 M9 hJ<|ai.cons ir<|ai.cons j5<|ai.nil,?_⟩
 iterate 3 refine DG.a ?_
 refine DG.side (s:=.blk 31 [.int .i64 0,.slice none 0 0,.slice none 0 0]) rfl rfl rfl rfl rfl rfl (fun wx Zx Rx qI pH=>OX.alloc RY rfl fun b wy nw hb=>⟨nw.ext.size,_,rfl,⟨b,rfl⟩,pH.da nw hb⟩)<|?_;rintro _ ⟨b6,rfl⟩;refine(jo) ?_;intro K9 rY iZ;simp only [CM,NM,CA,NA,hV.it] at iZ;refine(cJ) dN iZ fun Oe zy tK Iw=>?_;refine nx ?_;refine WL.nil (EX.np ?_);refine bO ?_;refine WC.bL (m:=10) [8,9] [3,4,5] [2,3,4,0,1,5,6,7,8,9] [] Iw (ai.k4 M0 M1 M2 M3<|ai.k4 M4 M5 M6 M7<|ai.k4 M8 M9 hJ ir<|ai.cons j5<|ai.cons mH<|ai.nil) mixed (by kernel_rfl) (by kernel_rfl) rfl<|(gh) (fun TF H I P K=>?_);simp only [CA,NA] at P;refine OX.call zt rfl rfl ((gS (n:=1) (aa:=H2) (As.gr P.g12)).mono ?_);rintro _ TG ⟨rfl,s24⟩;have lP:=P.step s24;refine⟨_,rfl,s24.size,_,rfl,_,_,_,lP,ax.k4<|ax.k4<|ax.k4<|ax.k2<|ax.nil,ai.k4 M0 M1 M2 M3<|ai.k4 M4 M5 M6 M7<|ai.k4 M8 M9 hJ ir<|ai.cons j5<|ai.cons mH<|ai.nil,?_⟩;refine(gh) (fun Y1 Y wX jn mF=>?_);simp only [CA,NA] at jn;refine OX.aR (us:=K1.cells) dx rfl rfl rfl rfl fun Q w26 NV Sv=>?_;have Lm:=jn.da NV Sv;have sc:=Lm;have pJ:=sc.conv (B:=As.os RR.key 40 2 (some ⟨Q,0,none⟩) 1 1 [K1]) (OR.dc (As.gb sc.g0) (Nat.zero_le _) rfl (by simp [Key.cells,Value.oneCell']) rfl) (fun x h=>by show x=Q;change x∈aJ (some ⟨Q,0,none⟩) at h;simpa [aJ] using h);have se:=pJ.ba (by simp);refine⟨NV.ext.size,_,rfl,_,_,_,se,ax.k4<|ax.k4<|ax.k4<|ax.k2<|ax.cons<|ax.nil,ai.k4 M1 M2 M3 M4<|ai.k4 M5 M6 M7 M8<|ai.k4 M9 hJ ir j5<|ai.cons mH<|ai.cons tH<|ai.nil,?_⟩;refine(lq) aO SV.g0<|(gh) (fun w27 Iu r8 tD jV=>?_);simp only [CA,NA] at tD;have f:=tD;refine OX.call NL rfl rfl ((ic (x:=(⟨2,iB,v.ah⟩:bZ)) (goals:=[K1]) f.e0 (As.gf f.g14) (As.gr f.g13) (As.gr f.g3) (As.gr f.g2) (As.gr f.g0) jT C g (by simp)).mono ?_);rintro _ w28 ⟨b5x,apK,rs5,p51,p52,p53,j51,k51,j52,k52,j53,k53,Z5x,rfl,S,apL,ahr,apM,ZF,ahs,P0⟩;have D:=St.lv f P0 ahs;obtain⟨lc5,LW,N1,hw5,akZ⟩:=S.done jT C g;have aht:ay b5x K1=true:=(ahr K1 (List.mem_singleton.2 rfl)).resolve_left (by rw [J9];simp);have ZG:=lc5.lb.ok.fT.len;have ZG:b5x.ah.length≤4000:=ZG;have apN:=lc5.lb.ok.po;obtain⟨_,_,_,apO,_⟩:=S.ready jT C g;have apP:=ZF.length_eq;have apQ:=((As.gs D.g0)).len;have ahu:=((As.gs D.g1)).len;have apR:=((As.gs D.g2)).len;obtain⟨hrs,B2,GG⟩:=MW i KP hh2 ZC PZ C rfl S aht ZF;subst hrs;have F4:=D.ba (by omega);have vY:=F4.p1.ba (by omega);have Dk:=vY.p2.ba (by omega);refine⟨_,rfl,P0.bX.size,_,rfl,_,_,_,Dk,ax.k4<|ax.k4<|ax.k4<|ax.k4<|ax.k2<|ax.nil,ai.k4 M4 M5 M6 M7<|ai.k4 M8 M9 hJ ir<|ai.k4 j5 mH tH Ga<|ai.cons Iy<|ai.cons L0<|ai.nil,?_⟩
 iterate 4 refine DG.a ?_
 refine(jo) ?_;intro w29 vO F5;simp only [CM,NM,CA,NA,hV.it] at F5;refine(cJ) dN F5.p4 fun w30 LP LQ Uf=>?_;refine bO ?_;refine WL.nil (EX.np ?_);refine bO ?_;refine WC.bL (m:=7) [6] [2,3] [1,2,0,3,4,5,6] [] Uf (ai.k4 M0 M1 M2 M3<|ai.k4 M4 M5 M6 M7<|ai.k4 M8 M9 hJ ir<|ai.k4 j5 mH tH Ga<|ai.cons Iy<|ai.cons L0<|ai.nil) mixed (by kernel_rfl) (by kernel_rfl) rfl<|(gh) (fun w31 PW CX T tf=>?_);simp only [CA,NA] at T;refine OX.call zt rfl rfl ((gS (n:=1) (aa:=H2) (As.gr T.g16)).mono ?_);rintro _ w32 ⟨rfl,s32⟩;have F6:=T.step s32;refine⟨_,rfl,s32.size,_,rfl,_,_,_,F6,ax.k4<|ax.k4<|ax.k4<|ax.k4<|ax.k2<|ax.nil,ai.k4 M0 M1 M2 M3<|ai.k4 M4 M5 M6 M7<|ai.k4 M8 M9 hJ ir<|ai.k4 j5 mH tH Ga<|ai.cons Iy<|ai.cons L0<|ai.nil,?_⟩;refine(lq) aO SV.g0<|(gh) (fun w33 H I ZH K=>?_);simp only [CA,NA] at ZH;have F:=ZH;refine OX.call adf rfl rfl ((xd (k:=K1) F.e0 (As.gr F.g3) (As.gr F.g2)).mono ?_);rintro _ w34 ⟨rfl,P1⟩;have ahv:=St.lr F P1;rw [B2,GG];refine⟨_,rfl,P1.bX.size,_,rfl,_,_,_,ahv,ax.k4<|ax.k4<|ax.k4<|ax.k4<|ax.k2<|ax.nil,ai.k4 M0 M1 M2 M3<|ai.k4 M4 M5 M6 M7<|ai.k4 M8 M9 hJ ir<|ai.k4 j5 mH tH Ga<|ai.cons Iy<|ai.cons L0<|ai.nil,?_⟩
 iterate 3 refine DG.a ?_
 refine(jo) ?_;intro w35 qB U;simp only [CM,NM,CA,NA,hV.it] at U;refine bO ?_;refine WL.nil (EX.np ?_);refine fL ?_;refine WL.dm (t:=58) rfl (fun g58=>?_) (fun g58=>?_)
 ·
  refine cy ?_;refine WL.dm (t:=62) rfl (fun Su=>?_) (fun Su=>?_)
  ·
   refine dd ?_;refine WL.dm (t:=67) rfl (fun U8=>?_) (fun U8=>?_)
   ·
    refine bO ?_;refine WL.c1 (u:=K0.val) (gS (n:=0) (aa:=H2) (As.gr U.g16)) (by rw [show aM H2 0=K0 from qm]) U fun w36 s36 ahw=>?_;refine WL.go rfl (OX.aR (us:=K0.cells) dx rfl rfl rfl rfl fun b71 w37 S0 N0=>?_);have V:=ahw.da S0 N0;refine(eP) (nW (As.gr V.g2) (SR.dc (A:=fun _=>True) (x:=K0) (As.gb V.g0) trivial rfl (by simp [Key.cells,Value.oneCell']) rfl) rfl) V fun w38 s38 ahx=>?_;refine fL ?_;refine WL.dm (t:=78) rfl (fun g78=>?_) (fun g78=>?_)
    ·
     refine(bz) ?_;exact⟨_,rfl,ahx.k0⟩
    exact dL g78
   exact dL U8
  exact dL Su
 ·
  exact dL g58
 -- k9 eN G74
set_option maxHeartbeats 400000
theorem ipT:IpT prog 78:=Rf (fun a b s t w=>MU underlying40 rfl rfl rfl rfl (by decide) (by decide) underlying3 underlying9 isAgg3 isAgg9 (by kernel_rfl) 9997 a b s t w) underlying78 rfl rfl rfl rfl rfl rfl (by decide) (by decide) (by decide) underlying9 underlying3 isAgg40 sizeOf40 isAgg9 isAgg3 (by kernel_rfl) (by kernel_rfl)
theorem vZ{r:Rec}(hl:Rd RR.key 2 Z w a n c r.reads) (hm:Rd RR.key 2 Z2 w b m e r.reads):CR prog 71 #[.agg (r.row a n c).toArray,.agg (r.row b m e).toArray] w (.bool true):=by
 refine enter func71 rfl ntmps71 rfl<|?_;have aQ:=St.s0 w;refine(dy) aQ fun b2 w1 f g st1=>?_;refine(dy) st1 fun b3 w2 h i st2=>?_;refine(hW) ao st2.b1<|(hW) ao st2.b0<|?_;refine WP .r ((PV.DX fI (p:=r.key) (q:=r.key) rfl rfl).cast (v':=.bool true) (congrArg Value.bool (decide_eq_true rfl)))<|(a7) fy st2.b1<|(a7) fy st2.b0<|?_;refine WP .r ((PV.eqs rfl rfl).cast (v':=.bool true) (congrArg Value.bool (decide_eq_true rfl)))<|(a7) dE st2.b1<|(a7) dE st2.b0<|(eP) (nW (hl.ext (St.cg st2)) (hm.ext (St.cg st2)) rfl) st2 fun w3 j d=>?_;refine(a7) aP d.b1<|(a7) aP d.b0<|?_;refine WP .r ((PV.Iz rfl rfl).cast (v':=.bool true) (congrArg Value.bool (decide_eq_true rfl)))<|(a7) aP d.b1<|(a7) aP d.b0<|?_;refine WP .r ((PV.Iz rfl rfl).cast (v':=.bool true) (congrArg Value.bool (decide_eq_true rfl)))<|(a7) aP d.b1<|(a7) aP d.b0<|?_;refine WP .r ((PV.Iz rfl rfl).cast (v':=.bool true) (congrArg Value.bool (decide_eq_true rfl)))<|(a7) dH d.b1<|(a7) dH d.b0<|?_;refine WP .r ((PV.eqB ac5 rfl rfl).cast (v':=.bool true) (congrArg Value.bool (decide_eq_true rfl)))<|(bz) ?_;exact⟨rfl,(St.cg d)⟩
 -- k o s t u v y z
theorem xf{l:List Rec}(hl:Rd RR.ei 8 Z w a n c l) (hm:Rd RR.ei 8 Z2 w b m e l):CR prog 33 #[.slice a n c,.slice b m e] w (.bool true):=by
 have j:=hl.len;have k:=hm.len;have hle:=hl.le;refine enter func33 rfl ntmps33 rfl<|?_;have aQ:=St.s0 w;refine aY ?_;refine(aS) (fun g11=>?_) fun g11=>?_
 ·
  exact absurd (congrArg Nat.cast (j.trans k.symm)) (by simpa using g11)
 ·
  skip
  refine kg ?_;refine WC.br (σ:=Nat) (dn:=fun i=>[(1,.slice b m e),(12,.slice a n c),(13,.int .i64 (n:Int)),(14,.int .i64 (i:Int))]) (F:=fun i=>[]) (I:=fun i=>(i≤n)∧True) (μ:=fun i=>n - i) (0) (aQ) Sub.t (⟨by omega,trivial⟩)<|?_;rintro i w1 st1 ⟨hi,_⟩;simp only [CA,NA] at st1 hi ⊢;refine(aS) (fun g15=>?_) fun g15=>?_
  ·
   simp at g15
   have f:i<l.length:=by omega
   obtain⟨C,D,E,o,G,p,s,H⟩:=Rd.at hl f;obtain⟨p1,p2,p3,rfl,u,J⟩:=p;obtain⟨K,L,N,v,O,y,z,P⟩:=Rd.at hm f;obtain⟨q1,Q,R,rfl,A,S⟩:=y;refine ez ?_;refine WP .r (PV.dU iG o rfl rfl (by omega))<|(aZ) cV (aW s (St.cg st1) (by simp))<|(eZ) st1 fun T w2 U V st2=>?_;refine(cJ) fY st2 fun w3 W X g=>?_;refine cq ?_;have Y:=g.bN;refine WC.dS (m:=5) g mixed<|(gN) cV St.g0<|bO ?_;refine DP .r (fun _ h=>PV.dU iG v rfl rfl (by omega))<|DP .r (fun _ h=>VA cV (aW z (St.cg h.2) (by simp)) .r)<|(cQ)<|?_;rintro w4 ⟨qB,d⟩ _;refine(eP) (vZ (u.ext (St.cg d)) (A.ext (St.cg d))) d fun w5 s5 B=>?_;refine cq ?_;refine WC.fK rfl<|ez ?_;refine eB (i+1) ⟨B.drop,⟨by omega,trivial⟩⟩
  skip
  refine(bz) ?_;exact⟨rfl,(St.cg st1)⟩
 -- k9 eN C25
theorem xg{b1 b2:Option Addr}{m1 d1 m2 d2:Nat}(hi:Rd RR.aD 4 Z w a1 n1 e1 x.ab) (hr:Rd RR.ei 8 Z w a2 n2 e2 x.ah) (j:Rd RR.aD 4 Z2 w b1 m1 d1 x.ab) (kr:Rd RR.ei 8 Z2 w b2 m2 d2 x.ah):CR prog 12 #[.agg (x.row a1 n1 e1 a2 n2 e2).toArray,.agg (x.row b1 m1 d1 b2 m2 d2).toArray] w (.bool true):=by
 have H:=hi.len;have J:=j.len;have hle:=hi.le
 have y:(n1:Int)=(m1:Int):=by omega
 refine enter func12 rfl ntmps12 rfl<|?_;have aQ:=St.s0 w;refine(dy) aQ fun b2 w1 K L st1=>?_;refine(dy) st1 fun b3 w2 N O st2=>?_;refine(a7) aP st2.b1<|(a7) aP st2.b0<|?_;refine WP .r ((PV.Vh rfl rfl).cast (v':=.bool false) (congrArg Value.bool (decide_eq_false fun h=>h rfl)))<|(a7) i7 st2.b1<|(a7) i7 st2.b0<|nx ?_;refine WP .r ((PV.Vh rfl rfl).cast (v':=.bool false) (congrArg Value.bool (decide_eq_false fun h=>h y)))<|(a7) dD st2.b1<|(a7) dD st2.b0<|(eP) (xf (hr.ext (St.cg st2)) (kr.ext (St.cg st2))) st2 fun w3 P k=>?_;refine cy ?_;refine WC.fK rfl<|(a7) i7 k.b1<|dd ?_;refine WC.br (σ:=Nat) (dn:=fun i=>[(3,.pointer (some ⟨b3,0,none⟩)),(30,.slice a1 n1 e1),(31,.int .i64 (n1:Int)),(32,.int .i64 (i:Int))]) (F:=fun i=>[]) (I:=fun i=>(i≤n1)∧True) (μ:=fun i=>n1 - i) (0) (k) Sub.t (⟨by omega,trivial⟩)<|?_;rintro i w4 d ⟨z,_⟩;simp only [CA,NA] at d z ⊢;refine(aS) (fun o=>?_) fun o=>?_
 ·
  simp at o
  have s:i<x.ab.length:=by omega
  obtain⟨Q,R,S,A,T,f,B,U⟩:=Rd.at hi s;have f:=RR.bd f;subst f;obtain⟨V,W,X,C,Y,g,D,apV⟩:=Rd.at j s;have g:=RR.bd g;subst g;refine ez ?_;refine WP .r (PV.dU qv A rfl rfl (by omega))<|(aZ) ku (aW B (St.cg d) (by simp))<|(eZ) d fun b6 w5 DH IK E=>?_;refine(cJ) zn E fun w6 jU j3 u=>?_;refine cq ?_;have PI:=u.bN;refine WC.dS (m:=6) u mixed<|(iv) i7 St.g1<|nx ?_;refine DP .r (fun _ v=>PV.dU qv C rfl rfl (by omega))<|DP .r (fun _ v=>VA ku (aW D (St.cg v.2) (by simp)) .r)<|(gN) ku St.g0<|(cQ)<|?_;rintro w7 ⟨qB,G⟩ _;refine WP .r (PV.acK ipT (p:=x.ab[i]) rfl rfl)<|bO ?_;refine WC.fK rfl<|ez ?_;refine eB (i+1) ⟨G.drop,⟨by omega,trivial⟩⟩
 ·
  skip
  refine(bz) ?_;exact⟨rfl,(St.cg d)⟩
 -- k9 eN C28 C43 G12 G21
end Go.Rc

