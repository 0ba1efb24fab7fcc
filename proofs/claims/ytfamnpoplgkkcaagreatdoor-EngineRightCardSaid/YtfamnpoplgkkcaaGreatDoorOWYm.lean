/- Walks over the program, part WYm. Conditions: as each theorem says. -/
import Derived.Test.YtfamnpoplgkkcaaGreatDoorOFacts
import Derived.Test.YtfamnpoplgkkcaaGreatDoorOWZl
import Derived.Test.YtfamnpoplgkkcaaGreatDoorOWF
import Derived.Test.YtfamnpoplgkkcaaGreatDoorOBf
import Derived.Test.YtfamnpoplgkkcaaGreatDoorOBh
import Derived.Test.YtfamnpoplgkkcaaGreatDoorOWYk
import Derived.Test.YtfamnpoplgkkcaaGreatDoorOWUa
import Derived.Test.YtfamnpoplgkkcaaGreatDoorOBi
import Derived.Test.YtfamnpoplgkkcaaGreatDoorOBg
set_option linter.all false
namespace Go.Rc
open Go Go.Proofs Go.Proofs.Tryz
variable {x:cy}{a1 a2 a b:Option Addr}{n1 e1 n2 e2 n c m e:Nat}{w:World}{M Z Z2:Nat→Prop}{l q:List Key}
set_option maxHeartbeats 400000
set_option maxHeartbeats 1600000 in
set_option maxRecDepth 8000 in
theorem mc{l:List Change}{al:Option Addr}{nl f:Nat}(gk:St w M Z w []) (hi:Rd RR.aD 4 Z w a1 n1 e1 x.ab) (hr:Rd RR.dV 8 Z w a2 n2 e2 x.ah) (hl:Rd RR.bV 3 Z w al nl f l) (hb:gU x) (hx:jx x.ad x.ab) (hs:∀c∈l,c.small) (hl4:l.length≤32):Calls prog 18 #[.agg (x.row a1 n1 e1 a2 n2 e2).toArray,.slice al nl f] w fun e w'=>∃(y:cy) (b1 b2:Option Addr) (m1 d1 m2 d2:Nat) (er:Int) (Z':Nat→Prop),e=.returned (.tuple #[.agg (y.row b1 m1 d1 b2 m2 d2).toArray,.int .i64 er])∧y.ah=x.ah∧x.ad≤y.ad∧y.ad≤1073741824∧jx y.ad y.ab∧y.ab.length≤64∧y.ad≤x.ad+1∧VS x l y∧AO x l y∧(x.ad+1≤1073741824→er=0)∧Rd RR.aD 4 Z' w' b1 m1 d1 y.ab∧Rd RR.dV 8 Z' w' b2 m2 d2 y.ah∧bH w.heap.size Z Z'∧St w M Z' w' []:=by
 have hln:=hl.len;have h7a:=hb.2.2.2.2.1;have h6a:=hb.2.2.2.2.2.1
 have h6:x.ah.length≤1000000:=by omega
 have h7:x.ab.length≤1000000:=by omega
 have hv0:=hb.2.2.1;have DA:=hb.2.2.2.1;refine enter func18 rfl ntmps18 rfl<|?_;have aO:=St.rb gk;have st1:=aO.fr hi;have st2:=st1.fr hr;have iT:=st2.fr hl;refine(dq) iT fun b2 w1 Tj wD ik=>?_;refine(eN) ik fun b4 w2 EY Iy iY=>?_;refine(aY) aL iY.b1<|?_;have iC:=iY;refine(bX) zv (fA (x:=x) iC.e0 (As.gr iC.g4) (As.gr iC.g3) h6 h7) ?_;rintro _ w3 ⟨f1,f2,f3,f4,f5,f6,Z1,rfl,nK,kq⟩;have gW:=St.lv iC kq nK;have agt:=St.bM kq;have agu:=St.bM kq.p1;have rX:=iC.size;have wg:=nK.le rX;have agv:=St.fresh gW;have iH:=gW.ba (by omega);have agw:=St.fresh iH.p1;have iE:=iH.p1.ba (by omega);have agx:=(wg.trans (bH.dA (F:=fun x=>x∈aI f1) agt) rX).trans (bH.dA (F:=fun x=>x∈aI f4) agu) rX;refine(cF) dR iE.p3 fun w4 jO jZ eD=>?_;refine(aY) aL eD.b0<|(bX) Kf (iO (x:=x) (As.gr eD.g2) (As.gr eD.g1)) ?_;rintro _ w5 ⟨bb,rfl,hbb,s5⟩;have dh:=eD.step s5;obtain rfl:bb=true:=hbb.2 hb;refine(aR) (fun g24=>?_) fun g24=>?_
 ·
  exact dm g24
 ·
  refine(aR) (fun Ic=>?_) fun Ic=>?_
  ·
   exact dm Ic
  refine aX ?_;refine WC.bd (σ:=Nat) (dj:=fun i=>[(1,.slice al nl f),(2,.pointer (some ⟨b2,0,none⟩)),(4,.pointer (some ⟨b4,0,none⟩)),(34,.slice al nl f),(35,.int .i64 (nl:Int)),(36,.int .i64 (i:Int))]) (F:=fun i=>[]) (I:=fun i=>(i≤l.length)∧True) (μ:=fun i=>l.length - i) (0) (dh) Sub.t (⟨by omega,trivial⟩)<|?_;rintro i w6 cW ⟨eJ,_⟩;simp only [CA,NA] at cW eJ ⊢;refine(aR) (fun g37=>?_) fun g37=>?_
  ·
   simp at g37
   have D:i<l.length:=by omega
   have LI:=hs _ (List.getElem_mem D);have hsk:=LI.ok;have HZ:=LI.2;refine db ?_;obtain⟨gH,kz,jY,cR,gG,G,et,eI⟩:=Rd.at (As.gr cW.g4) D;have G:=RR.a8 G;subst G;have N:=cW.fg eI et;refine nx ?_;refine WP .r (PV.dI HE cR rfl rfl (by omega))<|(aY) B2 (As.kH N.g0)<|(eN) N fun b7 w7 Pn Po K=>?_;refine(cF) J8 K fun w8 qV mi T=>?_;refine(gX) ao T.b0<|?_;refine WL.c1 (u:=.bool true) (iM (k:=l[i].key)) (by rw [hsk.1]) T fun w9 s9 O=>?_;refine(gX) ao O.b0<|?_;refine WL.c1 (u:=.bool true) (ep (k:=l[i].key)) (by rw [hsk.2]) O fun iN s10 eu=>?_;refine cj ?_;refine WC.eA rfl<|ed ?_;refine ef (i+1) ⟨eu.drop.drop,⟨by omega,trivial⟩⟩
  skip
  refine aX ?_;refine bK ?_;refine WC.bd (σ:=Nat) (dj:=fun i=>[(1,.slice al nl f),(2,.pointer (some ⟨b2,0,none⟩)),(4,.pointer (some ⟨b4,0,none⟩)),(52,.slice al nl f),(53,.int .i64 (nl:Int)),(54,.int .i64 (i:Int))]) (F:=fun i=>[]) (I:=fun i=>(i≤l.length)∧True) (μ:=fun i=>l.length - i) (0) (cW) Sub.t (⟨by omega,trivial⟩)<|?_;rintro i w7 N ⟨eJ,_⟩;simp only [CA,NA] at N eJ ⊢;refine(aR) (fun PN=>?_) fun PN=>?_
  ·
   simp at PN
   have D:i<l.length:=by omega
   have LI:=hs _ (List.getElem_mem D);have HZ:=LI.2;refine db ?_;obtain⟨gH,kz,jY,cR,gG,G,et,eI⟩:=Rd.at (As.gr N.g4) D;have G:=RR.a8 G;subst G;have K:=N.fg eI et;refine nx ?_;refine WP .r (PV.dI HE cR rfl rfl (by omega))<|(aY) B2 (As.kH K.g0)<|(eN) K fun b9 w8 nw9 hb9 T=>?_;refine(cF) J8 T fun w9 zy tK O=>?_;refine(aZ) fh O.b0<|(aR) (fun NN=>?_) fun NN=>?_
   ·
    exact dm NN
   refine ed ?_;refine ef (i+1) ⟨O.drop.drop,⟨by omega,trivial⟩⟩
  skip
  refine(aY) aL N.b0<|?_;have K:=N;refine(bX) zv (fA (x:=x) K.e0 (As.gr K.g2) (As.gr K.g1) h6 h7) ?_;rintro _ w8 ⟨k1,k2,k3,k4,k5,k6,Z2,rfl,vC,kA⟩;have T:=St.lv K kA vC;have agz:=St.bM kA;have agA:=St.bM kA.p1;have oj:=K.size;have mx:=agx.trans vC oj;have agB:=St.fresh T;have O:=T.ba (by omega);have agC:=St.fresh O.p1;have eu:=O.p1.ba (by omega);have agD:=(mx.trans (bH.dA (F:=fun x=>x∈aI k1) agz) oj).trans (bH.dA (F:=fun x=>x∈aI k4) agA) oj;refine(eN) eu fun P w9 Fo Fp dZ=>?_;refine(cF) dR dZ fun iN Lv Lx dE=>?_;refine(aZ) aN dE.b0<|bK ?_;refine WL.s1 dE fun iV _ dF=>?_;refine aX ?_;refine cj ?_;refine WC.hh (σ:=Nat × Bool × (List cv) × (Option Addr) × Nat × Nat × (Nat→Prop)) (dj:=fun(i,ch,li,H,ni,J,Q)=>[(1,.slice al nl f),(2,.pointer (some ⟨b2,0,none⟩)),(4,.pointer (some ⟨b4,0,none⟩)),(10,.pointer (some ⟨P,0,none⟩)),(11,.bool ch),(70,.slice al nl f),(71,.int .i64 (nl:Int)),(72,.int .i64 (i:Int))]) (F:=fun(i,ch,li,H,ni,J,Q)=>[As.blk P 31 [.int .i64 (x.ad+1),.slice H ni J,.slice k4 k5 k6],As.ro RR.aD 4 H ni J li]) (I:=fun(i,ch,li,H,ni,J,Q)=>(i≤l.length)∧(jx (x.ad+1) li)∧(li.length≤x.ab.length+i)∧(∀k,(∀c∈l,c.key≠k)→bw li k=bw x.ab k)∧(∀k,bw li k=bw x.ab k∨(bw li k).changed=x.ad+1)∧(bH w.heap.size Z Q)∧(Hq x l i ch li)∧True) (μ:=fun(i,ch,li,H,ni,J,Q)=>l.length - i) (Zf:=fun(i,ch,li,H,ni,J,Q)=>Q) (0,false,x.ab,k1,k2,k3,_) (dF.p2.p1) Sub.t (⟨by omega,hx.mono (by omega),by omega,fun _ _=>rfl,fun _=>.inl rfl,agD,.start,trivial⟩)<|?_;rintro⟨i,ch,li,H,ni,J,Q⟩ k9 z ⟨eJ,hG,agE,hfi,hfc,mN,KZ,_⟩;simp only [CA,NA] at z eJ hG agE hfi hfc mN KZ ⊢;refine(aR) (fun LJ=>?_) fun LJ=>?_
  ·
   have agF:=((As.gr z.g1)).len
   simp at LJ
   have D:i<l.length:=by omega
   have LI:=hs _ (List.getElem_mem D);refine db ?_;obtain⟨gH,kz,jY,cR,gG,G,et,eI⟩:=Rd.at (As.gr z.g7) D;have G:=RR.a8 G;subst G;have o:=z.fg eI et;refine bK ?_;refine WP .r (PV.dI HE cR rfl rfl (by omega))<|(aY) B2 (As.kH o.g0)<|(eN) o fun UC mM NZ aeP fb=>?_;refine(cF) J8 fb fun pH LH DX fc=>?_;refine aX ?_;refine nx ?_;refine WP .r (PV.yv HE (i:=i+1) (As.gr fc.g9) rfl rfl (by omega))<|bY ?_;have ez:=fc.fr (SR.drop (i:=i+1) (As.gr fc.g9) (by omega));refine bK ?_;refine WC.bd (σ:=Nat × Bool) (dj:=fun(q,U)=>[(1,.slice al nl f),(2,.pointer (some ⟨b2,0,none⟩)),(4,.pointer (some ⟨b4,0,none⟩)),(10,.pointer (some ⟨P,0,none⟩)),(11,.bool ch),(13,.pointer (some ⟨UC,0,none⟩)),(14,.bool U),(70,.slice al nl f),(71,.int .i64 (nl:Int)),(72,.int .i64 (i:Int)),(80,.slice (mh al (i+1) 3 f) (nl - (i+1)) (f - (i+1))),(81,.int .i64 ((nl - (i+1):Nat):Int)),(82,.int .i64 (q:Int))]) (F:=fun(q,U)=>[]) (I:=fun(q,U)=>(q≤nl - (i+1))∧(q=0→U=true)∧True) (μ:=fun(q,U)=>nl - (i+1) - q) (0,true) (ez) Sub.t (⟨by omega,fun _=>rfl,trivial⟩)<|?_;rintro⟨q,U⟩ og fj ⟨hq,hla,_⟩;simp only [CA,NA] at fj hq hla ⊢;refine(aR) (fun UL=>?_) fun UL=>?_
   ·
    simp at UL
    have hq2:q<(l.drop (i+1)).length:=by rw [List.length_drop];omega
    refine db ?_;obtain⟨rW,Fc,Cl,jP,sY,kO,kN,lK⟩:=Rd.at (As.gr fj.g0) hq2;have kO:=RR.a8 kO;subst kO;have L:=fj.fg lK kN;refine nx ?_;refine WP .r (PV.dI HE jP rfl rfl (by omega))<|(aY) B2 (As.kH L.g0)<|(eN) L fun b16 sZ NY SX fD=>?_;refine(cF) J8 fD fun yg Pw Px V=>?_;refine bK ?_;have B:=V;refine WC.jw (σ:=Bool) [] (fun Tl=>[(1,.slice al nl f),(2,.pointer (some ⟨b2,0,none⟩)),(4,.pointer (some ⟨b4,0,none⟩)),(10,.pointer (some ⟨P,0,none⟩)),(11,.bool ch),(13,.pointer (some ⟨UC,0,none⟩)),(14,.bool Tl),(70,.slice al nl f),(71,.int .i64 (nl:Int)),(72,.int .i64 (i:Int)),(80,.slice (mh al (i+1) 3 f) (nl - (i+1)) (f - (i+1))),(81,.int .i64 ((nl - (i+1):Nat):Int)),(82,.int .i64 (q:Int))]) (fun Tl=>[]) (fun Tl=>True) B ?_ ?_
    ·
     refine(dc) (fun Fw=>?_) (fun Fw=>?_)
     ·
      refine(gX) ao B.b0<|(gX) ao B.b3<|?_;refine WP .r (PV.Lk fH (p:=(l.drop (i+1))[q].key) (q:=l[i].key) rfl rfl)<|bY ?_;exact mK (_) ⟨B,trivial⟩
     refine gL ?_;exact mK (_) ⟨B,trivial⟩
    rintro Tl yh C _;simp only [CA,NA] at C ⊢;refine fO ?_;refine ef (q+1,_) ⟨C.drop.drop,⟨by omega,fun h=>absurd h (Nat.succ_ne_zero _),trivial⟩⟩
   skip
   refine ed ?_;refine WC.dU (t:=105) (v:=.bool (!U || decide ((bw x.ab l[i].key).value=l[i].value))) fj ?_<|?_
   ·
    have aor:=fj.bL;refine WC.dB (m:=9) (E:=cA [(6,fun v _=>v=.string (bw x.ab l[i].key).value)]) fj (bj (⟨fun _ _ _ _ _ _ _ h=>h,trivial⟩)) mixed (by kernel_rfl)<|(ob) (fun TL=>?_) (fun TL=>?_)
    ·
     refine(cP) ?_;rintro sZ ⟨Zg,L⟩ _;exact(cw) (tG TL) (L)
    refine(gI) aL St.g6<|(tr) ao St.g1<|?_;refine DW.c0 (fun wx hC hF=>rV (x:=x) (k:=l[i].key) (As.gr hC.2.g8) (As.gr hC.2.g7))<|(il) fh St.g1<|(cP)<|?_;rintro sZ ⟨Zg,L⟩ ⟨_,_⟩;exact(cw) (tG TL) (L)
   intro sZ L;refine(aR) (fun FL=>?_) fun FL=>?_
   ·
    refine gL ?_;refine ef (i+1,ch,li,H,ni,J,Q) ⟨L.drop.drop.drop,⟨by omega,hG,by show li.length≤x.ab.length+(i+1);omega,hfi,hfc,mN,KZ.skip D (fun e=>hla (by omega)) FL,trivial⟩⟩
   refine aX ?_;refine(aZ) iX L.b3<|db ?_;have fD:=L.dp RR.aD 88 4;refine WC.bd (σ:=Nat × Bool × (List cv) × (Option Addr) × Nat × Nat) (dj:=fun(q,put,acc,g,d,j)=>[(1,.slice al nl f),(2,.pointer (some ⟨b2,0,none⟩)),(4,.pointer (some ⟨b4,0,none⟩)),(10,.pointer (some ⟨P,0,none⟩)),(11,.bool true),(13,.pointer (some ⟨UC,0,none⟩)),(17,.slice g d j),(18,.bool put),(70,.slice al nl f),(71,.int .i64 (nl:Int)),(72,.int .i64 (i:Int)),(107,.slice H ni J),(108,.int .i64 (ni:Int)),(109,.int .i64 (q:Int))]) (F:=fun(q,put,acc,g,d,j)=>[As.os RR.aD 88 4 g d j (acc)]) (I:=fun(q,put,acc,g,d,j)=>(q≤li.length)∧(acc++fQ (⟨l[i].key,l[i].value,x.ad+1⟩:cv) (li.drop q) put=fQ (⟨l[i].key,l[i].value,x.ad+1⟩:cv) li false)∧True) (μ:=fun(q,put,acc,g,d,j)=>li.length - q) (0,false,[],none,0,0) (fD) Sub.t (⟨by omega,rfl,trivial⟩)<|?_;rintro⟨q,put,acc,g,d,j⟩ yg V ⟨hq,R,_⟩;simp only [CA,NA] at V hq R ⊢;have Zi:=Mk R;have agH:=((As.gs V.g0)).len;refine(aR) (fun oh=>?_) fun oh=>?_
   ·
    simp at oh
    have hq2:q<li.length:=by omega
    have HT:=Mj hq2 R
    dsimp only at HT
    refine db ?_;obtain⟨HX,agI,Yo,ks,PD,td,GM,K2⟩:=Rd.at (As.gr V.g5) hq2;have td:=RR.a8 td;subst td;have B:=V.fg K2 GM;refine nx ?_;refine WP .r (PV.dI qu ks rfl rfl (by omega))<|(aY) kl (As.kH B.g0)<|(eN) B fun b20 yh agJ agK C=>?_;refine(cF) zn C fun GK SH SI W=>?_;refine(gX) ao W.b0<|(gX) ao W.b4<|(eS) (j7 (k:=li[q].key) (q:=l[i].key)) W fun Ix s20 mF=>?_;refine db ?_;have pC:=mF;refine WC.jw (σ:=Bool) [] (fun Ie=>[(1,.slice al nl f),(2,.pointer (some ⟨b2,0,none⟩)),(4,.pointer (some ⟨b4,0,none⟩)),(10,.pointer (some ⟨P,0,none⟩)),(11,.bool true),(13,.pointer (some ⟨UC,0,none⟩)),(17,.slice g d j),(18,.bool put),(20,.pointer (some ⟨b20,0,none⟩)),(21,.int .i64 (bA li[q].key l[i].key)),(70,.slice al nl f),(71,.int .i64 (nl:Int)),(72,.int .i64 (i:Int)),(107,.slice H ni J),(108,.int .i64 (ni:Int)),(109,.int .i64 (q:Int)),(123,.bool Ie)]) (fun Ie=>[]) (fun Ie=>(Ie=(decide (0≤bA li[q].key l[i].key) && !put))∧True) pC ?_ ?_
    ·
     refine(dc) (fun TM=>?_) (fun TM=>?_)
     ·
      refine cj ?_;exact mK (!put) ⟨pC,⟨by rw [decide_eq_true (show 0≤bA li[q].key l[i].key by simp at TM;omega)];rfl,trivial⟩⟩
     refine cj ?_;exact mK (false) ⟨pC,⟨by rw [decide_eq_false (show ¬0≤bA li[q].key l[i].key by simp at TM;omega)];rfl,trivial⟩⟩
    rintro Ie KQ kB ⟨TN,_⟩;simp only [CA,NA] at kB TN ⊢;refine nx ?_;have ll:=kB.p2;refine WC.jw (σ:=Bool × (List cv) × (Option Addr) × Nat × Nat) [_] (fun(X,s,g,d,j)=>[(1,.slice al nl f),(2,.pointer (some ⟨b2,0,none⟩)),(4,.pointer (some ⟨b4,0,none⟩)),(10,.pointer (some ⟨P,0,none⟩)),(11,.bool true),(13,.pointer (some ⟨UC,0,none⟩)),(17,.slice g d j),(18,.bool X),(20,.pointer (some ⟨b20,0,none⟩)),(21,.int .i64 (bA li[q].key l[i].key)),(70,.slice al nl f),(71,.int .i64 (nl:Int)),(72,.int .i64 (i:Int)),(107,.slice H ni J),(108,.int .i64 (ni:Int)),(109,.int .i64 (q:Int))]) (fun(X,s,g,d,j)=>[As.os RR.aD 88 4 g d j (s)]) (fun(X,s,g,d,j)=>(s++(if bA li[q].key l[i].key=0 then [] else [li[q]])++fQ (⟨l[i].key,l[i].value,x.ad+1⟩:cv) (li.drop (q+1)) X=fQ (⟨l[i].key,l[i].value,x.ad+1⟩:cv) li false)∧True) ll ?_ ?_
    ·
     refine(aR) (fun Fm=>?_) fun Fm=>?_
     ·
      refine(gX) ao ll.b4<|(aZ) fh ll.b4<|(aZ) aN (bQ.range (As.gb ll.g6))<|?_;refine WP .r (PV.bz (us:=(⟨l[i].key,l[i].value,x.ad+1⟩:cv).cells) MR rfl rfl rfl)<|?_;refine WL.go rfl (OX.aP (us:=(⟨l[i].key,l[i].value,x.ad+1⟩:cv).cells) EG rfl rfl rfl rfl fun aos N8 Zj Zk=>?_);have S:=ll.de Zj Zk;refine WL.ap rfl rfl S.p1 (SR.dd (A:=fun _=>True) (x:=(⟨l[i].key,l[i].value,x.ad+1⟩:cv)) (As.gb S.g0) trivial rfl (by simp [cv.cells,Value.oneCell']) rfl) fun agL Zl Tm ake akf om=>?_;refine bY ?_;exact mK (true,acc++[(⟨l[i].key,l[i].value,x.ad+1⟩:cv)],agL,(d+1),Zl) ⟨om.p1.drop,⟨by have h2:(decide (0≤bA li[q].key l[i].key) && !put)=true:=(by rw [← TN];simpa using Fm);have h3:(put || decide (0≤bA li[q].key l[i].key))=true:=(by revert h2;cases put <;> simp);rw [if_pos h2,h3] at HT;exact HT,trivial⟩⟩
     refine nx ?_;exact mK (put,acc,g,d,j) ⟨ll,⟨by have h2:(decide (0≤bA li[q].key l[i].key) && !put)=false:=(by rw [← TN];simpa using Fm);have h3:(put || decide (0≤bA li[q].key l[i].key))=put:=(by revert h2;cases put <;> simp);rw [if_neg (by rw [h2];simp),h3,List.append_nil] at HT;exact HT,trivial⟩⟩
    rintro⟨X,s,g,d,j⟩ N8 S ⟨we,_⟩;simp only [CA,NA] at S we ⊢
    have akg:s.length≤li.length+1:=by have h1:=congrArg List.length we;rw [List.length_append,List.length_append] at h1;have:=nk (⟨l[i].key,l[i].value,x.ad+1⟩:cv) li false;omega
    have akh:=((As.gs S.g0)).len;refine(aR) (fun K3=>?_) fun K3=>?_
    ·
     simp at K3
     refine(aY) kl S.b1<|?_;refine WL.go rfl (OX.aP (us:=li[q].cells) EG rfl rfl rfl rfl fun aot Tm Zm Zn=>?_);have om:=S.de Zm Zn;refine WL.ap rfl rfl om.p1 (SR.dd (A:=fun _=>True) (x:=li[q]) (As.gb om.g0) trivial rfl (by simp [cv.cells,Value.oneCell']) rfl) fun a139 Zo Tn aki akj vV=>?_;refine gL ?_;refine ef (q+1,X,s++[li[q]],a139,(d+1),Zo) ⟨vV.p1.drop.p1.drop.p1.drop,⟨by omega,by rw [← we,if_neg K3],trivial⟩⟩
    simp at K3
    refine ed ?_;refine ef (q+1,X,s,g,d,j) ⟨S.p1.drop.p1.drop,⟨by omega,by rw [← we,if_pos K3,List.append_nil],trivial⟩⟩
   simp at oh
   rw [List.drop_eq_nil_of_le (by omega)] at R;refine aX ?_;have B:=V;refine WC.jw (σ:=(List cv) × (Option Addr) × Nat × Nat) [_] (fun(s,g,d,j)=>[(1,.slice al nl f),(2,.pointer (some ⟨b2,0,none⟩)),(4,.pointer (some ⟨b4,0,none⟩)),(10,.pointer (some ⟨P,0,none⟩)),(11,.bool true),(17,.slice g d j),(70,.slice al nl f),(71,.int .i64 (nl:Int)),(72,.int .i64 (i:Int))]) (fun(s,g,d,j)=>[As.os RR.aD 88 4 g d j (s)]) (fun(s,g,d,j)=>(s=fQ (⟨l[i].key,l[i].value,x.ad+1⟩:cv) li false)∧True) B ?_ ?_
   ·
    refine(aR) (fun TP=>?_) fun TP=>?_
    ·
     refine(gX) ao B.b2<|(aZ) fh B.b2<|(aZ) aN B.b4<|?_;refine WP .r (PV.bz (us:=(⟨l[i].key,l[i].value,x.ad+1⟩:cv).cells) MR rfl rfl rfl)<|?_;refine WL.go rfl (OX.aP (us:=(⟨l[i].key,l[i].value,x.ad+1⟩:cv).cells) EG rfl rfl rfl rfl fun aou yh Zp Zq=>?_);have C:=B.de Zp Zq;refine WL.ap rfl rfl C.p1 (SR.dd (A:=fun _=>True) (x:=(⟨l[i].key,l[i].value,x.ad+1⟩:cv)) (As.gb C.g0) trivial rfl (by simp [cv.cells,Value.oneCell']) rfl) fun a152 Zr GK akk akl W=>?_;refine bK ?_;exact mK (acc++[(⟨l[i].key,l[i].value,x.ad+1⟩:cv)],a152,(d+1),Zr) ⟨W.p1.drop,⟨by have hp:put=false:=(by simpa using TP);rw [hp] at R;exact R,trivial⟩⟩
    refine nx ?_;exact mK (acc,g,d,j) ⟨B,⟨by have hp:put=true:=(by simpa using TP);rw [hp] at R;exact(List.append_nil acc).symm.trans R,trivial⟩⟩
   rintro⟨s,g,d,j⟩ yh C ⟨Y,_⟩;simp only [CA,NA] at C Y ⊢;refine nx ?_;have Zi:=nk (⟨l[i].key,l[i].value,x.ad+1⟩:cv) li false;have agH:=((As.gs C.g0)).len;rw [← Y] at Zi;have TQ:=St.fresh C;have W:=C.ba (by omega);have qH:=mN.trans (bH.dA (F:=fun x=>x∈aI g) TQ) (Nat.le_refl _);have mF:=W.p5.drop;refine bY ?_;refine WL.s1 mF.p4 fun GK _ pC=>?_;refine ed ?_;refine ef (i+1,true,s,g,d,j,_) ⟨pC.p2.drop.p2.drop.p2.drop,⟨by omega,by rw [Y];exact hG.put LI (by omega),by show s.length≤x.ab.length+(i+1);rw [Y];have:=nk (⟨l[i].key,l[i].value,x.ad+1⟩:cv) li false;omega,fun k hk=>by rw [Y,nZ (hk _ (List.getElem_mem D))];exact hfi k hk,by rw [Y];exact Mu hfc _ rfl,qH,by rw [Y];exact KZ.put D FL,trivial⟩⟩
  have agF:=((As.gr z.g1)).len
  simp at LJ
  refine aX ?_;refine(aR) (fun agM=>?_) fun agM=>?_
  ·
   refine(aY) aL z.b3<|(cF) dR z.p6 fun mM ss7 hs7 o=>?_;refine fO ?_;refine EX.ew rfl (RS.cell aL rfl o.b0 rfl<|RS.tmp rfl<|RS.nil) rfl<|?_;exact⟨x,_,_,_,_,_,_,_,_,rfl,rfl,Int.le_refl _,DA,hx,h7a,by omega,.refl _ _,KZ.same (by omega) (by simp_all),fun _=>rfl,(As.gr o.g6),(As.gr o.g5),mN,(St.wk o.k0)⟩
  refine(aZ) iX z.b0<|(aR) (fun TS=>?_) fun TS=>?_
  ·
   refine(aY) aL z.b3<|(cF) dR z.p6 fun mM ss8 hs8 o=>?_;refine fO ?_;refine EX.ew rfl (RS.cell aL rfl o.b0 rfl<|RS.tmp rfl<|RS.nil) rfl<|?_;exact absurd TS (by have:=hG.len;simp;omega)
  refine(aZ) aN z.b0<|(aR) (fun Og=>?_) fun Og=>?_
  ·
   refine(aY) aL z.b3<|(cF) dR z.p6 fun mM ss9 YP o=>?_;refine fO ?_;refine EX.ew rfl (RS.cell aL rfl o.b0 rfl<|RS.tmp rfl<|RS.nil) rfl<|?_;exact⟨x,_,_,_,_,_,_,_,_,rfl,rfl,Int.le_refl _,DA,hx,h7a,by omega,.refl _ _,⟨fun c _ _ h=>by(simp at Og;omega),fun _=>.inl rfl,fun _=>.inl rfl⟩,fun h=>by(simp at Og;omega),(As.gr o.g6),(As.gr o.g5),mN,(St.wk o.k0)⟩
  refine(aY) aL z.b0<|(cF) dR z.p6 fun mM agN agO o=>?_;refine cj ?_;refine EX.ew rfl (RS.cell aL rfl o.b0 rfl<|RS.tmp rfl<|RS.nil) rfl<|?_;exact⟨⟨x.ad+1,li,x.ah⟩,_,_,_,_,_,_,_,_,rfl,rfl,by show x.ad≤x.ad+1;omega,by simp at Og;show x.ad+1≤_;omega,hG,by simp at TS;show li.length≤64;omega,Int.le_refl _,⟨hfi,.inr ⟨rfl,hfc⟩⟩,KZ.done (by omega),fun _=>rfl,(As.gr o.g2),(As.gr o.g3),mN,(St.wk o.k0)⟩
 -- k7 eR C49
theorem qP{{x:cy}} {{l:List Change}} {{a1 a2 al:Option Addr}} {{n1 e1 n2 e2 nl f:Nat}} {{w:World}} {{M Z:Nat→Prop}} (h:St w M Z w []) (hi:Rd RR.aD 4 Z w a1 n1 e1 x.ab) (hr:Rd RR.dV 8 Z w a2 n2 e2 x.ah) (hl:Rd RR.bV 3 Z w al nl f l) (hb:gU x) (i:jx x.ad x.ab) (j:∀c∈l,c.small) (k:l.length≤32):Calls prog 18 #[.agg (x.row a1 n1 e1 a2 n2 e2).toArray,.slice al nl f] w fun e w'=>∃(y:cy) (b1 b2:Option Addr) (m1 d1 m2 d2:Nat) (d:Int) (Z':Nat→Prop),e=.returned (.tuple #[.agg (y.row b1 m1 d1 b2 m2 d2).toArray,.int .i64 d])∧y.ah=x.ah∧x.ad≤y.ad∧y.ad≤1073741824∧jx y.ad y.ab∧y.ab.length≤64∧y.ad≤x.ad+1∧VS x l y∧(x.ad+1≤1073741824→d=0)∧Rd RR.aD 4 Z' w' b1 m1 d1 y.ab∧Rd RR.dV 8 Z' w' b2 m2 d2 y.ah∧bH w.heap.size Z Z'∧St w M Z' w' []:=
 (mc h hi hr hl hb i j k).mono fun _ _ ⟨y,b1,b2,m1,d1,m2,d2,d,Z',g1,g2,g3,g4,g5,g6,g7,g8,_,g⟩=>⟨y,b1,b2,m1,d1,m2,d2,d,Z',g1,g2,g3,g4,g5,g6,g7,g8,g⟩
set_option maxHeartbeats 400000
theorem C8(hl:Rd RR.key 2 Z w a n c l) (hm:Rd RR.key 2 Z2 w b m e q):CR prog 27 #[.slice a n c,.slice b m e] w (.bool (decide (l=q))):=by
 have v:=hl.len;have y:=hm.len;have hle:=hl.le;refine enter func27 rfl ntmps27 rfl<|?_;have aO:=St.s0 w;refine aX ?_;refine(aR) (fun g11=>?_) fun g11=>?_
 ·
  simp at g11
  refine(bs) ?_;exact⟨by rw [decide_eq_false fun h=>g11 (by rw [v,y,h])],(St.cg aO)⟩
 simp at g11
 refine jT ?_;refine WC.bd (σ:=Nat) (dj:=fun i=>[(1,.slice b m e),(12,.slice a n c),(13,.int .i64 (n:Int)),(14,.int .i64 (i:Int))]) (F:=fun i=>[]) (I:=fun i=>(i≤n)∧(l.take i=q.take i)∧True) (μ:=fun i=>n - i) (0) (aO) Sub.t (⟨by omega,by simp,trivial⟩)<|?_;rintro i w1 st1 ⟨hi,d,_⟩;simp only [CA,NA] at st1 hi d ⊢;refine(aR) (fun g15=>?_) fun g15=>?_
 ·
  simp at g15
  have j:i<l.length:=by omega
  have k:i<q.length:=by omega
  obtain⟨G,H,J,z,K,f,A,L⟩:=Rd.at hl j;have f:=RR.a8 f;subst f;obtain⟨N,O,P,B,Q,g,C,R⟩:=Rd.at hm k;have g:=RR.a8 g;subst g;refine ed ?_;refine WP .r (PV.dI ek z rfl rfl (by omega))<|(aY) ao (aW A (St.cg st1) (by simp))<|(eN) st1 fun S w2 T U st2=>?_;refine(cF) gQ st2 fun w3 V W o=>?_;refine bY ?_;have X:=o.bL;refine WC.dS (m:=5) o mixed<|bK ?_;refine DP .r (fun _ s=>PV.dI ek B rfl rfl (by omega))<|DP .r (fun _ s=>VA ao (aW C (St.cg s.2) (by simp)) .r)<|(gI) ao St.g0<|(cP)<|?_;rintro w4 ⟨Y,u⟩ _;refine WP .r (PV.Lk fH (p:=q[i]) (q:=l[i]) rfl rfl)<|(aR) (fun g24=>?_) fun g24=>?_
  ·
   simp at g24
   refine(bs) ?_;exact⟨by rw [decide_eq_false fun h=>g24 (by subst h;rfl)],(St.cg u)⟩
  simp at g24
  have D:=g24.symm;refine ed ?_;refine ef (i+1) ⟨u.drop,⟨by omega,by rw [List.take_succ_eq_append_getElem j,List.take_succ_eq_append_getElem k,d,D],trivial⟩⟩
 simp at g15
 refine(bs) ?_;exact⟨by rw [decide_eq_true];have h1:l.take i=l:=List.take_of_length_le (by omega);have E:q.take i=q:=List.take_of_length_le (by omega);rw [← h1,← E];exact d,(St.cg st1)⟩
theorem tk(hl:Rd RR.key 2 Z w a n c l) (hm:Rd RR.key 2 Z2 w b m e q) (h:l=q):CR prog 27 #[.slice a n c,.slice b m e] w (.bool true):=by
 have:=C8 hl hm
 rwa [decide_eq_true h] at this
set_option maxHeartbeats 400000
theorem Ai(y:St w M Z w []):Calls prog 26 #[] w fun e w'=>∃(a:Option Addr) (n c:Nat) (Z':Nat→Prop),e=.returned (.slice a n c)∧Rd RR.eT 4 Z' w' a n c H2∧bH w.heap.size Z Z'∧St w M Z' w' []:=by
 refine enter func26 rfl ntmps26 rfl<|?_;have aO:=St.rb y;refine ed ?_;refine WP .r (PV.bz (us:=[.bool true,.bool false,.int .i64 0,.int .i64 0]) B5 rfl rfl rfl)<|?_;refine WL.go rfl (OX.aP (us:=[.bool true,.bool false,.int .i64 0,.int .i64 0]) J4 rfl rfl rfl rfl fun b2 w1 j z=>?_);have st1:=St.pU (R:=RR.ask) (E:=102) (k:=4) (a:=some ⟨b2,0,none⟩) (n:=1) (c:=1) (xs:=[(⟨true,false,0,0⟩:Ask)]) aO j.ext (OR.dd z (Nat.zero_le _) rfl (by simp [Value.oneCell']) rfl) (fun x d=>by simp [aI] at d;subst d;exact j.ge);refine WP .r (PV.bz (us:=[.bool false,.slice (some ⟨b2,0,none⟩) 1 1,.int .i64 2,.int .i64 0]) MQ rfl rfl rfl)<|WP .r (PV.bz (us:=[.bool false,.bool false,.int .i64 0,.int .i64 0]) B5 rfl rfl rfl)<|WP .r (PV.bz (us:=[.bool true,.bool false,.int .i64 1,.int .i64 0]) B5 rfl rfl rfl)<|?_;refine WL.go rfl (OX.aP (us:=([.bool false,.bool false,.int .i64 0,.int .i64 0]++[.bool true,.bool false,.int .i64 1,.int .i64 0])) RM rfl rfl rfl rfl fun f w2 o A=>?_);have st2:=St.pU (R:=RR.ask) (E:=102) (k:=4) (a:=some ⟨f,0,none⟩) (n:=2) (c:=2) (xs:=[(⟨false,false,0,0⟩:Ask),⟨true,false,1,0⟩]) st1 o.ext (OR.VD (r:=[.bool false,.bool false,.int .i64 0,.int .i64 0]) (s:=[.bool true,.bool false,.int .i64 1,.int .i64 0]) A (Nat.zero_le _) rfl rfl (by simp [Value.oneCell']) rfl rfl) (fun x d=>by simp [aI] at d;subst d;exact o.ge);refine WP .r (PV.bz (us:=[.bool false,.slice (some ⟨f,0,none⟩) 2 2,.int .i64 1,.int .i64 0]) MQ rfl rfl rfl)<|?_;refine WL.go rfl (OX.aP (us:=([.bool false,.slice (some ⟨b2,0,none⟩) 1 1,.int .i64 2,.int .i64 0]++[.bool false,.slice (some ⟨f,0,none⟩) 2 2,.int .i64 1,.int .i64 0])) RJ rfl rfl rfl rfl fun i w3 C D=>?_);have p:=st2.de C D;refine bK ?_;have F:=St.fresh p.p2;have t:=p.p2.ba (by simp);have G:=St.fresh t.p2;have H:=t.p2.ba (by simp);have g:=H.p2;have u:=g.conv (B:=As.os RR.eT 58 4 (some ⟨i,0,none⟩) 2 2 H2) (OR.VD (As.gb g.g0) (Nat.zero_le _) rfl rfl (by simp [Value.oneCell']) ⟨some ⟨b2,0,none⟩,1,1,rfl,(As.gr g.g2)⟩ ⟨some ⟨f,0,none⟩,2,2,rfl,(As.gr g.g1)⟩) (fun x h=>by show x=i;change x∈aI (some ⟨i,0,none⟩) at h;simpa [aI] using h);have I:=St.fresh u;have v:=u.ba (by decide);refine(bs) ?_;exact⟨_,_,_,_,rfl,(As.gr v.g0),((bH.dA F).trans (bH.dA G) (Nat.le_refl _)).trans (bH.dA I) (Nat.le_refl _),(St.wk v.k0)⟩
set_option maxHeartbeats 4000000 in
theorem oM(gk:St w M Z w []) (ht:lq prog Z w):Calls prog 7 #[] w fun e w'=>∃Z':Nat→Prop,e=.returned (.bool true)∧St w M Z' w' []:=by
 have g:∀k∈[K1],eG H2 k:=fun k hk=>by rw [List.mem_singleton.1 hk];exact Ey
 refine enter func7 rfl ntmps7 rfl<|?_;have aO:=gk;have st1:=aO.fact (B:=As.fz (FZ.Ij prog)) ht (fun _ o=>o);refine ed ?_;have st2:=st1;refine(bX) ac7 (Ai st2.e0) ?_;rintro _ w1 ⟨ra,rn,rc,Zh,rfl,Gf,hZh,TT⟩;have iT:=St.lv st2 TT hZh;have ik:=iT.fr (Gf);refine db ?_;refine WP .r (PV.bz (us:=((⟨0,[],[]⟩:cy).row none 0 0 none 0 0)) Wd rfl rfl rfl)<|(eS) (jj (n:=0)) ik fun w2 s2 iY=>?_;refine WP .r (PV.bz (us:=(⟨C0,z4⟩:Change).cells) RO rfl rfl rfl)<|?_;refine WL.go rfl (OX.aP (us:=(⟨C0,z4⟩:Change).cells) EH rfl rfl rfl rfl fun UE w3 W KC=>?_);have iC:=St.pU (R:=RR.bV) (E:=65) (k:=3) (a:=some ⟨UE,0,none⟩) (n:=1) (c:=1) (xs:=[(⟨C0,z4⟩:Change)]) iY W.ext (OR.dd KC (Nat.zero_le _) rfl (by simp [Change.cells,Value.oneCell']) rfl) (fun x o=>by simp [aI] at o;subst o;exact W.ge);have gW:=iC.ba (by simp);have G:=gW;refine(bX) Ny (mc (x:=⟨0,[],[]⟩) (l:=[(⟨C0,z4⟩:Change)]) G.e0 (Rd.nil _ _ _ _) (Rd.nil _ _ _ _) (As.gr G.g0) ME (jx.nil _) smA (by simp)) ?_;rintro _ w4 ⟨y,ya1,ya2,aox,aoy,aoz,aoC,aoD,yaZ,rfl,aoE,aoF,aoG,agP,aoH,aoI,aoJ,agQ,aoK,agR,agS,agT,oi⟩;have iE:=St.lv G oi agT;obtain rfl:=aoA agQ;have p:=LC.nil H2 (⟨1,iA,[]⟩:cy) rfl (by decide) (by decide) agP (by simp);have eD:=iE.fr (agR);have dh:=eD.fr (agS);refine(eN) dh fun b2 w5 Tj wD cW=>?_;refine(cF) dR cW fun w6 jO jZ di=>?_;refine cj ?_;refine WC.bN (m:=10) [8,9] [3,4,5] [2,3,4,0,1,5,6,7,8,9] [] di (ai.k4 M0 M1 M2 M3<|ai.cons M4<|ai.cons M5<|ai.nil) mixed (by kernel_rfl) (by kernel_rfl) rfl<|(fV) (fun w7 H I J K=>?_);simp only [CA,NA] at J;refine OX.call zt rfl rfl ((gR (n:=1) (aa:=H2) (As.gr J.g4)).mono ?_);rintro _ w8 ⟨rfl,X⟩;have eb:=J.step X;refine⟨_,rfl,X.size,_,rfl,_,_,_,eb,aw.k4<|aw.k2<|aw.nil,ai.k4 M0 M1 M2 M3<|ai.cons M4<|ai.cons M5<|ai.nil,?_⟩;refine(fV) (fun w9 Y wR fX my=>?_);simp only [CA,NA] at fX;refine OX.aP (us:=K1.cells) dz rfl rfl rfl rfl fun L iN Zs agU=>?_;have eu:=fX.de Zs agU;have dZ:=eu;have dE:=dZ.conv (B:=As.os RR.key 41 2 (some ⟨L,0,none⟩) 1 1 [K1]) (OR.dd (As.gb dZ.g0) (Nat.zero_le _) rfl (by simp [Key.cells,Value.oneCell']) rfl) (fun x h=>by show x=L;change x∈aI (some ⟨L,0,none⟩) at h;simpa [aI] using h);have dF:=dE.ba (by simp);refine⟨Zs.ext.size,_,rfl,_,_,_,dF,aw.k4<|aw.k2<|aw.cons<|aw.nil,ai.k4 M1 M2 M3 M4<|ai.cons M5<|ai.cons M6<|ai.nil,?_⟩;refine(lx) aL SV.g0<|(fV) (fun iV Ia r9 e7 jQ=>?_);simp only [CA,NA] at e7;have d:=e7;refine OX.call Nx rfl rfl ((hP (x:=(⟨1,iA,[]⟩:cy)) (goals:=[K1]) d.e0 (As.gf d.g6) (As.gr d.g5) (As.gr d.g3) (As.gr d.g2) (As.gr d.g0) jM p g (by simp)).mono ?_);rintro _ k9 ⟨v,aoL,rs3,p31,p32,p33,j31,k31,j32,k32,j33,k33,Z3x,rfl,N,aoN,TJ,aoO,agV,agW,nH⟩;have z:=St.lv d nH agW;obtain⟨i,Uy,Lz,hw3,Zt⟩:=N.done jM p g;have Zu:aA v K1=true:=(TJ K1 (List.mem_singleton.2 rfl)).resolve_left (by rw [JU];simp);have Zv:=i.lb.ok.fR.len;have Zv:v.ah.length≤4000:=Zv;have aoP:=i.lb.ok.pc;obtain⟨_,_,_,aoQ,_⟩:=N.ready jM p g;have aoR:=agV.length_eq;have aoS:=((As.gs z.g0)).len;have Zw:=((As.gs z.g1)).len;have agX:=((As.gs z.g2)).len;obtain⟨hh1,hh2⟩:=MG p rfl N Zu
 obtain rfl:j33=2:=by omega
 have fc:=z.ba (by omega);have ez:=fc.p1.ba (by omega);have fj:=ez.p2.ba (by omega);refine⟨_,rfl,nH.bV.size,_,rfl,_,_,_,fj,aw.k4<|aw.k4<|aw.k2<|aw.nil,ai.k4 M4 M5 M6 M7<|ai.cons M8<|ai.cons M9<|ai.nil,?_⟩
 iterate 4 refine DG.a ?_
 refine(jv) ?_;intro mM px dM;simp only [CM,NM,CA,NA,hI.it] at dM;refine(cF) dR dM.p4 fun pH qV mi fD=>?_;refine bK ?_;refine WL.nil (EX.np ?_);refine bK ?_;refine WC.bN (m:=9) [7] [1,3,4] [1,2,3,0,4,5,6,7,8] [(8,.blk 31 [.int .i64 0,.slice none 0 0,.slice none 0 0])] fD (ai.k4 M0 M1 M2 M3<|ai.k4 M4 M5 M6 M7<|ai.cons M8<|ai.cons M9<|ai.nil) mixed (by kernel_rfl) (by kernel_rfl) rfl<|(fV) (fun og R1x YR lL PI=>?_);simp only [CA,NA] at lL;refine OX.call Nz rfl rfl ((jj (n:=0)).mono ?_);rintro _ sZ ⟨rfl,SA⟩;have mG:=lL.step SA;refine⟨_,rfl,SA.size,_,rfl,_,_,_,mG,aw.k4<|aw.k4<|aw.k2<|aw.nil,ai.k4 M0 M1 M2 M3<|ai.k4 M4 M5 M6 M7<|ai.cons M8<|ai.cons M9<|ai.nil,?_⟩;refine DQ .r (fun wx Zx Rx _ pB yk=>PV.bz (us:=(⟨C0,z5⟩:Change).cells) RO rfl rfl rfl)<|(fV) (fun yg H I qQ K=>?_);simp only [CA,NA] at qQ;refine OX.aP (us:=(⟨C0,z5⟩:Change).cells) EH rfl rfl rfl rfl fun O yh Zy agY=>?_;have qR:=qQ.de Zy agY;have mF:=qR;have pC:=mF.conv (B:=As.os RR.bV 65 3 (some ⟨O,0,none⟩) 1 1 [(⟨C0,z5⟩:Change)]) (OR.dd (As.gb mF.g0) (Nat.zero_le _) rfl (by simp [Change.cells,Value.oneCell']) rfl) (fun x h=>by show x=O;change x∈aI (some ⟨O,0,none⟩) at h;simpa [aI] using h);have kB:=pC.ba (by simp);refine⟨Zy.ext.size,_,rfl,_,_,_,kB,aw.k4<|aw.k4<|aw.k2<|aw.cons<|aw.nil,ai.k4 M1 M2 M3 M4<|ai.k4 M5 M6 M7 M8<|ai.cons M9<|ai.cons hU<|ai.nil,?_⟩;refine(lx) aL SV.g0<|(fV) (fun GK Y wR ll my=>?_);simp only [CA,NA] at ll;have j:=ll;refine OX.call Ny rfl rfl ((mc (x:=v) (l:=[(⟨C0,z5⟩:Change)]) j.e0 (As.gr j.g4) (As.gr j.g3) (As.gr j.g0) i.lb.ok.gU i.lb.aD smQ (by simp)).mono ?_);rintro _ Ix ⟨y,yb1,yb2,aoU,aoV,aoW,aoX,aoY,ybZ,rfl,agZ,ag0,ag1,ag2,ag3,aoZ,ag4,ag5,ao0,ag6,ag7,ag8,vH⟩;have om:=St.lv j vH ag8;have C:=i.apply ag4 agZ ag0 ag1 ag2 ag3;obtain rfl:=aoB Uy Lz ag5;have vV:=om.fr (ag6);have Aj:=vV.fr (ag7);refine⟨_,rfl,vH.bV.size,_,rfl,_,_,_,Aj,aw.k4<|aw.k4<|aw.k4<|aw.cons<|aw.nil,ai.k4 M3 M4 M5 M6<|ai.k4 M7 M8 M9 hU<|ai.cons iP<|ai.cons kC<|ai.nil,?_⟩
 iterate 3 refine DG.a ?_
 refine DG.side (s:=.blk 31 [.int .i64 0,.slice none 0 0,.slice none 0 0]) rfl rfl rfl rfl rfl rfl (fun wx Zx Rx qW pB=>OX.alloc Wi rfl fun b wy nw hb=>⟨nw.ext.size,_,rfl,⟨b,rfl⟩,pB.de nw hb⟩)<|?_;rintro _ ⟨b6,rfl⟩;refine(jv) ?_;intro KQ rZ jC;simp only [CM,NM,CA,NA,hI.it] at jC;refine(cF) dR jC fun N8 zy tK TU=>?_;refine nx ?_;refine WL.nil (EX.np ?_);refine bK ?_;refine WC.bN (m:=10) [8,9] [3,4,5] [2,3,4,0,1,5,6,7,8,9] [] TU (ai.k4 M0 M1 M2 M3<|ai.k4 M4 M5 M6 M7<|ai.k4 M8 M9 hU iP<|ai.cons kC<|ai.cons oa<|ai.nil) mixed (by kernel_rfl) (by kernel_rfl) rfl<|(fV) (fun Tm H I P K=>?_);simp only [CA,NA] at P;refine OX.call zt rfl rfl ((gR (n:=1) (aa:=H2) (As.gr P.g12)).mono ?_);rintro _ Tn ⟨rfl,s24⟩;have mH:=P.step s24;refine⟨_,rfl,s24.size,_,rfl,_,_,_,mH,aw.k4<|aw.k4<|aw.k4<|aw.k2<|aw.nil,ai.k4 M0 M1 M2 M3<|ai.k4 M4 M5 M6 M7<|ai.k4 M8 M9 hU iP<|ai.cons kC<|ai.cons oa<|ai.nil,?_⟩;refine(fV) (fun YT Y wR jI my=>?_);simp only [CA,NA] at jI;refine OX.aP (us:=K1.cells) dz rfl rfl rfl rfl fun Q w26 NH Sg=>?_;have K4:=jI.de NH Sg;have sc:=K4;have pD:=sc.conv (B:=As.os RR.key 41 2 (some ⟨Q,0,none⟩) 1 1 [K1]) (OR.dd (As.gb sc.g0) (Nat.zero_le _) rfl (by simp [Key.cells,Value.oneCell']) rfl) (fun x h=>by show x=Q;change x∈aI (some ⟨Q,0,none⟩) at h;simpa [aI] using h);have se:=pD.ba (by simp);refine⟨NH.ext.size,_,rfl,_,_,_,se,aw.k4<|aw.k4<|aw.k4<|aw.k2<|aw.cons<|aw.nil,ai.k4 M1 M2 M3 M4<|ai.k4 M5 M6 M7 M8<|ai.k4 M9 hU iP kC<|ai.cons oa<|ai.cons xg<|ai.nil,?_⟩;refine(lx) aL SV.g0<|(fV) (fun w27 Ia r9 tD jQ=>?_);simp only [CA,NA] at tD;have f:=tD;refine OX.call Nx rfl rfl ((hP (x:=(⟨2,iB,v.ah⟩:cy)) (goals:=[K1]) f.e0 (As.gf f.g14) (As.gr f.g13) (As.gr f.g3) (As.gr f.g2) (As.gr f.g0) jM C g (by simp)).mono ?_);rintro _ w28 ⟨b5x,ao2,rs5,p51,p52,p53,j51,k51,j52,k52,j53,k53,Z5x,rfl,S,ao3,aha,ao4,Zz,ahb,PR⟩;have D:=St.lv f PR ahb;obtain⟨lc5,LG,NU,hw5,akr⟩:=S.done jM C g;have ahc:aA b5x K1=true:=(aha K1 (List.mem_singleton.2 rfl)).resolve_left (by rw [JU];simp);have ZA:=lc5.lb.ok.fR.len;have ZA:b5x.ah.length≤4000:=ZA;have ao5:=lc5.lb.ok.pc;obtain⟨_,_,_,ao6,_⟩:=S.ready jM C g;have ao7:=Zz.length_eq;have ao8:=((As.gs D.g0)).len;have ahd:=((As.gs D.g1)).len;have ao9:=((As.gs D.g2)).len;obtain⟨hrs,Dw,Gn⟩:=MH i Lz hh2 Zu Zt C rfl S ahc Zz;subst hrs;have FM:=D.ba (by omega);have vW:=FM.p1.ba (by omega);have C9:=vW.p2.ba (by omega);refine⟨_,rfl,PR.bV.size,_,rfl,_,_,_,C9,aw.k4<|aw.k4<|aw.k4<|aw.k4<|aw.k2<|aw.nil,ai.k4 M4 M5 M6 M7<|ai.k4 M8 M9 hU iP<|ai.k4 kC oa xg IA<|ai.cons LK<|ai.cons Un<|ai.nil,?_⟩
 iterate 4 refine DG.a ?_
 refine(jv) ?_;intro w29 vM FN;simp only [CM,NM,CA,NA,hI.it] at FN;refine(cF) dR FN.p4 fun w30 Lv Lx TV=>?_;refine bK ?_;refine WL.nil (EX.np ?_);refine bK ?_;refine WC.bN (m:=7) [6] [2,3] [1,2,0,3,4,5,6] [] TV (ai.k4 M0 M1 M2 M3<|ai.k4 M4 M5 M6 M7<|ai.k4 M8 M9 hU iP<|ai.k4 kC oa xg IA<|ai.cons LK<|ai.cons Un<|ai.nil) mixed (by kernel_rfl) (by kernel_rfl) rfl<|(fV) (fun w31 PK CL T tj=>?_);simp only [CA,NA] at T;refine OX.call zt rfl rfl ((gR (n:=1) (aa:=H2) (As.gr T.g16)).mono ?_);rintro _ w32 ⟨rfl,s32⟩;have FO:=T.step s32;refine⟨_,rfl,s32.size,_,rfl,_,_,_,FO,aw.k4<|aw.k4<|aw.k4<|aw.k4<|aw.k2<|aw.nil,ai.k4 M0 M1 M2 M3<|ai.k4 M4 M5 M6 M7<|ai.k4 M8 M9 hU iP<|ai.k4 kC oa xg IA<|ai.cons LK<|ai.cons Un<|ai.nil,?_⟩;refine(lx) aL SV.g0<|(fV) (fun w33 H I ZB K=>?_);simp only [CA,NA] at ZB;have F:=ZB;refine OX.call Wl rfl rfl ((oL (k:=K1) F.e0 (As.gr F.g3) (As.gr F.g2)).mono ?_);rintro _ w34 ⟨rfl,PT⟩;have ahe:=St.lr F PT;rw [Dw,Gn];refine⟨_,rfl,PT.bV.size,_,rfl,_,_,_,ahe,aw.k4<|aw.k4<|aw.k4<|aw.k4<|aw.k2<|aw.nil,ai.k4 M0 M1 M2 M3<|ai.k4 M4 M5 M6 M7<|ai.k4 M8 M9 hU iP<|ai.k4 kC oa xg IA<|ai.cons LK<|ai.cons Un<|ai.nil,?_⟩
 iterate 3 refine DG.a ?_
 refine(jv) ?_;intro w35 qD U;simp only [CM,NM,CA,NA,hI.it] at U;refine bK ?_;refine WL.nil (EX.np ?_);refine fO ?_;refine WL.cI (t:=58) rfl (fun g58=>?_) (fun g58=>?_)
 ·
  refine cj ?_;refine WL.cI (t:=62) rfl (fun Sf=>?_) (fun Sf=>?_)
  ·
   refine db ?_;refine WL.cI (t:=67) rfl (fun UP=>?_) (fun UP=>?_)
   ·
    refine bK ?_;refine WL.c1 (u:=K0.val) (gR (n:=0) (aa:=H2) (As.gr U.g16)) (by rw [show aM H2 0=K0 from ql]) U fun w36 s36 ahf=>?_;refine WL.go rfl (OX.aP (us:=K0.cells) dz rfl rfl rfl rfl fun b71 w37 SG NS=>?_);have V:=ahf.de SG NS;refine(eS) (tk (As.gr V.g2) (SR.dd (A:=fun _=>True) (x:=K0) (As.gb V.g0) trivial rfl (by simp [Key.cells,Value.oneCell']) rfl) rfl) V fun w38 s38 ahg=>?_;refine fO ?_;refine WL.cI (t:=78) rfl (fun g78=>?_) (fun g78=>?_)
    ·
     refine(bs) ?_;exact⟨_,rfl,ahg.k0⟩
    exact dm g78
   exact dm UP
  exact dm Sf
 ·
  exact dm g58
 -- k7 eR G74
set_option maxHeartbeats 400000
theorem ipT:IpT prog 88:=Ra (fun a b s t w=>MF underlying41 rfl rfl rfl rfl (by decide) (by decide) underlying3 underlying9 isAgg3 isAgg9 (by kernel_rfl) 9997 a b s t w) underlying88 rfl rfl rfl rfl rfl rfl (by decide) (by decide) (by decide) underlying9 underlying3 isAgg41 sizeOf41 isAgg9 isAgg3 (by kernel_rfl) (by kernel_rfl)
theorem vX{r:Rec}(hl:Rd RR.key 2 Z w a n c r.reads) (hm:Rd RR.key 2 Z2 w b m e r.reads):CR prog 91 #[.agg (r.row a n c).toArray,.agg (r.row b m e).toArray] w (.bool true):=by
 refine enter func91 rfl ntmps91 rfl<|?_;have aO:=St.s0 w;refine(dq) aO fun b2 w1 f g st1=>?_;refine(dq) st1 fun b3 w2 h i st2=>?_;refine(gX) ao st2.b1<|(gX) ao st2.b0<|?_;refine WP .r ((PV.DL fH (p:=r.key) (q:=r.key) rfl rfl).cast (v':=.bool true) (congrArg Value.bool (decide_eq_true rfl)))<|(aZ) fh st2.b1<|(aZ) fh st2.b0<|?_;refine WP .r ((PV.eqs rfl rfl).cast (v':=.bool true) (congrArg Value.bool (decide_eq_true rfl)))<|(aZ) dC st2.b1<|(aZ) dC st2.b0<|(eS) (tk (hl.ext (St.cg st2)) (hm.ext (St.cg st2)) rfl) st2 fun w3 j d=>?_;refine(aZ) aN d.b1<|(aZ) aN d.b0<|?_;refine WP .r ((PV.ID rfl rfl).cast (v':=.bool true) (congrArg Value.bool (decide_eq_true rfl)))<|(aZ) aN d.b1<|(aZ) aN d.b0<|?_;refine WP .r ((PV.ID rfl rfl).cast (v':=.bool true) (congrArg Value.bool (decide_eq_true rfl)))<|(aZ) aN d.b1<|(aZ) aN d.b0<|?_;refine WP .r ((PV.ID rfl rfl).cast (v':=.bool true) (congrArg Value.bool (decide_eq_true rfl)))<|(aZ) dG d.b1<|(aZ) dG d.b0<|?_;refine WP .r ((PV.eqB ac0 rfl rfl).cast (v':=.bool true) (congrArg Value.bool (decide_eq_true rfl)))<|(bs) ?_;exact⟨rfl,(St.cg d)⟩
 -- k o s t u v y z
theorem wX{l:List Rec}(hl:Rd RR.dV 8 Z w a n c l) (hm:Rd RR.dV 8 Z2 w b m e l):CR prog 49 #[.slice a n c,.slice b m e] w (.bool true):=by
 have j:=hl.len;have k:=hm.len;have hle:=hl.le;refine enter func49 rfl ntmps49 rfl<|?_;have aO:=St.s0 w;refine aX ?_;refine(aR) (fun g11=>?_) fun g11=>?_
 ·
  exact absurd (congrArg Nat.cast (j.trans k.symm)) (by simpa using g11)
 ·
  skip
  refine jT ?_;refine WC.bd (σ:=Nat) (dj:=fun i=>[(1,.slice b m e),(12,.slice a n c),(13,.int .i64 (n:Int)),(14,.int .i64 (i:Int))]) (F:=fun i=>[]) (I:=fun i=>(i≤n)∧True) (μ:=fun i=>n - i) (0) (aO) Sub.t (⟨by omega,trivial⟩)<|?_;rintro i w1 st1 ⟨hi,_⟩;simp only [CA,NA] at st1 hi ⊢;refine(aR) (fun g15=>?_) fun g15=>?_
  ·
   simp at g15
   have f:i<l.length:=by omega
   obtain⟨C,D,E,o,G,p,s,H⟩:=Rd.at hl f;obtain⟨p1,p2,p3,rfl,u,J⟩:=p;obtain⟨K,L,N,v,O,y,z,P⟩:=Rd.at hm f;obtain⟨q1,Q,R,rfl,A,S⟩:=y;refine ed ?_;refine WP .r (PV.dI ij o rfl rfl (by omega))<|(aY) cU (aW s (St.cg st1) (by simp))<|(eN) st1 fun T w2 U V st2=>?_;refine(cF) fI st2 fun w3 W X g=>?_;refine bY ?_;have Y:=g.bL;refine WC.dS (m:=5) g mixed<|(gI) cU St.g0<|bK ?_;refine DP .r (fun _ h=>PV.dI ij v rfl rfl (by omega))<|DP .r (fun _ h=>VA cU (aW z (St.cg h.2) (by simp)) .r)<|(cP)<|?_;rintro w4 ⟨qD,d⟩ _;refine(eS) (vX (u.ext (St.cg d)) (A.ext (St.cg d))) d fun w5 s5 B=>?_;refine bY ?_;refine WC.eA rfl<|ed ?_;refine ef (i+1) ⟨B.drop,⟨by omega,trivial⟩⟩
  skip
  refine(bs) ?_;exact⟨rfl,(St.cg st1)⟩
 -- k7 eR C25
theorem wY{b1 b2:Option Addr}{m1 d1 m2 d2:Nat}(hi:Rd RR.aD 4 Z w a1 n1 e1 x.ab) (hr:Rd RR.dV 8 Z w a2 n2 e2 x.ah) (j:Rd RR.aD 4 Z2 w b1 m1 d1 x.ab) (kr:Rd RR.dV 8 Z2 w b2 m2 d2 x.ah):CR prog 16 #[.agg (x.row a1 n1 e1 a2 n2 e2).toArray,.agg (x.row b1 m1 d1 b2 m2 d2).toArray] w (.bool true):=by
 have H:=hi.len;have J:=j.len;have hle:=hi.le
 have y:(n1:Int)=(m1:Int):=by omega
 refine enter func16 rfl ntmps16 rfl<|?_;have aO:=St.s0 w;refine(dq) aO fun b2 w1 K L st1=>?_;refine(dq) st1 fun b3 w2 N O st2=>?_;refine(aZ) aN st2.b1<|(aZ) aN st2.b0<|?_;refine WP .r ((PV.Qd rfl rfl).cast (v':=.bool false) (congrArg Value.bool (decide_eq_false fun h=>h rfl)))<|(aZ) iX st2.b1<|(aZ) iX st2.b0<|nx ?_;refine WP .r ((PV.Qd rfl rfl).cast (v':=.bool false) (congrArg Value.bool (decide_eq_false fun h=>h y)))<|(aZ) dt st2.b1<|(aZ) dt st2.b0<|(eS) (wX (hr.ext (St.cg st2)) (kr.ext (St.cg st2))) st2 fun w3 P k=>?_;refine cj ?_;refine WC.eA rfl<|(aZ) iX k.b1<|db ?_;refine WC.bd (σ:=Nat) (dj:=fun i=>[(3,.pointer (some ⟨b3,0,none⟩)),(30,.slice a1 n1 e1),(31,.int .i64 (n1:Int)),(32,.int .i64 (i:Int))]) (F:=fun i=>[]) (I:=fun i=>(i≤n1)∧True) (μ:=fun i=>n1 - i) (0) (k) Sub.t (⟨by omega,trivial⟩)<|?_;rintro i w4 d ⟨z,_⟩;simp only [CA,NA] at d z ⊢;refine(aR) (fun o=>?_) fun o=>?_
 ·
  simp at o
  have s:i<x.ab.length:=by omega
  obtain⟨Q,R,S,A,T,f,B,U⟩:=Rd.at hi s;have f:=RR.a8 f;subst f;obtain⟨V,W,X,C,Y,g,D,apd⟩:=Rd.at j s;have g:=RR.a8 g;subst g;refine ed ?_;refine WP .r (PV.dI qu A rfl rfl (by omega))<|(aY) kl (aW B (St.cg d) (by simp))<|(eN) d fun b6 w5 Dx Is E=>?_;refine(cF) zn E fun w6 jO jZ u=>?_;refine bY ?_;have PA:=u.bL;refine WC.dS (m:=6) u mixed<|(il) iX St.g1<|nx ?_;refine DP .r (fun _ v=>PV.dI qu C rfl rfl (by omega))<|DP .r (fun _ v=>VA kl (aW D (St.cg v.2) (by simp)) .r)<|(gI) kl St.g0<|(cP)<|?_;rintro w7 ⟨qD,G⟩ _;refine WP .r (PV.acJ ipT (p:=x.ab[i]) rfl rfl)<|bK ?_;refine WC.eA rfl<|ed ?_;refine ef (i+1) ⟨G.drop,⟨by omega,trivial⟩⟩
 ·
  skip
  refine(bs) ?_;exact⟨rfl,(St.cg d)⟩
 -- k7 eR C28 C43 G12 G21
end Go.Rc

