/- Walks over the program, part WYp. Conditions: as each theorem says. -/
import Derived.Test.YtfamnpoplgkkcaaGreatDoorKFacts
import Derived.Test.YtfamnpoplgkkcaaGreatDoorKWZh
import Derived.Test.YtfamnpoplgkkcaaGreatDoorKWLibE
import Derived.Test.YtfamnpoplgkkcaaGreatDoorKBe
import Derived.Test.YtfamnpoplgkkcaaGreatDoorKBg
import Derived.Test.YtfamnpoplgkkcaaGreatDoorKWYk
import Derived.Test.YtfamnpoplgkkcaaGreatDoorKBf
import Derived.Test.YtfamnpoplgkkcaaGreatDoorKBh
set_option linter.all false
namespace Go.Rc
open Go Go.Proofs Go.Proofs.Tryz
variable {al a b:Option Addr}{nl n c m e:Nat}{w:World}{M Z Z2:Nat→Prop}{l q:List Key}
set_option maxHeartbeats 400000
set_option maxHeartbeats 1600000 in
set_option maxRecDepth 8000 in
theorem fA{x:bZ}{l:List Change}{a1 a2:Option Addr}{n1 e1 n2 e2 f:Nat}(gV:St w M Z w []) (hi:Rd RR.aC 4 Z w a1 n1 e1 x.ab) (hr:Rd RR.iz 8 Z w a2 n2 e2 x.ai) (hl:Rd RR.cH 3 Z w al nl f l) (hb:iw x) (hx:gh x.ad x.ab) (hs:∀c∈l,c.small) (Y5:l.length≤32):Calls prog 18 #[.agg (x.row a1 n1 e1 a2 n2 e2).toArray,.slice al nl f] w fun e w'=>∃(y:bZ) (b1 b2:Option Addr) (m1 d1 m2 d2:Nat) (er:Int) (Z':Nat→Prop),e=.returned (.tuple #[.agg (y.row b1 m1 d1 b2 m2 d2).toArray,.int .i64 er])∧y.ai=x.ai∧x.ad≤y.ad∧y.ad≤1073741824∧gh y.ad y.ab∧y.ab.length≤64∧y.ad≤x.ad+1∧QK x l y∧AO x l y∧(x.ad+1≤1073741824→er=0)∧Rd RR.aC 4 Z' w' b1 m1 d1 y.ab∧Rd RR.iz 8 Z' w' b2 m2 d2 y.ai∧eI w.heap.size Z Z'∧St w M Z' w' []:=by
 have hln:=hl.len;have Y6:=hb.2.2.2.2.1;have h6a:=hb.2.2.2.2.2.1
 have h6:x.ai.length≤1000000:=by omega
 have h7:x.ab.length≤1000000:=by omega
 have hv0:=hb.2.2.1;have GV:=hb.2.2.2.1;refine enter func18 rfl ntmps18 rfl<|?_;have aM:=St.rb gV;have st1:=aM.fr hi;have st2:=st1.fr hr;have ka:=st2.fr hl;refine(dt) ka fun b2 w1 QU Da jW=>?_;refine(fF) jW fun b4 w2 FK FL mf=>?_;refine(bS) cq mf.b1<|?_;have jt:=mf;refine(c6) MQ (nO (x:=x) jt.e0 (As.gr jt.g4) (As.gr jt.g3) h6 h7) ?_;rintro _ w3 ⟨f1,f2,f3,f4,f5,f6,Z1,rfl,wD,tM⟩;have mi:=St.lv jt tM wD;have Vy:=St.gg tM;have Vz:=St.gg tM.p1;have yl:=jt.size;have J6:=wD.le yl;have VB:=St.fresh mi;have kF:=mi.dM (by omega);have VC:=St.fresh kF.p1;have oo:=kF.p1.dM (by omega);have VD:=(J6.trans (eI.uS (F:=fun x=>x∈bN f1) Vy) yl).trans (eI.uS (F:=fun x=>x∈bN f4) Vz) yl;refine(dH) iJ oo.p3 fun w4 oB qx gj=>?_;refine(bS) cq gj.b0<|(c6) SS (tz (x:=x) (As.gr gj.g2) (As.gr gj.g1)) ?_;rintro _ w5 ⟨bb,rfl,hbb,s5⟩;have e7:=gj.step s5;obtain rfl:bb=true:=hbb.2 hb;refine(bl) (fun g24=>?_) fun g24=>?_
 ·
  exact cI g24
 ·
  refine(bl) (fun DJ=>?_) fun DJ=>?_
  ·
   exact cI DJ
  refine ba ?_;refine WC.bq (σ:=Nat) (cX:=fun i=>[(1,.slice al nl f),(2,.pointer (some ⟨b2,0,none⟩)),(4,.pointer (some ⟨b4,0,none⟩)),(34,.slice al nl f),(35,.int .i64 (nl:Int)),(36,.int .i64 (i:Int))]) (F:=fun i=>[]) (I:=fun i=>(i≤l.length)∧True) (μ:=fun i=>l.length - i) (0) (e7) Sub.t (⟨by omega,trivial⟩)<|?_;rintro i w6 eF ⟨dF,_⟩;simp only [CA,NA] at eF dF ⊢;refine(bl) (fun Y7=>?_) fun Y7=>?_
  ·
   simp at Y7
   have G:i<l.length:=by omega
   have K3:=hs _ (List.getElem_mem G);have Q4:=K3.ok;have JW:=K3.2;refine dz ?_;obtain⟨jq,tw,pS,fy,jT,H,iL,iM⟩:=Rd.at (As.gr eF.g4) G;have H:=RR.bp H;subst H;have O:=eF.fg iM iL;refine nx ?_;refine WP .r (PV.ef Ah fy rfl rfl (by omega))<|(bS) vz (As.mF O.g0)<|(fF) O fun b7 w7 TM TN L=>?_;refine(dH) CD L fun w8 Ap uV U=>?_;refine(lj) aq U.b0<|?_;refine WL.c1 (u:=.bool true) (gA (k:=l[i].key)) (by rw [Q4.1]) U fun w9 s9 P=>?_;refine(lj) aq P.b0<|?_;refine WL.c1 (u:=.bool true) (jR (k:=l[i].key)) (by rw [Q4.2]) P fun oC s10 fx=>?_;refine cv ?_;refine WC.dw rfl<|eE ?_;refine fJ (i+1) ⟨fx.drop.drop,⟨by omega,trivial⟩⟩
  skip
  refine ba ?_;refine cm ?_;refine WC.bq (σ:=Nat) (cX:=fun i=>[(1,.slice al nl f),(2,.pointer (some ⟨b2,0,none⟩)),(4,.pointer (some ⟨b4,0,none⟩)),(52,.slice al nl f),(53,.int .i64 (nl:Int)),(54,.int .i64 (i:Int))]) (F:=fun i=>[]) (I:=fun i=>(i≤l.length)∧True) (μ:=fun i=>l.length - i) (0) (eF) Sub.t (⟨by omega,trivial⟩)<|?_;rintro i w7 O ⟨dF,_⟩;simp only [CA,NA] at O dF ⊢;refine(bl) (fun OT=>?_) fun OT=>?_
  ·
   simp at OT
   have G:i<l.length:=by omega
   have K3:=hs _ (List.getElem_mem G);have JW:=K3.2;refine dz ?_;obtain⟨jq,tw,pS,fy,jT,H,iL,iM⟩:=Rd.at (As.gr O.g4) G;have H:=RR.bp H;subst H;have L:=O.fg iM iL;refine nx ?_;refine WP .r (PV.ef Ah fy rfl rfl (by omega))<|(bS) vz (As.mF L.g0)<|(fF) L fun b9 w8 nw9 hb9 U=>?_;refine(dH) CD U fun w9 Jj zt P=>?_;refine(bF) e4 P.b0<|(bl) (fun Y8=>?_) fun Y8=>?_
   ·
    exact cI Y8
   refine eE ?_;refine fJ (i+1) ⟨P.drop.drop,⟨by omega,trivial⟩⟩
  skip
  refine(bS) cq O.b0<|?_;have L:=O;refine(c6) MQ (nO (x:=x) L.e0 (As.gr L.g2) (As.gr L.g1) h6 h7) ?_;rintro _ w8 ⟨k1,k2,k3,k4,k5,k6,Z2,rfl,O9,k8⟩;have U:=St.lv L k8 O9;have VE:=St.gg k8;have VF:=St.gg k8.p1;have qR:=L.size;have VG:=VD.trans O9 qR;have VH:=St.fresh U;have P:=U.dM (by omega);have VI:=St.fresh P.p1;have fx:=P.p1.dM (by omega);have VJ:=(VG.trans (eI.uS (F:=fun x=>x∈bN k1) VE) qR).trans (eI.uS (F:=fun x=>x∈bN k4) VF) qR;refine(fF) fx fun Q w9 FM FN eG=>?_;refine(dH) iJ eG fun oC T4 T5 fw=>?_;refine(bF) aT fw.b0<|cm ?_;refine WL.s1 fw fun qy _ gQ=>?_;refine ba ?_;refine cv ?_;refine WC.lG (σ:=Nat × Bool × (List bG) × (Option Addr) × Nat × Nat × (Nat→Prop)) (cX:=fun(i,ch,li,J,C,K,R)=>[(1,.slice al nl f),(2,.pointer (some ⟨b2,0,none⟩)),(4,.pointer (some ⟨b4,0,none⟩)),(10,.pointer (some ⟨Q,0,none⟩)),(11,.bool ch),(70,.slice al nl f),(71,.int .i64 (nl:Int)),(72,.int .i64 (i:Int))]) (F:=fun(i,ch,li,J,C,K,R)=>[As.blk Q 31 [.int .i64 (x.ad+1),.slice J C K,.slice k4 k5 k6],As.ro RR.aC 4 J C K li]) (I:=fun(i,ch,li,J,C,K,R)=>(i≤l.length)∧(gh (x.ad+1) li)∧(li.length≤x.ab.length+i)∧(∀k,(∀c∈l,c.key≠k)→aL li k=aL x.ab k)∧(∀k,aL li k=aL x.ab k∨(aL li k).changed=x.ad+1)∧(eI w.heap.size Z R)∧(zR x l i ch li)∧True) (μ:=fun(i,ch,li,J,C,K,R)=>l.length - i) (Zf:=fun(i,ch,li,J,C,K,R)=>R) (0,false,x.ab,k1,k2,k3,_) (gQ.p2.p1) Sub.t (⟨by omega,hx.mono (by omega),by omega,fun _ _=>rfl,fun _=>.inl rfl,VJ,.start,trivial⟩)<|?_;rintro⟨i,ch,li,J,C,K,R⟩ uy z ⟨dF,hG,VK,Q5,Q6,qz,Dm,_⟩;simp only [CA,NA] at z dF hG VK Q5 Q6 qz Dm ⊢;refine(bl) (fun Pa=>?_) fun Pa=>?_
  ·
   have VL:=((As.gr z.g1)).len
   simp at Pa
   have G:i<l.length:=by omega
   have K3:=hs _ (List.getElem_mem G);refine dz ?_;obtain⟨jq,tw,pS,fy,jT,H,iL,iM⟩:=Rd.at (As.gr z.g7) G;have H:=RR.bp H;subst H;have o:=z.fg iM iL;refine cm ?_;refine WP .r (PV.ef Ah fy rfl rfl (by omega))<|(bS) vz (As.mF o.g0)<|(fF) o fun K4 wY FR VM fY=>?_;refine(dH) CD fY fun C6 Ye QA ij=>?_;refine ba ?_;refine nx ?_;refine WP .r (PV.Hl Ah (i:=i+1) (As.gr ij.g9) rfl rfl (by omega))<|cM ?_;have fb:=ij.fr (SR.drop (i:=i+1) (As.gr ij.g9) (by omega));refine cm ?_;refine WC.bq (σ:=Nat × Bool) (cX:=fun(q,V)=>[(1,.slice al nl f),(2,.pointer (some ⟨b2,0,none⟩)),(4,.pointer (some ⟨b4,0,none⟩)),(10,.pointer (some ⟨Q,0,none⟩)),(11,.bool ch),(13,.pointer (some ⟨K4,0,none⟩)),(14,.bool V),(70,.slice al nl f),(71,.int .i64 (nl:Int)),(72,.int .i64 (i:Int)),(80,.slice (ko al (i+1) 3 f) (nl - (i+1)) (f - (i+1))),(81,.int .i64 ((nl - (i+1):Nat):Int)),(82,.int .i64 (q:Int))]) (F:=fun(q,V)=>[]) (I:=fun(q,V)=>(q≤nl - (i+1))∧(q=0→V=true)∧True) (μ:=fun(q,V)=>nl - (i+1) - q) (0,true) (fb) Sub.t (⟨by omega,fun _=>rfl,trivial⟩)<|?_;rintro⟨q,V⟩ C9 eH ⟨hq,Y9,_⟩;simp only [CA,NA] at eH hq Y9 ⊢;refine(bl) (fun KZ=>?_) fun KZ=>?_
   ·
    simp at KZ
    have F6:q<(l.drop (i+1)).length:=by rw [List.length_drop];omega
    refine dz ?_;obtain⟨Dn,Dp,Dq,mo,wK,mq,nV,mr⟩:=Rd.at (As.gr eH.g0) F6;have mq:=RR.bp mq;subst mq;have N:=eH.fg mr nV;refine nx ?_;refine WP .r (PV.ef Ah mo rfl rfl (by omega))<|(bS) vz (As.mF N.g0)<|(fF) N fun b16 Aw VN VO jr=>?_;refine(dH) CD jr fun DH T6 T7 W=>?_;refine cm ?_;have B:=W;refine WC.hI (σ:=Bool) [] (fun JO=>[(1,.slice al nl f),(2,.pointer (some ⟨b2,0,none⟩)),(4,.pointer (some ⟨b4,0,none⟩)),(10,.pointer (some ⟨Q,0,none⟩)),(11,.bool ch),(13,.pointer (some ⟨K4,0,none⟩)),(14,.bool JO),(70,.slice al nl f),(71,.int .i64 (nl:Int)),(72,.int .i64 (i:Int)),(80,.slice (ko al (i+1) 3 f) (nl - (i+1)) (f - (i+1))),(81,.int .i64 ((nl - (i+1):Nat):Int)),(82,.int .i64 (q:Int))]) (fun JO=>[]) (fun JO=>True) B ?_ ?_
    ·
     refine(c7) (fun FO=>?_) (fun FO=>?_)
     ·
      refine(lj) aq B.b0<|(lj) aq B.b3<|?_;refine WP .r (PV.Kx fP (p:=(l.drop (i+1))[q].key) (q:=l[i].key) rfl rfl)<|cM ?_;exact lK (_) ⟨B,trivial⟩
     refine ho ?_;exact lK (_) ⟨B,trivial⟩
    rintro JO DI D _;simp only [CA,NA] at D ⊢;refine fE ?_;refine fJ (q+1,_) ⟨D.drop.drop,⟨by omega,fun h=>absurd h (Nat.succ_ne_zero _),trivial⟩⟩
   skip
   refine eE ?_;refine WC.eC (t:=105) (v:=.bool (!V || decide ((aL x.ab l[i].key).value=l[i].value))) eH ?_<|?_
   ·
    have acO:=eH.cu;refine WC.dN (m:=9) (E:=cO [(6,fun v _=>v=.string (aL x.ab l[i].key).value)]) eH (ca (⟨fun _ _ _ _ _ _ _ h=>h,trivial⟩)) mixed (by kernel_rfl)<|(uv) (fun J8=>?_) (fun J8=>?_)
    ·
     refine(da) ?_;rintro Aw ⟨Pb,N⟩ _;exact(cP) (tG J8) (N)
    refine(iN) cq St.g6<|(Bo) aq St.g1<|?_;refine DW.c0 (fun wx hC hF=>sk (x:=x) (k:=l[i].key) (As.gr hC.2.g8) (As.gr hC.2.g7))<|(kf) e4 St.g1<|(da)<|?_;rintro Aw ⟨Pb,N⟩ ⟨_,_⟩;exact(cP) (tG J8) (N)
   intro Aw N;refine(bl) (fun J9=>?_) fun J9=>?_
   ·
    refine ho ?_;refine fJ (i+1,ch,li,J,C,K,R) ⟨N.drop.drop.drop,⟨by omega,hG,by show li.length≤x.ab.length+(i+1);omega,Q5,Q6,qz,Dm.skip G (fun e=>Y9 (by omega)) J9,trivial⟩⟩
   refine ba ?_;refine(bF) hV N.b3<|dz ?_;have jr:=N.gx RR.aC 88 4;refine WC.bq (σ:=Nat × Bool × (List bG) × (Option Addr) × Nat × Nat) (cX:=fun(q,put,acc,g,d,j)=>[(1,.slice al nl f),(2,.pointer (some ⟨b2,0,none⟩)),(4,.pointer (some ⟨b4,0,none⟩)),(10,.pointer (some ⟨Q,0,none⟩)),(11,.bool true),(13,.pointer (some ⟨K4,0,none⟩)),(17,.slice g d j),(18,.bool put),(70,.slice al nl f),(71,.int .i64 (nl:Int)),(72,.int .i64 (i:Int)),(107,.slice J C K),(108,.int .i64 (C:Int)),(109,.int .i64 (q:Int))]) (F:=fun(q,put,acc,g,d,j)=>[As.os RR.aC 88 4 g d j (acc)]) (I:=fun(q,put,acc,g,d,j)=>(q≤li.length)∧(acc++dm (⟨l[i].key,l[i].value,x.ad+1⟩:bG) (li.drop q) put=dm (⟨l[i].key,l[i].value,x.ad+1⟩:bG) li false)∧True) (μ:=fun(q,put,acc,g,d,j)=>li.length - q) (0,false,[],none,0,0) (jr) Sub.t (⟨by omega,rfl,trivial⟩)<|?_;rintro⟨q,put,acc,g,d,j⟩ DH W ⟨hq,S,_⟩;simp only [CA,NA] at W hq S ⊢;have Pc:=Eh S;have VP:=((As.gs W.g0)).len;refine(bl) (fun AA=>?_) fun AA=>?_
   ·
    simp at AA
    have F6:q<li.length:=by omega
    have FX:=Eg F6 S
    dsimp only at FX
    refine dz ?_;obtain⟨OH,acP,acQ,qb,Za,Dr,Pd,Pe⟩:=Rd.at (As.gr W.g5) F6;have Dr:=RR.bp Dr;subst Dr;have B:=W.fg Pe Pd;refine nx ?_;refine WP .r (PV.ef oj qb rfl rfl (by omega))<|(bS) jk (As.mF B.g0)<|(fF) B fun VQ DI VR VS D=>?_;refine(dH) vF D fun FY Yg Yh X=>?_;refine(lj) aq X.b0<|(lj) aq X.b4<|(eO) (nb (k:=li[q].key) (q:=l[i].key)) X fun JN YS js=>?_;refine dz ?_;have ot:=js;refine WC.hI (σ:=Bool) [] (fun AB=>[(1,.slice al nl f),(2,.pointer (some ⟨b2,0,none⟩)),(4,.pointer (some ⟨b4,0,none⟩)),(10,.pointer (some ⟨Q,0,none⟩)),(11,.bool true),(13,.pointer (some ⟨K4,0,none⟩)),(17,.slice g d j),(18,.bool put),(20,.pointer (some ⟨VQ,0,none⟩)),(21,.int .i64 (bj li[q].key l[i].key)),(70,.slice al nl f),(71,.int .i64 (nl:Int)),(72,.int .i64 (i:Int)),(107,.slice J C K),(108,.int .i64 (C:Int)),(109,.int .i64 (q:Int)),(123,.bool AB)]) (fun AB=>[]) (fun AB=>(AB=(decide (0≤bj li[q].key l[i].key) && !put))∧True) ot ?_ ?_
    ·
     refine(c7) (fun Ka=>?_) (fun Ka=>?_)
     ·
      refine cv ?_;exact lK (!put) ⟨ot,⟨by rw [decide_eq_true (show 0≤bj li[q].key l[i].key by simp at Ka;omega)];rfl,trivial⟩⟩
     refine cv ?_;exact lK (false) ⟨ot,⟨by rw [decide_eq_false (show ¬0≤bj li[q].key l[i].key by simp at Ka;omega)];rfl,trivial⟩⟩
    rintro AB GU mu ⟨Kb,_⟩;simp only [CA,NA] at mu Kb ⊢;refine nx ?_;have ik:=mu.p2;refine WC.hI (σ:=Bool × (List bG) × (Option Addr) × Nat × Nat) [_] (fun(Y,s,g,d,j)=>[(1,.slice al nl f),(2,.pointer (some ⟨b2,0,none⟩)),(4,.pointer (some ⟨b4,0,none⟩)),(10,.pointer (some ⟨Q,0,none⟩)),(11,.bool true),(13,.pointer (some ⟨K4,0,none⟩)),(17,.slice g d j),(18,.bool Y),(20,.pointer (some ⟨VQ,0,none⟩)),(21,.int .i64 (bj li[q].key l[i].key)),(70,.slice al nl f),(71,.int .i64 (nl:Int)),(72,.int .i64 (i:Int)),(107,.slice J C K),(108,.int .i64 (C:Int)),(109,.int .i64 (q:Int))]) (fun(Y,s,g,d,j)=>[As.os RR.aC 88 4 g d j (s)]) (fun(Y,s,g,d,j)=>(s++(if bj li[q].key l[i].key=0 then [] else [li[q]])++dm (⟨l[i].key,l[i].value,x.ad+1⟩:bG) (li.drop (q+1)) Y=dm (⟨l[i].key,l[i].value,x.ad+1⟩:bG) li false)∧True) ik ?_ ?_
    ·
     refine(bl) (fun Kc=>?_) fun Kc=>?_
     ·
      refine(lj) aq ik.b4<|(bF) e4 ik.b4<|(bF) aT (bC.range (As.gb ik.g6))<|?_;refine WP .r (PV.bA (us:=(⟨l[i].key,l[i].value,x.ad+1⟩:bG).cells) EV rfl rfl rfl)<|?_;refine WL.go rfl (OX.bf (us:=(⟨l[i].key,l[i].value,x.ad+1⟩:bG).cells) x5 rfl rfl rfl rfl fun acR JP Pf Pg=>?_);have T:=ik.dG Pf Pg;refine WL.ap rfl rfl T.p1 (SR.dU (A:=fun _=>True) (x:=(⟨l[i].key,l[i].value,x.ad+1⟩:bG)) (As.gb T.g0) trivial rfl (by simp [bG.cells,Value.oneCell']) rfl) fun VT Ph KT Zb Zc mw=>?_;refine cM ?_;exact lK (true,acc++[(⟨l[i].key,l[i].value,x.ad+1⟩:bG)],VT,(d+1),Ph) ⟨mw.p1.drop,⟨by have h2:(decide (0≤bj li[q].key l[i].key) && !put)=true:=(by rw [← Kb];simpa using Kc);have h3:(put || decide (0≤bj li[q].key l[i].key))=true:=(by revert h2;cases put <;> simp);rw [if_pos h2,h3] at FX;exact FX,trivial⟩⟩
     refine nx ?_;exact lK (put,acc,g,d,j) ⟨ik,⟨by have h2:(decide (0≤bj li[q].key l[i].key) && !put)=false:=(by rw [← Kb];simpa using Kc);have h3:(put || decide (0≤bj li[q].key l[i].key))=put:=(by revert h2;cases put <;> simp);rw [if_neg (by rw [h2];simp),h3,List.append_nil] at FX;exact FX,trivial⟩⟩
    rintro⟨Y,s,g,d,j⟩ JP T ⟨yE,_⟩;simp only [CA,NA] at T yE ⊢
    have Zd:s.length≤li.length+1:=by have h1:=congrArg List.length yE;rw [List.length_append,List.length_append] at h1;have:=jG (⟨l[i].key,l[i].value,x.ad+1⟩:bG) li false;omega
    have Ze:=((As.gs T.g0)).len;refine(bl) (fun Ds=>?_) fun Ds=>?_
    ·
     simp at Ds
     refine(bS) jk T.b1<|?_;refine WL.go rfl (OX.bf (us:=li[q].cells) x5 rfl rfl rfl rfl fun acS KT Pj Pk=>?_);have mw:=T.dG Pj Pk;refine WL.ap rfl rfl mw.p1 (SR.dU (A:=fun _=>True) (x:=li[q]) (As.gb mw.g0) trivial rfl (by simp [bG.cells,Value.oneCell']) rfl) fun a139 Pl OK Zg Zi tZ=>?_;refine ho ?_;refine fJ (q+1,Y,s++[li[q]],a139,(d+1),Pl) ⟨tZ.p1.drop.p1.drop.p1.drop,⟨by omega,by rw [← yE,if_neg Ds],trivial⟩⟩
    simp at Ds
    refine eE ?_;refine fJ (q+1,Y,s,g,d,j) ⟨T.p1.drop.p1.drop,⟨by omega,by rw [← yE,if_pos Ds,List.append_nil],trivial⟩⟩
   simp at AA
   rw [List.drop_eq_nil_of_le (by omega)] at S;refine ba ?_;have B:=W;refine WC.hI (σ:=(List bG) × (Option Addr) × Nat × Nat) [_] (fun(s,g,d,j)=>[(1,.slice al nl f),(2,.pointer (some ⟨b2,0,none⟩)),(4,.pointer (some ⟨b4,0,none⟩)),(10,.pointer (some ⟨Q,0,none⟩)),(11,.bool true),(17,.slice g d j),(70,.slice al nl f),(71,.int .i64 (nl:Int)),(72,.int .i64 (i:Int))]) (fun(s,g,d,j)=>[As.os RR.aC 88 4 g d j (s)]) (fun(s,g,d,j)=>(s=dm (⟨l[i].key,l[i].value,x.ad+1⟩:bG) li false)∧True) B ?_ ?_
   ·
    refine(bl) (fun Ke=>?_) fun Ke=>?_
    ·
     refine(lj) aq B.b2<|(bF) e4 B.b2<|(bF) aT B.b4<|?_;refine WP .r (PV.bA (us:=(⟨l[i].key,l[i].value,x.ad+1⟩:bG).cells) EV rfl rfl rfl)<|?_;refine WL.go rfl (OX.bf (us:=(⟨l[i].key,l[i].value,x.ad+1⟩:bG).cells) x5 rfl rfl rfl rfl fun acT DI Pm Pn=>?_);have D:=B.dG Pm Pn;refine WL.ap rfl rfl D.p1 (SR.dU (A:=fun _=>True) (x:=(⟨l[i].key,l[i].value,x.ad+1⟩:bG)) (As.gb D.g0) trivial rfl (by simp [bG.cells,Value.oneCell']) rfl) fun a152 Po FY Zj Zk X=>?_;refine cm ?_;exact lK (acc++[(⟨l[i].key,l[i].value,x.ad+1⟩:bG)],a152,(d+1),Po) ⟨X.p1.drop,⟨by have hp:put=false:=(by simpa using Ke);rw [hp] at S;exact S,trivial⟩⟩
    refine nx ?_;exact lK (acc,g,d,j) ⟨B,⟨by have hp:put=true:=(by simpa using Ke);rw [hp] at S;exact(List.append_nil acc).symm.trans S,trivial⟩⟩
   rintro⟨s,g,d,j⟩ DI D ⟨yt,_⟩;simp only [CA,NA] at D yt ⊢;refine nx ?_;have Pc:=jG (⟨l[i].key,l[i].value,x.ad+1⟩:bG) li false;have VP:=((As.gs D.g0)).len;rw [← yt] at Pc;have Kf:=St.fresh D;have X:=D.dM (by omega);have F4:=qz.trans (eI.uS (F:=fun x=>x∈bN g) Kf) (Nat.le_refl _);have js:=X.p5.drop;refine cM ?_;refine WL.s1 js.p4 fun FY _ ot=>?_;refine eE ?_;refine fJ (i+1,true,s,g,d,j,_) ⟨ot.p2.drop.p2.drop.p2.drop,⟨by omega,by rw [yt];exact hG.put K3 (by omega),by show s.length≤x.ab.length+(i+1);rw [yt];have:=jG (⟨l[i].key,l[i].value,x.ad+1⟩:bG) li false;omega,fun k hk=>by rw [yt,gG (hk _ (List.getElem_mem G))];exact Q5 k hk,by rw [yt];exact Es Q6 _ rfl,F4,by rw [yt];exact Dm.put G J9,trivial⟩⟩
  have VL:=((As.gr z.g1)).len
  simp at Pa
  refine ba ?_;refine(bl) (fun VU=>?_) fun VU=>?_
  ·
   refine(bS) cq z.b3<|(dH) iJ z.p6 fun wY ss7 hs7 o=>?_;refine fE ?_;refine EX.gJ rfl (RS.cell cq rfl o.b0 rfl<|RS.tmp rfl<|RS.nil) rfl<|?_;exact⟨x,_,_,_,_,_,_,_,_,rfl,rfl,Int.le_refl _,GV,hx,Y6,by omega,.refl _ _,Dm.same (by omega) (by simp_all),fun _=>rfl,(As.gr o.g6),(As.gr o.g5),qz,(St.wk o.k0)⟩
  refine(bF) hV z.b0<|(bl) (fun Kg=>?_) fun Kg=>?_
  ·
   refine(bS) cq z.b3<|(dH) iJ z.p6 fun wY ss8 hs8 o=>?_;refine fE ?_;refine EX.gJ rfl (RS.cell cq rfl o.b0 rfl<|RS.tmp rfl<|RS.nil) rfl<|?_;exact absurd Kg (by have:=hG.len;simp;omega)
  refine(bF) aT z.b0<|(bl) (fun F7=>?_) fun F7=>?_
  ·
   refine(bS) cq z.b3<|(dH) iJ z.p6 fun wY ss9 OA o=>?_;refine fE ?_;refine EX.gJ rfl (RS.cell cq rfl o.b0 rfl<|RS.tmp rfl<|RS.nil) rfl<|?_;exact⟨x,_,_,_,_,_,_,_,_,rfl,rfl,Int.le_refl _,GV,hx,Y6,by omega,.refl _ _,⟨fun c _ _ h=>by(simp at F7;omega),fun _=>.inl rfl,fun _=>.inl rfl⟩,fun h=>by(simp at F7;omega),(As.gr o.g6),(As.gr o.g5),qz,(St.wk o.k0)⟩
  refine(bS) cq z.b0<|(dH) iJ z.p6 fun wY acZ ac0 o=>?_;refine cv ?_;refine EX.gJ rfl (RS.cell cq rfl o.b0 rfl<|RS.tmp rfl<|RS.nil) rfl<|?_;exact⟨⟨x.ad+1,li,x.ai⟩,_,_,_,_,_,_,_,_,rfl,rfl,by show x.ad≤x.ad+1;omega,by simp at F7;show x.ad+1≤_;omega,hG,by simp at Kg;show li.length≤64;omega,Int.le_refl _,⟨Q5,.inr ⟨rfl,Q6⟩⟩,Dm.done (by omega),fun _=>rfl,(As.gr o.g2),(As.gr o.g3),qz,(St.wk o.k0)⟩
 -- jU dK C49
set_option maxHeartbeats 400000
theorem wL(hl:Rd RR.key 2 Z w a n c l) (hm:Rd RR.key 2 Z2 w b m e q):CR prog 27 #[.slice a n c,.slice b m e] w (.bool (decide (l=q))):=by
 have v:=hl.len;have x:=hm.len;have hle:=hl.le;refine enter func27 rfl ntmps27 rfl<|?_;have aM:=St.s0 w;refine ba ?_;refine(bl) (fun g11=>?_) fun g11=>?_
 ·
  simp at g11
  refine(bJ) ?_;exact⟨by rw [decide_eq_false fun h=>g11 (by rw [v,x,h])],(St.cg aM)⟩
 simp at g11
 refine hY ?_;refine WC.bq (σ:=Nat) (cX:=fun i=>[(1,.slice b m e),(12,.slice a n c),(13,.int .i64 (n:Int)),(14,.int .i64 (i:Int))]) (F:=fun i=>[]) (I:=fun i=>(i≤n)∧(l.take i=q.take i)∧True) (μ:=fun i=>n - i) (0) (aM) Sub.t (⟨by omega,by simp,trivial⟩)<|?_;rintro i w1 st1 ⟨hi,d,_⟩;simp only [CA,NA] at st1 hi d ⊢;refine(bl) (fun g15=>?_) fun g15=>?_
 ·
  simp at g15
  have j:i<l.length:=by omega
  have k:i<q.length:=by omega
  obtain⟨E,G,H,y,J,f,z,K⟩:=Rd.at hl j;have f:=RR.bp f;subst f;obtain⟨L,N,O,A,P,g,B,Q⟩:=Rd.at hm k;have g:=RR.bp g;subst g;refine eE ?_;refine WP .r (PV.ef fR y rfl rfl (by omega))<|(bS) aq (aS z (St.cg st1) (by simp))<|(fF) st1 fun R w2 S T st2=>?_;refine(dH) gz st2 fun w3 U V o=>?_;refine cM ?_;have W:=o.cu;refine WC.dS (m:=5) o mixed<|cm ?_;refine DP .r (fun _ s=>PV.ef fR A rfl rfl (by omega))<|DP .r (fun _ s=>VA aq (aS B (St.cg s.2) (by simp)) .r)<|(iN) aq St.g0<|(da)<|?_;rintro w4 ⟨X,u⟩ _;refine WP .r (PV.Kx fP (p:=q[i]) (q:=l[i]) rfl rfl)<|(bl) (fun g24=>?_) fun g24=>?_
  ·
   simp at g24
   refine(bJ) ?_;exact⟨by rw [decide_eq_false fun h=>g24 (by subst h;rfl)],(St.cg u)⟩
  simp at g24
  have C:=g24.symm;refine eE ?_;refine fJ (i+1) ⟨u.drop,⟨by omega,by rw [List.take_succ_eq_append_getElem j,List.take_succ_eq_append_getElem k,d,C],trivial⟩⟩
 simp at g15
 refine(bJ) ?_;exact⟨by rw [decide_eq_true];have h1:l.take i=l:=List.take_of_length_le (by omega);have D:q.take i=q:=List.take_of_length_le (by omega);rw [← h1,← D];exact d,(St.cg st1)⟩
theorem wM(hl:Rd RR.key 2 Z w a n c l) (hm:Rd RR.key 2 Z2 w b m e q) (h:l=q):CR prog 27 #[.slice a n c,.slice b m e] w (.bool true):=by
 have:=wL hl hm
 rwa [decide_eq_true h] at this
set_option maxHeartbeats 400000
theorem ua(y:St w M Z w []):Calls prog 26 #[] w fun e w'=>∃(a:Option Addr) (n c:Nat) (Z':Nat→Prop),e=.returned (.slice a n c)∧Rd RR.eU 4 Z' w' a n c H2∧eI w.heap.size Z Z'∧St w M Z' w' []:=by
 refine enter func26 rfl ntmps26 rfl<|?_;have aM:=St.rb y;refine eE ?_;refine WP .r (PV.bA (us:=[.bool true,.bool false,.int .i64 0,.int .i64 0]) vB rfl rfl rfl)<|?_;refine WL.go rfl (OX.bf (us:=[.bool true,.bool false,.int .i64 0,.int .i64 0]) Cx rfl rfl rfl rfl fun b2 w1 j z=>?_);have st1:=St.n0 (R:=RR.ask) (E:=102) (k:=4) (a:=some ⟨b2,0,none⟩) (n:=1) (c:=1) (xs:=[(⟨true,false,0,0⟩:Ask)]) aM j.ext (OR.dU z (Nat.zero_le _) rfl (by simp [Value.oneCell']) rfl) (fun x d=>by simp [bN] at d;subst d;exact j.ge);refine WP .r (PV.bA (us:=[.bool false,.slice (some ⟨b2,0,none⟩) 1 1,.int .i64 2,.int .i64 0]) EU rfl rfl rfl)<|WP .r (PV.bA (us:=[.bool false,.bool false,.int .i64 0,.int .i64 0]) vB rfl rfl rfl)<|WP .r (PV.bA (us:=[.bool true,.bool false,.int .i64 1,.int .i64 0]) vB rfl rfl rfl)<|?_;refine WL.go rfl (OX.bf (us:=([.bool false,.bool false,.int .i64 0,.int .i64 0]++[.bool true,.bool false,.int .i64 1,.int .i64 0])) IQ rfl rfl rfl rfl fun f w2 o A=>?_);have st2:=St.n0 (R:=RR.ask) (E:=102) (k:=4) (a:=some ⟨f,0,none⟩) (n:=2) (c:=2) (xs:=[(⟨false,false,0,0⟩:Ask),⟨true,false,1,0⟩]) st1 o.ext (OR.LV (r:=[.bool false,.bool false,.int .i64 0,.int .i64 0]) (s:=[.bool true,.bool false,.int .i64 1,.int .i64 0]) A (Nat.zero_le _) rfl rfl (by simp [Value.oneCell']) rfl rfl) (fun x d=>by simp [bN] at d;subst d;exact o.ge);refine WP .r (PV.bA (us:=[.bool false,.slice (some ⟨f,0,none⟩) 2 2,.int .i64 1,.int .i64 0]) EU rfl rfl rfl)<|?_;refine WL.go rfl (OX.bf (us:=([.bool false,.slice (some ⟨b2,0,none⟩) 1 1,.int .i64 2,.int .i64 0]++[.bool false,.slice (some ⟨f,0,none⟩) 2 2,.int .i64 1,.int .i64 0])) IP rfl rfl rfl rfl fun i w3 C D=>?_);have p:=st2.dG C D;refine cm ?_;have F:=St.fresh p.p2;have t:=p.p2.dM (by simp);have G:=St.fresh t.p2;have H:=t.p2.dM (by simp);have g:=H.p2;have u:=g.conv (B:=As.os RR.eU 58 4 (some ⟨i,0,none⟩) 2 2 H2) (OR.LV (As.gb g.g0) (Nat.zero_le _) rfl rfl (by simp [Value.oneCell']) ⟨some ⟨b2,0,none⟩,1,1,rfl,(As.gr g.g2)⟩ ⟨some ⟨f,0,none⟩,2,2,rfl,(As.gr g.g1)⟩) (fun x h=>by show x=i;change x∈bN (some ⟨i,0,none⟩) at h;simpa [bN] using h);have I:=St.fresh u;have v:=u.dM (by decide);refine(bJ) ?_;exact⟨_,_,_,_,rfl,(As.gr v.g0),((eI.uS F).trans (eI.uS G) (Nat.le_refl _)).trans (eI.uS I) (Nat.le_refl _),(St.wk v.k0)⟩
set_option maxHeartbeats 4000000 in
theorem kG(gV:St w M Z w []) (ht:kb prog Z w):Calls prog 7 #[] w fun e w'=>∃Z':Nat→Prop,e=.returned (.bool true)∧St w M Z' w' []:=by
 have g:∀k∈[K1],eV H2 k:=fun k hk=>by rw [List.mem_singleton.1 hk];exact xX
 refine enter func7 rfl ntmps7 rfl<|?_;have aM:=gV;have st1:=aM.fact (B:=As.fz (FZ.LP prog)) ht (fun _ o=>o);refine eE ?_;have st2:=st1;refine(c6) S2 (ua st2.e0) ?_;rintro _ w1 ⟨ra,rn,rc,Zh,rfl,O1,hZh,Kh⟩;have ka:=St.lv st2 Kh hZh;have jW:=ka.fr (O1);refine dz ?_;refine WP .r (PV.bA (us:=((⟨0,[],[]⟩:bZ).row none 0 0 none 0 0)) Mx rfl rfl rfl)<|(eO) (jd (n:=0)) jW fun w2 s2 mf=>?_;refine WP .r (PV.bA (us:=(⟨C0,z4⟩:Change).cells) Cz rfl rfl rfl)<|?_;refine WL.go rfl (OX.bf (us:=(⟨C0,z4⟩:Change).cells) pK rfl rfl rfl rfl fun YJ w3 W O0=>?_);have jt:=St.n0 (R:=RR.cH) (E:=65) (k:=3) (a:=some ⟨YJ,0,none⟩) (n:=1) (c:=1) (xs:=[(⟨C0,z4⟩:Change)]) mf W.ext (OR.dU O0 (Nat.zero_le _) rfl (by simp [Change.cells,Value.oneCell']) rfl) (fun x o=>by simp [bN] at o;subst o;exact W.ge);have mi:=jt.dM (by simp);have G:=mi;refine(c6) CL (fA (x:=⟨0,[],[]⟩) (l:=[(⟨C0,z4⟩:Change)]) G.e0 (Rd.nil _ _ _ _) (Rd.nil _ _ _ _) (As.gr G.g0) ED (gh.nil _) smA (by simp)) ?_;rintro _ w4 ⟨y,ya1,ya2,ac2,ac3,ac4,ac5,ac6,yaZ,rfl,ac7,ac8,ac9,VV,ada,adb,ade,VW,adf,VX,VY,VZ,tN⟩;have oo:=St.lv G tN VZ;obtain rfl:=aoA VW;have p:=LC.nil H2 (⟨1,iA,[]⟩:bZ) rfl (by decide) (by decide) VV (by simp);have gj:=oo.fr (VX);have e7:=gj.fr (VY);refine(fF) e7 fun b2 w5 QU Da eF=>?_;refine(dH) iJ eF fun w6 oB qx gk=>?_;refine cv ?_;refine WC.cz (m:=10) [8,9] [3,4,5] [2,3,4,0,1,5,6,7,8,9] [] gk (av.k4 M0 M1 M2 M3<|av.cons M4<|av.cons M5<|av.nil) mixed (by kernel_rfl) (by kernel_rfl) rfl<|(gR) (fun w7 H I J K=>?_);simp only [CA,NA] at J;refine OX.call FD rfl rfl ((jS (n:=1) (aa:=H2) (As.gr J.g4)).mono ?_);rintro _ w8 ⟨rfl,X⟩;have ee:=J.step X;refine⟨_,rfl,X.size,_,rfl,_,_,_,ee,aG.k4<|aG.k2<|aG.nil,av.k4 M0 M1 M2 M3<|av.cons M4<|av.cons M5<|av.nil,?_⟩;refine(gR) (fun w9 Y Au gB nS=>?_);simp only [CA,NA] at gB;refine OX.bf (us:=K1.cells) ey rfl rfl rfl rfl fun L oC Pp V0=>?_;have fx:=gB.dG Pp V0;have eG:=fx;have fw:=eG.conv (B:=As.os RR.key 41 2 (some ⟨L,0,none⟩) 1 1 [K1]) (OR.dU (As.gb eG.g0) (Nat.zero_le _) rfl (by simp [Key.cells,Value.oneCell']) rfl) (fun x h=>by show x=L;change x∈bN (some ⟨L,0,none⟩) at h;simpa [bN] using h);have gQ:=fw.dM (by simp);refine⟨Pp.ext.size,_,rfl,_,_,_,gQ,aG.k4<|aG.k2<|aG.cons<|aG.nil,av.k4 M1 M2 M3 M4<|av.cons M5<|av.cons M6<|av.nil,?_⟩;refine(qu) cq SV.g0<|(gR) (fun qy KX Ax gl mh=>?_);simp only [CA,NA] at gl;have d:=gl;refine OX.call FC rfl rfl ((eQ (x:=(⟨1,iA,[]⟩:bZ)) (goals:=[K1]) d.e0 (As.gf d.g6) (As.gr d.g5) (As.gr d.g3) (As.gr d.g2) (As.gr d.g0) gv p g (by simp)).mono ?_);rintro _ uy ⟨v,adg,rs3,p31,p32,p33,j31,k31,j32,k32,j33,k33,Z3x,rfl,N,adi,J7,adj,V2,V3,ze⟩;have z:=St.lv d ze V3;obtain⟨i,KL,KS,hw3,Pq⟩:=N.done gv p g;have Pr:aA v K1=true:=(J7 K1 (List.mem_singleton.2 rfl)).resolve_left (by rw [Cf];simp);have Ps:=i.lb.ok.fO.len;have Ps:v.ai.length≤4000:=Ps;have Pu:=i.lb.ok.pq;obtain⟨_,_,_,adk,_⟩:=N.ready gv p g;have adl:=V2.length_eq;have adm:=((As.gs z.g0)).len;have adn:=((As.gs z.g1)).len;have ado:=((As.gs z.g2)).len;obtain⟨hh1,hh2⟩:=EE p rfl N Pr
 obtain rfl:j33=2:=by omega
 have ij:=z.dM (by omega);have fb:=ij.p1.dM (by omega);have eH:=fb.p2.dM (by omega);refine⟨_,rfl,ze.cH.size,_,rfl,_,_,_,eH,aG.k4<|aG.k4<|aG.k2<|aG.nil,av.k4 M4 M5 M6 M7<|av.cons M8<|av.cons M9<|av.nil,?_⟩
 iterate 4 refine DG.a ?_
 refine(lJ) ?_;intro wY vY gC;simp only [CM,NM,CA,NA,iv.it] at gC;refine(dH) iJ gC.p4 fun C6 Ap uV jr=>?_;refine cm ?_;refine WL.nil (EX.np ?_);refine cm ?_;refine WC.cz (m:=9) [7] [1,3,4] [1,2,3,0,4,5,6,7,8] [(8,.blk 31 [.int .i64 0,.slice none 0 0,.slice none 0 0])] jr (av.k4 M0 M1 M2 M3<|av.k4 M4 M5 M6 M7<|av.cons M8<|av.cons M9<|av.nil) mixed (by kernel_rfl) (by kernel_rfl) rfl<|(gR) (fun C9 Yy OE nq GS=>?_);simp only [CA,NA] at nq;refine OX.call MM rfl rfl ((jd (n:=0)).mono ?_);rintro _ Aw ⟨rfl,Zl⟩;have k9:=nq.step Zl;refine⟨_,rfl,Zl.size,_,rfl,_,_,_,k9,aG.k4<|aG.k4<|aG.k2<|aG.nil,av.k4 M0 M1 M2 M3<|av.k4 M4 M5 M6 M7<|av.cons M8<|av.cons M9<|av.nil,?_⟩;refine DQ .r (fun wx Zx Rx _ nj sn=>PV.bA (us:=(⟨C0,z5⟩:Change).cells) Cz rfl rfl rfl)<|(gR) (fun DH H I ou K=>?_);simp only [CA,NA] at ou;refine OX.bf (us:=(⟨C0,z5⟩:Change).cells) pK rfl rfl rfl rfl fun O DI Pv V4=>?_;have qi:=ou.dG Pv V4;have js:=qi;have ot:=js.conv (B:=As.os RR.cH 65 3 (some ⟨O,0,none⟩) 1 1 [(⟨C0,z5⟩:Change)]) (OR.dU (As.gb js.g0) (Nat.zero_le _) rfl (by simp [Change.cells,Value.oneCell']) rfl) (fun x h=>by show x=O;change x∈bN (some ⟨O,0,none⟩) at h;simpa [bN] using h);have mu:=ot.dM (by simp);refine⟨Pv.ext.size,_,rfl,_,_,_,mu,aG.k4<|aG.k4<|aG.k2<|aG.cons<|aG.nil,av.k4 M1 M2 M3 M4<|av.k4 M5 M6 M7 M8<|av.cons M9<|av.cons nW<|av.nil,?_⟩;refine(qu) cq SV.g0<|(gR) (fun FY Y Au ik nS=>?_);simp only [CA,NA] at ik;have j:=ik;refine OX.call CL rfl rfl ((fA (x:=v) (l:=[(⟨C0,z5⟩:Change)]) j.e0 (As.gr j.g4) (As.gr j.g3) (As.gr j.g0) i.lb.ok.iw i.lb.aC smQ (by simp)).mono ?_);rintro _ JN ⟨y,yb1,yb2,adq,adr,ads,adt,adu,ybZ,rfl,V5,V6,V7,V8,V9,adw,Wa,Wb,adx,Wc,Wd,We,qa⟩;have mw:=St.lv j qa We;have C:=i.apply Wa V5 V6 V7 V8 V9;obtain rfl:=aoB KL KS Wb;have tZ:=mw.fr (Wc);have yu:=tZ.fr (Wd);refine⟨_,rfl,qa.cH.size,_,rfl,_,_,_,yu,aG.k4<|aG.k4<|aG.k4<|aG.cons<|aG.nil,av.k4 M3 M4 M5 M6<|av.k4 M7 M8 M9 nW<|av.cons qq<|av.cons q9<|av.nil,?_⟩
 iterate 3 refine DG.a ?_
 refine DG.side (s:=.blk 31 [.int .i64 0,.slice none 0 0,.slice none 0 0]) rfl rfl rfl rfl rfl rfl (fun wx Zx Rx ux nj=>OX.alloc ME rfl fun b wy nw hb=>⟨nw.ext.size,_,rfl,⟨b,rfl⟩,nj.dG nw hb⟩)<|?_;rintro _ ⟨b6,rfl⟩;refine(lJ) ?_;intro GU Va AD;simp only [CM,NM,CA,NA,iv.it] at AD;refine(dH) iJ AD fun JP Jj zt F8=>?_;refine nx ?_;refine WL.nil (EX.np ?_);refine cm ?_;refine WC.cz (m:=10) [8,9] [3,4,5] [2,3,4,0,1,5,6,7,8,9] [] F8 (av.k4 M0 M1 M2 M3<|av.k4 M4 M5 M6 M7<|av.k4 M8 M9 nW qq<|av.cons q9<|av.cons wZ<|av.nil) mixed (by kernel_rfl) (by kernel_rfl) rfl<|(gR) (fun KT H I P K=>?_);simp only [CA,NA] at P;refine OX.call FD rfl rfl ((jS (n:=1) (aa:=H2) (As.gr P.g12)).mono ?_);rintro _ OK ⟨rfl,Zm⟩;have yv:=P.step Zm;refine⟨_,rfl,Zm.size,_,rfl,_,_,_,yv,aG.k4<|aG.k4<|aG.k4<|aG.k2<|aG.nil,av.k4 M0 M1 M2 M3<|av.k4 M4 M5 M6 M7<|av.k4 M8 M9 nW qq<|av.cons q9<|av.cons wZ<|av.nil,?_⟩;refine(gR) (fun UI Y Au F9 nS=>?_);simp only [CA,NA] at F9;refine OX.bf (us:=K1.cells) ey rfl rfl rfl rfl fun Q w26 Pw Wf=>?_;have Ki:=F9.dG Pw Wf;have Ga:=Ki;have Gb:=Ga.conv (B:=As.os RR.key 41 2 (some ⟨Q,0,none⟩) 1 1 [K1]) (OR.dU (As.gb Ga.g0) (Nat.zero_le _) rfl (by simp [Key.cells,Value.oneCell']) rfl) (fun x h=>by show x=Q;change x∈bN (some ⟨Q,0,none⟩) at h;simpa [bN] using h);have Wg:=Gb.dM (by simp);refine⟨Pw.ext.size,_,rfl,_,_,_,Wg,aG.k4<|aG.k4<|aG.k4<|aG.k2<|aG.cons<|aG.nil,av.k4 M1 M2 M3 M4<|av.k4 M5 M6 M7 M8<|av.k4 M9 nW qq q9<|av.cons wZ<|av.cons Ge<|av.nil,?_⟩;refine(qu) cq SV.g0<|(gR) (fun Zn KX Ax wN mh=>?_);simp only [CA,NA] at wN;have f:=wN;refine OX.call FC rfl rfl ((eQ (x:=(⟨2,iB,v.ai⟩:bZ)) (goals:=[K1]) f.e0 (As.gf f.g14) (As.gr f.g13) (As.gr f.g3) (As.gr f.g2) (As.gr f.g0) gv C g (by simp)).mono ?_);rintro _ Zo ⟨Zp,adz,rs5,p51,p52,p53,j51,k51,j52,k52,j53,k53,Z5x,rfl,S,adA,Wh,adB,Px,Wi,GY⟩;have D:=St.lv f GY Wi;obtain⟨Zq,hi5,KO,hw5,Zr⟩:=S.done gv C g;have Wj:aA Zp K1=true:=(Wh K1 (List.mem_singleton.2 rfl)).resolve_left (by rw [Cf];simp);have Py:=Zq.lb.ok.fO.len;have Py:Zp.ai.length≤4000:=Py;have adC:=Zq.lb.ok.pq;obtain⟨_,_,_,adD,_⟩:=S.ready gv C g;have adE:=Px.length_eq;have adF:=((As.gs D.g0)).len;have Wk:=((As.gs D.g1)).len;have adG:=((As.gs D.g2)).len;obtain⟨hrs,DF,HV⟩:=EG i KS hh2 Pr Pq C rfl S Wj Px;subst hrs;have Kj:=D.dM (by omega);have Kk:=Kj.p1.dM (by omega);have Kl:=Kk.p2.dM (by omega);refine⟨_,rfl,GY.cH.size,_,rfl,_,_,_,Kl,aG.k4<|aG.k4<|aG.k4<|aG.k4<|aG.k2<|aG.nil,av.k4 M4 M5 M6 M7<|av.k4 M8 M9 nW qq<|av.k4 q9 wZ Ge Kv<|av.cons K9<|av.cons Qn<|av.nil,?_⟩
 iterate 4 refine DG.a ?_
 refine(lJ) ?_;intro Zs F0 wO;simp only [CM,NM,CA,NA,iv.it] at wO;refine(dH) iJ wO.p4 fun Zt T4 T5 Wl=>?_;refine cm ?_;refine WL.nil (EX.np ?_);refine cm ?_;refine WC.cz (m:=7) [6] [2,3] [1,2,0,3,4,5,6] [] Wl (av.k4 M0 M1 M2 M3<|av.k4 M4 M5 M6 M7<|av.k4 M8 M9 nW qq<|av.k4 q9 wZ Ge Kv<|av.cons K9<|av.cons Qn<|av.nil) mixed (by kernel_rfl) (by kernel_rfl) rfl<|(gR) (fun Zu R2x Wm T Pz=>?_);simp only [CA,NA] at T;refine OX.call FD rfl rfl ((jS (n:=1) (aa:=H2) (As.gr T.g16)).mono ?_);rintro _ Zv ⟨rfl,Wn⟩;have Wo:=T.step Wn;refine⟨_,rfl,Wn.size,_,rfl,_,_,_,Wo,aG.k4<|aG.k4<|aG.k4<|aG.k4<|aG.k2<|aG.nil,av.k4 M0 M1 M2 M3<|av.k4 M4 M5 M6 M7<|av.k4 M8 M9 nW qq<|av.k4 q9 wZ Ge Kv<|av.cons K9<|av.cons Qn<|av.nil,?_⟩;refine(qu) cq SV.g0<|(gR) (fun w33 H I wP K=>?_);simp only [CA,NA] at wP;have F:=wP;refine OX.call SU rfl rfl ((q5 (k:=K1) F.e0 (As.gr F.g3) (As.gr F.g2)).mono ?_);rintro _ w34 ⟨rfl,GZ⟩;have yw:=St.lr F GZ;rw [DF,HV];refine⟨_,rfl,GZ.cH.size,_,rfl,_,_,_,yw,aG.k4<|aG.k4<|aG.k4<|aG.k4<|aG.k2<|aG.nil,av.k4 M0 M1 M2 M3<|av.k4 M4 M5 M6 M7<|av.k4 M8 M9 nW qq<|av.k4 q9 wZ Ge Kv<|av.cons K9<|av.cons Qn<|av.nil,?_⟩
 iterate 3 refine DG.a ?_
 refine(lJ) ?_;intro w35 C4 U;simp only [CM,NM,CA,NA,iv.it] at U;refine cm ?_;refine WL.nil (EX.np ?_);refine fE ?_;refine WL.bX (t:=58) rfl (fun Zw=>?_) (fun Zw=>?_)
 ·
  refine cv ?_;refine WL.bX (t:=62) rfl (fun Zy=>?_) (fun Zy=>?_)
  ·
   refine dz ?_;refine WL.bX (t:=67) rfl (fun K5=>?_) (fun K5=>?_)
   ·
    refine cm ?_;refine WL.c1 (u:=K0.val) (jS (n:=0) (aa:=H2) (As.gr U.g16)) (by rw [show aK H2 0=K0 from lZ]) U fun w36 s36 Wp=>?_;refine WL.go rfl (OX.bf (us:=K0.cells) ey rfl rfl rfl rfl fun b71 w37 Wq PA=>?_);have V:=Wp.dG Wq PA;refine(eO) (wM (As.gr V.g2) (SR.dU (A:=fun _=>True) (x:=K0) (As.gb V.g0) trivial rfl (by simp [Key.cells,Value.oneCell']) rfl) rfl) V fun w38 s38 Km=>?_;refine fE ?_;refine WL.bX (t:=78) rfl (fun Zz=>?_) (fun Zz=>?_)
    ·
     refine(bJ) ?_;exact⟨_,rfl,Km.k0⟩
    exact cI Zz
   exact cI K5
  exact cI Zy
 ·
  exact cI Zw
 -- jU dK G74
set_option maxHeartbeats 400000
set_option maxHeartbeats 400000
set_option maxHeartbeats 400000
set_option maxHeartbeats 400000
set_option maxHeartbeats 400000
set_option maxHeartbeats 400000
set_option maxHeartbeats 400000
set_option maxHeartbeats 400000
set_option maxHeartbeats 4000000 in
set_option maxRecDepth 8000 in
theorem na{l:List Int}{cl:Nat}(gV:St w M Z w []) (ht:kb prog Z w) (hl:Rd RR.int 1 Z w al nl cl l):CR prog 5 #[.slice al nl cl] w (.bool true):=by
 refine enter func5 rfl ntmps5 rfl<|?_;have aM:=St.rb gV;have st1:=aM.fr hl;have st2:=st1.fact (B:=As.fz (FZ.LP prog)) ht (fun _ G=>G);refine(eO) (vM) st2 fun w1 s1 ka=>?_;refine(bl) (fun ZA=>?_) fun ZA=>?_
 ·
  skip
  refine cm ?_;refine WL.go rfl (OX.call (xs:=[]) (args:=[]) X3 rfl rfl ((kG (ka.e0) (As.gf ka.g0)).mono ?_));rintro _ _ ⟨_,rfl,Wr⟩;refine⟨_,rfl,?_⟩;refine(bJ) ?_;exact⟨rfl,aQ.trans (St.cg ka) (Wr.cH.cH (fun _ h=>by obtain⟨A,hA,_⟩:=h;cases hA))⟩
 ·
  have Y5:nl≤400:=by simpa using ZA
  refine dz ?_;have jW:=ka;refine(c6) cf8 (wQ jW.e0 (As.gr jW.g1) Y5) ?_;rintro _ w2 ⟨d,rfl,JI⟩;have mf:=St.lr jW JI;refine fE ?_;have jt:=mf;refine(c6) S0 (ub jt.e1) ?_;rintro _ w3 ⟨ra,W,rc,aa,Z1,rfl,y,QP,hr8,J6,tM⟩;have mi:=St.lv jt tM J6;have kF:=mi.p3.drop;have zN:=((As.gs kF.g1)).len;have DC:=y.len;refine cv ?_;have Ws:=St.fresh kF.p1;have oo:=kF.p1.dM (by omega);refine nx ?_;refine WP .r (PV.bA (us:=((⟨0,[],[]⟩:bZ).row none 0 0 none 0 0)) Mx rfl rfl rfl)<|nx ?_;have gj:=oo.p1;refine(c6) SY (qj gj.e1 (by decide) (by decide)) ?_;rintro _ w4 ⟨ca1,cn1,cc1,kR,rfl,Wt,Wu,tN⟩;have e7:=St.lr gj tN;have ZB:=((As.gs e7.g1)).len;have Q7:=St.fresh e7.p1;have eF:=e7.p1.dM (by omega);have gk:=eF;refine(c6) CL (fA (x:=⟨0,[],[]⟩) gk.e0 (Rd.nil _ _ _ _) (Rd.nil _ _ _ _) (As.gr gk.g0) HQ (gh.nil _) Wu (by omega)) ?_;rintro _ w5 ⟨x,b1,b2,m1,d1,m2,d2,er,Z4,rfl,a1,a2,a3,a4,a5,a6,a7,a8,a9,hyi,hyr,F4,JD⟩;have gi:=St.lv gk JD F4;have ee:=gi.fr (hyi);have gB:=ee.fr (hyr);have Q8:LC aa x:=LC.nil aa x a1 a2 a3 a4 a5;have hxl:=Q8.lb.ok.pq;refine(fF) gB fun b5 w6 TK TL fx=>?_;refine(dH) iJ fx fun w7 oB qx eG=>?_;refine eE ?_;have fw:=eG.gx RR.key 41 2;refine mG ?_;refine WC.bq (σ:=Nat × (List Key) × (Option Addr) × Nat × Nat) (cX:=fun(i,o,O,H,P)=>[(3,.pointer (some ⟨d,0,none⟩)),(4,.slice ra W rc),(5,.pointer (some ⟨b5,0,none⟩)),(7,.slice O H P),(42,.int .i64 (W:Int)),(43,.int .i64 (i:Int))]) (F:=fun(i,o,O,H,P)=>[As.os RR.key 41 2 O H P (o)]) (I:=fun(i,o,O,H,P)=>(i≤W)∧(o=(List.range i).map fun j=>aK aa ((j:Nat):Int))∧True) (μ:=fun(i,o,O,H,P)=>W - i) (0,[],none,0,0) (fw) Sub.t (⟨Nat.zero_le _,rfl,trivial⟩)<|?_;rintro⟨i,o,O,H,P⟩ w8 Q ⟨hi,X,_⟩;simp only [CA,NA] at Q hi X ⊢;have hkn:=((As.gs Q.g0)).len
  have adN:o.length=i:=by rw [X];simp
  refine(bl) (fun Wv=>?_) fun Wv=>?_
  ·
   simp at Wv
   refine ba ?_;refine(eO) (jS (n:=(i:Int)) (As.gr Q.g6)) Q fun w9 s9 gl=>?_;refine WL.go rfl (OX.bf (us:=(aK aa (i:Int)).cells) ey rfl rfl rfl rfl fun b50 oC Ww Wx=>?_);have v:=gl.dG Ww Wx;refine WL.ap rfl rfl v.p1 (SR.dU (A:=fun _=>True) (x:=(aK aa (i:Int))) (As.gb v.g0) trivial rfl (by simp [Key.cells,Value.oneCell']) rfl) fun a51 Wz qy adO adP J=>?_;refine ho ?_;refine fJ (i+1,_,a51,(H+1),Wz) ⟨J.p1.drop,⟨by omega,by rw [List.range_succ,List.map_append,← X];rfl,trivial⟩⟩
  simp at Wv
  have adQ:i=W:=by omega
  have WA:∀k∈o,∃i:Nat,i<aa.length∧k=aK aa (i:Int):=fun k hk=>by rw [X] at hk;obtain⟨j,s,rfl⟩:=List.mem_map.1 hk;exact⟨j,by have:=List.mem_range.1 s;omega,rfl⟩
  have D:∀k∈o,eV aa k:=fun k hk=>by obtain⟨j,s,rfl⟩:=WA k hk;exact .eU s (by omega)
  have QH:∀j:Nat,j<aa.length→aK aa (j:Int)∈o:=fun j s=>by rw [X];exact List.mem_map.2 ⟨j,List.mem_range.2 (by omega),rfl⟩
  refine fE ?_;have WB:=St.fresh Q;have gl:=Q.dM (by omega);refine(bS) cq gl.b1<|nx ?_;have v:=gl;refine(c6) FC (eQ (x:=x) (goals:=o) v.e0 (As.gf v.g7) (As.gr v.g6) (As.gr v.g3) (As.gr v.g2) (As.gr v.g0) y Q8 D (by omega)) ?_;rintro _ w9 ⟨g,adR,rs1,nZ,oV,Bl,j11,k11,Q9,k12,j13,k13,Z1x,rfl,ZC,adT,pZ,adU,WG,WH,tQ⟩;have J:=St.lv v tQ WH;obtain⟨K,X6,GV,hw1,ZD⟩:=ZC.done y Q8 D;have PC:=K.lb.ok.fO.len;have PC:g.ai.length≤4000:=PC;have PA:=K.lb.ok.pq;obtain⟨_,_,_,adV,_⟩:=ZC.ready y Q8 D;have adW:=WG.length_eq;have adX:=((As.gs J.g0)).len;have adY:=((As.gs J.g1)).len;have adZ:=((As.gs J.g2)).len;have PD:∀j:Nat,j<aa.length→aA g (aK aa (j:Int))=true:=fun j s=>(pZ _ (QH j s)).resolve_left (by rw [bQ s (by omega)];simp);have Ra:=St.fresh J;have ij:=J.dM (by omega);have Rb:=St.fresh ij.p1;have fb:=ij.p1.dM (by omega);have Re:=St.fresh fb.p2;have eH:=fb.p2.dM (by omega);refine(dH) iJ eH.p4 fun oC Ap uV gC=>?_;refine eE ?_;have jr:=gC.p8;refine(c6) kh (bR jr.e1 (m:=4) (by omega)) ?_;rintro _ qy ⟨z0,rfl,za,zb,wI⟩;have nq:=St.lr jr wI;have zb:=zb (by omega);obtain⟨f,rfl⟩:∃f:Nat,z0=f:=⟨z0.toNat,by omega⟩
  have hos:(aL g.ab (bd (f:Int))).value.size≤50:=by rw [X6];exact vt a8 Wt.2 _
  refine(eO) (jd (n:=(f:Int))) nq fun uy ZE k9=>?_;refine(fF) k9 fun YD wY UN UO ou=>?_;refine(dH) gz ou fun C6 Jj zt Y=>?_;refine(bS) cq Y.b2<|(bS) aq Y.b0<|(eO) (sk (x:=g) (k:=(bd (f:Int))) (As.gr Y.g5) (As.gr Y.g4)) Y fun C9 s15 js=>?_;refine cv ?_;obtain⟨u,hU⟩:∃u,((aL g.ab (bd (f:Int))).value++⟨#[49]⟩)=u:=⟨_,rfl⟩;refine(bS) cq js.b2<|(bS) aq js.b0<|nx ?_;refine WP .r ((PV.cat (p:=(aL g.ab (bd (f:Int))).value) (q:=⟨#[49]⟩) rfl rfl (by have h:(⟨#[49]⟩:ByteArray).size=1:=rfl;omega)).cast (v':=.string u) (congrArg Value.string hU))<|WP .r (PV.bA (us:=(⟨(bd (f:Int)),u⟩:Change).cells) Cz rfl rfl rfl)<|?_;refine WL.go rfl (OX.bf (us:=(⟨(bd (f:Int)),u⟩:Change).cells) pK rfl rfl rfl rfl fun OP Aw PE Pu=>?_);have ot:=St.n0 (R:=RR.cH) (E:=65) (k:=3) (a:=some ⟨OP,0,none⟩) (n:=1) (c:=1) (xs:=[(⟨(bd (f:Int)),u⟩:Change)]) js PE.ext (OR.dU Pu (Nat.zero_le _) rfl (by simp [Change.cells,Value.oneCell']) rfl) (fun x G=>by simp [bN] at G;subst G;exact PE.ge);have WI:=St.fresh ot;have mu:=ot.dM (by simp);have ik:=mu;refine(c6) CL (fA (x:=g) (l:=[(⟨(bd (f:Int)),u⟩:Change)]) ik.e0 (As.gr ik.g6) (As.gr ik.g5) (As.gr ik.g0) K.lb.ok.iw K.lb.aC (yZ (by omega) (hU ▸ Ih hos)) (by simp)) ?_;rintro _ DH ⟨yc,q1,q2,qm1,qd1,qm2,qd2,qer,qZ,rfl,qa1,qa2,qa3,qa4,qa5,qa6,qa7,qa8,qa9,qhi,qhr,qhZ,Dt⟩;have uc:=St.lv ik Dt qhZ;have mw:=uc.fr (qhi);have tZ:=mw.fr (qhr);have WJ:LC aa yc:=K.apply qa7 qa1 qa2 qa3 qa4 qa5;refine(fF) tZ fun K4 DI FR VM yu=>?_;refine(dH) iJ yu fun FY T4 T5 AD=>?_;refine(bS) cq AD.b0<|(bS) aq AD.b4<|nx ?_;refine WP .r (PV.bA (us:=(⟨(bd (f:Int)),(aL g.ab (bd (f:Int))).value⟩:Change).cells) Cz rfl rfl rfl)<|?_;refine WL.go rfl (OX.bf (us:=(⟨(bd (f:Int)),(aL g.ab (bd (f:Int))).value⟩:Change).cells) pK rfl rfl rfl rfl fun b82 JN PF WK=>?_);have F8:=St.n0 (R:=RR.cH) (E:=65) (k:=3) (a:=some ⟨b82,0,none⟩) (n:=1) (c:=1) (xs:=[(⟨(bd (f:Int)),(aL g.ab (bd (f:Int))).value⟩:Change)]) AD PF.ext (OR.dU WK (Nat.zero_le _) rfl (by simp [Change.cells,Value.oneCell']) rfl) (fun x G=>by simp [bN] at G;subst G;exact PF.ge);have WM:=St.fresh F8;have WN:=F8.dM (by simp);have yv:=WN;refine(c6) CL (fA (x:=yc) (l:=[(⟨(bd (f:Int)),(aL g.ab (bd (f:Int))).value⟩:Change)]) yv.e0 (As.gr yv.g3) (As.gr yv.g2) (As.gr yv.g0) WJ.lb.ok.iw WJ.lb.aC (yZ (by omega) (by omega)) (by simp)) ?_;rintro _ GU ⟨yd,s1,s2,sm1,sd1,sm2,sd2,ser,sZ,rfl,sa1,sa2,sa3,sa4,sa5,sa6,sa7,sa8,sa9,shi,shr,shZ,Du⟩;have F9:=St.lv yv Du shZ;have Ki:=F9.fr (shi);have Ga:=Ki.fr (shr);have lcs:LC aa yd:=WJ.apply sa7 sa1 sa2 sa3 sa4 sa5;obtain⟨vq,PG,jK,Cj⟩:=vu (aY (n:=f) (by omega)) qa8 sa8 (by rw [← hU];exact Ii _) rfl (by have h9:(0:Int)+1=1:=rfl;have a6:x.ad≤0+1:=a6;omega);refine(dH) iJ Ga.p3 fun JP Ye QA Gb=>?_;refine(bS) cq Gb.b0<|nx ?_;have L:=Gb;refine(c6) FC (eQ (x:=yd) (goals:=o) L.e0 (As.gf L.g18) (As.gr L.g17) (As.gr L.g2) (As.gr L.g1) (As.gr L.g13) y lcs D (by omega)) ?_;rintro _ KT ⟨ZF,ti,Rf,p21,p22,p23,j21,k21,j22,k22,Rg,k23,Z2x,rfl,F6,aen,xQ,aeo,PH,WQ,PI⟩;have wN:=St.lv L PI WQ;obtain⟨OG,Az,QV,hw2,ZG⟩:=F6.done y lcs D;have PJ:=OG.lb.ok.fO.len;have PJ:ZF.ai.length≤4000:=PJ;have aep:=OG.lb.ok.pq;obtain⟨_,_,_,aeq,_⟩:=F6.ready y lcs D;have aer:=PH.length_eq;have aes:=((As.gs wN.g0)).len;have aet:=((As.gs wN.g1)).len;have aeu:=((As.gs wN.g2)).len;have WR:∀j:Nat,j<aa.length→aA ZF (aK aa (j:Int))=true:=fun j s=>(xQ _ (QH j s)).resolve_left (by rw [bQ s (by omega)];simp);have Rh:=St.fresh wN;have PK:=wN.dM (by omega);have Ri:=St.fresh PK.p1;have PM:=PK.p1.dM (by omega);have Rj:=St.fresh PM.p2;have Kj:=PM.p2.dM (by omega);refine(fF) Kj fun QO OK UY UZ Kk=>?_;refine(dH) iJ Kk fun UI T6 T7 Kl=>?_;refine mG ?_;refine WL.bX (t:=96) rfl (fun ZH=>?_) (fun ZH=>?_)
  ·
   exact cI ZH
  refine(bl) (fun ZI=>?_) fun ZI=>?_
  ·
   exact cI ZI
  refine hY ?_;refine WC.lG (σ:=Nat × (Nat→Prop)) (cX:=fun(i,S)=>[(5,.pointer (some ⟨b5,0,none⟩)),(11,.pointer (some ⟨YD,0,none⟩)),(15,.pointer (some ⟨QO,0,none⟩)),(100,.slice p23 Rg k23),(101,.int .i64 (Rg:Int)),(102,.int .i64 (i:Int))]) (F:=fun(i,S)=>[]) (I:=fun(i,S)=>(i≤Rg)∧True) (μ:=fun(i,S)=>Rg - i) (Zf:=fun(i,S)=>S) (0,_) (Kl) Sub.t (⟨Nat.zero_le _,trivial⟩)<|?_;rintro⟨i,S⟩ w26 wO ⟨hi,_⟩;simp only [CA,NA] at wO hi ⊢;refine(bl) (fun PN=>?_) fun PN=>?_
  ·
   simp at PN
   have Az:i<Rf.length:=by omega
   have hbr:=Ck y K PD PG lcs D F6 vq jK Cj (PH.mem_iff.1 (List.getElem_mem Az));refine dz ?_;obtain⟨jq,tw,pS,fy,jT,mn,iL,iM⟩:=Rd.at (As.gr wO.g1) Az;have mn:=RR.bp mn;subst mn;have z:=wO.fg iM iL;refine nx ?_;refine WP .r (PV.ef fR fy rfl rfl (by omega))<|(bS) aq (As.mF z.g0)<|(fF) z fun Uv Zn JK OB Kn=>?_;refine(dH) gz Kn fun Zo Yg Yh T=>?_;refine(bF) iH (bC.range (As.gb T.g15))<|(bS) aq T.b0<|?_;have wP:=T;refine(c6) ML (nN (k:=Rf[i]) wP.e0 (As.gr wP.g17)) ?_;rintro _ Zs ⟨v1x,v2x,v3x,rfl,UA,PO⟩;have N:=St.lr wP PO;have hvn:=((As.gs N.g0)).len;have WS:=St.fresh N;have yw:=N.dM (by omega);refine(fF) yw fun VQ Zt VR VS Ko=>?_;refine(dH) iK Ko fun Zu ss7 hs7 U=>?_;refine(bF) eD U.b0<|(bS) aq (bC.range (As.gb U.g15))<|(eO) (Ao (k:=(bd (f:Int))) (As.gr U.g1)) U fun Zv Wn C=>?_;refine cm ?_;refine WL.bX (t:=118) rfl (fun PQ=>?_) (fun PQ=>?_)
   ·
    have L8:aw Rf[i]=true:=hbr.resolve_right (by simpa using PQ);refine(bS) aq C.b2<|?_;refine WL.c1 (u:=.bool true) (mc (k:=Rf[i])) (by rw [L8]) C fun w33 s33 Km=>?_;refine cv ?_;refine WC.dw rfl<|eE ?_;refine fJ (i+1,_) ⟨Km.drop.drop.drop.drop,⟨by omega,trivial⟩⟩
   skip
   refine fE ?_;refine WC.dw rfl<|eE ?_;refine fJ (i+1,_) ⟨C.drop.drop.drop.drop,⟨by omega,trivial⟩⟩
  skip
  refine(bF) iH (bC.range (As.gb wO.g13))<|dz ?_;refine WC.lG (σ:=Nat × (Nat→Prop)) (cX:=fun(j,V)=>[(15,.pointer (some ⟨QO,0,none⟩)),(125,.slice oV Q9 k12),(126,.int .i64 (Q9:Int)),(127,.int .i64 (j:Int))]) (F:=fun(j,V)=>[]) (I:=fun(j,V)=>(j≤Q9)∧True) (μ:=fun(j,V)=>Q9 - j) (Zf:=fun(j,V)=>V) (0,_) (wO) Sub.t (⟨Nat.zero_le _,trivial⟩)<|?_;rintro⟨j,V⟩ Zn z ⟨s,_⟩;simp only [CA,NA] at z s ⊢;refine(bl) (fun Ay=>?_) fun Ay=>?_
  ·
   simp at Ay
   have Ju:j<g.ai.length:=by omega
   obtain⟨s0,s1,s2⟩:=Cl y K PD PG lcs D F6 WR vq jK Cj (List.getElem_mem Ju);refine dz ?_;obtain⟨Dn,Dp,Dq,mo,wK,mq,nV,mr⟩:=Rd.at (As.gr z.g15) Ju;obtain⟨u1,u2,u3,rfl,QQ,Og⟩:=mq;have Kn:=z.fg mr nV;have T:=Kn.fr QQ;refine nx ?_;refine WP .r (PV.ef jQ mo rfl rfl (by omega))<|(bS) dV (As.mF T.g1)<|(fF) T fun b23 Zo aew aex wP=>?_;refine(dH) iK wP fun Zs ss8 hs8 N=>?_;refine(bF) iH N.b3<|(lj) aq N.b0<|?_;have yw:=N;refine(c6) ML (nN (k:=g.ai[j].key) yw.e0 (As.gr yw.g5)) ?_;rintro _ Zt ⟨o1x,o2x,o3x,rfl,ho4,PR⟩;have Ko:=St.lr yw PR;rw [s0];refine(fF) Ko fun b24 Zu PT PU U=>?_;refine(dH) iK U fun Zv ss9 OA C=>?_;refine ho ?_;refine WL.bX (t:=141) rfl (fun PW=>?_) (fun PW=>?_)
   ·
    exact cI PW
   refine(bF) e4 C.b0<|(bF) e4 C.b2<|?_;refine WP .r ((PV.Qp rfl rfl).cast (v':=.bool false) (congrArg Value.bool (decide_eq_false fun h=>h s1)))<|(bF) aT C.b0<|(bF) aT C.b2<|?_;refine WP .r ((PV.Qo rfl rfl).cast (v':=.bool false) (congrArg Value.bool (decide_eq_false fun h=>h s2)))<|cM ?_;refine WC.dw rfl<|eE ?_;refine fJ (j+1,_) ⟨C.drop.drop.drop.drop.drop,⟨by omega,trivial⟩⟩
  skip
  refine eE ?_;refine WL.go rfl (OX.call (xs:=[]) (args:=[]) X3 rfl rfl ((kG (z.e0) (As.gf z.g22)).mono ?_));rintro _ _ ⟨_,rfl,Wr⟩;refine⟨_,rfl,?_⟩;refine(bJ) ?_;exact⟨rfl,aQ.trans (St.cg z) (Wr.cH.cH (fun _ h=>by obtain⟨A,hA,_⟩:=h;cases hA))⟩
 -- jU dK aez aeA aeB
end Go.Rc

