/- Walks over the program, part WK. Conditions: as each theorem says. -/
import Derived.Test.YtpoiojafnnaccaaGreatDoorUFacts
import Derived.Test.YtpoiojafnnaccaaGreatDoorUWH
import Derived.Test.YtpoiojafnnaccaaGreatDoorUBe
import Derived.Test.YtpoiojafnnaccaaGreatDoorUWI
import Derived.Test.YtpoiojafnnaccaaGreatDoorUWF
set_option linter.all false
namespace Go.Rc
open Go Go.Proofs Go.Proofs.Tryz
variable {l:List Rec}{a a1 a2:Option Addr}{n c n1 e1 n2 e2:Nat}{w:World}{M Z:Nat→Prop}{rev:Int}{k:Key}{ab:List aJ}{x b:dV}{D:SD}
set_option maxHeartbeats 400000
set_option maxHeartbeats 1600000 in
theorem vP{l:List Key}{A:Nat→Prop}(bF:St w M Z w []) (MF:Rd RR.key 2 A w a n c l) (hA:∀x,A x→x<w.heap.size→Z x) (h6:l.length≤1000000):Calls prog 44 #[.slice a n c] w fun e w'=>∃a' n' c',e=.returned (.slice a' n' c')∧St w M Z w' [As.os RR.key 58 2 a' n' c' (iv l)]:=by
 have hl:Rd RR.key 2 Z w a n c l:=SR.mono MF hA fun _ _ h=>h
 have hlen:=hl.len;have hle:=hl.le;refine enter func44 rfl ntmps44 rfl<|?_;have aW:=bF;have st1:=aW.fr hl;have st2:=st1.eX RR.key 58 2;refine bC ?_;refine gp ?_;refine WC.bQ (σ:=Nat × (List Key) × (Option Addr) × Nat × Nat) (eI:=fun(i,out,cP,cB,cS)=>[(3,.slice cP cB cS),(7,.slice a n c),(8,.int .i64 (n:Int)),(9,.int .i64 (i:Int))]) (F:=fun(i,out,cP,cB,cS)=>[As.os RR.key 58 2 cP cB cS (out)]) (I:=fun(i,out,cP,cB,cS)=>(i≤n)∧(out=iv (l.take i))∧True) (μ:=fun(i,out,cP,cB,cS)=>n - i) (0,[],none,0,0) (st2) Sub.t (⟨by omega,rfl,trivial⟩)<|?_;rintro⟨i,out,cP,cB,cS⟩ w1 aP ⟨hi,gX,_⟩;simp only [CA,NA] at aP hi gX ⊢;have l3:=((As.gs aP.g0)).len
 have Vd:out.length≤1000000:=by have:=wW (l.take i);rw [← gX,List.length_take] at this;omega
 refine(bp) (fun g10=>?_) fun g10=>?_
 ·
  simp at g10
  have cV:i<l.length:=by omega
  refine eA ?_;obtain⟨gE,js,iT,aS,fi,bq,bY,di⟩:=Rd.at (As.gr aP.g1) cV;have bq:=RR.cH bq;subst bq;have aV:=aP.fg di bY;refine nx ?_;refine WP .r (PV.fm fL aS rfl rfl (by omega))<|(bz) av (As.nh aV.g0)<|(fT) aV fun b5 w2 nH gI bf=>?_;refine(dB) jH bf fun w3 jC jI br=>?_;refine qC ?_;refine WC.bQ (σ:=Nat) (eI:=fun p=>[(3,.slice cP cB cS),(5,.pointer (some ⟨b5,0,none⟩)),(6,.int .i64 (p:Int)),(7,.slice a n c),(8,.int .i64 (n:Int)),(9,.int .i64 (i:Int))]) (F:=fun p=>[]) (I:=fun p=>(p≤out.length)∧(∀q x,q<p→out[q]?=some x→cE x l[i]<0)∧True) (μ:=fun p=>out.length - p) (0) (br) Sub.t (⟨by omega,fun q x h=>by omega,trivial⟩)<|?_;rintro p w4 bP ⟨hp,ed,_⟩;simp only [CA,NA] at bP hp ed ⊢;have KX:=((As.gs bP.g2)).len;refine db ?_;refine WC.fQ (t:=25) (v:=.bool (Ht out p l[i])) bP ?_<|?_
  ·
   have R2:=bP.dc;refine WC.dS (m:=10) bP mixed<|(tf) (fun g17=>?_) (fun g17=>?_)
   ·
    simp at g17
    have qP:p<out.length:=by omega
    have tv:=aq qP;obtain⟨uM,ft⟩:=Ow.addr (As.gs bP.g2) tv
    have hq:Ht out p l[i]=decide (cE out[p] l[i]<0):=by unfold Ht;rw [tv]
    refine db ?_;refine DP .r (fun _ hC=>PV.fm fL ft rfl rfl (by omega))<|DP .r (fun _ hC=>VA av (Ow.rE (As.gs hC.2.g2) (by omega) ft tv) .r)<|(jA) av St.g0<|(ey)<|?_;rintro w5 ⟨pE,bS⟩ _;refine(gw) (mW (k:=out[p]) (q:=l[i])) bS fun w6 s6 bX=>?_;exact(dx) (by rw [hq]) (bX)
   simp at g17
   have hq:Ht out p l[i]=false:=by unfold Ht;rw [List.getElem?_eq_none (by omega)]
   refine(ey) ?_;rintro w5 ⟨pE,bS⟩ _;exact(dx) (by rw [hq]) (bS)
  intro w5 bS;refine(bp) (fun fB=>?_) fun fB=>?_
  ·
   have qP:p<out.length:=by
    rcases Nat.lt_or_ge p out.length with h | h
    ·
     exact h
    unfold Ht at fB;rw [List.getElem?_eq_none h] at fB;cases fB
   have WQ:cE out[p] l[i]<0:=by unfold Ht at fB;rw [aq qP] at fB;simpa using fB
   refine qC ?_;refine fx (p+1) ⟨bS,⟨by omega,dJ (P:=fun _ x=>cE x l[i]<0) qP ed WQ,trivial⟩⟩
  have rp:∀x,out[p]?=some x→0≤cE x l[i]:=fun x hx=>by unfold Ht at fB;rw [hx] at fB;simp at fB;omega
  have ae6:=SA out l[i] p hp ed rp;refine jo ?_;refine WC.fQ (t:=39) (v:=.bool (decide (out[p]?≠some l[i]))) bS ?_<|?_
  ·
   have hN8:=bS.dc;refine WC.dS (m:=10) bS mixed<|(tf) (fun uV=>?_) (fun uV=>?_)
   ·
    simp at uV
    have hq:out[p]?=none:=List.getElem?_eq_none (by omega);refine(ey) ?_;rintro w6 ⟨r9,bX⟩ _;exact(dx) (by first | (rw [hq];rfl) | (rw [tv];simp)) (bX)
   simp at uV
   have qP:p<out.length:=by omega
   have tv:=aq qP;obtain⟨NV,kz⟩:=Ow.addr (As.gs bS.g2) tv;refine db ?_;refine DP .r (fun _ hC=>PV.fm fL kz rfl rfl (by omega))<|DP .r (fun _ hC=>VA av (Ow.rE (As.gs hC.2.g2) (by omega) kz tv) .r)<|(jA) av St.g0<|(ey)<|?_;rintro w6 ⟨r9,bX⟩ _;refine WP .r (PV.OT gB (p:=out[p]) (q:=l[i]) rfl rfl)<|?_;exact(dx) (by first | (rw [hq];rfl) | (rw [tv];simp)) (bX)
  intro w6 bX;refine(bp) (fun om=>?_) fun om=>?_
  ·
   have om:¬out[p]?=some l[i]:=by simpa using om
   obtain⟨N,hN⟩:∃N,N=w6.heap.size:=⟨_,rfl⟩;have hzN:=bX.mj;have h0N:=bX.size;have hlN:=bX.dc;have aso:=((As.gs bX.g2)).len;rw [← hN] at hzN h0N hlN;have hN9:=bX.dc;refine WC.O3 (m:=10) (fun j w w'=>match j with | 6=>JM N 58 (p*2) 2 w w' | _=>bj [] w w') (E:=dy [(3,fun v w'=>∃a c,v=.slice a p c∧(∀x∈aL a,N≤x)∧(p=0→a=none)∧Ow RR.key 58 2 Z w' a p c (out.take p)),(5,fun v w'=>∃b,v=.slice (some ⟨b,0,none⟩) 1 1∧N≤b∧cJ w' b 58 l[i].cells),(6,fun v w'=>∃a c,v=.slice a (p+1) c∧(∀x∈aL a,N≤x)∧Ow RR.key 58 2 Z w' a (p+1) c (out.take p++[l[i]]))]) bX (o9 (⟨⟨trivial,⟨fun _ _ _ _ _ s ⟨a,c,h1,h2,h3,h4⟩=>⟨a,c,h1,h2,h3,h4.ext s⟩,⟨fun _ _ _ _ _ s ⟨a,c,h1,h2,h3,h4⟩=>⟨a,c,h1,h2,h3,JM.ow s hzN h4⟩,trivial⟩⟩⟩,⟨⟨fun _ _ _ _ _ s ⟨b,h1,h2,h3⟩=>⟨b,h1,h2,h3.ext s⟩,⟨trivial,⟨fun _ _ _ _ _ s ⟨b,h1,h2,h3⟩=>⟨b,h1,h2,JM.blk (l:=l[i].cells) s h3⟩,trivial⟩⟩⟩,⟨⟨trivial,⟨trivial,⟨trivial,trivial⟩⟩⟩,trivial⟩⟩⟩)) mixed (by kernel_rfl)<|db ?_;refine DP .r (fun _ hC=>PV.zM fL (Ow.rd (As.gs hC.2.g2) (by omega)) rfl rfl (by omega))<|?_;refine DW.e rfl rfl rfl rfl rfl (fun wx hC hF=>OX.ab4 (N:=N) (Z:=Z) tg rfl rfl rfl (OR.nil 0 wx 58 2 _) (by simp [aL]) (SR.take (i:=p) (Ow.rd (As.gs hC.2.g2) (by omega)) (by omega)) (by omega) (by omega) (by rw [hN];exact hC.1) hzN 0 (fun c h=>absurd rfl h) fun a' c' wy h1 h2 h3 h4 h5=>⟨⟨Nat.le_trans hC.1 h5.size,hC.2.step h5⟩,h5,_,rfl,a',c',by rw [Nat.zero_add],h3,h4,by simpa using h1⟩)<|?_;rintro _ wz _ ⟨a3,c3,rfl,_,_,_⟩;refine(jA) av St.g0<|?_;refine DW.e rfl rfl rfl rfl rfl (fun wx hC hF=>OX.bA (us:=l[i].cells) fK rfl rfl rfl rfl fun b wy nw hb=>⟨⟨Nat.le_trans hC.1 nw.ext.size,hC.2.step nw.ext⟩,nw.ext,_,rfl,b,rfl,by rw [hN];exact Nat.le_trans hC.1 nw.ge,hb⟩)<|?_;rintro _ wz _ ⟨b5x,rfl,_,_⟩
   refine DW.e rfl rfl rfl rfl rfl (fun wx hC hF=>by
    obtain⟨⟨b',dQ,eZ,dA⟩,⟨a',c',h1,h2,h3,h4⟩,_⟩:=hF;simp only [Value.slice.injEq,Option.some.injEq,Addr.mk.injEq,and_true,true_and] at dQ h1;subst dQ;obtain⟨rfl,rfl⟩:=h1;exact OX.ab4 (N:=N) (Z:=Z) tg rfl rfl rfl h4 h2 (SR.eP (A:=fun _=>True) (x:=l[i]) dA trivial rfl (by simp [Key.cells,Value.oneCell']) rfl) (by omega) (by omega) (by rw [hN];exact hC.1) hzN 2 (fun c h hc=>by have:p≠0:=fun e=>h (h3 e);omega) fun a' c' wy h1 h2 h3 h4 h5=>⟨⟨Nat.le_trans hC.1 h2.size,h2.st hC.2 hlN hzN h0N⟩,h2,_,rfl,a',c',rfl,h3,h1⟩) ?_
   rintro _ wz _ ⟨a6,c6,rfl,_,_⟩;refine db ?_;refine DP .r (fun _ hC=>PV.zN fL (Ow.rd (As.gs hC.2.g2) (by omega)) rfl rfl (by omega))<|(ey)<|?_;rintro w7 ⟨Uc,aM⟩ ⟨Zz,⟨_,⟨_,_⟩⟩⟩;obtain⟨_,_,he6,akS,ho6⟩:=Zz;simp only [Value.slice.injEq,true_and] at he6;obtain⟨rfl,rfl⟩:=he6;have aT:=aM.add (B:=As.os RR.key 58 2 a6 (p+1) c6 (out.take p++[l[i]])) ho6 akS hlN hzN h0N;refine WL.ap rfl rfl aT (SR.drop (i:=p) (Ow.rd (As.gs aT.g3) (by omega)) (by omega)) fun a50 akT w8 asr ass aY=>?_;refine db ?_;have bG:=aY.p3.drop;refine jo ?_;refine fx (i+1,_,a50,((p+1)+(cB - p)),akT) ⟨bG.p1.drop.p1.drop,⟨by omega,by rw [List.take_succ_eq_append_getElem cV,Ak,← gX,ae6,if_neg om],trivial⟩⟩
  have om:out[p]?=some l[i]:=by simpa using om
  refine gp ?_;refine fx (i+1,_,cP,cB,cS) ⟨bX.drop.drop,⟨by omega,by rw [List.take_succ_eq_append_getElem cV,Ak,← gX,ae6,if_pos om],trivial⟩⟩
 simp at g10
 have cy:out=iv l:=by rw [gX,List.take_of_length_le (by omega)]
 subst cy;refine(cm) ?_;exact⟨_,_,_,rfl,aP.p1.drop⟩
theorem yx(bF:St w M Z w []) (hl:Rd RR.fl 8 Z w a n c l) (h6:l.length≤1000000):Calls prog 154 #[.slice a n c,.int .i64 rev,k.val] w fun e w'=>∃b m Z',e=.returned (.map (some b))∧cQ w.heap.size Z Z'∧j7 m (cN l rev k)∧St w M Z' w' [As.map Key.val b m]:=by
 have hlen:=hl.len;have hle:=hl.le;refine enter func154 rfl ntmps154 rfl<|?_;have aW:=bF;have st1:=aW.fr hl;refine(eD) st1 fun b5 w1 nH gI st2=>?_;refine eA ?_;refine WL.mm Key.val st2 fun GM w2 akU ast aP=>?_;refine(bz) av aP.b1<|?_;refine WL.go rfl (OX.bA (us:=k.cells) fK rfl rfl rfl rfl fun wv w3 QP Ud=>?_);have aV:=St.wR (R:=RR.key) (E:=58) (k:=2) (a:=some ⟨wv,0,none⟩) (n:=1) (c:=1) (xs:=[k]) aP QP.ext (OR.eP Ud (Nat.zero_le _) rfl (by simp [Key.cells,Value.oneCell']) rfl) (fun x hx=>by simp [aL] at hx;subst hx;exact QP.ge);refine nj ?_;refine WC.kj (σ:=Nat × (List Key) × (List (Key × Value)) × (Nat→Prop) × (Option Addr) × Nat × Nat) (eI:=fun(i,ys,mm,Z1,bJ,bH,bK)=>[(0,.slice a n c),(1,.int .i64 rev),(7,.map (some GM)),(8,.slice bJ bH bK),(9,.int .i64 (i:Int))]) (F:=fun(i,ys,mm,Z1,bJ,bH,bK)=>[As.os RR.key 58 2 bJ bH bK (k::ys),As.map Key.val GM mm]) (I:=fun(i,ys,mm,Z1,bJ,bH,bK)=>(i≤ys.length+1)∧(cQ w.heap.size Z Z1)∧(ys.Nodup)∧(∀x∈ys,cN l rev k x)∧(j7 mm (·∈ys))∧(∀(q:Nat) (y:Key),q<i→(k::ys)[q]?=some y→∀x,Ld l rev y x→x∈ys)∧True) (μ:=fun(i,ys,mm,Z1,bJ,bH,bK)=>l.length+1 - i) (Zf:=fun(i,ys,mm,Z1,bJ,bH,bK)=>Z1) (0,[],[],Z,(some ⟨wv,0,none⟩),1,1) (aV.p1.p1) Sub.t (⟨by simp,cQ.refl _ _,by simp,by simp,j7.nil,fun q y h=>by omega,trivial⟩)<|?_;rintro⟨i,ys,mm,Z1,bJ,bH,bK⟩ w4 bf ⟨hi,hZ,tV,j4,R1,uT,_⟩;simp only [CA,NA] at bf hi hZ tV j4 R1 uT ⊢;have l3:=((As.gs bf.g0)).len;rw [List.length_cons] at l3
 have MB:=jW tV fun x hx=>rG (j4 x hx).jh
 rw [List.length_map] at MB;refine(bp) (fun g20=>?_) fun g20=>?_
 ·
  simp at g20
  have cV:i<(k::ys).length:=by simp;omega
  obtain⟨y,hy0⟩:∃y,(k::ys)[i]=y:=⟨_,rfl⟩
  have hy:(k::ys)[i]?=some y:=by rw [aq cV,hy0]
  have akV:y=k∨cN l rev k y:=by
   have:=List.getElem_mem cV
   rw [hy0] at this
   rcases List.mem_cons.1 this with h | h
   ·
    exact .inl h
   exact .inr (j4 y h)
  refine eA ?_;obtain⟨gE,aS⟩:=Ow.addr (As.gs bf.g0) hy;refine dF ?_;refine WP .r (PV.fm fL aS rfl rfl (by omega))<|(bz) av (Ow.rE (As.gs bf.g0) (by simp;omega) aS hy)<|?_;have br:=bf;refine(df) uA (kx (k:=y) br.e0 (As.gr br.g3)) ?_;rintro _ w5 ⟨f1,f2,f3,rfl,hq4,ja⟩;have bP:=St.lr br ja;have rp:=St.cK ja;have hsz:=br.size;have bS:=bP.bV (by omega);have kZ:=hZ.trans (cQ.fo (F:=fun x=>x∈aL f1) rp) hsz;have hqn:=((As.gr bS.g0)).len;refine(fT) bS fun jd w6 ma fP bX=>?_;refine(dB) gC bX fun w7 jC jI aM=>?_;refine(bN) fE aM.b0<|eA ?_;refine WC.bQ (σ:=Nat × (List Key) × (List (Key × Value)) × (Option Addr) × Nat × Nat) (eI:=fun(j,FH,V0,bJ,bH,bK)=>[(0,.slice a n c),(1,.int .i64 rev),(7,.map (some GM)),(8,.slice bJ bH bK),(9,.int .i64 (i:Int)),(33,.slice f1 f2 f3),(34,.int .i64 (f2:Int)),(35,.int .i64 (j:Int))]) (F:=fun(j,FH,V0,bJ,bH,bK)=>[As.os RR.key 58 2 bJ bH bK (k::FH),As.map Key.val GM V0]) (I:=fun(j,FH,V0,bJ,bH,bK)=>(j≤f2)∧(ys <+: FH)∧(FH.Nodup)∧(∀x∈FH,cN l rev k x)∧(j7 V0 (·∈FH))∧(∀q x,q<j→(aG l y).reads[q]?=some x→cY l rev x=true→x∈FH)∧True) (μ:=fun(j,FH,V0,bJ,bH,bK)=>f2 - j) (0,ys,mm,bJ,bH,bK) (aM.p3.p3) Sub.t (⟨by omega,List.prefix_refl _,tV,j4,R1,fun q x h=>by omega,trivial⟩)<|?_;rintro⟨j,FH,V0,bJ,bH,bK⟩ w8 aT ⟨hj,jq,pf,Ir,QQ,yw,_⟩;simp only [CA,NA] at aT hj jq pf Ir QQ yw ⊢;have KX:=((As.gs aT.g0)).len;rw [List.length_cons] at KX
  have akW:=jW pf fun x hx=>rG (Ir x hx).jh
  rw [List.length_map] at akW;refine(bp) (fun ir=>?_) fun ir=>?_
  ·
   simp at ir
   have kL:j<(aG l y).reads.length:=by omega
   obtain⟨x,Mu⟩:∃x,(aG l y).reads[j]=x:=⟨_,rfl⟩;have hmx:=QQ.get x (b:=decide (x∈FH)) (by simp);refine eA ?_;obtain⟨uM,Ih,CN,ft,tK,gk,jO,pB⟩:=Rd.at (As.gr aT.g3) kL;have gk:=RR.cH gk;subst gk;have aY:=aT.fg pB jO;rw [Mu] at jO aY;refine nx ?_;refine WP .r (PV.fm fL ft rfl rfl (by omega))<|(bz) av (As.nh aY.g0)<|(fT) aY fun sZ w9 NX ae7 bG=>?_;refine(dB) jH bG fun kM r7 mR bB=>?_;refine dw ?_;refine WC.fQ (t:=48) (v:=.bool (cY l rev x && !decide (x∈FH))) bB ?_<|?_
   ·
    refine(bz) av bB.b0<|(gw) (Bt (k:=x) (As.gr bB.g7)) bB fun kN xy bd=>?_;refine(dT) (fun oh=>?_) (fun oh=>?_)
    ·
     refine(bz) av bd.b0<|?_;refine WP .r (PV.mA eF ku Fq (As.gm bd.g3) (hmx) rfl rfl)<|?_;exact(dx) (by simp only [oh];first | rfl | simp) (bd)
    exact(dx) (by simp only [oh];first | rfl | simp) (bd)
   intro kN bd;refine(bp) (fun oO=>?_) fun oO=>?_
   ·
    simp at oO
    obtain⟨hox,Is⟩:=oO;have UQ:Ld l rev y x:=⟨Mu ▸ List.getElem_mem kL,hox⟩
    have hxl:cN l rev k x:=by
     rcases akV with rfl | h
     ·
      exact .one UQ
     exact .step h UQ
    have Ue:(FH++[x]).Nodup:=by rw [List.nodup_append];exact⟨pf,by simp,fun a ha b hb=>by simp at hb;subst hb;rintro rfl;exact Is ha⟩
    refine(bz) av bd.b0<|?_;refine WL.go rfl (OX.put eF ku (As.gm bd.g3) rfl rfl rfl fun qL FJ FK=>?_);have aU:=bd.p3.mH FJ FK;refine(bz) av aU.b1<|?_;refine WL.go rfl (OX.bA (us:=x.cells) fK rfl rfl rfl rfl fun b53 uN akY akZ=>?_);have bM:=aU.eW akY akZ;refine WL.ap rfl rfl bM.p4 (SR.eP (A:=fun _=>True) (x:=x) (As.gb bM.g0) trivial rfl (by simp [Key.cells,Value.oneCell']) rfl) fun a54 ak0 yX asu asv bO=>?_;refine kJ ?_
    refine fx (j+1,FH++[x],_,a54,(bH+1),ak0) ⟨bO.p1.drop.p2.drop.p2.drop,⟨by omega,jq.trans (List.prefix_append _ _),by rw [List.nodup_append];exact⟨pf,by simp,fun a ha b hb=>by simp at hb;subst hb;rintro rfl;exact Is ha⟩,fun z hz=>by
       rcases List.mem_append.1 hz with hz | hz
       ·
        exact Ir z hz
       simp at hz;subst hz;exact hxl,QQ.put x,dJ (P:=fun _ z=>cY l rev z=true→z∈FH++[x]) kL (fun q z hq hz ho=>by simp [yw q z hq hz ho]) (fun _=>by simp [← Mu]),trivial⟩⟩
   skip
   refine gp ?_;refine fx (j+1,FH,V0,bJ,bH,bK) ⟨bd.drop.drop,⟨by omega,jq,pf,Ir,QQ,dJ (P:=fun _ z=>cY l rev z=true→z∈FH) kL yw (fun ho=>by rw [Mu] at ho ⊢;simp [ho] at oO;exact oO),trivial⟩⟩
  simp at ir
  refine qT ?_
  refine fx (i+1,FH,V0,_,bJ,bH,bK) ⟨aT.p2.drop.p2.drop,⟨by have:=jq.length_le;show i+1≤FH.length+1;omega,kZ,pf,Ir,QQ,fun q z hq hz x hx=>by
     rcases Nat.lt_or_ge q i with h | h
     ·
      have hz2:(k::ys)[q]?=some z:=by
       obtain⟨t,rfl⟩:=jq;rw [← List.cons_append,List.getElem?_append_left (by simp;omega)] at hz;exact hz
      exact jq.subset (uT q z h hz2 x hx)
     have e:q=i:=by omega
     subst e
     have hz2:some y=some z:=by rw [← hy,← hz];obtain⟨t,rfl⟩:=jq;rw [← List.cons_append,List.getElem?_append_left (by simp;omega)]
     simp at hz2;subst hz2
     obtain⟨j,hj,rfl⟩:=List.mem_iff_getElem.1 hx.1;exact yw j _ (by omega) (aq hj) hx.2,trivial⟩⟩
 simp at g20
 have Ct:=EY j4 fun y hy x hx=>by
  obtain⟨q,hq,rfl⟩:=List.mem_iff_getElem.1 hy;exact uT q _ (by simp at hq;omega) (aq hq) x hx
 refine(cm) ?_;exact⟨_,_,_,rfl,hZ,R1.congr Ct,bf.p1.k1⟩
theorem BJ(bF:St w M Z w []) (hl:Rd RR.fl 8 Z w a n c l) (h6:l.length≤100000):Calls prog 114 #[.slice a n c,.int .i64 rev,k.val] w fun e w'=>∃a' n' c' Z',e=.returned (.slice a' n' c')∧cQ w.heap.size Z Z'∧St w M Z' w' [As.os RR.key 58 2 a' n' c' (aF l rev k)]:=by
 have hlen:=hl.len;have hle:=hl.le;refine enter func114 rfl ntmps114 rfl<|?_;have aW:=St.rb bF;have st1:=aW.fr hl;refine(eD) st1 fun b5 w1 nH gI st2=>?_;refine(bz) av st2.b0<|(gw) (Bt (k:=k) (As.gr st2.g1)) st2 fun w2 s2 aP=>?_;refine(bp) (fun g15=>?_) fun g15=>?_
 ·
  simp at g15
  have hv:aF l rev k=[k]:=by unfold aF;rw [if_neg (by simp [g15])]
  refine(bz) av aP.b0<|?_;refine WL.go rfl (OX.bA (us:=k.cells) fK rfl rfl rfl rfl fun RB w3 QR ZA=>?_);have aV:=St.wR (R:=RR.key) (E:=58) (k:=2) (a:=some ⟨RB,0,none⟩) (n:=1) (c:=1) (xs:=[k]) aP QR.ext (OR.eP ZA (Nat.zero_le _) rfl (by simp [Key.cells,Value.oneCell']) rfl) (fun x hx=>by simp [aL] at hx;subst hx;exact QR.ge);refine(cm) ?_;exact⟨_,_,_,_,rfl,cQ.refl _ _,by rw [hv];exact(St.wk aV.p1.drop.p1.drop)⟩
 simp at g15
 have hv:aF l rev k=iv (k::lJ l rev k l):=by unfold aF;rw [if_pos g15]
 refine(bz) av aP.b0<|?_;refine WL.go rfl (OX.bA (us:=k.cells) fK rfl rfl rfl rfl fun UI w3 NY Uf=>?_);have aV:=St.wR (R:=RR.key) (E:=58) (k:=2) (a:=some ⟨UI,0,none⟩) (n:=1) (c:=1) (xs:=[k]) aP NY.ext (OR.eP Uf (Nat.zero_le _) rfl (by simp [Key.cells,Value.oneCell']) rfl) (fun x hx=>by simp [aL] at hx;subst hx;exact NY.ge);refine(bz) av aV.b1<|?_;have bf:=aV;refine(df) VJ (yx (k:=k) bf.e0 (As.gr bf.g2) (by omega)) ?_;rintro _ w4 ⟨bt,mt,Z1,rfl,oN,uX,fN⟩;have br:=St.lv bf fN oN;have kZ:=oN.le bf.size;refine bC ?_;refine WC.bQ (σ:=Nat × (List Key) × (Option Addr) × Nat × Nat) (eI:=fun(i,acc,lC,jY,mf)=>[(0,.slice a n c),(1,.int .i64 rev),(5,.pointer (some ⟨b5,0,none⟩)),(7,.slice lC jY mf),(8,.map (some bt)),(24,.slice a n c),(25,.int .i64 (n:Int)),(26,.int .i64 (i:Int))]) (F:=fun(i,acc,lC,jY,mf)=>[As.os RR.key 58 2 lC jY mf (acc)]) (I:=fun(i,acc,lC,jY,mf)=>(i≤n)∧(acc=k::lJ l rev k (l.take i))∧True) (μ:=fun(i,acc,lC,jY,mf)=>n - i) (0,[k],(some ⟨UI,0,none⟩),1,1) (br.p1) Sub.t (⟨by omega,by simp [lJ],trivial⟩)<|?_;rintro⟨i,acc,lC,jY,mf⟩ w5 bP ⟨hi,ee,_⟩;simp only [CA,NA] at bP hi ee ⊢;have l3:=((As.gs bP.g0)).len;have Oh:=ue l rev k (l.take i)
 have tC:acc.length≤100001:=by rw [ee,List.length_cons];rw [List.length_take] at Oh;omega
 refine(bp) (fun Cq=>?_) fun Cq=>?_
 ·
  simp at Cq
  have cV:i<l.length:=by omega
  have Eh:=uX.get l[i].key ny;refine eA ?_;obtain⟨gE,js,iT,aS,fi,bq,bY,di⟩:=Rd.at (As.gr bP.g3) cV;obtain⟨q1,q2,q3,rfl,pA,oM⟩:=bq;have bS:=bP.fg di bY;have bX:=bS.fr pA;refine nx ?_;refine WP .r (PV.fm iF aS rfl rfl (by omega))<|(bz) dm (As.nh bX.g1)<|(fT) bX fun jd w6 ma fP aM=>?_;refine(dB) gC aM fun w7 jC jI aT=>?_;refine dw ?_;refine WC.fQ (t:=48) (v:=.bool (Hu l rev k l[i])) aT ?_<|?_
  ·
   have hN8:=aT.dc;have ak1:=aT.mj;have ak2:=aT.size;refine WC.fc (m:=17) (E:=dy [(15,O7 w7.heap.size fun m=>j7 m (cN l rev l[i].key))]) aT (bT (⟨fun _ _ _ _ _ _ c h=>O7.st hN8 c h,trivial⟩)) mixed (by kernel_rfl)<|(Cm) av St.g0<|(jA) av St.g5<|?_;refine DP .r (fun _ hC=>PV.OT gB (p:=l[i].key) (q:=k) rfl rfl)<|(tf) (fun uW=>?_) (fun uW=>?_)
   ·
    refine(Cm) av St.g0<|?_;refine DP .r (fun _ hC=>PV.mA eF ku Fq (As.gm hC.2.g4) (Eh) rfl rfl)<|(tf) (fun Bp=>?_) (fun Bp=>?_)
    ·
     refine(Cm) av St.g0<|?_;refine DW.e rfl rfl rfl rfl rfl (fun wx hC hF=>OX.call VJ rfl rfl ((yx (k:=l[i].key) (hC.2.e0) (As.gr hC.2.g6) (by omega)).mono ?_))<|?_
     ·
      rintro _ wy ⟨b,m,Z',rfl,hZ',hm,Lz⟩;have hy:=Lz.cg0;exact⟨_,rfl,⟨Nat.le_trans hC.1 hy.size,hC.2.step hy⟩,hy.p0,_,rfl,b,m,rfl,Nat.le_trans hC.1 (St.cK Lz b rfl),As.gm Lz.g0,hm⟩
     rintro _ wz _ ⟨b45,_,rfl,_,_,_⟩;refine(jA) av St.g5<|(ey)<|?_;rintro w8 ⟨r9,aY⟩ ⟨ak3,_⟩;obtain⟨_,m45,h1,ae9,afa,ak4⟩:=ak3
     simp at h1;subst h1
     have UQ:=ak4.get k ny;have bG:=aY.add (B:=As.map Key.val b45 m45) afa (fun x hx=>by have h1:x=b45:=hx;subst h1;exact ae9) hN8 ak1 ak2;refine WP .r (PV.mA eF ku Fq (As.gm bG.g0) (UQ) rfl rfl)<|?_;exact(dx) (by unfold Hu;simp only [uW,Bp];first | rfl | simp) (bG.drop)
    refine(ey) ?_;rintro w8 ⟨r9,aY⟩ _;exact(dx) (by unfold Hu;simp only [uW,Bp];first | rfl | simp) (aY)
   refine(ey) ?_;rintro w8 ⟨r9,aY⟩ _;exact(dx) (by unfold Hu;simp only [uW];first | rfl | simp) (aY)
  intro w8 aY;refine(bp) (fun oO=>?_) fun oO=>?_
  ·
   refine(kl) av aY.b0<|?_;refine WL.go rfl (OX.bA (us:=l[i].key.cells) fK rfl rfl rfl rfl fun b52 w9 ak5 ak6=>?_);have bG:=aY.eW ak5 ak6;refine WL.ap rfl rfl bG.p4 (SR.eP (A:=fun _=>True) (x:=l[i].key) (As.gb bG.g0) trivial rfl (by simp [Key.cells,Value.oneCell']) rfl) fun a53 ak7 kM asx asy bB=>?_;refine kJ ?_;refine fx (i+1,_,a53,(jY+1),ak7) ⟨bB.p7.p7.p7.p3.k4,⟨by omega,by rw [ee,xZ cV,if_pos oO];rfl,trivial⟩⟩
  refine gp ?_;refine fx (i+1,_,lC,jY,mf) ⟨aY.p6.p6.p6.p6.k4,⟨by omega,by rw [ee,xZ cV,if_neg (by simp [oO])],trivial⟩⟩
 simp at Cq
 have cy:acc=k::lJ l rev k l:=by rw [ee,List.take_of_length_le (by omega)]
 subst cy;refine jo ?_;have Oh:=ue l rev k l;refine db ?_;have Ug:=St.fresh bP;have bS:=bP.bV (by simp;omega);have bX:=bS;refine(df) adE (vP bX.e0 (As.gr bX.g0) (fun _ h _=>h) (by simp;omega)) ?_;rintro _ w6 ⟨f1,f2,f3,rfl,nL⟩;have aM:=St.lr bX nL;refine(cm) ?_;exact⟨_,_,_,_,rfl,kZ.trans (cQ.fo (F:=fun x=>x∈aL lC) Ug) (Nat.le_refl _),by rw [hv];exact(St.wk aM.k1)⟩
set_option maxHeartbeats 400000
theorem yy(hR:ay ab) (hk:gS ab k) (bF:St w M Z w [As.mx prog 144 ab x D]):Calls prog 157 #[.pointer (some ⟨D.s,0,none⟩),k.val] w fun e w'=>e=.returned (.string (valOf ab x.ah k))∧St w M Z w' [As.mx prog 144 ab x D]:=by
 obtain⟨kh,hb,⟨ml,hm,hkm⟩,hf⟩:=bF.g0;have h2:St w M Z w (As.blk D.s 144 (D.cells x)::As.map Key.val D.m ml::[]):=St.split bF hb hkm (fun y h=>.inl h) (fun y h=>.inr h) (fun y (h1:y=D.s) (h2:y=D.m)=>kh (h1.symm.trans h2));refine(NW hR hk _ _ _ _ (St.enter (rest:=[]) h2) hf hm).mono<|?_;rintro e w' ⟨eb,rfl,RJ,_,h'⟩;have h3:St w M Z w' (As.blk D.s 144 (D.cells x)::As.map Key.val D.m eb::[]):=St.leave (rest:=[]) (l0:=[_,_]) h2 h' (cQ.refl _ _);refine⟨rfl,h3.join ⟨kh,h3.g0,⟨eb,RJ,h3.g1⟩,(D.F prog ab x).st h'.cX.size (fun y hy hl=>h'.cX.block y hl fun⟨A,hA,ha⟩=>h2.pI A hA y ha hy) hf⟩ fun y h=>h⟩
theorem tM(hR:ay ab) (hk:gS ab k) (bF:St w M Z w [As.mx prog 144 ab x D]) (hi:Rd RR.aH 4 Z w a1 n1 e1 b.ah) (hr:Rd RR.fl 8 Z w a2 n2 e2 b.ak):Calls prog 124 #[.pointer (some ⟨D.s,0,none⟩),.agg (b.row a1 n1 e1 a2 n2 e2).toArray,k.val] w fun e w'=>e=.returned (.int .i64 (bR (valOf ab x.ah) b k))∧St w M Z w' [As.mx prog 144 ab x D]:=by
 refine enter func124 rfl ntmps124 rfl<|?_;have aW:=bF;have st1:=aW.fr hi;have st2:=st1.fr hr;refine(eD) st2 fun b4 w1 jS bL aP=>?_;refine(eD) aP fun b5 w2 nH gI aV=>?_;refine(bz) av aV.b0<|(gw) (fM (k:=k)) aV fun w3 s3 bf=>?_;refine(bp) (fun g10=>?_) fun g10=>?_
 ·
  skip
  refine(bz) aN bf.b1<|(bz) av bf.b0<|(gw) (Ic (k:=k) (As.gr bf.g3) (As.gr bf.g2)) bf fun w4 s4 br=>?_;refine(cm) ?_;exact⟨by unfold bR;rw [if_pos g10],br.p4.k1⟩
 refine(bN) ez bf.b1<|(bz) av bf.b0<|(df) uA (fH (k:=k) (As.gr bf.g2)) ?_;rintro _ w4 ⟨f1,f2,f3,rfl,s4⟩;have br:=bf.step s4;refine(fT) br fun b7 w5 tJ nT bP=>?_;refine(dB) gC bP fun w6 jC jI bS=>?_;refine eA ?_;refine WC.fQ (t:=36) (v:=.bool ((aD b.ak k).isSome && (decide ((aG b.ak k).az=b.ae) || decide (valOf ab x.ah k=(aG b.ak k).value)))) bS ?_<|?_
 ·
  have V2:=bS.dc;refine WC.fc (m:=13) (E:=dy [(10,fun v _=>v=.string (valOf ab x.ah k))]) bS (bT (⟨fun _ _ _ _ _ _ _ h=>h,trivial⟩)) mixed (by kernel_rfl)<|(tf) (fun g22=>?_) (fun g22=>?_)
  ·
   refine(lF) aX St.g0<|(lF) aX St.g2<|(tf) (fun iU=>?_) (fun iU=>?_)
   ·
    refine(ey) ?_;rintro w7 ⟨lR,bX⟩ _;exact(dx) (by simp only [g22,iU];first | rfl | simp) (bX)
   refine(jA) av St.g1<|?_;refine DW.e rfl rfl rfl rfl rfl (fun wx hC hF=>OX.call Mn rfl rfl ((yy (k:=k) hR hk (hC.2.one (.tail _ (.tail _ (.tail _ (.tail _ (.tail _ (.head _)))))))).mono ?_))<|?_
   ·
    rintro _ wy ⟨rfl,hy⟩;exact⟨_,rfl,⟨Nat.le_trans hC.1 hy.cX.size,hC.2.DD M5 hy⟩,hy.cX.mono (fun _ _ hx=>LN M5 hx),_,rfl,rfl⟩
   rintro _ wz _ rfl;refine(lF) iq St.g0<|(ey)<|?_;rintro w7 ⟨lR,bX⟩ ⟨_,_⟩;exact(dx) (by simp only [g22,iU];first | rfl | simp) (bX)
  refine(ey) ?_;rintro w7 ⟨lR,bX⟩ _;exact(dx) (by simp only [g22];first | rfl | simp) (bX)
 intro w7 bX;refine(bp) (fun ir=>?_) fun ir=>?_
 ·
  have hv:bR (valOf ab x.ah) b k=(aG b.ak k).changed:=by unfold bR;rw [if_neg (by simp [g10]),if_pos ir]
  refine(bN) aX bX.b0<|(cm) ?_;exact⟨by rw [hv],bX.p5.k1⟩
 have hv:bR (valOf ab x.ah) b k=b.ae:=by unfold bR;rw [if_neg (by simp [g10]),if_neg (by simp [ir])]
 refine(bN) aX bX.b2<|(cm) ?_;exact⟨by rw [hv],bX.p5.k1⟩
theorem K5(hR:ay ab) (hk:gS ab k) (bF:St w M Z w [As.mx prog 144 ab x D]) (hi:Rd RR.aH 4 Z w a1 n1 e1 b.ah) (hr:Rd RR.fl 8 Z w a2 n2 e2 b.ak):Calls prog 122 #[.pointer (some ⟨D.s,0,none⟩),.agg (b.row a1 n1 e1 a2 n2 e2).toArray,k.val] w fun e w'=>e=.returned (.int .i64 (bR (valOf ab x.ah) b k))∧St w M Z w' [As.mx prog 144 ab x D]:=by
 refine enter func122 rfl ntmps122 rfl<|?_;have aW:=bF;have st1:=aW.fr hi;have st2:=st1.fr hr;refine(eD) st2 fun b4 w1 jS bL aP=>?_;refine(eD) aP fun b5 w2 nH gI aV=>?_;refine(bz) aN aV.b1<|(bz) av aV.b0<|(df) VF (tM (k:=k) hR hk (aV.one (.tail _ (.tail _ (.tail _ (.tail _ (.head _)))))) (As.gr aV.g3) (As.gr aV.g2)) ?_;rintro _ w3 ⟨rfl,eG⟩;have bf:=aV.DD M4 eG;refine(cm) ?_;exact⟨rfl,bf.p4.k1⟩
theorem vQ(hR:ay ab) (hk:gS ab k) (bF:St w M Z w [As.mx prog 144 ab x D]) (hi:Rd RR.aH 4 Z w a1 n1 e1 b.ah) (hr:Rd RR.fl 8 Z w a2 n2 e2 b.ak):Calls prog 120 #[.pointer (some ⟨D.s,0,none⟩),.agg (b.row a1 n1 e1 a2 n2 e2).toArray,k.val] w fun e w'=>e=.returned (.string (eJ (valOf ab x.ah) b k))∧St w M Z w' [As.mx prog 144 ab x D]:=by
 refine enter func120 rfl ntmps120 rfl<|?_;have aW:=bF;have st1:=aW.fr hi;have st2:=st1.fr hr;refine(eD) st2 fun b4 w1 jS bL aP=>?_;refine(eD) aP fun b5 w2 nH gI aV=>?_;refine(bz) av aV.b0<|(gw) (eB (k:=k)) aV fun w3 s3 bf=>?_;refine(bp) (fun g10=>?_) fun g10=>?_
 ·
  have hv:eJ (valOf ab x.ah) b k=valOf ab x.ah k:=by unfold eJ;rw [if_pos g10]
  refine(bz) av bf.b0<|(df) Mn (yy (k:=k) hR hk (bf.one (.tail _ (.tail _ (.tail _ (.tail _ (.head _))))))) ?_;rintro _ w4 ⟨rfl,fN⟩;have br:=bf.DD M4 fN;refine(cm) ?_;exact⟨by rw [hv],br.p4.k1⟩
 have hv:eJ (valOf ab x.ah) b k=zZ b k:=by unfold eJ;rw [if_neg (by simp [g10])]
 refine(bz) aN bf.b1<|(bz) av bf.b0<|(gw) (KP (k:=k) (As.gr bf.g3) (As.gr bf.g2)) bf fun w4 s4 br=>?_;refine bC ?_;refine(cm) ?_;exact⟨by rw [hv];rfl,br.p4.k1⟩
theorem qt{group:List Key}{cq:Bool}{ag:Option Addr}{g eg:Nat}(bF:St w M Z w []) (hi:Rd RR.aH 4 Z w a1 n1 e1 x.ah) (hr:Rd RR.fl 8 Z w a2 n2 e2 x.ak) (hg:Rd RR.key 2 Z w ag g eg group) (h6:x.ak.length≤1000000) (h7:x.ah.length≤1000000):Calls prog 121 #[.agg (x.row a1 n1 e1 a2 n2 e2).toArray,.slice ag g eg,.bool cq] w fun e w'=>∃Qx Qy Qz QA QB QC Z',e=.returned (.agg ((dX x group cq).row Qx Qy Qz QA QB QC).toArray)∧cQ w.heap.size Z Z'∧St w M Z' w' [As.os RR.aH 83 4 Qx Qy Qz (dX x group cq).ah,As.os RR.fl 60 8 QA QB QC (dX x group cq).ak]:=by
 have zm:=hi.len;have Cv:=hr.len;refine enter func121 rfl ntmps121 rfl<|?_;have aW:=St.rb bF;have st1:=aW.fr hi;have st2:=st1.fr hr;have aP:=st2.fr hg;refine(eD) aP fun b3 w1 ic dA aV=>?_;refine(fT) aV fun b6 w2 mV eM bf=>?_;refine(bz) aN bf.b1<|?_;have br:=bf;refine(df) Bc (fO br.e0 (As.gr br.g4) (As.gr br.g3) h6 h7) ?_;rintro _ w3 ⟨f1,f2,f3,f4,f5,f6,Z1,rfl,oN,eG⟩;have bP:=St.lv br eG oN;have kZ:=oN.le br.size;have Nr:=((As.gs bP.g1)).len;refine(dB) gg bP.p3 fun w4 jC jI bS=>?_;refine(bN) ez bS.b0<|eA ?_;refine WC.bQ (σ:=Nat × (List Rec)) (eI:=fun(i,acc)=>[(1,.slice ag g eg),(2,.bool cq),(3,.pointer (some ⟨b3,0,none⟩)),(6,.pointer (some ⟨b6,0,none⟩)),(12,.int .i64 (f5:Int)),(13,.int .i64 (i:Int))]) (F:=fun(i,acc)=>[As.os RR.fl 60 8 f4 f5 f6 acc]) (I:=fun(i,acc)=>(i≤f5)∧(acc=(x.ak.take i).map (cZ x.ae group cq)++x.ak.drop i)∧True) (μ:=fun(i,acc)=>f5 - i) (0,x.ak) (bS.p2) Sub.t (⟨by omega,by simp,trivial⟩)<|?_;rintro⟨i,acc⟩ w5 bX ⟨gQ,ee,_⟩;simp only [CA,NA] at bX gQ ee ⊢
 have tC:acc.length=x.ak.length:=by rw [ee];simp;omega
 refine(bp) (fun g14=>?_) fun g14=>?_
 ·
  simp at g14
  have cV:i<x.ak.length:=by omega
  have uX:=JU (x:=x) (group:=group) (cq:=cq) cV (by omega);rw [← ee] at uX
  have QS:acc[i]?=some x.ak[i]:=by rw [ee,List.getElem?_append_right (by simp;omega)];simp [Nat.min_eq_left (by omega:i≤x.ak.length)]
  refine bC ?_;obtain⟨gE,iT,aS,fi,bq,bY⟩:=Ow.at (As.gs bX.g0) (by omega) QS;obtain⟨q1,q2,q3,rfl,asz,asA⟩:=bq
  have V3:∀y,y=cZ x.ae group cq x.ak[i]→acc.set i y=(x.ak.take (i+1)).map (cZ x.ae group cq)++x.ak.drop (i+1):=fun y hy=>by rw [hy];exact uX
  refine(bN) ez bX.b1<|nx ?_;refine WP .r (PV.fm iF aS rfl rfl (by omega))<|(kl) av bY<|(gw) (sX (k:=x.ak[i].key) (As.gr bX.g4)) bX fun w6 s6 aM=>?_;refine(bp) (fun g24=>?_) fun g24=>?_
  ·
   simp at g24
   have qI:acc=(x.ak.take (i+1)).map (cZ x.ae group cq)++x.ak.drop (i+1):=by
    rw [← uX]
    have:cZ x.ae group cq x.ak[i]=x.ak[i]:=by unfold cZ;rw [if_neg g24]
    rw [this]
    apply List.ext_getElem?
    intro j;rw [List.getElem?_set]
    split
    ·
     rename_i e;subst e;rw [QS];simp;omega
    rfl
   refine kJ ?_;refine fx (i+1,acc) ⟨aM,⟨by omega,qI,trivial⟩⟩
  simp at g24
  refine(bp) (fun fB=>?_) fun fB=>?_
  ·
   have fB:cq=true:=fB;subst fB;have wI:=V3 {x.ak[i] with cq:=true} (by unfold cZ;rw [if_pos g24];rfl);obtain⟨uM,CN,ft,tK,gk,jO⟩:=Ow.at (As.gs aM.g0) (by omega) QS;refine(bN) ez aM.b1<|nx ?_;refine WP .r (PV.fm iF ft rfl rfl (by omega))<|nx ?_;refine WL.go rfl (OX.O4 (i:=i) (f:=7) sz4 (As.gs aM.g0) ft QS (by omega) rfl rfl rfl {x.ak[i] with cq:=true} (fun r _ ⟨a,n,c,h1,h2,h3⟩=>⟨a,n,c,by rw [h1];rfl,h2,h3⟩) fun w7 s7 h7x=>?_);have aT:=aM.iY s7 h7x (fun x h=>.inl h);refine gp ?_;refine fx (i+1,_) ⟨aT,⟨by omega,wI,trivial⟩⟩
  have fB:cq=false:=fB;subst fB;have wI:=V3 {x.ak[i] with az:=x.ae} (by unfold cZ;rw [if_pos g24];rfl);obtain⟨NV,afb,kz,V4,Em,Mv⟩:=Ow.at (As.gs aM.g0) (by omega) QS;refine(bN) ez aM.b1<|(bN) aX aM.b1<|?_;refine WP .r (PV.fm iF kz rfl rfl (by omega))<|nx ?_;refine WL.go rfl (OX.O4 (i:=i) (f:=5) RW (As.gs aM.g0) kz QS (by omega) rfl rfl rfl {x.ak[i] with az:=x.ae} (fun r _ ⟨a,n,c,h1,h2,h3⟩=>⟨a,n,c,by rw [h1];rfl,h2,h3⟩) fun w7 s8 h8x=>?_);have aT:=aM.iY s8 h8x (fun x h=>.inl h);refine gp ?_;refine fx (i+1,_) ⟨aT,⟨by omega,wI,trivial⟩⟩
 simp at g14
 have cy:acc=(dX x group cq).ak:=by rw [ee,List.take_of_length_le (by omega),List.drop_eq_nil_of_le (by omega)];simp [dX]
 subst cy;refine(bz) aN bX.b1<|(dB) gg bX.p3 fun w6 r7 mR aM=>?_;refine(mI) aN aM.b0<|?_;exact⟨_,_,_,_,_,_,_,rfl,kZ,(St.wk aM.p1.p3.k2)⟩
theorem It{s:ES}{E:EA}{sb bb xb:Nat}(hx:cJ w xb 101 (E.cells sb bb s)) (hb:KM Key.val w bb s.busy) (hbt:∀k,ck s.busy k=none∨ck s.busy k=some (.bool true)) (hr:Rd RR.fl 8 Z w E.a2 E.n2 E.c2 s.b.ak):CR prog 123 #[.pointer (some ⟨xb,0,none⟩),k.val] w (.bool (fJ s k)):=by
 have hbk:(ck s.busy k).getD (.bool false)=.bool (s.on k):=by unfold ES.on;rcases hbt k with h | h <;> rw [h] <;> rfl
 refine enter func123 rfl ntmps123 rfl<|?_;have aW:=St.s0 w;refine(eD) aW fun b3 w1 ic dA st1=>?_;refine eA ?_;refine WC.fQ (t:=20) (v:=.bool (aB k || (s.on k && aA k))) st1 ?_<|?_
 ·
  have zq:=st1.dc;refine WC.fc (m:=8) (E:=dy [(1,fun v _=>v=.bool (aB k))]) st1 (bT (⟨fun _ _ _ _ _ _ _ h=>h,trivial⟩)) mixed (by kernel_rfl)<|(jA) av St.g0<|?_;refine DW.c0 (fun wx hC hF=>fM (k:=k))<|(tf) (fun g9=>?_) (fun g9=>?_)
  ·
   refine(ey) ?_;rintro w2 ⟨fj,st2⟩ ⟨_,_⟩;exact(dx) (by simp only [g9];first | rfl | simp) (st2)
  refine dw ?_;refine DP .r (fun _ hC=>V1 ym (cJ.range (hx.ext (St.cg hC.2))) .r)<|(jA) av St.g0<|(ey)<|?_;rintro w2 ⟨fj,st2⟩ ⟨_,_⟩;refine WP .r (PV.mA eF ku Fq (hb.ext (St.cg st2)) (hbk) rfl rfl)<|(dT) (fun g16=>?_) (fun g16=>?_)
  ·
   refine(bz) av st2.b0<|(gw) (eB (k:=k)) st2 fun w3 s3 aP=>?_;exact(dx) (by simp only [g9,g16];first | rfl | simp) (aP)
  exact(dx) (by simp only [g9,g16];first | rfl | simp) (st2)
 intro w2 st2;refine(bp) (fun g20=>?_) fun g20=>?_
 ·
  have hv:fJ s k=true:=by unfold fJ;simp only [Bool.or_eq_true,Bool.and_eq_true] at g20 ⊢;rcases g20 with h | h <;> simp [h]
  refine(cm) ?_;exact⟨by rw [hv],(St.cg st2)⟩
 have hv:fJ s k=aO s.b k:=by unfold fJ;simp only [Bool.or_eq_false_iff] at g20;rw [g20.1,g20.2];rfl
 refine dw ?_;have Ii:=st2.dc;have K6:=st2.mj;have K7:=st2.size;refine WC.ua (m:=11) [9] (E:=dy [(6,fun v _=>∃f1 f2 f3,v=.tuple #[.agg ((aG s.b.ak k).row f1 f2 f3).toArray,.bool (aD s.b.ak k).isSome]),(10,PB w2.heap.size 60 [.int .i64 0,.string ⟨#[]⟩,.string ⟨#[]⟩,.slice none 0 0,.int .i64 0,.int .i64 0,.int .i64 0,.bool false])]) st2 (bT (⟨fun _ _ _ _ _ _ _ h=>h,⟨fun _ _ _ _ _ _ c h=>PB.st Ii c h,trivial⟩⟩)) mixed (by kernel_rfl) rfl ?_;refine dF ?_;refine DP .r (fun _ hC=>PV.ld1 (j:=3) ez (cJ.range (hx.ext (St.cg hC.2))) rfl rfl)<|(jA) av St.g0<|?_;refine DW.e rfl rfl rfl rfl rfl (fun wx hC hF=>OX.call uA rfl rfl ((fH (k:=k) (hr.ext (St.cg hC.2))).mono ?_))<|?_
 ·
  rintro _ wy ⟨f1,f2,f3,rfl,hy⟩;exact⟨_,rfl,⟨Nat.le_trans hC.1 hy.size,hC.2.step hy⟩,hy.p0,_,rfl,⟨f1,f2,f3,rfl⟩⟩
 rintro _ wz _ ⟨f1,f2,f3,rfl⟩;refine dw ?_;refine DW.e rfl rfl rfl rfl rfl (fun wx hC hF=>OX.alloc uv rfl fun b wy nw hb=>⟨⟨Nat.le_trans hC.1 nw.ext.size,hC.2.step nw.ext⟩,nw.ext.p0,_,rfl,_,rfl,Nat.le_trans hC.1 nw.ge,hb⟩)<|?_;rintro _ wz _ ⟨b5,rfl,_,_⟩;refine(ey) ?_;rintro w3 ⟨eN,aP⟩ ⟨BG,⟨_,_⟩⟩;have aV:=aP.yI BG Ii K6 K7;refine(dB) gC aV fun w4 jC jI bf=>?_;refine nx ?_;refine WL.nil (EX.np ?_);refine db ?_;refine WC.mw (t:=4) (v:=.bool (aO s.b k)) bf ?_<|?_
 ·
  have V2:=bf.dc;refine WC.dS (m:=9) bf mixed<|(tf) (fun uV=>?_) (fun uV=>?_)
  ·
   refine(lF) aX St.g0<|dF ?_;refine DP .r (fun _ hC=>PV.ld1 (j:=1) aX (cJ.range (hx.ext (St.cg hC.2))) rfl rfl)<|(ey)<|?_;rintro w5 ⟨lR,br⟩ _;exact(iw) (by unfold aO;simp only [uV];first | rfl | simp) (br)
  refine(ey) ?_;rintro w5 ⟨lR,br⟩ _;exact(iw) (by unfold aO;simp only [uV];first | rfl | simp) (br)
 intro w5 br;refine(cm) ?_;exact⟨by rw [hv],(St.cg br)⟩
end Go.Rc

