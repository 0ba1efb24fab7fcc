/- Walks over the program, part WK. Conditions: as each theorem says. -/
import Derived.Test.YtjpagoacbadijaaGreatDoorNFacts
import Derived.Test.YtjpagoacbadijaaGreatDoorNWH
import Derived.Test.YtjpagoacbadijaaGreatDoorNBe
import Derived.Test.YtjpagoacbadijaaGreatDoorNWI
import Derived.Test.YtjpagoacbadijaaGreatDoorNWF
set_option linter.all false
namespace Go.Rc
open Go Go.Proofs Go.Proofs.Tryz
variable {l:List Rec}{a a1 a2:Option Addr}{n c n1 e1 n2 e2:Nat}{w:World}{M Z:Nat→Prop}{rev:Int}{k:Key}{ab:List aG}{x b:dQ}{D:SD}
set_option maxHeartbeats 400000
set_option maxHeartbeats 1600000 in
theorem uU{l:List Key}{A:Nat→Prop}(bJ:St w M Z w []) (Lt:Rd RR.key 2 A w a n c l) (hA:∀x,A x→x<w.heap.size→Z x) (h6:l.length≤1000000):Calls prog 34 #[.slice a n c] w fun e w'=>∃a' n' c',e=.returned (.slice a' n' c')∧St w M Z w' [As.os RR.key 39 2 a' n' c' (mb l)]:=by
 have hl:Rd RR.key 2 Z w a n c l:=SR.mono Lt hA fun _ _ h=>h
 have hlen:=hl.len;have hle:=hl.le;refine enter func34 rfl ntmps34 rfl<|?_;have bd:=bJ;have st1:=bd.fr hl;have st2:=st1.eP RR.key 39 2;refine bf ?_;refine gN ?_;refine WC.ct (σ:=Nat × (List Key) × (Option Addr) × Nat × Nat) (eJ:=fun(i,out,cF,cm,cG)=>[(3,.slice cF cm cG),(7,.slice a n c),(8,.int .i64 (n:Int)),(9,.int .i64 (i:Int))]) (F:=fun(i,out,cF,cm,cG)=>[As.os RR.key 39 2 cF cm cG (out)]) (I:=fun(i,out,cF,cm,cG)=>(i≤n)∧(out=mb (l.take i))∧True) (μ:=fun(i,out,cF,cm,cG)=>n - i) (0,[],none,0,0) (st2) Sub.t (⟨by omega,rfl,trivial⟩)<|?_;rintro⟨i,out,cF,cm,cG⟩ w1 aW ⟨hi,gH,_⟩;simp only [CA,NA] at aW hi gH ⊢;have l4:=((As.gs aW.g0)).len
 have Ur:out.length≤1000000:=by have:=vG (l.take i);rw [← gH,List.length_take] at this;omega
 refine(aZ) (fun g10=>?_) fun g10=>?_
 ·
  simp at g10
  have cV:i<l.length:=by omega
  refine ek ?_;obtain⟨ik,kf,jE,aU,fX,bD,cP,dM⟩:=Rd.at (As.gr aW.g1) cV;have bD:=RR.cy bD;subst bD;have ba:=aW.fg dM cP;refine nx ?_;refine WP .r (PV.fI fP aU rfl rfl (by omega))<|(bz) aq (As.nR ba.g0)<|(gu) ba fun b5 w2 nq gy bw=>?_;refine(dD) jx bw fun w3 jY j7 bj=>?_;refine qi ?_;refine WC.ct (σ:=Nat) (eJ:=fun p=>[(3,.slice cF cm cG),(5,.pointer (some ⟨b5,0,none⟩)),(6,.int .i64 (p:Int)),(7,.slice a n c),(8,.int .i64 (n:Int)),(9,.int .i64 (i:Int))]) (F:=fun p=>[]) (I:=fun p=>(p≤out.length)∧(∀q x,q<p→out[q]?=some x→cw x l[i]<0)∧True) (μ:=fun p=>out.length - p) (0) (bj) Sub.t (⟨by omega,fun q x h=>by omega,trivial⟩)<|?_;rintro p w4 bX ⟨hp,ee,_⟩;simp only [CA,NA] at bX hp ee ⊢;have JT:=((As.gs bX.g2)).len;refine cS ?_;refine WC.fL (t:=25) (v:=.bool (GA out p l[i])) bX ?_<|?_
  ·
   have Q8:=bX.cY;refine WC.dS (m:=10) bX mixed<|(rS) (fun g17=>?_) (fun g17=>?_)
   ·
    simp at g17
    have pT:p<out.length:=by omega
    have sc:=ao pT;obtain⟨wv,fQ⟩:=Ow.addr (As.gs bX.g2) sc
    have hq:GA out p l[i]=decide (cw out[p] l[i]<0):=by unfold GA;rw [sc]
    refine cS ?_;refine DP .r (fun _ hC=>PV.fI fP fQ rfl rfl (by omega))<|DP .r (fun _ hC=>VA aq (Ow.qu (As.gs hC.2.g2) (by omega) fQ sc) .r)<|(jj) aq St.g0<|(eh)<|?_;rintro w5 ⟨oQ,bV⟩ _;refine(iz) (mE (k:=out[p]) (q:=l[i])) bV fun w6 s6 cq=>?_;exact(dt) (by rw [hq]) (cq)
   simp at g17
   have hq:GA out p l[i]=false:=by unfold GA;rw [List.getElem?_eq_none (by omega)]
   refine(eh) ?_;rintro w5 ⟨oQ,bV⟩ _;exact(dt) (by rw [hq]) (bV)
  intro w5 bV;refine(aZ) (fun fb=>?_) fun fb=>?_
  ·
   have pT:p<out.length:=by
    rcases Nat.lt_or_ge p out.length with h | h
    ·
     exact h
    unfold GA at fb;rw [List.getElem?_eq_none h] at fb;cases fb
   have VM:cw out[p] l[i]<0:=by unfold GA at fb;rw [ao pT] at fb;simpa using fb
   refine qi ?_;refine fH (p+1) ⟨bV,⟨by omega,dG (P:=fun _ x=>cw x l[i]<0) pT ee VM,trivial⟩⟩
  have qk:∀x,out[p]?=some x→0≤cw x l[i]:=fun x hx=>by unfold GA at fb;rw [hx] at fb;simp at fb;omega
  have aef:=RH out l[i] p hp ee qk;refine ji ?_;refine WC.fL (t:=39) (v:=.bool (decide (out[p]?≠some l[i]))) bV ?_<|?_
  ·
   have hN8:=bV.cY;refine WC.dS (m:=10) bV mixed<|(rS) (fun rI=>?_) (fun rI=>?_)
   ·
    simp at rI
    have hq:out[p]?=none:=List.getElem?_eq_none (by omega);refine(eh) ?_;rintro w6 ⟨qR,cq⟩ _;exact(dt) (by first | (rw [hq];rfl) | (rw [sc];simp)) (cq)
   simp at rI
   have pT:p<out.length:=by omega
   have sc:=ao pT;obtain⟨MQ,kT⟩:=Ow.addr (As.gs bV.g2) sc;refine cS ?_;refine DP .r (fun _ hC=>PV.fI fP kT rfl rfl (by omega))<|DP .r (fun _ hC=>VA aq (Ow.qu (As.gs hC.2.g2) (by omega) kT sc) .r)<|(jj) aq St.g0<|(eh)<|?_;rintro w6 ⟨qR,cq⟩ _;refine WP .r (PV.Nj gS (p:=out[p]) (q:=l[i]) rfl rfl)<|?_;exact(dt) (by first | (rw [hq];rfl) | (rw [sc];simp)) (cq)
  intro w6 cq;refine(aZ) (fun oZ=>?_) fun oZ=>?_
  ·
   have oZ:¬out[p]?=some l[i]:=by simpa using oZ
   obtain⟨N,hN⟩:∃N,N=w6.heap.size:=⟨_,rfl⟩;have hzN:=cq.ma;have h0N:=cq.size;have hlN:=cq.cY;have arx:=((As.gs cq.g2)).len;rw [← hN] at hzN h0N hlN;have hN9:=cq.cY;refine WC.Ob (m:=10) (fun j w w'=>match j with | 6=>IF N 39 (p*2) 2 w w' | _=>aV [] w w') (E:=dr [(3,fun v w'=>∃a c,v=.slice a p c∧(∀x∈aI a,N≤x)∧(p=0→a=none)∧Ow RR.key 39 2 Z w' a p c (out.take p)),(5,fun v w'=>∃b,v=.slice (some ⟨b,0,none⟩) 1 1∧N≤b∧cW w' b 39 l[i].cells),(6,fun v w'=>∃a c,v=.slice a (p+1) c∧(∀x∈aI a,N≤x)∧Ow RR.key 39 2 Z w' a (p+1) c (out.take p++[l[i]]))]) cq (oB (⟨⟨trivial,⟨fun _ _ _ _ _ s ⟨a,c,h1,h2,h3,h4⟩=>⟨a,c,h1,h2,h3,h4.ext s⟩,⟨fun _ _ _ _ _ s ⟨a,c,h1,h2,h3,h4⟩=>⟨a,c,h1,h2,h3,IF.ow s hzN h4⟩,trivial⟩⟩⟩,⟨⟨fun _ _ _ _ _ s ⟨b,h1,h2,h3⟩=>⟨b,h1,h2,h3.ext s⟩,⟨trivial,⟨fun _ _ _ _ _ s ⟨b,h1,h2,h3⟩=>⟨b,h1,h2,IF.blk (l:=l[i].cells) s h3⟩,trivial⟩⟩⟩,⟨⟨trivial,⟨trivial,⟨trivial,trivial⟩⟩⟩,trivial⟩⟩⟩)) mixed (by kernel_rfl)<|cS ?_;refine DP .r (fun _ hC=>PV.yS fP (Ow.rd (As.gs hC.2.g2) (by omega)) rfl rfl (by omega))<|?_;refine DW.e rfl rfl rfl rfl rfl (fun wx hC hF=>OX.abf (N:=N) (Z:=Z) rV rfl rfl rfl (OR.nil 0 wx 39 2 _) (by simp [aI]) (SR.take (i:=p) (Ow.rd (As.gs hC.2.g2) (by omega)) (by omega)) (by omega) (by omega) (by rw [hN];exact hC.1) hzN 0 (fun c h=>absurd rfl h) fun a' c' wy h1 h2 h3 h4 h5=>⟨⟨Nat.le_trans hC.1 h5.size,hC.2.step h5⟩,h5,_,rfl,a',c',by rw [Nat.zero_add],h3,h4,by simpa using h1⟩)<|?_;rintro _ wz _ ⟨a3,c3,rfl,_,_,_⟩;refine(jj) aq St.g0<|?_;refine DW.e rfl rfl rfl rfl rfl (fun wx hC hF=>OX.aR (us:=l[i].cells) eT rfl rfl rfl rfl fun b wy nw hb=>⟨⟨Nat.le_trans hC.1 nw.ext.size,hC.2.step nw.ext⟩,nw.ext,_,rfl,b,rfl,by rw [hN];exact Nat.le_trans hC.1 nw.ge,hb⟩)<|?_;rintro _ wz _ ⟨b5x,rfl,_,_⟩
   refine DW.e rfl rfl rfl rfl rfl (fun wx hC hF=>by
    obtain⟨⟨b',dN,fm,dL⟩,⟨a',c',h1,h2,h3,h4⟩,_⟩:=hF;simp only [Value.slice.injEq,Option.some.injEq,Addr.mk.injEq,and_true,true_and] at dN h1;subst dN;obtain⟨rfl,rfl⟩:=h1;exact OX.abf (N:=N) (Z:=Z) rV rfl rfl rfl h4 h2 (SR.ew (A:=fun _=>True) (x:=l[i]) dL trivial rfl (by simp [Key.cells,Value.oneCell']) rfl) (by omega) (by omega) (by rw [hN];exact hC.1) hzN 2 (fun c h hc=>by have:p≠0:=fun e=>h (h3 e);omega) fun a' c' wy h1 h2 h3 h4 h5=>⟨⟨Nat.le_trans hC.1 h2.size,h2.st hC.2 hlN hzN h0N⟩,h2,_,rfl,a',c',rfl,h3,h1⟩) ?_
   rintro _ wz _ ⟨a6,c6,rfl,_,_⟩;refine cS ?_;refine DP .r (fun _ hC=>PV.DA fP (Ow.rd (As.gs hC.2.g2) (by omega)) rfl rfl (by omega))<|(eh)<|?_;rintro w7 ⟨Tm,aL⟩ ⟨YH,⟨_,⟨_,_⟩⟩⟩;obtain⟨_,_,he6,aj3,ho6⟩:=YH;simp only [Value.slice.injEq,true_and] at he6;obtain⟨rfl,rfl⟩:=he6;have aO:=aL.add (B:=As.os RR.key 39 2 a6 (p+1) c6 (out.take p++[l[i]])) ho6 aj3 hlN hzN h0N;refine WL.ap rfl rfl aO (SR.drop (i:=p) (Ow.rd (As.gs aO.g3) (by omega)) (by omega)) fun a50 aj4 w8 arA arB aS=>?_;refine cS ?_;have bE:=aS.p3.drop;refine ji ?_;refine fH (i+1,_,a50,((p+1)+(cm - p)),aj4) ⟨bE.p1.drop.p1.drop,⟨by omega,by rw [List.take_succ_eq_append_getElem cV,zo,← gH,aef,if_neg oZ],trivial⟩⟩
  have oZ:out[p]?=some l[i]:=by simpa using oZ
  refine gN ?_;refine fH (i+1,_,cF,cm,cG) ⟨cq.drop.drop,⟨by omega,by rw [List.take_succ_eq_append_getElem cV,zo,← gH,aef,if_pos oZ],trivial⟩⟩
 simp at g10
 have cZ:out=mb l:=by rw [gH,List.take_of_length_le (by omega)]
 subst cZ;refine(cA) ?_;exact⟨_,_,_,rfl,aW.p1.drop⟩
theorem xH(bJ:St w M Z w []) (hl:Rd RR.fV 8 Z w a n c l) (h6:l.length≤1000000):Calls prog 37 #[.slice a n c,.int .i64 rev,k.val] w fun e w'=>∃b m Z',e=.returned (.map (some b))∧cN w.heap.size Z Z'∧jT m (cD l rev k)∧St w M Z' w' [As.map Key.val b m]:=by
 have hlen:=hl.len;have hle:=hl.le;refine enter func37 rfl ntmps37 rfl<|?_;have bd:=bJ;have st1:=bd.fr hl;refine(fo) st1 fun b5 w1 nq gy st2=>?_;refine ek ?_;refine WL.mm Key.val st2 fun yD w2 YI arC aW=>?_;refine(bz) aq aW.b1<|?_;refine WL.go rfl (OX.aR (us:=k.cells) eT rfl rfl rfl rfl fun xR w3 Tn YJ=>?_);have ba:=St.tc (R:=RR.key) (E:=39) (k:=2) (a:=some ⟨xR,0,none⟩) (n:=1) (c:=1) (xs:=[k]) aW Tn.ext (OR.ew YJ (Nat.zero_le _) rfl (by simp [Key.cells,Value.oneCell']) rfl) (fun x hx=>by simp [aI] at hx;subst hx;exact Tn.ge);refine nT ?_;refine WC.jC (σ:=Nat × (List Key) × (List (Key × Value)) × (Nat→Prop) × (Option Addr) × Nat × Nat) (eJ:=fun(i,ys,mm,Z1,bA,bm,bB)=>[(0,.slice a n c),(1,.int .i64 rev),(7,.map (some yD)),(8,.slice bA bm bB),(9,.int .i64 (i:Int))]) (F:=fun(i,ys,mm,Z1,bA,bm,bB)=>[As.os RR.key 39 2 bA bm bB (k::ys),As.map Key.val yD mm]) (I:=fun(i,ys,mm,Z1,bA,bm,bB)=>(i≤ys.length+1)∧(cN w.heap.size Z Z1)∧(ys.Nodup)∧(∀x∈ys,cD l rev k x)∧(jT mm (·∈ys))∧(∀(q:Nat) (y:Key),q<i→(k::ys)[q]?=some y→∀x,Ld l rev y x→x∈ys)∧True) (μ:=fun(i,ys,mm,Z1,bA,bm,bB)=>l.length+1 - i) (Zf:=fun(i,ys,mm,Z1,bA,bm,bB)=>Z1) (0,[],[],Z,(some ⟨xR,0,none⟩),1,1) (ba.p1.p1) Sub.t (⟨by simp,cN.refl _ _,by simp,by simp,jT.nil,fun q y h=>by omega,trivial⟩)<|?_;rintro⟨i,ys,mm,Z1,bA,bm,bB⟩ w4 bw ⟨hi,hZ,wL,j9,Q7,vt,_⟩;simp only [CA,NA] at bw hi hZ wL j9 Q7 vt ⊢;have l4:=((As.gs bw.g0)).len;rw [List.length_cons] at l4
 have Ng:=iL wL fun x hx=>qx (j9 x hx).iE
 rw [List.length_map] at Ng;refine(aZ) (fun g20=>?_) fun g20=>?_
 ·
  simp at g20
  have cV:i<(k::ys).length:=by simp;omega
  obtain⟨y,hy0⟩:∃y,(k::ys)[i]=y:=⟨_,rfl⟩
  have hy:(k::ys)[i]?=some y:=by rw [ao cV,hy0]
  have aj5:y=k∨cD l rev k y:=by
   have:=List.getElem_mem cV
   rw [hy0] at this
   rcases List.mem_cons.1 this with h | h
   ·
    exact .inl h
   exact .inr (j9 y h)
  refine ek ?_;obtain⟨ik,aU⟩:=Ow.addr (As.gs bw.g0) hy;refine dW ?_;refine WP .r (PV.fI fP aU rfl rfl (by omega))<|(bz) aq (Ow.qu (As.gs bw.g0) (by simp;omega) aU hy)<|?_;have bj:=bw;refine(dj) tH (j8 (k:=y) bj.e0 (As.gr bj.g3)) ?_;rintro _ w5 ⟨f1,f2,f3,rfl,hq4,jF⟩;have bX:=St.lr bj jF;have qk:=St.cH jF;have hsz:=bj.size;have bV:=bX.bN (by omega);have lA:=hZ.trans (cN.fh (F:=fun x=>x∈aI f1) qk) hsz;have hqn:=((As.gr bV.g0)).len;refine(gu) bV fun iJ w6 lz fE cq=>?_;refine(dD) iH cq fun w7 jY j7 aL=>?_;refine(bL) gK aL.b0<|ek ?_;refine WC.ct (σ:=Nat × (List Key) × (List (Key × Value)) × (Option Addr) × Nat × Nat) (eJ:=fun(j,Ex,U7,bA,bm,bB)=>[(0,.slice a n c),(1,.int .i64 rev),(7,.map (some yD)),(8,.slice bA bm bB),(9,.int .i64 (i:Int)),(33,.slice f1 f2 f3),(34,.int .i64 (f2:Int)),(35,.int .i64 (j:Int))]) (F:=fun(j,Ex,U7,bA,bm,bB)=>[As.os RR.key 39 2 bA bm bB (k::Ex),As.map Key.val yD U7]) (I:=fun(j,Ex,U7,bA,bm,bB)=>(j≤f2)∧(ys <+: Ex)∧(Ex.Nodup)∧(∀x∈Ex,cD l rev k x)∧(jT U7 (·∈Ex))∧(∀q x,q<j→(aH l y).reads[q]?=some x→cI l rev x=true→x∈Ex)∧True) (μ:=fun(j,Ex,U7,bA,bm,bB)=>f2 - j) (0,ys,mm,bA,bm,bB) (aL.p3.p3) Sub.t (⟨by omega,List.prefix_refl _,wL,j9,Q7,fun q x h=>by omega,trivial⟩)<|?_;rintro⟨j,Ex,U7,bA,bm,bB⟩ w8 aO ⟨hj,iW,rR,Hp,P0,xG,_⟩;simp only [CA,NA] at aO hj iW rR Hp P0 xG ⊢;have JT:=((As.gs aO.g0)).len;rw [List.length_cons] at JT
  have aj6:=iL rR fun x hx=>qx (Hp x hx).iE
  rw [List.length_map] at aj6;refine(aZ) (fun gT=>?_) fun gT=>?_
  ·
   simp at gT
   have kR:j<(aH l y).reads.length:=by omega
   obtain⟨x,Q9⟩:∃x,(aH l y).reads[j]=x:=⟨_,rfl⟩;have hmx:=P0.get x (b:=decide (x∈Ex)) (by simp);refine ek ?_;obtain⟨wv,JN,Hh,fQ,xD,gB,kD,oP⟩:=Rd.at (As.gr aO.g3) kR;have gB:=RR.cy gB;subst gB;have aS:=aO.fg oP kD;rw [Q9] at kD aS;refine nx ?_;refine WP .r (PV.fI fP fQ rfl rfl (by omega))<|(bz) aq (As.nR aS.g0)<|(gu) aS fun sO w9 P1 aj7 bE=>?_;refine(dD) jx bE fun kB sC nt bs=>?_;refine dE ?_;refine WC.fL (t:=48) (v:=.bool (cI l rev x && !decide (x∈Ex))) bs ?_<|?_
   ·
    refine(bz) aq bs.b0<|(iz) (Aq (k:=x) (As.gr bs.g7)) bs fun kC wm aY=>?_;refine(dY) (fun nK=>?_) (fun nK=>?_)
    ·
     refine(bz) aq aY.b0<|?_;refine WP .r (PV.mM eI kS G2 (As.gm aY.g3) (hmx) rfl rfl)<|?_;exact(dt) (by simp only [nK];first | rfl | simp) (aY)
    exact(dt) (by simp only [nK];first | rfl | simp) (aY)
   intro kC aY;refine(aZ) (fun oi=>?_) fun oi=>?_
   ·
    simp at oi
    obtain⟨hox,MS⟩:=oi;have T7:Ld l rev y x:=⟨Q9 ▸ List.getElem_mem kR,hox⟩
    have hxl:cD l rev k x:=by
     rcases aj5 with rfl | h
     ·
      exact .one T7
     exact .step h T7
    have To:(Ex++[x]).Nodup:=by rw [List.nodup_append];exact⟨rR,by simp,fun a ha b hb=>by simp at hb;subst hb;rintro rfl;exact MS ha⟩
    refine(bz) aq aY.b0<|?_;refine WL.go rfl (OX.put eI kS (As.gm aY.g3) rfl rfl rfl fun qb Ey Ez=>?_);have aQ:=aY.p3.nv Ey Ez;refine(bz) aq aQ.b1<|?_;refine WL.go rfl (OX.aR (us:=x.cells) eT rfl rfl rfl rfl fun b53 tU aj9 aka=>?_);have bF:=aQ.eF aj9 aka;refine WL.ap rfl rfl bF.p4 (SR.ew (A:=fun _=>True) (x:=x) (As.gb bF.g0) trivial rfl (by simp [Key.cells,Value.oneCell']) rfl) fun a54 akb yB arD arE bK=>?_;refine kQ ?_
    refine fH (j+1,Ex++[x],_,a54,(bm+1),akb) ⟨bK.p1.drop.p2.drop.p2.drop,⟨by omega,iW.trans (List.prefix_append _ _),by rw [List.nodup_append];exact⟨rR,by simp,fun a ha b hb=>by simp at hb;subst hb;rintro rfl;exact MS ha⟩,fun z hz=>by
       rcases List.mem_append.1 hz with hz | hz
       ·
        exact Hp z hz
       simp at hz;subst hz;exact hxl,P0.put x,dG (P:=fun _ z=>cI l rev z=true→z∈Ex++[x]) kR (fun q z hq hz ho=>by simp [xG q z hq hz ho]) (fun _=>by simp [← Q9]),trivial⟩⟩
   skip
   refine gN ?_;refine fH (j+1,Ex,U7,bA,bm,bB) ⟨aY.drop.drop,⟨by omega,iW,rR,Hp,P0,dG (P:=fun _ z=>cI l rev z=true→z∈Ex) kR xG (fun ho=>by rw [Q9] at ho ⊢;simp [ho] at oi;exact oi),trivial⟩⟩
  simp at gT
  refine vE ?_
  refine fH (i+1,Ex,U7,_,bA,bm,bB) ⟨aO.p2.drop.p2.drop,⟨by have:=iW.length_le;show i+1≤Ex.length+1;omega,lA,rR,Hp,P0,fun q z hq hz x hx=>by
     rcases Nat.lt_or_ge q i with h | h
     ·
      have hz2:(k::ys)[q]?=some z:=by
       obtain⟨t,rfl⟩:=iW;rw [← List.cons_append,List.getElem?_append_left (by simp;omega)] at hz;exact hz
      exact iW.subset (vt q z h hz2 x hx)
     have e:q=i:=by omega
     subst e
     have hz2:some y=some z:=by rw [← hy,← hz];obtain⟨t,rfl⟩:=iW;rw [← List.cons_append,List.getElem?_append_left (by simp;omega)]
     simp at hz2;subst hz2
     obtain⟨j,hj,rfl⟩:=List.mem_iff_getElem.1 hx.1;exact xG j _ (by omega) (ao hj) hx.2,trivial⟩⟩
 simp at g20
 have rM:=DR j9 fun y hy x hx=>by
  obtain⟨q,hq,rfl⟩:=List.mem_iff_getElem.1 hy;exact vt q _ (by simp at hq;omega) (ao hq) x hx
 refine(cA) ?_;exact⟨_,_,_,rfl,hZ,Q7.congr rM,bw.p1.k1⟩
theorem tW(bJ:St w M Z w []) (hl:Rd RR.fV 8 Z w a n c l) (h6:l.length≤100000):Calls prog 16 #[.slice a n c,.int .i64 rev,k.val] w fun e w'=>∃a' n' c' Z',e=.returned (.slice a' n' c')∧cN w.heap.size Z Z'∧St w M Z' w' [As.os RR.key 39 2 a' n' c' (aB l rev k)]:=by
 have hlen:=hl.len;have hle:=hl.le;refine enter func16 rfl ntmps16 rfl<|?_;have bd:=St.rb bJ;have st1:=bd.fr hl;refine(fo) st1 fun b5 w1 nq gy st2=>?_;refine(bz) aq st2.b0<|(iz) (Aq (k:=k) (As.gr st2.g1)) st2 fun w2 s2 aW=>?_;refine(aZ) (fun g15=>?_) fun g15=>?_
 ·
  simp at g15
  have hv:aB l rev k=[k]:=by unfold aB;rw [if_neg (by simp [g15])]
  refine(bz) aq aW.b0<|?_;refine WL.go rfl (OX.aR (us:=k.cells) eT rfl rfl rfl rfl fun QK w3 JZ YK=>?_);have ba:=St.tc (R:=RR.key) (E:=39) (k:=2) (a:=some ⟨QK,0,none⟩) (n:=1) (c:=1) (xs:=[k]) aW JZ.ext (OR.ew YK (Nat.zero_le _) rfl (by simp [Key.cells,Value.oneCell']) rfl) (fun x hx=>by simp [aI] at hx;subst hx;exact JZ.ge);refine(cA) ?_;exact⟨_,_,_,_,rfl,cN.refl _ _,by rw [hv];exact(St.wk ba.p1.drop.p1.drop)⟩
 simp at g15
 have hv:aB l rev k=mb (k::k9 l rev k l):=by unfold aB;rw [if_pos g15]
 refine(bz) aq aW.b0<|?_;refine WL.go rfl (OX.aR (us:=k.cells) eT rfl rfl rfl rfl fun Vv w3 P2 YL=>?_);have ba:=St.tc (R:=RR.key) (E:=39) (k:=2) (a:=some ⟨Vv,0,none⟩) (n:=1) (c:=1) (xs:=[k]) aW P2.ext (OR.ew YL (Nat.zero_le _) rfl (by simp [Key.cells,Value.oneCell']) rfl) (fun x hx=>by simp [aI] at hx;subst hx;exact P2.ge);refine(bz) aq ba.b1<|?_;have bw:=ba;refine(dj) acI (xH (k:=k) bw.e0 (As.gr bw.g2) (by omega)) ?_;rintro _ w4 ⟨bt,mt,Z1,rfl,oO,EB,iY⟩;have bj:=St.lv bw iY oO;have lA:=oO.le bw.size;refine bf ?_;refine WC.ct (σ:=Nat × (List Key) × (Option Addr) × Nat × Nat) (eJ:=fun(i,acc,xI,xJ,AG)=>[(0,.slice a n c),(1,.int .i64 rev),(5,.pointer (some ⟨b5,0,none⟩)),(7,.slice xI xJ AG),(8,.map (some bt)),(24,.slice a n c),(25,.int .i64 (n:Int)),(26,.int .i64 (i:Int))]) (F:=fun(i,acc,xI,xJ,AG)=>[As.os RR.key 39 2 xI xJ AG (acc)]) (I:=fun(i,acc,xI,xJ,AG)=>(i≤n)∧(acc=k::k9 l rev k (l.take i))∧True) (μ:=fun(i,acc,xI,xJ,AG)=>n - i) (0,[k],(some ⟨Vv,0,none⟩),1,1) (bj.p1) Sub.t (⟨by omega,by simp [k9],trivial⟩)<|?_;rintro⟨i,acc,xI,xJ,AG⟩ w5 bX ⟨hi,eu,_⟩;simp only [CA,NA] at bX hi eu ⊢;have l4:=((As.gs bX.g0)).len;have Ns:=tj l rev k (l.take i)
 have th:acc.length≤100001:=by rw [eu,List.length_cons];rw [List.length_take] at Ns;omega
 refine(aZ) (fun ye=>?_) fun ye=>?_
 ·
  simp at ye
  have cV:i<l.length:=by omega
  have Dj:=EB.get l[i].key mR;refine ek ?_;obtain⟨ik,kf,jE,aU,fX,bD,cP,dM⟩:=Rd.at (As.gr bX.g3) cV;obtain⟨q1,q2,q3,rfl,rJ,qP⟩:=bD;have bV:=bX.fg dM cP;have cq:=bV.fr rJ;refine nx ?_;refine WP .r (PV.fI ky aU rfl rfl (by omega))<|(bz) ey (As.nR cq.g1)<|(gu) cq fun iJ w6 lz fE aL=>?_;refine(dD) iH aL fun w7 jY j7 aO=>?_;refine dE ?_;refine WC.fL (t:=48) (v:=.bool (GB l rev k l[i])) aO ?_<|?_
  ·
   have hN8:=aO.cY;have akc:=aO.ma;have akd:=aO.size;refine WC.eQ (m:=17) (E:=dr [(15,Oe w7.heap.size fun m=>jT m (cD l rev l[i].key))]) aO (bM (⟨fun _ _ _ _ _ _ c h=>Oe.st hN8 c h,trivial⟩)) mixed (by kernel_rfl)<|(Cy) aq St.g0<|(jj) aq St.g5<|?_;refine DP .r (fun _ hC=>PV.Nj gS (p:=l[i].key) (q:=k) rfl rfl)<|(rS) (fun yb=>?_) (fun yb=>?_)
   ·
    refine(Cy) aq St.g0<|?_;refine DP .r (fun _ hC=>PV.mM eI kS G2 (As.gm hC.2.g4) (Dj) rfl rfl)<|(rS) (fun xx=>?_) (fun xx=>?_)
    ·
     refine(Cy) aq St.g0<|?_;refine DW.e rfl rfl rfl rfl rfl (fun wx hC hF=>OX.call acI rfl rfl ((xH (k:=l[i].key) (hC.2.e0) (As.gr hC.2.g6) (by omega)).mono ?_))<|?_
     ·
      rintro _ wy ⟨b,m,Z',rfl,hZ',hm,QP⟩;have hy:=QP.cg0;exact⟨_,rfl,⟨Nat.le_trans hC.1 hy.size,hC.2.step hy⟩,hy.p0,_,rfl,b,m,rfl,Nat.le_trans hC.1 (St.cH QP b rfl),As.gm QP.g0,hm⟩
     rintro _ wz _ ⟨b45,_,rfl,_,_,_⟩;refine(jj) aq St.g5<|(eh)<|?_;rintro w8 ⟨qR,aS⟩ ⟨ake,_⟩;obtain⟨_,m45,h1,aeg,aeh,akf⟩:=ake
     simp at h1;subst h1
     have T7:=akf.get k mR;have bE:=aS.add (B:=As.map Key.val b45 m45) aeh (fun x hx=>by have h1:x=b45:=hx;subst h1;exact aeg) hN8 akc akd;refine WP .r (PV.mM eI kS G2 (As.gm bE.g0) (T7) rfl rfl)<|?_;exact(dt) (by unfold GB;simp only [yb,xx];first | rfl | simp) (bE.drop)
    refine(eh) ?_;rintro w8 ⟨qR,aS⟩ _;exact(dt) (by unfold GB;simp only [yb,xx];first | rfl | simp) (aS)
   refine(eh) ?_;rintro w8 ⟨qR,aS⟩ _;exact(dt) (by unfold GB;simp only [yb];first | rfl | simp) (aS)
  intro w8 aS;refine(aZ) (fun oi=>?_) fun oi=>?_
  ·
   refine(j3) aq aS.b0<|?_;refine WL.go rfl (OX.aR (us:=l[i].key.cells) eT rfl rfl rfl rfl fun b52 w9 akg akh=>?_);have bE:=aS.eF akg akh;refine WL.ap rfl rfl bE.p4 (SR.ew (A:=fun _=>True) (x:=l[i].key) (As.gb bE.g0) trivial rfl (by simp [Key.cells,Value.oneCell']) rfl) fun a53 aki kB arG arH bs=>?_;refine kQ ?_;refine fH (i+1,_,a53,(xJ+1),aki) ⟨bs.p7.p7.p7.p3.k4,⟨by omega,by rw [eu,xc cV,if_pos oi];rfl,trivial⟩⟩
  refine gN ?_;refine fH (i+1,_,xI,xJ,AG) ⟨aS.p6.p6.p6.p6.k4,⟨by omega,by rw [eu,xc cV,if_neg (by simp [oi])],trivial⟩⟩
 simp at ye
 have cZ:acc=k::k9 l rev k l:=by rw [eu,List.take_of_length_le (by omega)]
 subst cZ;refine ji ?_;have Ns:=tj l rev k l;refine cS ?_;have Tp:=St.fresh bX;have bV:=bX.bN (by simp;omega);have cq:=bV;refine(dj) acH (uU cq.e0 (As.gr cq.g0) (fun _ h _=>h) (by simp;omega)) ?_;rintro _ w6 ⟨f1,f2,f3,rfl,og⟩;have aL:=St.lr cq og;refine(cA) ?_;exact⟨_,_,_,_,rfl,lA.trans (cN.fh (F:=fun x=>x∈aI xI) Tp) (Nat.le_refl _),by rw [hv];exact(St.wk aL.k1)⟩
set_option maxHeartbeats 400000
theorem xK(hR:aw ab) (hk:gA ab k) (bJ:St w M Z w [As.l3 prog 134 ab x D]):Calls prog 49 #[.pointer (some ⟨D.s,0,none⟩),k.val] w fun e w'=>e=.returned (.string (valOf ab x.ae k))∧St w M Z w' [As.l3 prog 134 ab x D]:=by
 obtain⟨kW,hb,⟨ml,hm,Ua⟩,hf⟩:=bJ.g0;have h2:St w M Z w (As.blk D.s 134 (D.cells x)::As.map Key.val D.m ml::[]):=St.split bJ hb Ua (fun y h=>.inl h) (fun y h=>.inr h) (fun y (h1:y=D.s) (h2:y=D.m)=>kW (h1.symm.trans h2));refine(MR hR hk _ _ _ _ (St.enter (rest:=[]) h2) hf hm).mono<|?_;rintro e w' ⟨fj,rfl,QS,_,h'⟩;have h3:St w M Z w' (As.blk D.s 134 (D.cells x)::As.map Key.val D.m fj::[]):=St.leave (rest:=[]) (l0:=[_,_]) h2 h' (cN.refl _ _);refine⟨rfl,h3.join ⟨kW,h3.g0,⟨fj,QS,h3.g1⟩,(D.F prog ab x).st h'.cT.size (fun y hy hl=>h'.cT.block y hl fun⟨A,hA,ha⟩=>h2.o9 A hA y ha hy) hf⟩ fun y h=>h⟩
theorem sE(hR:aw ab) (hk:gA ab k) (bJ:St w M Z w [As.l3 prog 134 ab x D]) (hi:Rd RR.aF 4 Z w a1 n1 e1 b.ae) (hr:Rd RR.fV 8 Z w a2 n2 e2 b.ak):Calls prog 100 #[.pointer (some ⟨D.s,0,none⟩),.agg (b.row a1 n1 e1 a2 n2 e2).toArray,k.val] w fun e w'=>e=.returned (.int .i64 (bp (valOf ab x.ae) b k))∧St w M Z w' [As.l3 prog 134 ab x D]:=by
 refine enter func100 rfl ntmps100 rfl<|?_;have bd:=bJ;have st1:=bd.fr hi;have st2:=st1.fr hr;refine(fo) st2 fun b4 w1 jK bG aW=>?_;refine(fo) aW fun b5 w2 nq gy ba=>?_;refine(bz) aq ba.b0<|(iz) (fD (k:=k)) ba fun w3 s3 bw=>?_;refine(aZ) (fun g10=>?_) fun g10=>?_
 ·
  skip
  refine(bz) aP bw.b1<|(bz) aq bw.b0<|(iz) (He (k:=k) (As.gr bw.g3) (As.gr bw.g2)) bw fun w4 s4 bj=>?_;refine(cA) ?_;exact⟨by unfold bp;rw [if_pos g10],bj.p4.k1⟩
 refine(bL) eW bw.b1<|(bz) aq bw.b0<|(dj) tH (fw (k:=k) (As.gr bw.g2)) ?_;rintro _ w4 ⟨f1,f2,f3,rfl,s4⟩;have bj:=bw.step s4;refine(gu) bj fun b7 w5 vq oe bX=>?_;refine(dD) iH bX fun w6 jY j7 bV=>?_;refine ek ?_;refine WC.fL (t:=36) (v:=.bool ((aC b.ak k).isSome && (decide ((aH b.ak k).ax=b.ad) || decide (valOf ab x.ae k=(aH b.ak k).value)))) bV ?_<|?_
 ·
  have U8:=bV.cY;refine WC.eQ (m:=13) (E:=dr [(10,fun v _=>v=.string (valOf ab x.ae k))]) bV (bM (⟨fun _ _ _ _ _ _ _ h=>h,trivial⟩)) mixed (by kernel_rfl)<|(rS) (fun g22=>?_) (fun g22=>?_)
  ·
   refine(lI) aT St.g0<|(lI) aT St.g2<|(rS) (fun iP=>?_) (fun iP=>?_)
   ·
    refine(eh) ?_;rintro w7 ⟨mr,cq⟩ _;exact(dt) (by simp only [g22,iP];first | rfl | simp) (cq)
   refine(jj) aq St.g1<|?_;refine DW.e rfl rfl rfl rfl rfl (fun wx hC hF=>OX.call S5 rfl rfl ((xK (k:=k) hR hk (hC.2.one (.tail _ (.tail _ (.tail _ (.tail _ (.tail _ (.head _)))))))).mono ?_))<|?_
   ·
    rintro _ wy ⟨rfl,hy⟩;exact⟨_,rfl,⟨Nat.le_trans hC.1 hy.cT.size,hC.2.CI M5 hy⟩,hy.cT.mono (fun _ _ hx=>KD M5 hx),_,rfl,rfl⟩
   rintro _ wz _ rfl;refine(lI) iG St.g0<|(eh)<|?_;rintro w7 ⟨mr,cq⟩ ⟨_,_⟩;exact(dt) (by simp only [g22,iP];first | rfl | simp) (cq)
  refine(eh) ?_;rintro w7 ⟨mr,cq⟩ _;exact(dt) (by simp only [g22];first | rfl | simp) (cq)
 intro w7 cq;refine(aZ) (fun gT=>?_) fun gT=>?_
 ·
  have hv:bp (valOf ab x.ae) b k=(aH b.ak k).changed:=by unfold bp;rw [if_neg (by simp [g10]),if_pos gT]
  refine(bL) aT cq.b0<|(cA) ?_;exact⟨by rw [hv],cq.p5.k1⟩
 have hv:bp (valOf ab x.ae) b k=b.ad:=by unfold bp;rw [if_neg (by simp [g10]),if_neg (by simp [gT])]
 refine(bL) aT cq.b2<|(cA) ?_;exact⟨by rw [hv],cq.p5.k1⟩
theorem J0(hR:aw ab) (hk:gA ab k) (bJ:St w M Z w [As.l3 prog 134 ab x D]) (hi:Rd RR.aF 4 Z w a1 n1 e1 b.ae) (hr:Rd RR.fV 8 Z w a2 n2 e2 b.ak):Calls prog 146 #[.pointer (some ⟨D.s,0,none⟩),.agg (b.row a1 n1 e1 a2 n2 e2).toArray,k.val] w fun e w'=>e=.returned (.int .i64 (bp (valOf ab x.ae) b k))∧St w M Z w' [As.l3 prog 134 ab x D]:=by
 refine enter func146 rfl ntmps146 rfl<|?_;have bd:=bJ;have st1:=bd.fr hi;have st2:=st1.fr hr;refine(fo) st2 fun b4 w1 jK bG aW=>?_;refine(fo) aW fun b5 w2 nq gy ba=>?_;refine(bz) aP ba.b1<|(bz) aq ba.b0<|(dj) UH (sE (k:=k) hR hk (ba.one (.tail _ (.tail _ (.tail _ (.tail _ (.head _)))))) (As.gr ba.g3) (As.gr ba.g2)) ?_;rintro _ w3 ⟨rfl,eN⟩;have bw:=ba.CI M4 eN;refine(cA) ?_;exact⟨rfl,bw.p4.k1⟩
theorem uV(hR:aw ab) (hk:gA ab k) (bJ:St w M Z w [As.l3 prog 134 ab x D]) (hi:Rd RR.aF 4 Z w a1 n1 e1 b.ae) (hr:Rd RR.fV 8 Z w a2 n2 e2 b.ak):Calls prog 103 #[.pointer (some ⟨D.s,0,none⟩),.agg (b.row a1 n1 e1 a2 n2 e2).toArray,k.val] w fun e w'=>e=.returned (.string (dC (valOf ab x.ae) b k))∧St w M Z w' [As.l3 prog 134 ab x D]:=by
 refine enter func103 rfl ntmps103 rfl<|?_;have bd:=bJ;have st1:=bd.fr hi;have st2:=st1.fr hr;refine(fo) st2 fun b4 w1 jK bG aW=>?_;refine(fo) aW fun b5 w2 nq gy ba=>?_;refine(bz) aq ba.b0<|(iz) (ef (k:=k)) ba fun w3 s3 bw=>?_;refine(aZ) (fun g10=>?_) fun g10=>?_
 ·
  have hv:dC (valOf ab x.ae) b k=valOf ab x.ae k:=by unfold dC;rw [if_pos g10]
  refine(bz) aq bw.b0<|(dj) S5 (xK (k:=k) hR hk (bw.one (.tail _ (.tail _ (.tail _ (.tail _ (.head _))))))) ?_;rintro _ w4 ⟨rfl,iY⟩;have bj:=bw.CI M4 iY;refine(cA) ?_;exact⟨by rw [hv],bj.p4.k1⟩
 have hv:dC (valOf ab x.ae) b k=uw b k:=by unfold dC;rw [if_neg (by simp [g10])]
 refine(bz) aP bw.b1<|(bz) aq bw.b0<|(iz) (JM (k:=k) (As.gr bw.g3) (As.gr bw.g2)) bw fun w4 s4 bj=>?_;refine bf ?_;refine(cA) ?_;exact⟨by rw [hv];rfl,bj.p4.k1⟩
theorem pB{group:List Key}{bU:Bool}{ag:Option Addr}{g eg:Nat}(bJ:St w M Z w []) (hi:Rd RR.aF 4 Z w a1 n1 e1 x.ae) (hr:Rd RR.fV 8 Z w a2 n2 e2 x.ak) (hg:Rd RR.key 2 Z w ag g eg group) (h6:x.ak.length≤1000000) (h7:x.ae.length≤1000000):Calls prog 98 #[.agg (x.row a1 n1 e1 a2 n2 e2).toArray,.slice ag g eg,.bool bU] w fun e w'=>∃PF PG PH PI PJ PK Z',e=.returned (.agg ((dT x group bU).row PF PG PH PI PJ PK).toArray)∧cN w.heap.size Z Z'∧St w M Z' w' [As.os RR.aF 102 4 PF PG PH (dT x group bU).ae,As.os RR.fV 48 8 PI PJ PK (dT x group bU).ak]:=by
 have Bs:=hi.len;have Nn:=hr.len;refine enter func98 rfl ntmps98 rfl<|?_;have bd:=St.rb bJ;have st1:=bd.fr hi;have st2:=st1.fr hr;have aW:=st2.fr hg;refine(fo) aW fun b3 w1 iR dL ba=>?_;refine(gu) ba fun b6 w2 mD eE bw=>?_;refine(bz) aP bw.b1<|?_;have bj:=bw;refine(dj) El (gL bj.e0 (As.gr bj.g4) (As.gr bj.g3) h6 h7) ?_;rintro _ w3 ⟨f1,f2,f3,f4,f5,f6,Z1,rfl,oO,eN⟩;have bX:=St.lv bj eN oO;have lA:=oO.le bj.size;have Mf:=((As.gs bX.g1)).len;refine(dD) fT bX.p3 fun w4 jY j7 bV=>?_;refine(bL) eW bV.b0<|ek ?_;refine WC.ct (σ:=Nat × (List Rec)) (eJ:=fun(i,acc)=>[(1,.slice ag g eg),(2,.bool bU),(3,.pointer (some ⟨b3,0,none⟩)),(6,.pointer (some ⟨b6,0,none⟩)),(12,.int .i64 (f5:Int)),(13,.int .i64 (i:Int))]) (F:=fun(i,acc)=>[As.os RR.fV 48 8 f4 f5 f6 acc]) (I:=fun(i,acc)=>(i≤f5)∧(acc=(x.ak.take i).map (cO x.ad group bU)++x.ak.drop i)∧True) (μ:=fun(i,acc)=>f5 - i) (0,x.ak) (bV.p2) Sub.t (⟨by omega,by simp,trivial⟩)<|?_;rintro⟨i,acc⟩ w5 cq ⟨iB,eu,_⟩;simp only [CA,NA] at cq iB eu ⊢
 have th:acc.length=x.ak.length:=by rw [eu];simp;omega
 refine(aZ) (fun g14=>?_) fun g14=>?_
 ·
  simp at g14
  have cV:i<x.ak.length:=by omega
  have EB:=IQ (x:=x) (group:=group) (bU:=bU) cV (by omega);rw [← eu] at EB
  have hxa:acc[i]?=some x.ak[i]:=by rw [eu,List.getElem?_append_right (by simp;omega)];simp [Nat.min_eq_left (by omega:i≤x.ak.length)]
  refine bf ?_;obtain⟨ik,jE,aU,fX,bD,cP⟩:=Ow.at (As.gs cq.g0) (by omega) hxa;obtain⟨q1,q2,q3,rfl,arI,arJ⟩:=bD
  have U9:∀y,y=cO x.ad group bU x.ak[i]→acc.set i y=(x.ak.take (i+1)).map (cO x.ad group bU)++x.ak.drop (i+1):=fun y hy=>by rw [hy];exact EB
  refine(bL) eW cq.b1<|nx ?_;refine WP .r (PV.fI ky aU rfl rfl (by omega))<|(j3) aq cP<|(iz) (wg (k:=x.ak[i].key) (As.gr cq.g4)) cq fun w6 s6 aL=>?_;refine(aZ) (fun g24=>?_) fun g24=>?_
  ·
   simp at g24
   have sq:acc=(x.ak.take (i+1)).map (cO x.ad group bU)++x.ak.drop (i+1):=by
    rw [← EB]
    have:cO x.ad group bU x.ak[i]=x.ak[i]:=by unfold cO;rw [if_neg g24]
    rw [this]
    apply List.ext_getElem?
    intro j;rw [List.getElem?_set]
    split
    ·
     rename_i e;subst e;rw [hxa];simp;omega
    rfl
   refine kQ ?_;refine fH (i+1,acc) ⟨aL,⟨by omega,sq,trivial⟩⟩
  simp at g24
  refine(aZ) (fun fb=>?_) fun fb=>?_
  ·
   have fb:bU=true:=fb;subst fb;have yN:=U9 {x.ak[i] with bU:=true} (by unfold cO;rw [if_pos g24];rfl);obtain⟨wv,Hh,fQ,xD,gB,kD⟩:=Ow.at (As.gs aL.g0) (by omega) hxa;refine(bL) eW aL.b1<|nx ?_;refine WP .r (PV.fI ky fQ rfl rfl (by omega))<|nx ?_;refine WL.go rfl (OX.VU (i:=i) (f:=7) sz4 (As.gs aL.g0) fQ hxa (by omega) rfl rfl rfl {x.ak[i] with bU:=true} (fun r _ ⟨a,n,c,h1,h2,h3⟩=>⟨a,n,c,by rw [h1];rfl,h2,h3⟩) fun w7 s7 h7x=>?_);have aO:=aL.jm s7 h7x (fun x h=>.inl h);refine gN ?_;refine fH (i+1,_) ⟨aO,⟨by omega,yN,trivial⟩⟩
  have fb:bU=false:=fb;subst fb;have yN:=U9 {x.ak[i] with ax:=x.ad} (by unfold cO;rw [if_pos g24];rfl);obtain⟨MQ,aei,kT,Va,xL,Ll⟩:=Ow.at (As.gs aL.g0) (by omega) hxa;refine(bL) eW aL.b1<|(bL) aT aL.b1<|?_;refine WP .r (PV.fI ky kT rfl rfl (by omega))<|nx ?_;refine WL.go rfl (OX.VU (i:=i) (f:=5) Q0 (As.gs aL.g0) kT hxa (by omega) rfl rfl rfl {x.ak[i] with ax:=x.ad} (fun r _ ⟨a,n,c,h1,h2,h3⟩=>⟨a,n,c,by rw [h1];rfl,h2,h3⟩) fun w7 s8 h8x=>?_);have aO:=aL.jm s8 h8x (fun x h=>.inl h);refine gN ?_;refine fH (i+1,_) ⟨aO,⟨by omega,yN,trivial⟩⟩
 simp at g14
 have cZ:acc=(dT x group bU).ak:=by rw [eu,List.take_of_length_le (by omega),List.drop_eq_nil_of_le (by omega)];simp [dT]
 subst cZ;refine(bz) aP cq.b1<|(dD) fT cq.p3 fun w6 sC nt aL=>?_;refine(mz) aP aL.b0<|?_;exact⟨_,_,_,_,_,_,_,rfl,lA,(St.wk aL.p1.p3.k2)⟩
theorem Hq{s:ES}{E:EA}{sb bb xb:Nat}(hx:cW w xb 88 (E.cells sb bb s)) (hb:KM Key.val w bb s.busy) (hbt:∀k,bZ s.busy k=none∨bZ s.busy k=some (.bool true)) (hr:Rd RR.fV 8 Z w E.a2 E.n2 E.c2 s.b.ak):CR prog 99 #[.pointer (some ⟨xb,0,none⟩),k.val] w (.bool (fB s k)):=by
 have hbk:(bZ s.busy k).getD (.bool false)=.bool (s.on k):=by unfold ES.on;rcases hbt k with h | h <;> rw [h] <;> rfl
 refine enter func99 rfl ntmps99 rfl<|?_;have bd:=St.s0 w;refine(fo) bd fun b3 w1 iR dL st1=>?_;refine ek ?_;refine WC.fL (t:=20) (v:=.bool (az k || (s.on k && aA k))) st1 ?_<|?_
 ·
  have AA:=st1.cY;refine WC.eQ (m:=8) (E:=dr [(1,fun v _=>v=.bool (az k))]) st1 (bM (⟨fun _ _ _ _ _ _ _ h=>h,trivial⟩)) mixed (by kernel_rfl)<|(jj) aq St.g0<|?_;refine DW.c0 (fun wx hC hF=>fD (k:=k))<|(rS) (fun g9=>?_) (fun g9=>?_)
  ·
   refine(eh) ?_;rintro w2 ⟨fx,st2⟩ ⟨_,_⟩;exact(dt) (by simp only [g9];first | rfl | simp) (st2)
  refine dE ?_;refine DP .r (fun _ hC=>V1 xp (cW.range (hx.ext (St.cg hC.2))) .r)<|(jj) aq St.g0<|(eh)<|?_;rintro w2 ⟨fx,st2⟩ ⟨_,_⟩;refine WP .r (PV.mM eI kS G2 (hb.ext (St.cg st2)) (hbk) rfl rfl)<|(dY) (fun g16=>?_) (fun g16=>?_)
  ·
   refine(bz) aq st2.b0<|(iz) (ef (k:=k)) st2 fun w3 s3 aW=>?_;exact(dt) (by simp only [g9,g16];first | rfl | simp) (aW)
  exact(dt) (by simp only [g9,g16];first | rfl | simp) (st2)
 intro w2 st2;refine(aZ) (fun g20=>?_) fun g20=>?_
 ·
  have hv:fB s k=true:=by unfold fB;simp only [Bool.or_eq_true,Bool.and_eq_true] at g20 ⊢;rcases g20 with h | h <;> simp [h]
  refine(cA) ?_;exact⟨by rw [hv],(St.cg st2)⟩
 have hv:fB s k=aK s.b k:=by unfold fB;simp only [Bool.or_eq_false_iff] at g20;rw [g20.1,g20.2];rfl
 refine dE ?_;have Hi:=st2.cY;have J1:=st2.ma;have J2:=st2.size;refine WC.td (m:=11) [9] (E:=dr [(6,fun v _=>∃f1 f2 f3,v=.tuple #[.agg ((aH s.b.ak k).row f1 f2 f3).toArray,.bool (aC s.b.ak k).isSome]),(10,PB w2.heap.size 48 [.int .i64 0,.string ⟨#[]⟩,.string ⟨#[]⟩,.slice none 0 0,.int .i64 0,.int .i64 0,.int .i64 0,.bool false])]) st2 (bM (⟨fun _ _ _ _ _ _ _ h=>h,⟨fun _ _ _ _ _ _ c h=>PB.st Hi c h,trivial⟩⟩)) mixed (by kernel_rfl) rfl ?_;refine dW ?_;refine DP .r (fun _ hC=>PV.ld1 (j:=3) eW (cW.range (hx.ext (St.cg hC.2))) rfl rfl)<|(jj) aq St.g0<|?_;refine DW.e rfl rfl rfl rfl rfl (fun wx hC hF=>OX.call tH rfl rfl ((fw (k:=k) (hr.ext (St.cg hC.2))).mono ?_))<|?_
 ·
  rintro _ wy ⟨f1,f2,f3,rfl,hy⟩;exact⟨_,rfl,⟨Nat.le_trans hC.1 hy.size,hC.2.step hy⟩,hy.p0,_,rfl,⟨f1,f2,f3,rfl⟩⟩
 rintro _ wz _ ⟨f1,f2,f3,rfl⟩;refine dE ?_;refine DW.e rfl rfl rfl rfl rfl (fun wx hC hF=>OX.alloc tB rfl fun b wy nw hb=>⟨⟨Nat.le_trans hC.1 nw.ext.size,hC.2.step nw.ext⟩,nw.ext.p0,_,rfl,_,rfl,Nat.le_trans hC.1 nw.ge,hb⟩)<|?_;rintro _ wz _ ⟨b5,rfl,_,_⟩;refine(eh) ?_;rintro w3 ⟨eB,aW⟩ ⟨AD,⟨_,_⟩⟩;have ba:=aW.xW AD Hi J1 J2;refine(dD) iH ba fun w4 jY j7 bw=>?_;refine nx ?_;refine WL.nil (EX.np ?_);refine cS ?_;refine WC.nS (t:=4) (v:=.bool (aK s.b k)) bw ?_<|?_
 ·
  have U8:=bw.cY;refine WC.dS (m:=9) bw mixed<|(rS) (fun rI=>?_) (fun rI=>?_)
  ·
   refine(lI) aT St.g0<|dW ?_;refine DP .r (fun _ hC=>PV.ld1 (j:=1) aT (cW.range (hx.ext (St.cg hC.2))) rfl rfl)<|(eh)<|?_;rintro w5 ⟨mr,bj⟩ _;exact(iK) (by unfold aK;simp only [rI];first | rfl | simp) (bj)
  refine(eh) ?_;rintro w5 ⟨mr,bj⟩ _;exact(iK) (by unfold aK;simp only [rI];first | rfl | simp) (bj)
 intro w5 bj;refine(cA) ?_;exact⟨by rw [hv],(St.cg bj)⟩
end Go.Rc

