/- Walks over the program, part WK. Conditions: as each theorem says. -/
import Derived.Test.YtjpagoacbadijaaGreatDoorVFacts
import Derived.Test.YtjpagoacbadijaaGreatDoorVWH
import Derived.Test.YtjpagoacbadijaaGreatDoorVBe
import Derived.Test.YtjpagoacbadijaaGreatDoorVWI
import Derived.Test.YtjpagoacbadijaaGreatDoorVWF
set_option linter.all false
namespace Go.Rc
open Go Go.Proofs Go.Proofs.Tryz
variable {l:List Rec}{a a1 a2:Option Addr}{n c n1 e1 n2 e2:Nat}{w:World}{M Z:Nat→Prop}{rev:Int}{k:Key}{ab:List aG}{x b:dP}{D:SD}
set_option maxHeartbeats 400000
set_option maxHeartbeats 1600000 in
theorem uQ{l:List Key}{A:Nat→Prop}(bJ:St w M Z w []) (Ls:Rd RR.key 2 A w a n c l) (hA:∀x,A x→x<w.heap.size→Z x) (h6:l.length≤1000000):Calls prog 34 #[.slice a n c] w fun e w'=>∃a' n' c',e=.returned (.slice a' n' c')∧St w M Z w' [As.os RR.key 39 2 a' n' c' (kR l)]:=by
 have hl:Rd RR.key 2 Z w a n c l:=SR.mono Ls hA fun _ _ h=>h
 have hlen:=hl.len;have hle:=hl.le;refine enter func34 rfl ntmps34 rfl<|?_;have bd:=bJ;have st1:=bd.fr hl;have st2:=st1.eR RR.key 39 2;refine bf ?_;refine gM ?_;refine WC.cq (σ:=Nat × (List Key) × (Option Addr) × Nat × Nat) (eP:=fun(i,out,cE,cj,cF)=>[(3,.slice cE cj cF),(7,.slice a n c),(8,.int .i64 (n:Int)),(9,.int .i64 (i:Int))]) (F:=fun(i,out,cE,cj,cF)=>[As.os RR.key 39 2 cE cj cF (out)]) (I:=fun(i,out,cE,cj,cF)=>(i≤n)∧(out=kR (l.take i))∧True) (μ:=fun(i,out,cE,cj,cF)=>n - i) (0,[],none,0,0) (st2) Sub.t (⟨by omega,rfl,trivial⟩)<|?_;rintro⟨i,out,cE,cj,cF⟩ w1 aW ⟨hi,gE,_⟩;simp only [CA,NA] at aW hi gE ⊢;have l4:=((As.gs aW.g0)).len
 have Ua:out.length≤1000000:=by have:=vC (l.take i);rw [← gE,List.length_take] at this;omega
 refine(aZ) (fun g10=>?_) fun g10=>?_
 ·
  simp at g10
  have cT:i<l.length:=by omega
  refine eC ?_;obtain⟨iz,ku,jW,aX,gk,bF,cQ,dO⟩:=Rd.at (As.gr aW.g1) cT;have bF:=RR.cG bF;subst bF;have ba:=aW.fg dO cQ;refine nx ?_;refine WP .r (PV.fO fV aX rfl rfl (by omega))<|(bA) aq (As.oS ba.g0)<|(gy) ba fun b5 w2 nh gw bs=>?_;refine(dB) jz bs fun w3 jV j0 bj=>?_;refine qd ?_;refine WC.cq (σ:=Nat) (eP:=fun p=>[(3,.slice cE cj cF),(5,.pointer (some ⟨b5,0,none⟩)),(6,.int .i64 (p:Int)),(7,.slice a n c),(8,.int .i64 (n:Int)),(9,.int .i64 (i:Int))]) (F:=fun p=>[]) (I:=fun p=>(p≤out.length)∧(∀q x,q<p→out[q]?=some x→cv x l[i]<0)∧True) (μ:=fun p=>out.length - p) (0) (bj) Sub.t (⟨by omega,fun q x h=>by omega,trivial⟩)<|?_;rintro p w4 bV ⟨hp,dZ,_⟩;simp only [CA,NA] at bV hp dZ ⊢;have JO:=((As.gs bV.g2)).len;refine cS ?_;refine WC.fE (t:=25) (v:=.bool (Gt out p l[i])) bV ?_<|?_
  ·
   have QZ:=bV.cX;refine WC.dS (m:=10) bV mixed<|(qe) (fun g17=>?_) (fun g17=>?_)
   ·
    simp at g17
    have pO:p<out.length:=by omega
    have sa:=ao pO;obtain⟨xX,gp⟩:=Ow.addr (As.gs bV.g2) sa
    have hq:Gt out p l[i]=decide (cv out[p] l[i]<0):=by unfold Gt;rw [sa]
    refine cS ?_;refine DP .r (fun _ hC=>PV.fO fV gp rfl rfl (by omega))<|DP .r (fun _ hC=>VA aq (Ow.qq (As.gs hC.2.g2) (by omega) gp sa) .r)<|(iX) aq St.g0<|(eb)<|?_;rintro w5 ⟨oM,bT⟩ _;refine(iu) (mD (k:=out[p]) (q:=l[i])) bT fun w6 s6 cm=>?_;exact(dp) (by rw [hq]) (cm)
   simp at g17
   have hq:Gt out p l[i]=false:=by unfold Gt;rw [List.getElem?_eq_none (by omega)]
   refine(eb) ?_;rintro w5 ⟨oM,bT⟩ _;exact(dp) (by rw [hq]) (bT)
  intro w5 bT;refine(aZ) (fun eZ=>?_) fun eZ=>?_
  ·
   have pO:p<out.length:=by
    rcases Nat.lt_or_ge p out.length with h | h
    ·
     exact h
    unfold Gt at eZ;rw [List.getElem?_eq_none h] at eZ;cases eZ
   have Vw:cv out[p] l[i]<0:=by unfold Gt at eZ;rw [ao pO] at eZ;simpa using eZ
   refine qd ?_;refine fJ (p+1) ⟨bT,⟨by omega,dD (P:=fun _ x=>cv x l[i]<0) pO dZ Vw,trivial⟩⟩
  have qi:∀x,out[p]?=some x→0≤cv x l[i]:=fun x hx=>by unfold Gt at eZ;rw [hx] at eZ;simp at eZ;omega
  have ad0:=Ry out l[i] p hp dZ qi;refine jo ?_;refine WC.fE (t:=39) (v:=.bool (decide (out[p]?≠some l[i]))) bT ?_<|?_
  ·
   have hN8:=bT.cX;refine WC.dS (m:=10) bT mixed<|(qe) (fun rH=>?_) (fun rH=>?_)
   ·
    simp at rH
    have hq:out[p]?=none:=List.getElem?_eq_none (by omega);refine(eb) ?_;rintro w6 ⟨qP,cm⟩ _;exact(dp) (by first | (rw [hq];rfl) | (rw [sa];simp)) (cm)
   simp at rH
   have pO:p<out.length:=by omega
   have sa:=ao pO;obtain⟨PU,mf⟩:=Ow.addr (As.gs bT.g2) sa;refine cS ?_;refine DP .r (fun _ hC=>PV.fO fV mf rfl rfl (by omega))<|DP .r (fun _ hC=>VA aq (Ow.qq (As.gs hC.2.g2) (by omega) mf sa) .r)<|(iX) aq St.g0<|(eb)<|?_;rintro w6 ⟨qP,cm⟩ _;refine WP .r (PV.NY gY (p:=out[p]) (q:=l[i]) rfl rfl)<|?_;exact(dp) (by first | (rw [hq];rfl) | (rw [sa];simp)) (cm)
  intro w6 cm;refine(aZ) (fun n0=>?_) fun n0=>?_
  ·
   have n0:¬out[p]?=some l[i]:=by simpa using n0
   obtain⟨N,hN⟩:∃N,N=w6.heap.size:=⟨_,rfl⟩;have hzN:=cm.ma;have h0N:=cm.size;have hlN:=cm.cX;have arp:=((As.gs cm.g2)).len;rw [← hN] at hzN h0N hlN;have hN9:=cm.cX;refine WC.N7 (m:=10) (fun j w w'=>match j with | 6=>Ix N 39 (p*2) 2 w w' | _=>aV [] w w') (E:=dm [(3,fun v w'=>∃a c,v=.slice a p c∧(∀x∈aI a,N≤x)∧(p=0→a=none)∧Ow RR.key 39 2 Z w' a p c (out.take p)),(5,fun v w'=>∃b,v=.slice (some ⟨b,0,none⟩) 1 1∧N≤b∧cV w' b 39 l[i].cells),(6,fun v w'=>∃a c,v=.slice a (p+1) c∧(∀x∈aI a,N≤x)∧Ow RR.key 39 2 Z w' a (p+1) c (out.take p++[l[i]]))]) cm (ov (⟨⟨trivial,⟨fun _ _ _ _ _ s ⟨a,c,h1,h2,h3,h4⟩=>⟨a,c,h1,h2,h3,h4.ext s⟩,⟨fun _ _ _ _ _ s ⟨a,c,h1,h2,h3,h4⟩=>⟨a,c,h1,h2,h3,Ix.ow s hzN h4⟩,trivial⟩⟩⟩,⟨⟨fun _ _ _ _ _ s ⟨b,h1,h2,h3⟩=>⟨b,h1,h2,h3.ext s⟩,⟨trivial,⟨fun _ _ _ _ _ s ⟨b,h1,h2,h3⟩=>⟨b,h1,h2,Ix.blk (l:=l[i].cells) s h3⟩,trivial⟩⟩⟩,⟨⟨trivial,⟨trivial,⟨trivial,trivial⟩⟩⟩,trivial⟩⟩⟩)) mixed (by kernel_rfl)<|cS ?_;refine DP .r (fun _ hC=>PV.yJ fV (Ow.rd (As.gs hC.2.g2) (by omega)) rfl rfl (by omega))<|?_;refine DW.e rfl rfl rfl rfl rfl (fun wx hC hF=>OX.aa6 (N:=N) (Z:=Z) rU rfl rfl rfl (OR.nil 0 wx 39 2 _) (by simp [aI]) (SR.take (i:=p) (Ow.rd (As.gs hC.2.g2) (by omega)) (by omega)) (by omega) (by omega) (by rw [hN];exact hC.1) hzN 0 (fun c h=>absurd rfl h) fun a' c' wy h1 h2 h3 h4 h5=>⟨⟨Nat.le_trans hC.1 h5.size,hC.2.step h5⟩,h5,_,rfl,a',c',by rw [Nat.zero_add],h3,h4,by simpa using h1⟩)<|?_;rintro _ wz _ ⟨a3,c3,rfl,_,_,_⟩;refine(iX) aq St.g0<|?_;refine DW.e rfl rfl rfl rfl rfl (fun wx hC hF=>OX.aR (us:=l[i].cells) eM rfl rfl rfl rfl fun b wy nw hb=>⟨⟨Nat.le_trans hC.1 nw.ext.size,hC.2.step nw.ext⟩,nw.ext,_,rfl,b,rfl,by rw [hN];exact Nat.le_trans hC.1 nw.ge,hb⟩)<|?_;rintro _ wz _ ⟨b5x,rfl,_,_⟩
   refine DW.e rfl rfl rfl rfl rfl (fun wx hC hF=>by
    obtain⟨⟨b',dK,fl,dJ⟩,⟨a',c',h1,h2,h3,h4⟩,_⟩:=hF;simp only [Value.slice.injEq,Option.some.injEq,Addr.mk.injEq,and_true,true_and] at dK h1;subst dK;obtain⟨rfl,rfl⟩:=h1;exact OX.aa6 (N:=N) (Z:=Z) rU rfl rfl rfl h4 h2 (SR.ek (A:=fun _=>True) (x:=l[i]) dJ trivial rfl (by simp [Key.cells,Value.oneCell']) rfl) (by omega) (by omega) (by rw [hN];exact hC.1) hzN 2 (fun c h hc=>by have:p≠0:=fun e=>h (h3 e);omega) fun a' c' wy h1 h2 h3 h4 h5=>⟨⟨Nat.le_trans hC.1 h2.size,h2.st hC.2 hlN hzN h0N⟩,h2,_,rfl,a',c',rfl,h3,h1⟩) ?_
   rintro _ wz _ ⟨a6,c6,rfl,_,_⟩;refine cS ?_;refine DP .r (fun _ hC=>PV.Dt fV (Ow.rd (As.gs hC.2.g2) (by omega)) rfl rfl (by omega))<|(eb)<|?_;rintro w7 ⟨Tc,aM⟩ ⟨Ys,⟨_,⟨_,_⟩⟩⟩;obtain⟨_,_,he6,ajV,ho6⟩:=Ys;simp only [Value.slice.injEq,true_and] at he6;obtain⟨rfl,rfl⟩:=he6;have aO:=aM.add (B:=As.os RR.key 39 2 a6 (p+1) c6 (out.take p++[l[i]])) ho6 ajV hlN hzN h0N;refine WL.ap rfl rfl aO (SR.drop (i:=p) (Ow.rd (As.gs aO.g3) (by omega)) (by omega)) fun a50 ajW w8 art aru aS=>?_;refine cS ?_;have bC:=aS.p3.drop;refine jo ?_;refine fJ (i+1,_,a50,((p+1)+(cj - p)),ajW) ⟨bC.p1.drop.p1.drop,⟨by omega,by rw [List.take_succ_eq_append_getElem cT,zd,← gE,ad0,if_neg n0],trivial⟩⟩
  have n0:out[p]?=some l[i]:=by simpa using n0
  refine gM ?_;refine fJ (i+1,_,cE,cj,cF) ⟨cm.drop.drop,⟨by omega,by rw [List.take_succ_eq_append_getElem cT,zd,← gE,ad0,if_pos n0],trivial⟩⟩
 simp at g10
 have cY:out=kR l:=by rw [gE,List.take_of_length_le (by omega)]
 subst cY;refine(cy) ?_;exact⟨_,_,_,rfl,aW.p1.drop⟩
theorem xx(bJ:St w M Z w []) (hl:Rd RR.fT 8 Z w a n c l) (h6:l.length≤1000000):Calls prog 37 #[.slice a n c,.int .i64 rev,k.val] w fun e w'=>∃b m Z',e=.returned (.map (some b))∧cI w.heap.size Z Z'∧jO m (cA l rev k)∧St w M Z' w' [As.map Key.val b m]:=by
 have hlen:=hl.len;have hle:=hl.le;refine enter func37 rfl ntmps37 rfl<|?_;have bd:=bJ;have st1:=bd.fr hl;refine(fm) st1 fun b5 w1 nh gw st2=>?_;refine eC ?_;refine WL.mm Key.val st2 fun Bm w2 Yt arv aW=>?_;refine(bA) aq aW.b1<|?_;refine WL.go rfl (OX.aR (us:=k.cells) eM rfl rfl rfl rfl fun xI w3 Td Yu=>?_);have ba:=St.rP (R:=RR.key) (E:=39) (k:=2) (a:=some ⟨xI,0,none⟩) (n:=1) (c:=1) (xs:=[k]) aW Td.ext (OR.ek Yu (Nat.zero_le _) rfl (by simp [Key.cells,Value.oneCell']) rfl) (fun x hx=>by simp [aI] at hx;subst hx;exact Td.ge);refine oC ?_;refine WC.kh (σ:=Nat × (List Key) × (List (Key × Value)) × (Nat→Prop) × (Option Addr) × Nat × Nat) (eP:=fun(i,ys,mm,Z1,bw,bm,bz)=>[(0,.slice a n c),(1,.int .i64 rev),(7,.map (some Bm)),(8,.slice bw bm bz),(9,.int .i64 (i:Int))]) (F:=fun(i,ys,mm,Z1,bw,bm,bz)=>[As.os RR.key 39 2 bw bm bz (k::ys),As.map Key.val Bm mm]) (I:=fun(i,ys,mm,Z1,bw,bm,bz)=>(i≤ys.length+1)∧(cI w.heap.size Z Z1)∧(ys.Nodup)∧(∀x∈ys,cA l rev k x)∧(jO mm (·∈ys))∧(∀(q:Nat) (y:Key),q<i→(k::ys)[q]?=some y→∀x,Ld l rev y x→x∈ys)∧True) (μ:=fun(i,ys,mm,Z1,bw,bm,bz)=>l.length+1 - i) (Zf:=fun(i,ys,mm,Z1,bw,bm,bz)=>Z1) (0,[],[],Z,(some ⟨xI,0,none⟩),1,1) (ba.p1.p1) Sub.t (⟨by simp,cI.refl _ _,by simp,by simp,jO.nil,fun q y h=>by omega,trivial⟩)<|?_;rintro⟨i,ys,mm,Z1,bw,bm,bz⟩ w4 bs ⟨hi,hZ,wF,j4,QY,vo,_⟩;simp only [CA,NA] at bs hi hZ wF j4 QY vo ⊢;have l4:=((As.gs bs.g0)).len;rw [List.length_cons] at l4
 have Nb:=iI wF fun x hx=>qv (j4 x hx).iK
 rw [List.length_map] at Nb;refine(aZ) (fun g20=>?_) fun g20=>?_
 ·
  simp at g20
  have cT:i<(k::ys).length:=by simp;omega
  obtain⟨y,hy0⟩:∃y,(k::ys)[i]=y:=⟨_,rfl⟩
  have hy:(k::ys)[i]?=some y:=by rw [ao cT,hy0]
  have ajX:y=k∨cA l rev k y:=by
   have:=List.getElem_mem cT
   rw [hy0] at this
   rcases List.mem_cons.1 this with h | h
   ·
    exact .inl h
   exact .inr (j4 y h)
  refine eC ?_;obtain⟨iz,aX⟩:=Ow.addr (As.gs bs.g0) hy;refine dV ?_;refine WP .r (PV.fO fV aX rfl rfl (by omega))<|(bA) aq (Ow.qq (As.gs bs.g0) (by simp;omega) aX hy)<|?_;have bj:=bs;refine(dh) tC (j3 (k:=y) bj.e0 (As.gr bj.g3)) ?_;rintro _ w5 ⟨f1,f2,f3,rfl,hq4,jB⟩;have bV:=St.lr bj jB;have qi:=St.cH jB;have hsz:=bj.size;have bT:=bV.bN (by omega);have ly:=hZ.trans (cI.fc (F:=fun x=>x∈aI f1) qi) hsz;have hqn:=((As.gr bT.g0)).len;refine(gy) bT fun iA w6 kL ft cm=>?_;refine(dB) iM cm fun w7 jV j0 aM=>?_;refine(bM) gJ aM.b0<|eC ?_;refine WC.cq (σ:=Nat × (List Key) × (List (Key × Value)) × (Option Addr) × Nat × Nat) (eP:=fun(j,Eo,UN,bw,bm,bz)=>[(0,.slice a n c),(1,.int .i64 rev),(7,.map (some Bm)),(8,.slice bw bm bz),(9,.int .i64 (i:Int)),(33,.slice f1 f2 f3),(34,.int .i64 (f2:Int)),(35,.int .i64 (j:Int))]) (F:=fun(j,Eo,UN,bw,bm,bz)=>[As.os RR.key 39 2 bw bm bz (k::Eo),As.map Key.val Bm UN]) (I:=fun(j,Eo,UN,bw,bm,bz)=>(j≤f2)∧(ys <+: Eo)∧(Eo.Nodup)∧(∀x∈Eo,cA l rev k x)∧(jO UN (·∈Eo))∧(∀q x,q<j→(aH l y).reads[q]?=some x→cJ l rev x=true→x∈Eo)∧True) (μ:=fun(j,Eo,UN,bw,bm,bz)=>f2 - j) (0,ys,mm,bw,bm,bz) (aM.p3.p3) Sub.t (⟨by omega,List.prefix_refl _,wF,j4,QY,fun q x h=>by omega,trivial⟩)<|?_;rintro⟨j,Eo,UN,bw,bm,bz⟩ w8 aO ⟨hj,iU,rR,Hg,PY,xw,_⟩;simp only [CA,NA] at aO hj iU rR Hg PY xw ⊢;have JO:=((As.gs aO.g0)).len;rw [List.length_cons] at JO
  have ajY:=iI rR fun x hx=>qv (Hg x hx).iK
  rw [List.length_map] at ajY;refine(aZ) (fun gQ=>?_) fun gQ=>?_
  ·
   simp at gQ
   have lV:j<(aH l y).reads.length:=by omega
   obtain⟨x,Q0⟩:∃x,(aH l y).reads[j]=x:=⟨_,rfl⟩;have hmx:=PY.get x (b:=decide (x∈Eo)) (by simp);refine eC ?_;obtain⟨xX,MG,JI,gp,An,im,lS,qO⟩:=Rd.at (As.gr aO.g3) lV;have im:=RR.cG im;subst im;have aS:=aO.fg qO lS;rw [Q0] at lS aS;refine nx ?_;refine WP .r (PV.fO fV gp rfl rfl (by omega))<|(bA) aq (As.oS aS.g0)<|(gy) aS fun sK w9 PZ ajZ bC=>?_;refine(dB) jz bC fun kE sC nj br=>?_;refine dA ?_;refine WC.fE (t:=48) (v:=.bool (cJ l rev x && !decide (x∈Eo))) br ?_<|?_
   ·
    refine(bA) aq br.b0<|(iu) (Ai (k:=x) (As.gr br.g7)) br fun kF vY aY=>?_;refine(ed) (fun nI=>?_) (fun nI=>?_)
    ·
     refine(bA) aq aY.b0<|?_;refine WP .r (PV.mL eG kS GV (As.gm aY.g3) (hmx) rfl rfl)<|?_;exact(dp) (by simp only [nI];first | rfl | simp) (aY)
    exact(dp) (by simp only [nI];first | rfl | simp) (aY)
   intro kF aY;refine(aZ) (fun oa=>?_) fun oa=>?_
   ·
    simp at oa
    obtain⟨hox,MO⟩:=oa;have TN:Ld l rev y x:=⟨Q0 ▸ List.getElem_mem lV,hox⟩
    have hxl:cA l rev k x:=by
     rcases ajX with rfl | h
     ·
      exact .one TN
     exact .step h TN
    have Te:(Eo++[x]).Nodup:=by rw [List.nodup_append];exact⟨rR,by simp,fun a ha b hb=>by simp at hb;subst hb;rintro rfl;exact MO ha⟩
    refine(bA) aq aY.b0<|?_;refine WL.go rfl (OX.put eG kS (As.gm aY.g3) rfl rfl rfl fun qf Ep Er=>?_);have aQ:=aY.p3.nq Ep Er;refine(bA) aq aQ.b1<|?_;refine WL.go rfl (OX.aR (us:=x.cells) eM rfl rfl rfl rfl fun b53 tU aj1 aj2=>?_);have bB:=aQ.eI aj1 aj2;refine WL.ap rfl rfl bB.p4 (SR.ek (A:=fun _=>True) (x:=x) (As.gb bB.g0) trivial rfl (by simp [Key.cells,Value.oneCell']) rfl) fun a54 aj3 Ay arw arx bL=>?_;refine kP ?_
    refine fJ (j+1,Eo++[x],_,a54,(bm+1),aj3) ⟨bL.p1.drop.p2.drop.p2.drop,⟨by omega,iU.trans (List.prefix_append _ _),by rw [List.nodup_append];exact⟨rR,by simp,fun a ha b hb=>by simp at hb;subst hb;rintro rfl;exact MO ha⟩,fun z hz=>by
       rcases List.mem_append.1 hz with hz | hz
       ·
        exact Hg z hz
       simp at hz;subst hz;exact hxl,PY.put x,dD (P:=fun _ z=>cJ l rev z=true→z∈Eo++[x]) lV (fun q z hq hz ho=>by simp [xw q z hq hz ho]) (fun _=>by simp [← Q0]),trivial⟩⟩
   skip
   refine gM ?_;refine fJ (j+1,Eo,UN,bw,bm,bz) ⟨aY.drop.drop,⟨by omega,iU,rR,Hg,PY,dD (P:=fun _ z=>cJ l rev z=true→z∈Eo) lV xw (fun ho=>by rw [Q0] at ho ⊢;simp [ho] at oa;exact oa),trivial⟩⟩
  simp at gQ
  refine uj ?_
  refine fJ (i+1,Eo,UN,_,bw,bm,bz) ⟨aO.p2.drop.p2.drop,⟨by have:=iU.length_le;show i+1≤Eo.length+1;omega,ly,rR,Hg,PY,fun q z hq hz x hx=>by
     rcases Nat.lt_or_ge q i with h | h
     ·
      have hz2:(k::ys)[q]?=some z:=by
       obtain⟨t,rfl⟩:=iU;rw [← List.cons_append,List.getElem?_append_left (by simp;omega)] at hz;exact hz
      exact iU.subset (vo q z h hz2 x hx)
     have e:q=i:=by omega
     subst e
     have hz2:some y=some z:=by rw [← hy,← hz];obtain⟨t,rfl⟩:=iU;rw [← List.cons_append,List.getElem?_append_left (by simp;omega)]
     simp at hz2;subst hz2
     obtain⟨j,hj,rfl⟩:=List.mem_iff_getElem.1 hx.1;exact xw j _ (by omega) (ao hj) hx.2,trivial⟩⟩
 simp at g20
 have rL:=DI j4 fun y hy x hx=>by
  obtain⟨q,hq,rfl⟩:=List.mem_iff_getElem.1 hy;exact vo q _ (by simp at hq;omega) (ao hq) x hx
 refine(cy) ?_;exact⟨_,_,_,rfl,hZ,QY.congr rL,bs.p1.k1⟩
theorem AA(bJ:St w M Z w []) (hl:Rd RR.fT 8 Z w a n c l) (h6:l.length≤100000):Calls prog 16 #[.slice a n c,.int .i64 rev,k.val] w fun e w'=>∃a' n' c' Z',e=.returned (.slice a' n' c')∧cI w.heap.size Z Z'∧St w M Z' w' [As.os RR.key 39 2 a' n' c' (aC l rev k)]:=by
 have hlen:=hl.len;have hle:=hl.le;refine enter func16 rfl ntmps16 rfl<|?_;have bd:=St.rb bJ;have st1:=bd.fr hl;refine(fm) st1 fun b5 w1 nh gw st2=>?_;refine(bA) aq st2.b0<|(iu) (Ai (k:=k) (As.gr st2.g1)) st2 fun w2 s2 aW=>?_;refine(aZ) (fun g15=>?_) fun g15=>?_
 ·
  simp at g15
  have hv:aC l rev k=[k]:=by unfold aC;rw [if_neg (by simp [g15])]
  refine(bA) aq aW.b0<|?_;refine WL.go rfl (OX.aR (us:=k.cells) eM rfl rfl rfl rfl fun QE w3 JV Yv=>?_);have ba:=St.rP (R:=RR.key) (E:=39) (k:=2) (a:=some ⟨QE,0,none⟩) (n:=1) (c:=1) (xs:=[k]) aW JV.ext (OR.ek Yv (Nat.zero_le _) rfl (by simp [Key.cells,Value.oneCell']) rfl) (fun x hx=>by simp [aI] at hx;subst hx;exact JV.ge);refine(cy) ?_;exact⟨_,_,_,_,rfl,cI.refl _ _,by rw [hv];exact(St.wk ba.p1.drop.p1.drop)⟩
 simp at g15
 have hv:aC l rev k=kR (k::k7 l rev k l):=by unfold aC;rw [if_pos g15]
 refine(bA) aq aW.b0<|?_;refine WL.go rfl (OX.aR (us:=k.cells) eM rfl rfl rfl rfl fun Vh w3 P0 Yw=>?_);have ba:=St.rP (R:=RR.key) (E:=39) (k:=2) (a:=some ⟨Vh,0,none⟩) (n:=1) (c:=1) (xs:=[k]) aW P0.ext (OR.ek Yw (Nat.zero_le _) rfl (by simp [Key.cells,Value.oneCell']) rfl) (fun x hx=>by simp [aI] at hx;subst hx;exact P0.ge);refine(bA) aq ba.b1<|?_;have bs:=ba;refine(dh) acz (xx (k:=k) bs.e0 (As.gr bs.g2) (by omega)) ?_;rintro _ w4 ⟨bt,mt,Z1,rfl,oL,Es,iV⟩;have bj:=St.lv bs iV oL;have ly:=oL.le bs.size;refine bf ?_;refine WC.cq (σ:=Nat × (List Key) × (Option Addr) × Nat × Nat) (eP:=fun(i,acc,xy,xz,AB)=>[(0,.slice a n c),(1,.int .i64 rev),(5,.pointer (some ⟨b5,0,none⟩)),(7,.slice xy xz AB),(8,.map (some bt)),(24,.slice a n c),(25,.int .i64 (n:Int)),(26,.int .i64 (i:Int))]) (F:=fun(i,acc,xy,xz,AB)=>[As.os RR.key 39 2 xy xz AB (acc)]) (I:=fun(i,acc,xy,xz,AB)=>(i≤n)∧(acc=k::k7 l rev k (l.take i))∧True) (μ:=fun(i,acc,xy,xz,AB)=>n - i) (0,[k],(some ⟨Vh,0,none⟩),1,1) (bj.p1) Sub.t (⟨by omega,by simp [k7],trivial⟩)<|?_;rintro⟨i,acc,xy,xz,AB⟩ w5 bV ⟨hi,eu,_⟩;simp only [CA,NA] at bV hi eu ⊢;have l4:=((As.gs bV.g0)).len;have Ou:=tf l rev k (l.take i)
 have td:acc.length≤100001:=by rw [eu,List.length_cons];rw [List.length_take] at Ou;omega
 refine(aZ) (fun Bl=>?_) fun Bl=>?_
 ·
  simp at Bl
  have cT:i<l.length:=by omega
  have Db:=Es.get l[i].key mQ;refine eC ?_;obtain⟨iz,ku,jW,aX,gk,bF,cQ,dO⟩:=Rd.at (As.gr bV.g3) cT;obtain⟨q1,q2,q3,rfl,sB,rI⟩:=bF;have bT:=bV.fg dO cQ;have cm:=bT.fr sB;refine nx ?_;refine WP .r (PV.fO kK aX rfl rfl (by omega))<|(bA) eB (As.oS cm.g1)<|(gy) cm fun iA w6 kL ft aM=>?_;refine(dB) iM aM fun w7 jV j0 aO=>?_;refine dA ?_;refine WC.fE (t:=48) (v:=.bool (Gu l rev k l[i])) aO ?_<|?_
  ·
   have hN8:=aO.cX;have aj4:=aO.ma;have aj5:=aO.size;refine WC.eJ (m:=17) (E:=dm [(15,Oa w7.heap.size fun m=>jO m (cA l rev l[i].key))]) aO (bK (⟨fun _ _ _ _ _ _ c h=>Oa.st hN8 c h,trivial⟩)) mixed (by kernel_rfl)<|(Cp) aq St.g0<|(iX) aq St.g5<|?_;refine DP .r (fun _ hC=>PV.NY gY (p:=l[i].key) (q:=k) rfl rfl)<|(qe) (fun xV=>?_) (fun xV=>?_)
   ·
    refine(Cp) aq St.g0<|?_;refine DP .r (fun _ hC=>PV.mL eG kS GV (As.gm hC.2.g4) (Db) rfl rfl)<|(qe) (fun Ae=>?_) (fun Ae=>?_)
    ·
     refine(Cp) aq St.g0<|?_;refine DW.e rfl rfl rfl rfl rfl (fun wx hC hF=>OX.call acz rfl rfl ((xx (k:=l[i].key) (hC.2.e0) (As.gr hC.2.g6) (by omega)).mono ?_))<|?_
     ·
      rintro _ wy ⟨b,m,Z',rfl,hZ',hm,QJ⟩;have hy:=QJ.cg0;exact⟨_,rfl,⟨Nat.le_trans hC.1 hy.size,hC.2.step hy⟩,hy.p0,_,rfl,b,m,rfl,Nat.le_trans hC.1 (St.cH QJ b rfl),As.gm QJ.g0,hm⟩
     rintro _ wz _ ⟨b45,_,rfl,_,_,_⟩;refine(iX) aq St.g5<|(eb)<|?_;rintro w8 ⟨qP,aS⟩ ⟨aj6,_⟩;obtain⟨_,m45,h1,ad1,ad2,aj7⟩:=aj6
     simp at h1;subst h1
     have TN:=aj7.get k mQ;have bC:=aS.add (B:=As.map Key.val b45 m45) ad2 (fun x hx=>by have h1:x=b45:=hx;subst h1;exact ad1) hN8 aj4 aj5;refine WP .r (PV.mL eG kS GV (As.gm bC.g0) (TN) rfl rfl)<|?_;exact(dp) (by unfold Gu;simp only [xV,Ae];first | rfl | simp) (bC.drop)
    refine(eb) ?_;rintro w8 ⟨qP,aS⟩ _;exact(dp) (by unfold Gu;simp only [xV,Ae];first | rfl | simp) (aS)
   refine(eb) ?_;rintro w8 ⟨qP,aS⟩ _;exact(dp) (by unfold Gu;simp only [xV];first | rfl | simp) (aS)
  intro w8 aS;refine(aZ) (fun oa=>?_) fun oa=>?_
  ·
   refine(kB) aq aS.b0<|?_;refine WL.go rfl (OX.aR (us:=l[i].key.cells) eM rfl rfl rfl rfl fun b52 w9 aj8 aj9=>?_);have bC:=aS.eI aj8 aj9;refine WL.ap rfl rfl bC.p4 (SR.ek (A:=fun _=>True) (x:=l[i].key) (As.gb bC.g0) trivial rfl (by simp [Key.cells,Value.oneCell']) rfl) fun a53 aka kE arz arA br=>?_;refine kP ?_;refine fJ (i+1,_,a53,(xz+1),aka) ⟨br.p7.p7.p7.p3.k4,⟨by omega,by rw [eu,wU cT,if_pos oa];rfl,trivial⟩⟩
  refine gM ?_;refine fJ (i+1,_,xy,xz,AB) ⟨aS.p6.p6.p6.p6.k4,⟨by omega,by rw [eu,wU cT,if_neg (by simp [oa])],trivial⟩⟩
 simp at Bl
 have cY:acc=k::k7 l rev k l:=by rw [eu,List.take_of_length_le (by omega)]
 subst cY;refine jo ?_;have Ou:=tf l rev k l;refine cS ?_;have Tf:=St.fresh bV;have bT:=bV.bN (by simp;omega);have cm:=bT;refine(dh) acy (uQ cm.e0 (As.gr cm.g0) (fun _ h _=>h) (by simp;omega)) ?_;rintro _ w6 ⟨f1,f2,f3,rfl,mY⟩;have aM:=St.lr cm mY;refine(cy) ?_;exact⟨_,_,_,_,rfl,ly.trans (cI.fc (F:=fun x=>x∈aI xy) Tf) (Nat.le_refl _),by rw [hv];exact(St.wk aM.k1)⟩
set_option maxHeartbeats 400000
theorem xA(hR:aw ab) (hk:gG ab k) (bJ:St w M Z w [As.l3 prog 134 ab x D]):Calls prog 49 #[.pointer (some ⟨D.s,0,none⟩),k.val] w fun e w'=>e=.returned (.string (valOf ab x.ad k))∧St w M Z w' [As.l3 prog 134 ab x D]:=by
 obtain⟨kV,hb,⟨ml,hm,ZU⟩,hf⟩:=bJ.g0;have h2:St w M Z w (As.blk D.s 134 (D.cells x)::As.map Key.val D.m ml::[]):=St.split bJ hb ZU (fun y h=>.inl h) (fun y h=>.inr h) (fun y (h1:y=D.s) (h2:y=D.m)=>kV (h1.symm.trans h2));refine(MN hR hk _ _ _ _ (St.enter (rest:=[]) h2) hf hm).mono<|?_;rintro e w' ⟨fh,rfl,QM,_,h'⟩;have h3:St w M Z w' (As.blk D.s 134 (D.cells x)::As.map Key.val D.m fh::[]):=St.leave (rest:=[]) (l0:=[_,_]) h2 h' (cI.refl _ _);refine⟨rfl,h3.join ⟨kV,h3.g0,⟨fh,QM,h3.g1⟩,(D.F prog ab x).st h'.cW.size (fun y hy hl=>h'.cW.block y hl fun⟨A,hA,ha⟩=>h2.o5 A hA y ha hy) hf⟩ fun y h=>h⟩
theorem sD(hR:aw ab) (hk:gG ab k) (bJ:St w M Z w [As.l3 prog 134 ab x D]) (hi:Rd RR.aF 4 Z w a1 n1 e1 b.ad) (hr:Rd RR.fT 8 Z w a2 n2 e2 b.ak):Calls prog 100 #[.pointer (some ⟨D.s,0,none⟩),.agg (b.row a1 n1 e1 a2 n2 e2).toArray,k.val] w fun e w'=>e=.returned (.int .i64 (bp (valOf ab x.ad) b k))∧St w M Z w' [As.l3 prog 134 ab x D]:=by
 refine enter func100 rfl ntmps100 rfl<|?_;have bd:=bJ;have st1:=bd.fr hi;have st2:=st1.fr hr;refine(fm) st2 fun b4 w1 jG bE aW=>?_;refine(fm) aW fun b5 w2 nh gw ba=>?_;refine(bA) aq ba.b0<|(iu) (fD (k:=k)) ba fun w3 s3 bs=>?_;refine(aZ) (fun g10=>?_) fun g10=>?_
 ·
  skip
  refine(bA) aP bs.b1<|(bA) aq bs.b0<|(iu) (G6 (k:=k) (As.gr bs.g3) (As.gr bs.g2)) bs fun w4 s4 bj=>?_;refine(cy) ?_;exact⟨by unfold bp;rw [if_pos g10],bj.p4.k1⟩
 refine(bM) fk bs.b1<|(bA) aq bs.b0<|(dh) tC (fw (k:=k) (As.gr bs.g2)) ?_;rintro _ w4 ⟨f1,f2,f3,rfl,s4⟩;have bj:=bs.step s4;refine(gy) bj fun b7 w5 vZ om bV=>?_;refine(dB) iM bV fun w6 jV j0 bT=>?_;refine eC ?_;refine WC.fE (t:=36) (v:=.bool ((aB b.ak k).isSome && (decide ((aH b.ak k).ax=b.ae) || decide (valOf ab x.ad k=(aH b.ak k).value)))) bT ?_<|?_
 ·
  have UO:=bT.cX;refine WC.eJ (m:=13) (E:=dm [(10,fun v _=>v=.string (valOf ab x.ad k))]) bT (bK (⟨fun _ _ _ _ _ _ _ h=>h,trivial⟩)) mixed (by kernel_rfl)<|(qe) (fun g22=>?_) (fun g22=>?_)
  ·
   refine(kQ) aU St.g0<|(kQ) aU St.g2<|(qe) (fun iN=>?_) (fun iN=>?_)
   ·
    refine(eb) ?_;rintro w7 ⟨mr,cm⟩ _;exact(dp) (by simp only [g22,iN];first | rfl | simp) (cm)
   refine(iX) aq St.g1<|?_;refine DW.e rfl rfl rfl rfl rfl (fun wx hC hF=>OX.call SX rfl rfl ((xA (k:=k) hR hk (hC.2.one (.tail _ (.tail _ (.tail _ (.tail _ (.tail _ (.head _)))))))).mono ?_))<|?_
   ·
    rintro _ wy ⟨rfl,hy⟩;exact⟨_,rfl,⟨Nat.le_trans hC.1 hy.cW.size,hC.2.Cw M5 hy⟩,hy.cW.mono (fun _ _ hx=>Kz M5 hx),_,rfl,rfl⟩
   rintro _ wz _ rfl;refine(kQ) iF St.g0<|(eb)<|?_;rintro w7 ⟨mr,cm⟩ ⟨_,_⟩;exact(dp) (by simp only [g22,iN];first | rfl | simp) (cm)
  refine(eb) ?_;rintro w7 ⟨mr,cm⟩ _;exact(dp) (by simp only [g22];first | rfl | simp) (cm)
 intro w7 cm;refine(aZ) (fun gQ=>?_) fun gQ=>?_
 ·
  have hv:bp (valOf ab x.ad) b k=(aH b.ak k).changed:=by unfold bp;rw [if_neg (by simp [g10]),if_pos gQ]
  refine(bM) aU cm.b0<|(cy) ?_;exact⟨by rw [hv],cm.p5.k1⟩
 have hv:bp (valOf ab x.ad) b k=b.ae:=by unfold bp;rw [if_neg (by simp [g10]),if_neg (by simp [gQ])]
 refine(bM) aU cm.b2<|(cy) ?_;exact⟨by rw [hv],cm.p5.k1⟩
theorem JW(hR:aw ab) (hk:gG ab k) (bJ:St w M Z w [As.l3 prog 134 ab x D]) (hi:Rd RR.aF 4 Z w a1 n1 e1 b.ad) (hr:Rd RR.fT 8 Z w a2 n2 e2 b.ak):Calls prog 146 #[.pointer (some ⟨D.s,0,none⟩),.agg (b.row a1 n1 e1 a2 n2 e2).toArray,k.val] w fun e w'=>e=.returned (.int .i64 (bp (valOf ab x.ad) b k))∧St w M Z w' [As.l3 prog 134 ab x D]:=by
 refine enter func146 rfl ntmps146 rfl<|?_;have bd:=bJ;have st1:=bd.fr hi;have st2:=st1.fr hr;refine(fm) st2 fun b4 w1 jG bE aW=>?_;refine(fm) aW fun b5 w2 nh gw ba=>?_;refine(bA) aP ba.b1<|(bA) aq ba.b0<|(dh) Uq (sD (k:=k) hR hk (ba.one (.tail _ (.tail _ (.tail _ (.tail _ (.head _)))))) (As.gr ba.g3) (As.gr ba.g2)) ?_;rintro _ w3 ⟨rfl,eN⟩;have bs:=ba.Cw M4 eN;refine(cy) ?_;exact⟨rfl,bs.p4.k1⟩
theorem uR(hR:aw ab) (hk:gG ab k) (bJ:St w M Z w [As.l3 prog 134 ab x D]) (hi:Rd RR.aF 4 Z w a1 n1 e1 b.ad) (hr:Rd RR.fT 8 Z w a2 n2 e2 b.ak):Calls prog 103 #[.pointer (some ⟨D.s,0,none⟩),.agg (b.row a1 n1 e1 a2 n2 e2).toArray,k.val] w fun e w'=>e=.returned (.string (dz (valOf ab x.ad) b k))∧St w M Z w' [As.l3 prog 134 ab x D]:=by
 refine enter func103 rfl ntmps103 rfl<|?_;have bd:=bJ;have st1:=bd.fr hi;have st2:=st1.fr hr;refine(fm) st2 fun b4 w1 jG bE aW=>?_;refine(fm) aW fun b5 w2 nh gw ba=>?_;refine(bA) aq ba.b0<|(iu) (ee (k:=k)) ba fun w3 s3 bs=>?_;refine(aZ) (fun g10=>?_) fun g10=>?_
 ·
  have hv:dz (valOf ab x.ad) b k=valOf ab x.ad k:=by unfold dz;rw [if_pos g10]
  refine(bA) aq bs.b0<|(dh) SX (xA (k:=k) hR hk (bs.one (.tail _ (.tail _ (.tail _ (.tail _ (.head _))))))) ?_;rintro _ w4 ⟨rfl,iV⟩;have bj:=bs.Cw M4 iV;refine(cy) ?_;exact⟨by rw [hv],bj.p4.k1⟩
 have hv:dz (valOf ab x.ad) b k=uo b k:=by unfold dz;rw [if_neg (by simp [g10])]
 refine(bA) aP bs.b1<|(bA) aq bs.b0<|(iu) (JH (k:=k) (As.gr bs.g3) (As.gr bs.g2)) bs fun w4 s4 bj=>?_;refine bf ?_;refine(cy) ?_;exact⟨by rw [hv];rfl,bj.p4.k1⟩
theorem px{group:List Key}{bS:Bool}{ag:Option Addr}{g eg:Nat}(bJ:St w M Z w []) (hi:Rd RR.aF 4 Z w a1 n1 e1 x.ad) (hr:Rd RR.fT 8 Z w a2 n2 e2 x.ak) (hg:Rd RR.key 2 Z w ag g eg group) (h6:x.ak.length≤1000000) (h7:x.ad.length≤1000000):Calls prog 98 #[.agg (x.row a1 n1 e1 a2 n2 e2).toArray,.slice ag g eg,.bool bS] w fun e w'=>∃PA PC PD PE PF PG Z',e=.returned (.agg ((dQ x group bS).row PA PC PD PE PF PG).toArray)∧cI w.heap.size Z Z'∧St w M Z' w' [As.os RR.aF 102 4 PA PC PD (dQ x group bS).ad,As.os RR.fT 48 8 PE PF PG (dQ x group bS).ak]:=by
 have Bg:=hi.len;have Nh:=hr.len;refine enter func98 rfl ntmps98 rfl<|?_;have bd:=St.rb bJ;have st1:=bd.fr hi;have st2:=st1.fr hr;have aW:=st2.fr hg;refine(fm) aW fun b3 w1 iO dJ ba=>?_;refine(gy) ba fun b6 w2 mC eE bs=>?_;refine(bA) aP bs.b1<|?_;have bj:=bs;refine(dh) Ed (gK bj.e0 (As.gr bj.g4) (As.gr bj.g3) h6 h7) ?_;rintro _ w3 ⟨f1,f2,f3,f4,f5,f6,Z1,rfl,oL,eN⟩;have bV:=St.lv bj eN oL;have ly:=oL.le bj.size;have KS:=((As.gs bV.g1)).len;refine(dB) fR bV.p3 fun w4 jV j0 bT=>?_;refine(bM) fk bT.b0<|eC ?_;refine WC.cq (σ:=Nat × (List Rec)) (eP:=fun(i,acc)=>[(1,.slice ag g eg),(2,.bool bS),(3,.pointer (some ⟨b3,0,none⟩)),(6,.pointer (some ⟨b6,0,none⟩)),(12,.int .i64 (f5:Int)),(13,.int .i64 (i:Int))]) (F:=fun(i,acc)=>[As.os RR.fT 48 8 f4 f5 f6 acc]) (I:=fun(i,acc)=>(i≤f5)∧(acc=(x.ak.take i).map (cL x.ae group bS)++x.ak.drop i)∧True) (μ:=fun(i,acc)=>f5 - i) (0,x.ak) (bT.p2) Sub.t (⟨by omega,by simp,trivial⟩)<|?_;rintro⟨i,acc⟩ w5 cm ⟨ij,eu,_⟩;simp only [CA,NA] at cm ij eu ⊢
 have td:acc.length=x.ak.length:=by rw [eu];simp;omega
 refine(aZ) (fun g14=>?_) fun g14=>?_
 ·
  simp at g14
  have cT:i<x.ak.length:=by omega
  have Es:=IE (x:=x) (group:=group) (bS:=bS) cT (by omega);rw [← eu] at Es
  have hxa:acc[i]?=some x.ak[i]:=by rw [eu,List.getElem?_append_right (by simp;omega)];simp [Nat.min_eq_left (by omega:i≤x.ak.length)]
  refine bf ?_;obtain⟨iz,jW,aX,gk,bF,cQ⟩:=Ow.at (As.gs cm.g0) (by omega) hxa;obtain⟨q1,q2,q3,rfl,arB,arC⟩:=bF
  have UP:∀y,y=cL x.ae group bS x.ak[i]→acc.set i y=(x.ak.take (i+1)).map (cL x.ae group bS)++x.ak.drop (i+1):=fun y hy=>by rw [hy];exact Es
  refine(bM) fk cm.b1<|nx ?_;refine WP .r (PV.fO kK aX rfl rfl (by omega))<|(kB) aq cQ<|(iu) (oJ (k:=x.ak[i].key) (As.gr cm.g4)) cm fun w6 s6 aM=>?_;refine(aZ) (fun g24=>?_) fun g24=>?_
  ·
   simp at g24
   have sn:acc=(x.ak.take (i+1)).map (cL x.ae group bS)++x.ak.drop (i+1):=by
    rw [← Es]
    have:cL x.ae group bS x.ak[i]=x.ak[i]:=by unfold cL;rw [if_neg g24]
    rw [this]
    apply List.ext_getElem?
    intro j;rw [List.getElem?_set]
    split
    ·
     rename_i e;subst e;rw [hxa];simp;omega
    rfl
   refine kP ?_;refine fJ (i+1,acc) ⟨aM,⟨by omega,sn,trivial⟩⟩
  simp at g24
  refine(aZ) (fun eZ=>?_) fun eZ=>?_
  ·
   have eZ:bS=true:=eZ;subst eZ;have yE:=UP {x.ak[i] with bS:=true} (by unfold cL;rw [if_pos g24];rfl);obtain⟨xX,JI,gp,An,im,lS⟩:=Ow.at (As.gs aM.g0) (by omega) hxa;refine(bM) fk aM.b1<|nx ?_;refine WP .r (PV.fO kK gp rfl rfl (by omega))<|nx ?_;refine WL.go rfl (OX.VG (i:=i) (f:=7) sz4 (As.gs aM.g0) gp hxa (by omega) rfl rfl rfl {x.ak[i] with bS:=true} (fun r _ ⟨a,n,c,h1,h2,h3⟩=>⟨a,n,c,by rw [h1];rfl,h2,h3⟩) fun w7 s7 h7x=>?_);have aO:=aM.jk s7 h7x (fun x h=>.inl h);refine gM ?_;refine fJ (i+1,_) ⟨aO,⟨by omega,yE,trivial⟩⟩
  have eZ:bS=false:=eZ;subst eZ;have yE:=UP {x.ak[i] with ax:=x.ae} (by unfold cL;rw [if_pos g24];rfl);obtain⟨PU,akb,mf,ad3,Lk,UQ⟩:=Ow.at (As.gs aM.g0) (by omega) hxa;refine(bM) fk aM.b1<|(bM) aU aM.b1<|?_;refine WP .r (PV.fO kK mf rfl rfl (by omega))<|nx ?_;refine WL.go rfl (OX.VG (i:=i) (f:=5) QT (As.gs aM.g0) mf hxa (by omega) rfl rfl rfl {x.ak[i] with ax:=x.ae} (fun r _ ⟨a,n,c,h1,h2,h3⟩=>⟨a,n,c,by rw [h1];rfl,h2,h3⟩) fun w7 s8 h8x=>?_);have aO:=aM.jk s8 h8x (fun x h=>.inl h);refine gM ?_;refine fJ (i+1,_) ⟨aO,⟨by omega,yE,trivial⟩⟩
 simp at g14
 have cY:acc=(dQ x group bS).ak:=by rw [eu,List.take_of_length_le (by omega),List.drop_eq_nil_of_le (by omega)];simp [dQ]
 subst cY;refine(bA) aP cm.b1<|(dB) fR cm.p3 fun w6 sC nj aM=>?_;refine(my) aP aM.b0<|?_;exact⟨_,_,_,_,_,_,_,rfl,ly,(St.wk aM.p1.p3.k2)⟩
theorem Hh{s:ES}{E:EA}{sb bb xb:Nat}(hx:cV w xb 88 (E.cells sb bb s)) (hb:KM Key.val w bb s.busy) (hbt:∀k,bX s.busy k=none∨bX s.busy k=some (.bool true)) (hr:Rd RR.fT 8 Z w E.a2 E.n2 E.c2 s.b.ak):CR prog 99 #[.pointer (some ⟨xb,0,none⟩),k.val] w (.bool (fB s k)):=by
 have hbk:(bX s.busy k).getD (.bool false)=.bool (s.on k):=by unfold ES.on;rcases hbt k with h | h <;> rw [h] <;> rfl
 refine enter func99 rfl ntmps99 rfl<|?_;have bd:=St.s0 w;refine(fm) bd fun b3 w1 iO dJ st1=>?_;refine eC ?_;refine WC.fE (t:=20) (v:=.bool (az k || (s.on k && aA k))) st1 ?_<|?_
 ·
  have Au:=st1.cX;refine WC.eJ (m:=8) (E:=dm [(1,fun v _=>v=.bool (az k))]) st1 (bK (⟨fun _ _ _ _ _ _ _ h=>h,trivial⟩)) mixed (by kernel_rfl)<|(iX) aq St.g0<|?_;refine DW.c0 (fun wx hC hF=>fD (k:=k))<|(qe) (fun g9=>?_) (fun g9=>?_)
  ·
   refine(eb) ?_;rintro w2 ⟨fx,st2⟩ ⟨_,_⟩;exact(dp) (by simp only [g9];first | rfl | simp) (st2)
  refine dA ?_;refine DP .r (fun _ hC=>V1 xe (cV.range (hx.ext (St.cg hC.2))) .r)<|(iX) aq St.g0<|(eb)<|?_;rintro w2 ⟨fx,st2⟩ ⟨_,_⟩;refine WP .r (PV.mL eG kS GV (hb.ext (St.cg st2)) (hbk) rfl rfl)<|(ed) (fun g16=>?_) (fun g16=>?_)
  ·
   refine(bA) aq st2.b0<|(iu) (ee (k:=k)) st2 fun w3 s3 aW=>?_;exact(dp) (by simp only [g9,g16];first | rfl | simp) (aW)
  exact(dp) (by simp only [g9,g16];first | rfl | simp) (st2)
 intro w2 st2;refine(aZ) (fun g20=>?_) fun g20=>?_
 ·
  have hv:fB s k=true:=by unfold fB;simp only [Bool.or_eq_true,Bool.and_eq_true] at g20 ⊢;rcases g20 with h | h <;> simp [h]
  refine(cy) ?_;exact⟨by rw [hv],(St.cg st2)⟩
 have hv:fB s k=aJ s.b k:=by unfold fB;simp only [Bool.or_eq_false_iff] at g20;rw [g20.1,g20.2];rfl
 refine dA ?_;have G9:=st2.cX;have JX:=st2.ma;have JY:=st2.size;refine WC.sX (m:=11) [9] (E:=dm [(6,fun v _=>∃f1 f2 f3,v=.tuple #[.agg ((aH s.b.ak k).row f1 f2 f3).toArray,.bool (aB s.b.ak k).isSome]),(10,PB w2.heap.size 48 [.int .i64 0,.string ⟨#[]⟩,.string ⟨#[]⟩,.slice none 0 0,.int .i64 0,.int .i64 0,.int .i64 0,.bool false])]) st2 (bK (⟨fun _ _ _ _ _ _ _ h=>h,⟨fun _ _ _ _ _ _ c h=>PB.st G9 c h,trivial⟩⟩)) mixed (by kernel_rfl) rfl ?_;refine dV ?_;refine DP .r (fun _ hC=>PV.ld1 (j:=3) fk (cV.range (hx.ext (St.cg hC.2))) rfl rfl)<|(iX) aq St.g0<|?_;refine DW.e rfl rfl rfl rfl rfl (fun wx hC hF=>OX.call tC rfl rfl ((fw (k:=k) (hr.ext (St.cg hC.2))).mono ?_))<|?_
 ·
  rintro _ wy ⟨f1,f2,f3,rfl,hy⟩;exact⟨_,rfl,⟨Nat.le_trans hC.1 hy.size,hC.2.step hy⟩,hy.p0,_,rfl,⟨f1,f2,f3,rfl⟩⟩
 rintro _ wz _ ⟨f1,f2,f3,rfl⟩;refine dA ?_;refine DW.e rfl rfl rfl rfl rfl (fun wx hC hF=>OX.alloc tv rfl fun b wy nw hb=>⟨⟨Nat.le_trans hC.1 nw.ext.size,hC.2.step nw.ext⟩,nw.ext.p0,_,rfl,_,rfl,Nat.le_trans hC.1 nw.ge,hb⟩)<|?_;rintro _ wz _ ⟨b5,rfl,_,_⟩;refine(eb) ?_;rintro w3 ⟨ez,aW⟩ ⟨Aw,⟨_,_⟩⟩;have ba:=aW.xN Aw G9 JX JY;refine(dB) iM ba fun w4 jV j0 bs=>?_;refine nx ?_;refine WL.nil (EX.np ?_);refine cS ?_;refine WC.nP (t:=4) (v:=.bool (aJ s.b k)) bs ?_<|?_
 ·
  have UO:=bs.cX;refine WC.dS (m:=9) bs mixed<|(qe) (fun rH=>?_) (fun rH=>?_)
  ·
   refine(kQ) aU St.g0<|dV ?_;refine DP .r (fun _ hC=>PV.ld1 (j:=1) aU (cV.range (hx.ext (St.cg hC.2))) rfl rfl)<|(eb)<|?_;rintro w5 ⟨mr,bj⟩ _;exact(iH) (by unfold aJ;simp only [rH];first | rfl | simp) (bj)
  refine(eb) ?_;rintro w5 ⟨mr,bj⟩ _;exact(iH) (by unfold aJ;simp only [rH];first | rfl | simp) (bj)
 intro w5 bj;refine(cy) ?_;exact⟨by rw [hv],(St.cg bj)⟩
end Go.Rc

