/- Walks over the program, part WK. Conditions: as each theorem says. -/
import Derived.Test.YtpoiojafnnaccaaGreatDoorTFacts
import Derived.Test.YtpoiojafnnaccaaGreatDoorTWH
import Derived.Test.YtpoiojafnnaccaaGreatDoorTBe
import Derived.Test.YtpoiojafnnaccaaGreatDoorTWI
import Derived.Test.YtpoiojafnnaccaaGreatDoorTWF
set_option linter.all false
namespace Go.Rc
open Go Go.Proofs Go.Proofs.Tryz
variable {l:List Rec}{a a1 a2:Option Addr}{n c n1 e1 n2 e2:Nat}{w:World}{M Z:Nat→Prop}{rev:Int}{k:Key}{ab:List aJ}{x b:dT}{D:SD}
set_option maxHeartbeats 400000
set_option maxHeartbeats 1600000 in
theorem vY{l:List Key}{A:Nat→Prop}(bF:St w M Z w []) (MV:Rd RR.key 2 A w a n c l) (hA:∀x,A x→x<w.heap.size→Z x) (h6:l.length≤1000000):Calls prog 44 #[.slice a n c] w fun e w'=>∃a' n' c',e=.returned (.slice a' n' c')∧St w M Z w' [As.os RR.key 58 2 a' n' c' (jZ l)]:=by
 have hl:Rd RR.key 2 Z w a n c l:=SR.mono MV hA fun _ _ h=>h
 have hlen:=hl.len;have hle:=hl.le;refine enter func44 rfl ntmps44 rfl<|?_;have aW:=bF;have st1:=aW.fr hl;have st2:=st1.fc RR.key 58 2;refine bC ?_;refine gp ?_;refine WC.bU (σ:=Nat × (List Key) × (Option Addr) × Nat × Nat) (eI:=fun(i,out,cO,cB,cS)=>[(3,.slice cO cB cS),(7,.slice a n c),(8,.int .i64 (n:Int)),(9,.int .i64 (i:Int))]) (F:=fun(i,out,cO,cB,cS)=>[As.os RR.key 58 2 cO cB cS (out)]) (I:=fun(i,out,cO,cB,cS)=>(i≤n)∧(out=jZ (l.take i))∧True) (μ:=fun(i,out,cO,cB,cS)=>n - i) (0,[],none,0,0) (st2) Sub.t (⟨by omega,rfl,trivial⟩)<|?_;rintro⟨i,out,cO,cB,cS⟩ w1 aP ⟨hi,gX,_⟩;simp only [CA,NA] at aP hi gX ⊢;have l8:=((As.gs aP.g0)).len
 have Vs:out.length≤1000000:=by have:=xo (l.take i);rw [← gX,List.length_take] at this;omega
 refine(br) (fun g10=>?_) fun g10=>?_
 ·
  simp at g10
  have cX:i<l.length:=by omega
  refine ew ?_;obtain⟨gF,js,iU,aT,fl,bz,ck,di⟩:=Rd.at (As.gr aP.g1) cX;have bz:=RR.cL bz;subst bz;have aU:=aP.fg di ck;refine nx ?_;refine WP .r (PV.fC fP aT rfl rfl (by omega))<|(bA) av (As.om aU.g0)<|(fU) aU fun b5 w2 mM gz aY=>?_;refine(dA) jT aY fun w3 jv jC bj=>?_;refine pQ ?_;refine WC.bU (σ:=Nat) (eI:=fun p=>[(3,.slice cO cB cS),(5,.pointer (some ⟨b5,0,none⟩)),(6,.int .i64 (p:Int)),(7,.slice a n c),(8,.int .i64 (n:Int)),(9,.int .i64 (i:Int))]) (F:=fun p=>[]) (I:=fun p=>(p≤out.length)∧(∀q x,q<p→out[q]?=some x→cE x l[i]<0)∧True) (μ:=fun p=>out.length - p) (0) (bj) Sub.t (⟨by omega,fun q x h=>by omega,trivial⟩)<|?_;rintro p w4 bP ⟨hp,ee,_⟩;simp only [CA,NA] at bP hp ee ⊢;have Lj:=((As.gs bP.g2)).len;refine cV ?_;refine WC.fF (t:=25) (v:=.bool (HF out p l[i])) bP ?_<|?_
  ·
   have Sm:=bP.dc;refine WC.dS (m:=10) bP mixed<|(tm) (fun g17=>?_) (fun g17=>?_)
   ·
    simp at g17
    have qZ:p<out.length:=by omega
    have tF:=aq qZ;obtain⟨vV,fO⟩:=Ow.addr (As.gs bP.g2) tF
    have hq:HF out p l[i]=decide (cE out[p] l[i]<0):=by unfold HF;rw [tF]
    refine cV ?_;refine DP .r (fun _ hC=>PV.fC fP fO rfl rfl (by omega))<|DP .r (fun _ hC=>VA av (Ow.rS (As.gs hC.2.g2) (by omega) fO tF) .r)<|(ju) av St.g0<|(eu)<|?_;rintro w5 ⟨pL,bQ⟩ _;refine(gg) (ny (k:=out[p]) (q:=l[i])) bQ fun w6 s6 bV=>?_;exact(dq) (by rw [hq]) (bV)
   simp at g17
   have hq:HF out p l[i]=false:=by unfold HF;rw [List.getElem?_eq_none (by omega)]
   refine(eu) ?_;rintro w5 ⟨pL,bQ⟩ _;exact(dq) (by rw [hq]) (bQ)
  intro w5 bQ;refine(br) (fun fy=>?_) fun fy=>?_
  ·
   have qZ:p<out.length:=by
    rcases Nat.lt_or_ge p out.length with h | h
    ·
     exact h
    unfold HF at fy;rw [List.getElem?_eq_none h] at fy;cases fy
   have W4:cE out[p] l[i]<0:=by unfold HF at fy;rw [aq qZ] at fy;simpa using fy
   refine pQ ?_;refine fx (p+1) ⟨bQ,⟨by omega,dJ (P:=fun _ x=>cE x l[i]<0) qZ ee W4,trivial⟩⟩
  have rK:∀x,out[p]?=some x→0≤cE x l[i]:=fun x hx=>by unfold HF at fy;rw [hx] at fy;simp at fy;omega
  have afs:=SY out l[i] p hp ee rK;refine jx ?_;refine WC.fF (t:=39) (v:=.bool (decide (out[p]?≠some l[i]))) bQ ?_<|?_
  ·
   have hN8:=bQ.dc;refine WC.dS (m:=10) bQ mixed<|(tm) (fun u9=>?_) (fun u9=>?_)
   ·
    simp at u9
    have hq:out[p]?=none:=List.getElem?_eq_none (by omega);refine(eu) ?_;rintro w6 ⟨ru,bV⟩ _;exact(dq) (by first | (rw [hq];rfl) | (rw [tF];simp)) (bV)
   simp at u9
   have qZ:p<out.length:=by omega
   have tF:=aq qZ;obtain⟨Q3,mN⟩:=Ow.addr (As.gs bQ.g2) tF;refine cV ?_;refine DP .r (fun _ hC=>PV.fC fP mN rfl rfl (by omega))<|DP .r (fun _ hC=>VA av (Ow.rS (As.gs hC.2.g2) (by omega) mN tF) .r)<|(ju) av St.g0<|(eu)<|?_;rintro w6 ⟨ru,bV⟩ _;refine WP .r (PV.R0 im (p:=out[p]) (q:=l[i]) rfl rfl)<|?_;exact(dq) (by first | (rw [hq];rfl) | (rw [tF];simp)) (bV)
  intro w6 bV;refine(br) (fun oH=>?_) fun oH=>?_
  ·
   have oH:¬out[p]?=some l[i]:=by simpa using oH
   obtain⟨N,hN⟩:∃N,N=w6.heap.size:=⟨_,rfl⟩;have hzN:=bV.mx;have h0N:=bV.size;have hlN:=bV.dc;have asP:=((As.gs bV.g2)).len;rw [← hN] at hzN h0N hlN;have hN9:=bV.dc;refine WC.Pr (m:=10) (fun j w w'=>match j with | 6=>J6 N 58 (p*2) 2 w w' | _=>bm [] w w') (E:=dx [(3,fun v w'=>∃a c,v=.slice a p c∧(∀x∈aO a,N≤x)∧(p=0→a=none)∧Ow RR.key 58 2 Z w' a p c (out.take p)),(5,fun v w'=>∃b,v=.slice (some ⟨b,0,none⟩) 1 1∧N≤b∧cI w' b 58 l[i].cells),(6,fun v w'=>∃a c,v=.slice a (p+1) c∧(∀x∈aO a,N≤x)∧Ow RR.key 58 2 Z w' a (p+1) c (out.take p++[l[i]]))]) bV (pq (⟨⟨trivial,⟨fun _ _ _ _ _ s ⟨a,c,h1,h2,h3,h4⟩=>⟨a,c,h1,h2,h3,h4.ext s⟩,⟨fun _ _ _ _ _ s ⟨a,c,h1,h2,h3,h4⟩=>⟨a,c,h1,h2,h3,J6.ow s hzN h4⟩,trivial⟩⟩⟩,⟨⟨fun _ _ _ _ _ s ⟨b,h1,h2,h3⟩=>⟨b,h1,h2,h3.ext s⟩,⟨trivial,⟨fun _ _ _ _ _ s ⟨b,h1,h2,h3⟩=>⟨b,h1,h2,J6.blk (l:=l[i].cells) s h3⟩,trivial⟩⟩⟩,⟨⟨trivial,⟨trivial,⟨trivial,trivial⟩⟩⟩,trivial⟩⟩⟩)) mixed (by kernel_rfl)<|cV ?_;refine DP .r (fun _ hC=>PV.Af fP (Ow.rd (As.gs hC.2.g2) (by omega)) rfl rfl (by omega))<|?_;refine DW.e rfl rfl rfl rfl rfl (fun wx hC hF=>OX.ach (N:=N) (Z:=Z) tn rfl rfl rfl (OR.nil 0 wx 58 2 _) (by simp [aO]) (SR.take (i:=p) (Ow.rd (As.gs hC.2.g2) (by omega)) (by omega)) (by omega) (by omega) (by rw [hN];exact hC.1) hzN 0 (fun c h=>absurd rfl h) fun a' c' wy h1 h2 h3 h4 h5=>⟨⟨Nat.le_trans hC.1 h5.size,hC.2.step h5⟩,h5,_,rfl,a',c',by rw [Nat.zero_add],h3,h4,by simpa using h1⟩)<|?_;rintro _ wz _ ⟨a3,c3,rfl,_,_,_⟩;refine(ju) av St.g0<|?_;refine DW.e rfl rfl rfl rfl rfl (fun wx hC hF=>OX.bB (us:=l[i].cells) fS rfl rfl rfl rfl fun b wy nw hb=>⟨⟨Nat.le_trans hC.1 nw.ext.size,hC.2.step nw.ext⟩,nw.ext,_,rfl,b,rfl,by rw [hN];exact Nat.le_trans hC.1 nw.ge,hb⟩)<|?_;rintro _ wz _ ⟨b5x,rfl,_,_⟩
   refine DW.e rfl rfl rfl rfl rfl (fun wx hC hF=>by
    obtain⟨⟨b',dO,eZ,dB⟩,⟨a',c',h1,h2,h3,h4⟩,_⟩:=hF;simp only [Value.slice.injEq,Option.some.injEq,Addr.mk.injEq,and_true,true_and] at dO h1;subst dO;obtain⟨rfl,rfl⟩:=h1;exact OX.ach (N:=N) (Z:=Z) tn rfl rfl rfl h4 h2 (SR.eP (A:=fun _=>True) (x:=l[i]) dB trivial rfl (by simp [Key.cells,Value.oneCell']) rfl) (by omega) (by omega) (by rw [hN];exact hC.1) hzN 2 (fun c h hc=>by have:p≠0:=fun e=>h (h3 e);omega) fun a' c' wy h1 h2 h3 h4 h5=>⟨⟨Nat.le_trans hC.1 h2.size,h2.st hC.2 hlN hzN h0N⟩,h2,_,rfl,a',c',rfl,h3,h1⟩) ?_
   rintro _ wz _ ⟨a6,c6,rfl,_,_⟩;refine cV ?_;refine DP .r (fun _ hC=>PV.Ag fP (Ow.rd (As.gs hC.2.g2) (by omega)) rfl rfl (by omega))<|(eu)<|?_;rintro w7 ⟨Uu,aL⟩ ⟨ZN,⟨_,⟨_,_⟩⟩⟩;obtain⟨_,_,he6,alm,ho6⟩:=ZN;simp only [Value.slice.injEq,true_and] at he6;obtain⟨rfl,rfl⟩:=he6;have aQ:=aL.add (B:=As.os RR.key 58 2 a6 (p+1) c6 (out.take p++[l[i]])) ho6 alm hlN hzN h0N;refine WL.ap rfl rfl aQ (SR.drop (i:=p) (Ow.rd (As.gs aQ.g3) (by omega)) (by omega)) fun a50 aln w8 asS asT aV=>?_;refine cV ?_;have bD:=aV.p3.drop;refine jx ?_;refine fx (i+1,_,a50,((p+1)+(cB - p)),aln) ⟨bD.p1.drop.p1.drop,⟨by omega,by rw [List.take_succ_eq_append_getElem cX,AE,← gX,afs,if_neg oH],trivial⟩⟩
  have oH:out[p]?=some l[i]:=by simpa using oH
  refine gp ?_;refine fx (i+1,_,cO,cB,cS) ⟨bV.drop.drop,⟨by omega,by rw [List.take_succ_eq_append_getElem cX,AE,← gX,afs,if_pos oH],trivial⟩⟩
 simp at g10
 have cx:out=jZ l:=by rw [gX,List.take_of_length_le (by omega)]
 subst cx;refine(cj) ?_;exact⟨_,_,_,rfl,aP.p1.drop⟩
theorem yN(bF:St w M Z w []) (hl:Rd RR.ff 8 Z w a n c l) (h6:l.length≤1000000):Calls prog 154 #[.slice a n c,.int .i64 rev,k.val] w fun e w'=>∃b m Z',e=.returned (.map (some b))∧cQ w.heap.size Z Z'∧kg m (cM l rev k)∧St w M Z' w' [As.map Key.val b m]:=by
 have hlen:=hl.len;have hle:=hl.le;refine enter func154 rfl ntmps154 rfl<|?_;have aW:=bF;have st1:=aW.fr hl;refine(ef) st1 fun b5 w1 mM gz st2=>?_;refine ew ?_;refine WL.mm Key.val st2 fun CB w2 aft asU aP=>?_;refine(bA) av aP.b1<|?_;refine WL.go rfl (OX.bB (us:=k.cells) fS rfl rfl rfl rfl fun tB w3 Q6 Uv=>?_);have aU:=St.xf (R:=RR.key) (E:=58) (k:=2) (a:=some ⟨tB,0,none⟩) (n:=1) (c:=1) (xs:=[k]) aP Q6.ext (OR.eP Uv (Nat.zero_le _) rfl (by simp [Key.cells,Value.oneCell']) rfl) (fun x hx=>by simp [aO] at hx;subst hx;exact Q6.ge);refine mT ?_;refine WC.jY (σ:=Nat × (List Key) × (List (Key × Value)) × (Nat→Prop) × (Option Addr) × Nat × Nat) (eI:=fun(i,ys,mm,Z1,bK,bH,bL)=>[(0,.slice a n c),(1,.int .i64 rev),(7,.map (some CB)),(8,.slice bK bH bL),(9,.int .i64 (i:Int))]) (F:=fun(i,ys,mm,Z1,bK,bH,bL)=>[As.os RR.key 58 2 bK bH bL (k::ys),As.map Key.val CB mm]) (I:=fun(i,ys,mm,Z1,bK,bH,bL)=>(i≤ys.length+1)∧(cQ w.heap.size Z Z1)∧(ys.Nodup)∧(∀x∈ys,cM l rev k x)∧(kg mm (·∈ys))∧(∀(q:Nat) (y:Key),q<i→(k::ys)[q]?=some y→∀x,Ld l rev y x→x∈ys)∧True) (μ:=fun(i,ys,mm,Z1,bK,bH,bL)=>l.length+1 - i) (Zf:=fun(i,ys,mm,Z1,bK,bH,bL)=>Z1) (0,[],[],Z,(some ⟨tB,0,none⟩),1,1) (aU.p1.p1) Sub.t (⟨by simp,cQ.refl _ _,by simp,by simp,kg.nil,fun q y h=>by omega,trivial⟩)<|?_;rintro⟨i,ys,mm,Z1,bK,bH,bL⟩ w4 aY ⟨hi,hZ,rB,jQ,Sl,u6,_⟩;simp only [CA,NA] at aY hi hZ rB jQ Sl u6 ⊢;have l8:=((As.gs aY.g0)).len;rw [List.length_cons] at l8
 have LK:=j0 rB fun x hx=>rU (jQ x hx).jh
 rw [List.length_map] at LK;refine(br) (fun g20=>?_) fun g20=>?_
 ·
  simp at g20
  have cX:i<(k::ys).length:=by simp;omega
  obtain⟨y,hy0⟩:∃y,(k::ys)[i]=y:=⟨_,rfl⟩
  have hy:(k::ys)[i]?=some y:=by rw [aq cX,hy0]
  have alo:y=k∨cM l rev k y:=by
   have:=List.getElem_mem cX
   rw [hy0] at this
   rcases List.mem_cons.1 this with h | h
   ·
    exact .inl h
   exact .inr (jQ y h)
  refine ew ?_;obtain⟨gF,aT⟩:=Ow.addr (As.gs aY.g0) hy;refine dC ?_;refine WP .r (PV.fC fP aT rfl rfl (by omega))<|(bA) av (Ow.rS (As.gs aY.g0) (by simp;omega) aT hy)<|?_;have bj:=aY;refine(cW) vR (mi (k:=y) bj.e0 (As.gr bj.g3)) ?_;rintro _ w5 ⟨f1,f2,f3,rfl,hq4,ic⟩;have bP:=St.lr bj ic;have rK:=St.cH ic;have hsz:=bj.size;have bQ:=bP.bX (by omega);have kZ:=hZ.trans (cQ.fo (F:=fun x=>x∈aO f1) rK) hsz;have hqn:=((As.gr bQ.g0)).len;refine(fU) bQ fun iI w6 lV fN bV=>?_;refine(dA) gJ bV fun w7 jv jC aL=>?_;refine(bO) fA aL.b0<|ew ?_;refine WC.bU (σ:=Nat × (List Key) × (List (Key × Value)) × (Option Addr) × Nat × Nat) (eI:=fun(j,F0,We,bK,bH,bL)=>[(0,.slice a n c),(1,.int .i64 rev),(7,.map (some CB)),(8,.slice bK bH bL),(9,.int .i64 (i:Int)),(33,.slice f1 f2 f3),(34,.int .i64 (f2:Int)),(35,.int .i64 (j:Int))]) (F:=fun(j,F0,We,bK,bH,bL)=>[As.os RR.key 58 2 bK bH bL (k::F0),As.map Key.val CB We]) (I:=fun(j,F0,We,bK,bH,bL)=>(j≤f2)∧(ys <+: F0)∧(F0.Nodup)∧(∀x∈F0,cM l rev k x)∧(kg We (·∈F0))∧(∀q x,q<j→(aG l y).reads[q]?=some x→cY l rev x=true→x∈F0)∧True) (μ:=fun(j,F0,We,bK,bH,bL)=>f2 - j) (0,ys,mm,bK,bH,bL) (aL.p3.p3) Sub.t (⟨by omega,List.prefix_refl _,rB,jQ,Sl,fun q x h=>by omega,trivial⟩)<|?_;rintro⟨j,F0,We,bK,bH,bL⟩ w8 aQ ⟨hj,jq,py,IJ,Q7,yM,_⟩;simp only [CA,NA] at aQ hj jq py IJ Q7 yM ⊢;have Lj:=((As.gs aQ.g0)).len;rw [List.length_cons] at Lj
  have alp:=j0 py fun x hx=>rU (IJ x hx).jh
  rw [List.length_map] at alp;refine(br) (fun ir=>?_) fun ir=>?_
  ·
   simp at ir
   have lF:j<(aG l y).reads.length:=by omega
   obtain⟨x,MK⟩:∃x,(aG l y).reads[j]=x:=⟨_,rfl⟩;have hmx:=Q7.get x (b:=decide (x∈F0)) (by simp);refine ew ?_;obtain⟨vV,Ix,FU,fO,vW,gN,j4,pJ⟩:=Rd.at (As.gr aQ.g3) lF;have gN:=RR.cL gN;subst gN;have aV:=aQ.fg pJ j4;rw [MK] at j4 aV;refine nx ?_;refine WP .r (PV.fC fP fO rfl rfl (by omega))<|(bA) av (As.om aV.g0)<|(fU) aV fun rJ w9 Q8 alq bD=>?_;refine(dA) jT bD fun kN sr nc bp=>?_;refine dy ?_;refine WC.fF (t:=48) (v:=.bool (cY l rev x && !decide (x∈F0))) bp ?_<|?_
   ·
    refine(bA) av bp.b0<|(gg) (BM (k:=x) (As.gr bp.g7)) bp fun kO xN ba=>?_;refine(dW) (fun oE=>?_) (fun oE=>?_)
    ·
     refine(bA) av ba.b0<|?_;refine WP .r (PV.mJ eD kB FJ (As.gm ba.g3) (hmx) rfl rfl)<|?_;exact(dq) (by simp only [oE];first | rfl | simp) (ba)
    exact(dq) (by simp only [oE];first | rfl | simp) (ba)
   intro kO ba;refine(br) (fun o0=>?_) fun o0=>?_
   ·
    simp at o0
    obtain⟨hox,IK⟩:=o0;have U9:Ld l rev y x:=⟨MK ▸ List.getElem_mem lF,hox⟩
    have hxl:cM l rev k x:=by
     rcases alo with rfl | h
     ·
      exact .one U9
     exact .step h U9
    have Uw:(F0++[x]).Nodup:=by rw [List.nodup_append];exact⟨py,by simp,fun a ha b hb=>by simp at hb;subst hb;rintro rfl;exact IK ha⟩
    refine(bA) av ba.b0<|?_;refine WL.go rfl (OX.put eD kB (As.gm ba.g3) rfl rfl rfl fun qW F1 F2=>?_);have aX:=ba.p3.mS F1 F2;refine(bA) av aX.b1<|?_;refine WL.go rfl (OX.bB (us:=x.cells) fS rfl rfl rfl rfl fun b53 uX als alu=>?_);have bN:=aX.fb als alu;refine WL.ap rfl rfl bN.p4 (SR.eP (A:=fun _=>True) (x:=x) (As.gb bN.g0) trivial rfl (by simp [Key.cells,Value.oneCell']) rfl) fun a54 alv zN asV asW bR=>?_;refine kE ?_
    refine fx (j+1,F0++[x],_,a54,(bH+1),alv) ⟨bR.p1.drop.p2.drop.p2.drop,⟨by omega,jq.trans (List.prefix_append _ _),by rw [List.nodup_append];exact⟨py,by simp,fun a ha b hb=>by simp at hb;subst hb;rintro rfl;exact IK ha⟩,fun z hz=>by
       rcases List.mem_append.1 hz with hz | hz
       ·
        exact IJ z hz
       simp at hz;subst hz;exact hxl,Q7.put x,dJ (P:=fun _ z=>cY l rev z=true→z∈F0++[x]) lF (fun q z hq hz ho=>by simp [yM q z hq hz ho]) (fun _=>by simp [← MK]),trivial⟩⟩
   skip
   refine gp ?_;refine fx (j+1,F0,We,bK,bH,bL) ⟨ba.drop.drop,⟨by omega,jq,py,IJ,Q7,dJ (P:=fun _ z=>cY l rev z=true→z∈F0) lF yM (fun ho=>by rw [MK] at ho ⊢;simp [ho] at o0;exact o0),trivial⟩⟩
  simp at ir
  refine rT ?_
  refine fx (i+1,F0,We,_,bK,bH,bL) ⟨aQ.p2.drop.p2.drop,⟨by have:=jq.length_le;show i+1≤F0.length+1;omega,kZ,py,IJ,Q7,fun q z hq hz x hx=>by
     rcases Nat.lt_or_ge q i with h | h
     ·
      have hz2:(k::ys)[q]?=some z:=by
       obtain⟨t,rfl⟩:=jq;rw [← List.cons_append,List.getElem?_append_left (by simp;omega)] at hz;exact hz
      exact jq.subset (u6 q z h hz2 x hx)
     have e:q=i:=by omega
     subst e
     have hz2:some y=some z:=by rw [← hy,← hz];obtain⟨t,rfl⟩:=jq;rw [← List.cons_append,List.getElem?_append_left (by simp;omega)]
     simp at hz2;subst hz2
     obtain⟨j,hj,rfl⟩:=List.mem_iff_getElem.1 hx.1;exact yM j _ (by omega) (aq hj) hx.2,trivial⟩⟩
 simp at g20
 have CQ:=Fi jQ fun y hy x hx=>by
  obtain⟨q,hq,rfl⟩:=List.mem_iff_getElem.1 hy;exact u6 q _ (by simp at hq;omega) (aq hq) x hx
 refine(cj) ?_;exact⟨_,_,_,rfl,hZ,Sl.congr CQ,aY.p1.k1⟩
theorem B4(bF:St w M Z w []) (hl:Rd RR.ff 8 Z w a n c l) (h6:l.length≤100000):Calls prog 114 #[.slice a n c,.int .i64 rev,k.val] w fun e w'=>∃a' n' c' Z',e=.returned (.slice a' n' c')∧cQ w.heap.size Z Z'∧St w M Z' w' [As.os RR.key 58 2 a' n' c' (aF l rev k)]:=by
 have hlen:=hl.len;have hle:=hl.le;refine enter func114 rfl ntmps114 rfl<|?_;have aW:=St.rb bF;have st1:=aW.fr hl;refine(ef) st1 fun b5 w1 mM gz st2=>?_;refine(bA) av st2.b0<|(gg) (BM (k:=k) (As.gr st2.g1)) st2 fun w2 s2 aP=>?_;refine(br) (fun g15=>?_) fun g15=>?_
 ·
  simp at g15
  have hv:aF l rev k=[k]:=by unfold aF;rw [if_neg (by simp [g15])]
  refine(bA) av aP.b0<|?_;refine WL.go rfl (OX.bB (us:=k.cells) fS rfl rfl rfl rfl fun LJ w3 Q9 ZO=>?_);have aU:=St.xf (R:=RR.key) (E:=58) (k:=2) (a:=some ⟨LJ,0,none⟩) (n:=1) (c:=1) (xs:=[k]) aP Q9.ext (OR.eP ZO (Nat.zero_le _) rfl (by simp [Key.cells,Value.oneCell']) rfl) (fun x hx=>by simp [aO] at hx;subst hx;exact Q9.ge);refine(cj) ?_;exact⟨_,_,_,_,rfl,cQ.refl _ _,by rw [hv];exact(St.wk aU.p1.drop.p1.drop)⟩
 simp at g15
 have hv:aF l rev k=jZ (k::lN l rev k l):=by unfold aF;rw [if_pos g15]
 refine(bA) av aP.b0<|?_;refine WL.go rfl (OX.bB (us:=k.cells) fS rfl rfl rfl rfl fun OW w3 Ra ZP=>?_);have aU:=St.xf (R:=RR.key) (E:=58) (k:=2) (a:=some ⟨OW,0,none⟩) (n:=1) (c:=1) (xs:=[k]) aP Ra.ext (OR.eP ZP (Nat.zero_le _) rfl (by simp [Key.cells,Value.oneCell']) rfl) (fun x hx=>by simp [aO] at hx;subst hx;exact Ra.ge);refine(bA) av aU.b1<|?_;have aY:=aU;refine(cW) VY (yN (k:=k) aY.e0 (As.gr aY.g2) (by omega)) ?_;rintro _ w4 ⟨bt,mt,Z1,rfl,oZ,xT,fE⟩;have bj:=St.lv aY fE oZ;have kZ:=oZ.le aY.size;refine bC ?_;refine WC.bU (σ:=Nat × (List Key) × (Option Addr) × Nat × Nat) (eI:=fun(i,acc,lG,j5,mj)=>[(0,.slice a n c),(1,.int .i64 rev),(5,.pointer (some ⟨b5,0,none⟩)),(7,.slice lG j5 mj),(8,.map (some bt)),(24,.slice a n c),(25,.int .i64 (n:Int)),(26,.int .i64 (i:Int))]) (F:=fun(i,acc,lG,j5,mj)=>[As.os RR.key 58 2 lG j5 mj (acc)]) (I:=fun(i,acc,lG,j5,mj)=>(i≤n)∧(acc=k::lN l rev k (l.take i))∧True) (μ:=fun(i,acc,lG,j5,mj)=>n - i) (0,[k],(some ⟨OW,0,none⟩),1,1) (bj.p1) Sub.t (⟨by omega,by simp [lN],trivial⟩)<|?_;rintro⟨i,acc,lG,j5,mj⟩ w5 bP ⟨hi,eJ,_⟩;simp only [CA,NA] at bP hi eJ ⊢;have l8:=((As.gs bP.g0)).len;have OI:=ur l rev k (l.take i)
 have uq:acc.length≤100001:=by rw [eJ,List.length_cons];rw [List.length_take] at OI;omega
 refine(br) (fun CL=>?_) fun CL=>?_
 ·
  simp at CL
  have cX:i<l.length:=by omega
  have BH:=xT.get l[i].key nK;refine ew ?_;obtain⟨gF,js,iU,aT,fl,bz,ck,di⟩:=Rd.at (As.gr bP.g3) cX;obtain⟨q1,q2,q3,rfl,qz,pg⟩:=bz;have bQ:=bP.fg di ck;have bV:=bQ.fr qz;refine nx ?_;refine WP .r (PV.fC jk aT rfl rfl (by omega))<|(bA) dn (As.om bV.g1)<|(fU) bV fun iI w6 lV fN aL=>?_;refine(dA) gJ aL fun w7 jv jC aQ=>?_;refine dy ?_;refine WC.fF (t:=48) (v:=.bool (HG l rev k l[i])) aQ ?_<|?_
  ·
   have hN8:=aQ.dc;have alw:=aQ.mx;have alx:=aQ.size;refine WC.eU (m:=17) (E:=dx [(15,Pw w7.heap.size fun m=>kg m (cM l rev l[i].key))]) aQ (bS (⟨fun _ _ _ _ _ _ c h=>Pw.st hN8 c h,trivial⟩)) mixed (by kernel_rfl)<|(CS) av St.g0<|(ju) av St.g5<|?_;refine DP .r (fun _ hC=>PV.R0 im (p:=l[i].key) (q:=k) rfl rfl)<|(tm) (fun pG=>?_) (fun pG=>?_)
   ·
    refine(CS) av St.g0<|?_;refine DP .r (fun _ hC=>PV.mJ eD kB FJ (As.gm hC.2.g4) (BH) rfl rfl)<|(tm) (fun BG=>?_) (fun BG=>?_)
    ·
     refine(CS) av St.g0<|?_;refine DW.e rfl rfl rfl rfl rfl (fun wx hC hF=>OX.call VY rfl rfl ((yN (k:=l[i].key) (hC.2.e0) (As.gr hC.2.g6) (by omega)).mono ?_))<|?_
     ·
      rintro _ wy ⟨b,m,Z',rfl,hZ',hm,LW⟩;have hy:=LW.cg0;exact⟨_,rfl,⟨Nat.le_trans hC.1 hy.size,hC.2.step hy⟩,hy.p0,_,rfl,b,m,rfl,Nat.le_trans hC.1 (St.cH LW b rfl),As.gm LW.g0,hm⟩
     rintro _ wz _ ⟨b45,_,rfl,_,_,_⟩;refine(ju) av St.g5<|(eu)<|?_;rintro w8 ⟨ru,aV⟩ ⟨aly,_⟩;obtain⟨_,m45,h1,afu,afv,alz⟩:=aly
     simp at h1;subst h1
     have U9:=alz.get k nK;have bD:=aV.add (B:=As.map Key.val b45 m45) afv (fun x hx=>by have h1:x=b45:=hx;subst h1;exact afu) hN8 alw alx;refine WP .r (PV.mJ eD kB FJ (As.gm bD.g0) (U9) rfl rfl)<|?_;exact(dq) (by unfold HG;simp only [pG,BG];first | rfl | simp) (bD.drop)
    refine(eu) ?_;rintro w8 ⟨ru,aV⟩ _;exact(dq) (by unfold HG;simp only [pG,BG];first | rfl | simp) (aV)
   refine(eu) ?_;rintro w8 ⟨ru,aV⟩ _;exact(dq) (by unfold HG;simp only [pG];first | rfl | simp) (aV)
  intro w8 aV;refine(br) (fun o0=>?_) fun o0=>?_
  ·
   refine(kF) av aV.b0<|?_;refine WL.go rfl (OX.bB (us:=l[i].key.cells) fS rfl rfl rfl rfl fun b52 w9 alA alB=>?_);have bD:=aV.fb alA alB;refine WL.ap rfl rfl bD.p4 (SR.eP (A:=fun _=>True) (x:=l[i].key) (As.gb bD.g0) trivial rfl (by simp [Key.cells,Value.oneCell']) rfl) fun a53 alC kN asY asZ bp=>?_;refine kE ?_;refine fx (i+1,_,a53,(j5+1),alC) ⟨bp.p7.p7.p7.p3.k4,⟨by omega,by rw [eJ,yo cX,if_pos o0];rfl,trivial⟩⟩
  refine gp ?_;refine fx (i+1,_,lG,j5,mj) ⟨aV.p6.p6.p6.p6.k4,⟨by omega,by rw [eJ,yo cX,if_neg (by simp [o0])],trivial⟩⟩
 simp at CL
 have cx:acc=k::lN l rev k l:=by rw [eJ,List.take_of_length_le (by omega)]
 subst cx;refine jx ?_;have OI:=ur l rev k l;refine cV ?_;have Ux:=St.fresh bP;have bQ:=bP.bX (by simp;omega);have bV:=bQ;refine(cW) adT (vY bV.e0 (As.gr bV.g0) (fun _ h _=>h) (by simp;omega)) ?_;rintro _ w6 ⟨f1,f2,f3,rfl,mE⟩;have aL:=St.lr bV mE;refine(cj) ?_;exact⟨_,_,_,_,rfl,kZ.trans (cQ.fo (F:=fun x=>x∈aO lG) Ux) (Nat.le_refl _),by rw [hv];exact(St.wk aL.k1)⟩
set_option maxHeartbeats 400000
theorem yO(hR:ay ab) (hk:gH ab k) (bF:St w M Z w [As.mD prog 144 ab x D]):Calls prog 157 #[.pointer (some ⟨D.s,0,none⟩),k.val] w fun e w'=>e=.returned (.string (valOf ab x.ah k))∧St w M Z w' [As.mD prog 144 ab x D]:=by
 obtain⟨ku,hb,⟨ml,hm,hkm⟩,hf⟩:=bF.g0;have h2:St w M Z w (As.blk D.s 144 (D.cells x)::As.map Key.val D.m ml::[]):=St.split bF hb hkm (fun y h=>.inl h) (fun y h=>.inr h) (fun y (h1:y=D.s) (h2:y=D.m)=>ku (h1.symm.trans h2));refine(Oh hR hk _ _ _ _ (St.enter (rest:=[]) h2) hf hm).mono<|?_;rintro e w' ⟨ed,rfl,R7,_,h'⟩;have h3:St w M Z w' (As.blk D.s 144 (D.cells x)::As.map Key.val D.m ed::[]):=St.leave (rest:=[]) (l0:=[_,_]) h2 h' (cQ.refl _ _);refine⟨rfl,h3.join ⟨ku,h3.g0,⟨ed,R7,h3.g1⟩,(D.F prog ab x).st h'.cT.size (fun y hy hl=>h'.cT.block y hl fun⟨A,hA,ha⟩=>h2.pO A hA y ha hy) hf⟩ fun y h=>h⟩
theorem tS(hR:ay ab) (hk:gH ab k) (bF:St w M Z w [As.mD prog 144 ab x D]) (hi:Rd RR.aH 4 Z w a1 n1 e1 b.ah) (hr:Rd RR.ff 8 Z w a2 n2 e2 b.ao):Calls prog 124 #[.pointer (some ⟨D.s,0,none⟩),.agg (b.row a1 n1 e1 a2 n2 e2).toArray,k.val] w fun e w'=>e=.returned (.int .i64 (bT (valOf ab x.ah) b k))∧St w M Z w' [As.mD prog 144 ab x D]:=by
 refine enter func124 rfl ntmps124 rfl<|?_;have aW:=bF;have st1:=aW.fr hi;have st2:=st1.fr hr;refine(ef) st2 fun b4 w1 jE bM aP=>?_;refine(ef) aP fun b5 w2 mM gz aU=>?_;refine(bA) av aU.b0<|(gg) (fM (k:=k)) aU fun w3 s3 aY=>?_;refine(br) (fun g10=>?_) fun g10=>?_
 ·
  skip
  refine(bA) aM aY.b1<|(bA) av aY.b0<|(gg) (Iu (k:=k) (As.gr aY.g3) (As.gr aY.g2)) aY fun w4 s4 bj=>?_;refine(cj) ?_;exact⟨by unfold bT;rw [if_pos g10],bj.p4.k1⟩
 refine(bO) eN aY.b1<|(bA) av aY.b0<|(cW) vR (fI (k:=k) (As.gr aY.g2)) ?_;rintro _ w4 ⟨f1,f2,f3,rfl,s4⟩;have bj:=aY.step s4;refine(fU) bj fun b7 w5 uR oo bP=>?_;refine(dA) gJ bP fun w6 jv jC bQ=>?_;refine ew ?_;refine WC.fF (t:=36) (v:=.bool ((aD b.ao k).isSome && (decide ((aG b.ao k).az=b.ae) || decide (valOf ab x.ah k=(aG b.ao k).value)))) bQ ?_<|?_
 ·
  have Wf:=bQ.dc;refine WC.eU (m:=13) (E:=dx [(10,fun v _=>v=.string (valOf ab x.ah k))]) bQ (bS (⟨fun _ _ _ _ _ _ _ h=>h,trivial⟩)) mixed (by kernel_rfl)<|(tm) (fun g22=>?_) (fun g22=>?_)
  ·
   refine(lX) aZ St.g0<|(lX) aZ St.g2<|(tm) (fun iG=>?_) (fun iG=>?_)
   ·
    refine(eu) ?_;rintro w7 ⟨lB,bV⟩ _;exact(dq) (by simp only [g22,iG];first | rfl | simp) (bV)
   refine(ju) av St.g1<|?_;refine DW.e rfl rfl rfl rfl rfl (fun wx hC hF=>OX.call ME rfl rfl ((yO (k:=k) hR hk (hC.2.one (.tail _ (.tail _ (.tail _ (.tail _ (.tail _ (.head _)))))))).mono ?_))<|?_
   ·
    rintro _ wy ⟨rfl,hy⟩;exact⟨_,rfl,⟨Nat.le_trans hC.1 hy.cT.size,hC.2.D0 M5 hy⟩,hy.cT.mono (fun _ _ hx=>Ma M5 hx),_,rfl,rfl⟩
   rintro _ wz _ rfl;refine(lX) iq St.g0<|(eu)<|?_;rintro w7 ⟨lB,bV⟩ ⟨_,_⟩;exact(dq) (by simp only [g22,iG];first | rfl | simp) (bV)
  refine(eu) ?_;rintro w7 ⟨lB,bV⟩ _;exact(dq) (by simp only [g22];first | rfl | simp) (bV)
 intro w7 bV;refine(br) (fun ir=>?_) fun ir=>?_
 ·
  have hv:bT (valOf ab x.ah) b k=(aG b.ao k).changed:=by unfold bT;rw [if_neg (by simp [g10]),if_pos ir]
  refine(bO) aZ bV.b0<|(cj) ?_;exact⟨by rw [hv],bV.p5.k1⟩
 have hv:bT (valOf ab x.ah) b k=b.ae:=by unfold bT;rw [if_neg (by simp [g10]),if_neg (by simp [ir])]
 refine(bO) aZ bV.b2<|(cj) ?_;exact⟨by rw [hv],bV.p5.k1⟩
theorem Lp(hR:ay ab) (hk:gH ab k) (bF:St w M Z w [As.mD prog 144 ab x D]) (hi:Rd RR.aH 4 Z w a1 n1 e1 b.ah) (hr:Rd RR.ff 8 Z w a2 n2 e2 b.ao):Calls prog 122 #[.pointer (some ⟨D.s,0,none⟩),.agg (b.row a1 n1 e1 a2 n2 e2).toArray,k.val] w fun e w'=>e=.returned (.int .i64 (bT (valOf ab x.ah) b k))∧St w M Z w' [As.mD prog 144 ab x D]:=by
 refine enter func122 rfl ntmps122 rfl<|?_;have aW:=bF;have st1:=aW.fr hi;have st2:=st1.fr hr;refine(ef) st2 fun b4 w1 jE bM aP=>?_;refine(ef) aP fun b5 w2 mM gz aU=>?_;refine(bA) aM aU.b1<|(bA) av aU.b0<|(cW) VU (tS (k:=k) hR hk (aU.one (.tail _ (.tail _ (.tail _ (.tail _ (.head _)))))) (As.gr aU.g3) (As.gr aU.g2)) ?_;rintro _ w3 ⟨rfl,eE⟩;have aY:=aU.D0 M4 eE;refine(cj) ?_;exact⟨rfl,aY.p4.k1⟩
theorem vZ(hR:ay ab) (hk:gH ab k) (bF:St w M Z w [As.mD prog 144 ab x D]) (hi:Rd RR.aH 4 Z w a1 n1 e1 b.ah) (hr:Rd RR.ff 8 Z w a2 n2 e2 b.ao):Calls prog 120 #[.pointer (some ⟨D.s,0,none⟩),.agg (b.row a1 n1 e1 a2 n2 e2).toArray,k.val] w fun e w'=>e=.returned (.string (eM (valOf ab x.ah) b k))∧St w M Z w' [As.mD prog 144 ab x D]:=by
 refine enter func120 rfl ntmps120 rfl<|?_;have aW:=bF;have st1:=aW.fr hi;have st2:=st1.fr hr;refine(ef) st2 fun b4 w1 jE bM aP=>?_;refine(ef) aP fun b5 w2 mM gz aU=>?_;refine(bA) av aU.b0<|(gg) (eA (k:=k)) aU fun w3 s3 aY=>?_;refine(br) (fun g10=>?_) fun g10=>?_
 ·
  have hv:eM (valOf ab x.ah) b k=valOf ab x.ah k:=by unfold eM;rw [if_pos g10]
  refine(bA) av aY.b0<|(cW) ME (yO (k:=k) hR hk (aY.one (.tail _ (.tail _ (.tail _ (.tail _ (.head _))))))) ?_;rintro _ w4 ⟨rfl,fE⟩;have bj:=aY.D0 M4 fE;refine(cj) ?_;exact⟨by rw [hv],bj.p4.k1⟩
 have hv:eM (valOf ab x.ah) b k=mK b k:=by unfold eM;rw [if_neg (by simp [g10])]
 refine(bA) aM aY.b1<|(bA) av aY.b0<|(gg) (Le (k:=k) (As.gr aY.g3) (As.gr aY.g2)) aY fun w4 s4 bj=>?_;refine bC ?_;refine(cj) ?_;exact⟨by rw [hv];rfl,bj.p4.k1⟩
theorem qB{group:List Key}{ct:Bool}{ag:Option Addr}{g eg:Nat}(bF:St w M Z w []) (hi:Rd RR.aH 4 Z w a1 n1 e1 x.ah) (hr:Rd RR.ff 8 Z w a2 n2 e2 x.ao) (hg:Rd RR.key 2 Z w ag g eg group) (h6:x.ao.length≤1000000) (h7:x.ah.length≤1000000):Calls prog 121 #[.agg (x.row a1 n1 e1 a2 n2 e2).toArray,.slice ag g eg,.bool ct] w fun e w'=>∃QM QN QO QP QQ QR Z',e=.returned (.agg ((dZ x group ct).row QM QN QO QP QQ QR).toArray)∧cQ w.heap.size Z Z'∧St w M Z' w' [As.os RR.aH 83 4 QM QN QO (dZ x group ct).ah,As.os RR.ff 60 8 QP QQ QR (dZ x group ct).ao]:=by
 have zI:=hi.len;have J5:=hr.len;refine enter func121 rfl ntmps121 rfl<|?_;have aW:=St.rb bF;have st1:=aW.fr hi;have st2:=st1.fr hr;have aP:=st2.fr hg;refine(ef) aP fun b3 w1 gO dB aU=>?_;refine(fU) aU fun b6 w2 mY eO aY=>?_;refine(bA) aM aY.b1<|?_;have bj:=aY;refine(cW) C4 (gu bj.e0 (As.gr bj.g4) (As.gr bj.g3) h6 h7) ?_;rintro _ w3 ⟨f1,f2,f3,f4,f5,f6,Z1,rfl,oZ,eE⟩;have bP:=St.lv bj eE oZ;have kZ:=oZ.le bj.size;have NK:=((As.gs bP.g1)).len;refine(dA) fL bP.p3 fun w4 jv jC bQ=>?_;refine(bO) eN bQ.b0<|ew ?_;refine WC.bU (σ:=Nat × (List Rec)) (eI:=fun(i,acc)=>[(1,.slice ag g eg),(2,.bool ct),(3,.pointer (some ⟨b3,0,none⟩)),(6,.pointer (some ⟨b6,0,none⟩)),(12,.int .i64 (f5:Int)),(13,.int .i64 (i:Int))]) (F:=fun(i,acc)=>[As.os RR.ff 60 8 f4 f5 f6 acc]) (I:=fun(i,acc)=>(i≤f5)∧(acc=(x.ao.take i).map (cZ x.ae group ct)++x.ao.drop i)∧True) (μ:=fun(i,acc)=>f5 - i) (0,x.ao) (bQ.p2) Sub.t (⟨by omega,by simp,trivial⟩)<|?_;rintro⟨i,acc⟩ w5 bV ⟨gk,eJ,_⟩;simp only [CA,NA] at bV gk eJ ⊢
 have uq:acc.length=x.ao.length:=by rw [eJ];simp;omega
 refine(br) (fun g14=>?_) fun g14=>?_
 ·
  simp at g14
  have cX:i<x.ao.length:=by omega
  have xT:=Kf (x:=x) (group:=group) (ct:=ct) cX (by omega);rw [← eJ] at xT
  have hxa:acc[i]?=some x.ao[i]:=by rw [eJ,List.getElem?_append_right (by simp;omega)];simp [Nat.min_eq_left (by omega:i≤x.ao.length)]
  refine bC ?_;obtain⟨gF,iU,aT,fl,bz,ck⟩:=Ow.at (As.gs bV.g0) (by omega) hxa;obtain⟨q1,q2,q3,rfl,as0,as1⟩:=bz
  have Wg:∀y,y=cZ x.ae group ct x.ao[i]→acc.set i y=(x.ao.take (i+1)).map (cZ x.ae group ct)++x.ao.drop (i+1):=fun y hy=>by rw [hy];exact xT
  refine(bO) eN bV.b1<|nx ?_;refine WP .r (PV.fC jk aT rfl rfl (by omega))<|(kF) av ck<|(gg) (xL (k:=x.ao[i].key) (As.gr bV.g4)) bV fun w6 s6 aL=>?_;refine(br) (fun g24=>?_) fun g24=>?_
  ·
   simp at g24
   have tM:acc=(x.ao.take (i+1)).map (cZ x.ae group ct)++x.ao.drop (i+1):=by
    rw [← xT]
    have:cZ x.ae group ct x.ao[i]=x.ao[i]:=by unfold cZ;rw [if_neg g24]
    rw [this]
    apply List.ext_getElem?
    intro j;rw [List.getElem?_set]
    split
    ·
     rename_i e;subst e;rw [hxa];simp;omega
    rfl
   refine kE ?_;refine fx (i+1,acc) ⟨aL,⟨by omega,tM,trivial⟩⟩
  simp at g24
  refine(br) (fun fy=>?_) fun fy=>?_
  ·
   have fy:ct=true:=fy;subst fy;have zZ:=Wg {x.ao[i] with ct:=true} (by unfold cZ;rw [if_pos g24];rfl);obtain⟨vV,FU,fO,vW,gN,j4⟩:=Ow.at (As.gs aL.g0) (by omega) hxa;refine(bO) eN aL.b1<|nx ?_;refine WP .r (PV.fC jk fO rfl rfl (by omega))<|nx ?_;refine WL.go rfl (OX.SO (i:=i) (f:=7) sz4 (As.gs aL.g0) fO hxa (by omega) rfl rfl rfl {x.ao[i] with ct:=true} (fun r _ ⟨a,n,c,h1,h2,h3⟩=>⟨a,n,c,by rw [h1];rfl,h2,h3⟩) fun w7 s7 h7x=>?_);have aQ:=aL.iY s7 h7x (fun x h=>.inl h);refine gp ?_;refine fx (i+1,_) ⟨aQ,⟨by omega,zZ,trivial⟩⟩
  have fy:ct=false:=fy;subst fy;have zZ:=Wg {x.ao[i] with az:=x.ae} (by unfold cZ;rw [if_pos g24];rfl);obtain⟨Q3,alD,mN,afw,ML,Wh⟩:=Ow.at (As.gs aL.g0) (by omega) hxa;refine(bO) eN aL.b1<|(bO) aZ aL.b1<|?_;refine WP .r (PV.fC jk mN rfl rfl (by omega))<|nx ?_;refine WL.go rfl (OX.SO (i:=i) (f:=5) Sf (As.gs aL.g0) mN hxa (by omega) rfl rfl rfl {x.ao[i] with az:=x.ae} (fun r _ ⟨a,n,c,h1,h2,h3⟩=>⟨a,n,c,by rw [h1];rfl,h2,h3⟩) fun w7 s8 h8x=>?_);have aQ:=aL.iY s8 h8x (fun x h=>.inl h);refine gp ?_;refine fx (i+1,_) ⟨aQ,⟨by omega,zZ,trivial⟩⟩
 simp at g14
 have cx:acc=(dZ x group ct).ao:=by rw [eJ,List.take_of_length_le (by omega),List.drop_eq_nil_of_le (by omega)];simp [dZ]
 subst cx;refine(bA) aM bV.b1<|(dA) fL bV.p3 fun w6 sr nc aL=>?_;refine(mU) aM aL.b0<|?_;exact⟨_,_,_,_,_,_,_,rfl,kZ,(St.wk aL.p1.p3.k2)⟩
theorem IL{s:ES}{E:EA}{sb bb xb:Nat}(hx:cI w xb 101 (E.cells sb bb s)) (hb:KM Key.val w bb s.busy) (hbt:∀k,cq s.busy k=none∨cq s.busy k=some (.bool true)) (hr:Rd RR.ff 8 Z w E.a2 E.n2 E.c2 s.b.ao):CR prog 123 #[.pointer (some ⟨xb,0,none⟩),k.val] w (.bool (fK s k)):=by
 have hbk:(cq s.busy k).getD (.bool false)=.bool (s.on k):=by unfold ES.on;rcases hbt k with h | h <;> rw [h] <;> rfl
 refine enter func123 rfl ntmps123 rfl<|?_;have aW:=St.s0 w;refine(ef) aW fun b3 w1 gO dB st1=>?_;refine ew ?_;refine WC.fF (t:=20) (v:=.bool (aB k || (s.on k && aC k))) st1 ?_<|?_
 ·
  have zo:=st1.dc;refine WC.eU (m:=8) (E:=dx [(1,fun v _=>v=.bool (aB k))]) st1 (bS (⟨fun _ _ _ _ _ _ _ h=>h,trivial⟩)) mixed (by kernel_rfl)<|(ju) av St.g0<|?_;refine DW.c0 (fun wx hC hF=>fM (k:=k))<|(tm) (fun g9=>?_) (fun g9=>?_)
  ·
   refine(eu) ?_;rintro w2 ⟨fh,st2⟩ ⟨_,_⟩;exact(dq) (by simp only [g9];first | rfl | simp) (st2)
  refine dy ?_;refine DP .r (fun _ hC=>V1 yD (cI.range (hx.ext (St.cg hC.2))) .r)<|(ju) av St.g0<|(eu)<|?_;rintro w2 ⟨fh,st2⟩ ⟨_,_⟩;refine WP .r (PV.mJ eD kB FJ (hb.ext (St.cg st2)) (hbk) rfl rfl)<|(dW) (fun g16=>?_) (fun g16=>?_)
  ·
   refine(bA) av st2.b0<|(gg) (eA (k:=k)) st2 fun w3 s3 aP=>?_;exact(dq) (by simp only [g9,g16];first | rfl | simp) (aP)
  exact(dq) (by simp only [g9,g16];first | rfl | simp) (st2)
 intro w2 st2;refine(br) (fun g20=>?_) fun g20=>?_
 ·
  have hv:fK s k=true:=by unfold fK;simp only [Bool.or_eq_true,Bool.and_eq_true] at g20 ⊢;rcases g20 with h | h <;> simp [h]
  refine(cj) ?_;exact⟨by rw [hv],(St.cg st2)⟩
 have hv:fK s k=aK s.b k:=by unfold fK;simp only [Bool.or_eq_false_iff] at g20;rw [g20.1,g20.2];rfl
 refine dy ?_;have Iy:=st2.dc;have Lq:=st2.mx;have Lr:=st2.size;refine WC.uj (m:=11) [9] (E:=dx [(6,fun v _=>∃f1 f2 f3,v=.tuple #[.agg ((aG s.b.ao k).row f1 f2 f3).toArray,.bool (aD s.b.ao k).isSome]),(10,PB w2.heap.size 60 [.int .i64 0,.string ⟨#[]⟩,.string ⟨#[]⟩,.slice none 0 0,.int .i64 0,.int .i64 0,.int .i64 0,.bool false])]) st2 (bS (⟨fun _ _ _ _ _ _ _ h=>h,⟨fun _ _ _ _ _ _ c h=>PB.st Iy c h,trivial⟩⟩)) mixed (by kernel_rfl) rfl ?_;refine dC ?_;refine DP .r (fun _ hC=>PV.ld1 (j:=3) eN (cI.range (hx.ext (St.cg hC.2))) rfl rfl)<|(ju) av St.g0<|?_;refine DW.e rfl rfl rfl rfl rfl (fun wx hC hF=>OX.call vR rfl rfl ((fI (k:=k) (hr.ext (St.cg hC.2))).mono ?_))<|?_
 ·
  rintro _ wy ⟨f1,f2,f3,rfl,hy⟩;exact⟨_,rfl,⟨Nat.le_trans hC.1 hy.size,hC.2.step hy⟩,hy.p0,_,rfl,⟨f1,f2,f3,rfl⟩⟩
 rintro _ wz _ ⟨f1,f2,f3,rfl⟩;refine dy ?_;refine DW.e rfl rfl rfl rfl rfl (fun wx hC hF=>OX.alloc uG rfl fun b wy nw hb=>⟨⟨Nat.le_trans hC.1 nw.ext.size,hC.2.step nw.ext⟩,nw.ext.p0,_,rfl,_,rfl,Nat.le_trans hC.1 nw.ge,hb⟩)<|?_;rintro _ wz _ ⟨b5,rfl,_,_⟩;refine(eu) ?_;rintro w3 ⟨eQ,aP⟩ ⟨B1,⟨_,_⟩⟩;have aU:=aP.y5 B1 Iy Lq Lr;refine(dA) gJ aU fun w4 jv jC aY=>?_;refine nx ?_;refine WL.nil (EX.np ?_);refine cV ?_;refine WC.mC (t:=4) (v:=.bool (aK s.b k)) aY ?_<|?_
 ·
  have Wf:=aY.dc;refine WC.dS (m:=9) aY mixed<|(tm) (fun u9=>?_) (fun u9=>?_)
  ·
   refine(lX) aZ St.g0<|dC ?_;refine DP .r (fun _ hC=>PV.ld1 (j:=1) aZ (cI.range (hx.ext (St.cg hC.2))) rfl rfl)<|(eu)<|?_;rintro w5 ⟨lB,bj⟩ _;exact(iu) (by unfold aK;simp only [u9];first | rfl | simp) (bj)
  refine(eu) ?_;rintro w5 ⟨lB,bj⟩ _;exact(iu) (by unfold aK;simp only [u9];first | rfl | simp) (bj)
 intro w5 bj;refine(cj) ?_;exact⟨by rw [hv],(St.cg bj)⟩
end Go.Rc

