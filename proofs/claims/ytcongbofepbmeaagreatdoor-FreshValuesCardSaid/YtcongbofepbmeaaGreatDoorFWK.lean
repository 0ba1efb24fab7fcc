/- Walks over the program, part WK. Conditions: as each theorem says. -/
import Derived.Test.YtcongbofepbmeaaGreatDoorFFacts
import Derived.Test.YtcongbofepbmeaaGreatDoorFWH
import Derived.Test.YtcongbofepbmeaaGreatDoorFBe
import Derived.Test.YtcongbofepbmeaaGreatDoorFWI
import Derived.Test.YtcongbofepbmeaaGreatDoorFWF
set_option linter.all false
namespace Go.Rc
open Go Go.Proofs Go.Proofs.Tryz
variable {l:List Rec}{a a1 a2:Option Addr}{n c n1 e1 n2 e2:Nat}{w:World}{M Z:Nat→Prop}{rev:Int}{k:Key}{aa:List aA}{x b:cA}{D:SD}
set_option maxHeartbeats 400000
set_option maxHeartbeats 1600000 in
theorem lS{l:List Key}{A:Nat→Prop}(gg:St w M Z w []) (Q8:Rd RR.key 2 A w a n c l) (hA:∀x,A x→x<w.heap.size→Z x) (h6:l.length≤1000000):Calls prog 39 #[.slice a n c] w fun e w'=>∃K n' L,e=.returned (.slice K n' L)∧St w M Z w' [As.os RR.key 29 2 K n' L (jh l)]:=by
 have hl:Rd RR.key 2 Z w a n c l:=SR.mono Q8 hA fun _ _ h=>h
 have hlen:=hl.len;have hle:=hl.le;refine enter func39 rfl ntmps39 rfl<|?_;have aR:=gg;have st1:=aR.fr hl;have st2:=st1.df RR.key 29 2;refine aO ?_;refine eP ?_;refine WC.bd (σ:=Nat × (List Key) × (Option Addr) × Nat × Nat) (dm:=fun(i,out,C,y,G)=>[(3,.slice C y G),(7,.slice a n c),(8,.int .i64 (n:Int)),(9,.int .i64 (i:Int))]) (F:=fun(i,out,C,y,G)=>[As.os RR.key 29 2 C y G (out)]) (I:=fun(i,out,C,y,G)=>(i≤n)∧(out=jh (l.take i))∧True) (μ:=fun(i,out,C,y,G)=>n - i) (0,[],none,0,0) (st2) Sub.t (⟨by omega,rfl,trivial⟩)<|?_;rintro⟨i,out,C,y,G⟩ w1 U ⟨hi,V,_⟩;simp only [CA,NA] at U hi V ⊢;have r7:=((As.gs U.g0)).len
 have W9:out.length≤1000000:=by have:=wV (l.take i);rw [← V,List.length_take] at this;omega
 refine(aN) (fun g10=>?_) fun g10=>?_
 ·
  simp at g10
  have Gt:i<l.length:=by omega
  refine cS ?_;obtain⟨ia,lP,lk,ck,gP,fT,e5,e6⟩:=Rd.at (As.gr U.g1) Gt;have fT:=RR.bN fT;subst fT;have i6:=U.fg e6 e5;refine nx ?_;refine WP .r (PV.ei eI ck rfl rfl (by omega))<|(aT) ak (As.ma i6.g0)<|(ff) i6 fun b5 w2 EV EW jD=>?_;refine(cD) gR jD fun w3 ko ly jC=>?_;refine kQ ?_;refine WC.bd (σ:=Nat) (dm:=fun p=>[(3,.slice C y G),(5,.pointer (some ⟨b5,0,none⟩)),(6,.int .i64 (p:Int)),(7,.slice a n c),(8,.int .i64 (n:Int)),(9,.int .i64 (i:Int))]) (F:=fun p=>[]) (I:=fun p=>(p≤out.length)∧(∀q x,q<p→out[q]?=some x→bp x l[i]<0)∧True) (μ:=fun p=>out.length - p) (0) (jC) Sub.t (⟨by omega,fun q x h=>by omega,trivial⟩)<|?_;rintro p w4 Q ⟨hp,zI,_⟩;simp only [CA,NA] at Q hp zI ⊢;have DF:=((As.gs Q.g2)).len;refine bz ?_;refine WC.cI (t:=25) (v:=.bool (zZ out p l[i])) Q ?_<|?_
  ·
   have IB:=Q.cj;refine WC.dS (m:=10) Q mixed<|(jf) (fun g17=>?_) (fun g17=>?_)
   ·
    simp at g17
    have R:p<out.length:=by omega
    have H:=ai R;obtain⟨nL,fU⟩:=Ow.addr (As.gs Q.g2) H
    have S:zZ out p l[i]=decide (bp out[p] l[i]<0):=by unfold zZ;rw [H]
    refine bz ?_;refine DP .r (fun _ d=>PV.ei eI fU rfl rfl (by omega))<|DP .r (fun _ d=>VA ak (Ow.mb (As.gs d.2.g2) (by omega) fU H) .r)<|(gx) ak St.g0<|(cG)<|?_;rintro w5 ⟨vR,z⟩ _;refine(dH) (jA (k:=out[p]) (q:=l[i])) z fun w6 s6 g=>?_;exact(br) (by rw [S]) (g)
   simp at g17
   have S:zZ out p l[i]=false:=by unfold zZ;rw [List.getElem?_eq_none (by omega)]
   refine(cG) ?_;rintro w5 ⟨vR,z⟩ _;exact(br) (by rw [S]) (z)
  intro w5 z;refine(aN) (fun u=>?_) fun u=>?_
  ·
   have R:p<out.length:=by
    rcases Nat.lt_or_ge p out.length with h | h
    ·
     exact h
    unfold zZ at u;rw [List.getElem?_eq_none h] at u;cases u
   have hcm:bp out[p] l[i]<0:=by unfold zZ at u;rw [ai R] at u;simpa using u
   refine kQ ?_;refine dY (p+1) ⟨z,⟨by omega,bO (P:=fun _ x=>bp x l[i]<0) R zI hcm,trivial⟩⟩
  have Me:∀x,out[p]?=some x→0≤bp x l[i]:=fun x hx=>by unfold zZ at u;rw [hx] at u;simp at u;omega
  have UK:=J1 out l[i] p hp zI Me;refine gw ?_;refine WC.cI (t:=39) (v:=.bool (decide (out[p]?≠some l[i]))) z ?_<|?_
  ·
   have Pu:=z.cj;refine WC.dS (m:=10) z mixed<|(jf) (fun Lo=>?_) (fun Lo=>?_)
   ·
    simp at Lo
    have S:out[p]?=none:=List.getElem?_eq_none (by omega);refine(cG) ?_;rintro w6 ⟨mh,g⟩ _;exact(br) (by first | (rw [S];rfl) | (rw [H];simp)) (g)
   simp at Lo
   have R:p<out.length:=by omega
   have H:=ai R;obtain⟨Ll,n9⟩:=Ow.addr (As.gs z.g2) H;refine bz ?_;refine DP .r (fun _ d=>PV.ei eI n9 rfl rfl (by omega))<|DP .r (fun _ d=>VA ak (Ow.mb (As.gs d.2.g2) (by omega) n9 H) .r)<|(gx) ak St.g0<|(cG)<|?_;rintro w6 ⟨mh,g⟩ _;refine WP .r (PV.Hg ft (p:=out[p]) (q:=l[i]) rfl rfl)<|?_;exact(br) (by first | (rw [S];rfl) | (rw [H];simp)) (g)
  intro w6 g;refine(aN) (fun O=>?_) fun O=>?_
  ·
   have O:¬out[p]?=some l[i]:=by simpa using O
   obtain⟨N,W⟩:∃N,N=w6.heap.size:=⟨_,rfl⟩;have T:=g.j4;have h0N:=g.size;have hlN:=g.cj;have ahP:=((As.gs g.g2)).len;rw [← W] at T h0N hlN;have hN9:=g.cj;refine WC.Hn (m:=10) (fun j w w'=>match j with | 6=>Cr N 29 (p*2) 2 w w' | _=>aQ [] w w') (E:=bK [(3,fun v w'=>∃a c,v=.slice a p c∧(∀x∈aG a,N≤x)∧(p=0→a=none)∧Ow RR.key 29 2 Z w' a p c (out.take p)),(5,fun v w'=>∃b,v=.slice (some ⟨b,0,none⟩) 1 1∧N≤b∧cC w' b 29 l[i].cells),(6,fun v w'=>∃a c,v=.slice a (p+1) c∧(∀x∈aG a,N≤x)∧Ow RR.key 29 2 Z w' a (p+1) c (out.take p++[l[i]]))]) g (kW (⟨⟨trivial,⟨fun _ _ _ _ _ s ⟨a,c,h1,f,o,J⟩=>⟨a,c,h1,f,o,J.ext s⟩,⟨fun _ _ _ _ _ s ⟨a,c,h1,f,o,J⟩=>⟨a,c,h1,f,o,Cr.ow s T J⟩,trivial⟩⟩⟩,⟨⟨fun _ _ _ _ _ s ⟨b,h1,f,o⟩=>⟨b,h1,f,o.ext s⟩,⟨trivial,⟨fun _ _ _ _ _ s ⟨b,h1,f,o⟩=>⟨b,h1,f,Cr.blk (l:=l[i].cells) s o⟩,trivial⟩⟩⟩,⟨⟨trivial,⟨trivial,⟨trivial,trivial⟩⟩⟩,trivial⟩⟩⟩)) mixed (by kernel_rfl)<|bz ?_;refine DP .r (fun _ d=>PV.sQ eI (Ow.rd (As.gs d.2.g2) (by omega)) rfl rfl (by omega))<|?_;refine DW.e rfl rfl rfl rfl rfl (fun wx d hF=>OX.R4 (N:=N) (Z:=Z) mP rfl rfl rfl (OR.nil 0 wx 29 2 _) (by simp [aG]) (SR.take (i:=p) (Ow.rd (As.gs d.2.g2) (by omega)) (by omega)) (by omega) (by omega) (by rw [W];exact d.1) T 0 (fun c h=>absurd rfl h) fun K L wy h1 f o J X=>⟨⟨Nat.le_trans d.1 X.size,d.2.step X⟩,X,_,rfl,K,L,by rw [Nat.zero_add],o,J,by simpa using h1⟩)<|?_;rintro _ wz _ ⟨a3,c3,rfl,_,_,_⟩;refine(gx) ak St.g0<|?_;refine DW.e rfl rfl rfl rfl rfl (fun wx d hF=>OX.aP (us:=l[i].cells) dU rfl rfl rfl rfl fun b wy Y hb=>⟨⟨Nat.le_trans d.1 Y.ext.size,d.2.step Y.ext⟩,Y.ext,_,rfl,b,rfl,by rw [W];exact Nat.le_trans d.1 Y.ge,hb⟩)<|?_;rintro _ wz _ ⟨b5x,rfl,_,_⟩
   refine DW.e rfl rfl rfl rfl rfl (fun wx d hF=>by
    obtain⟨⟨b',B8,B9,xy⟩,⟨K,L,h1,f,o,J⟩,_⟩:=hF;simp only [Value.slice.injEq,Option.some.injEq,Addr.mk.injEq,and_true,true_and] at B8 h1;subst B8;obtain⟨rfl,rfl⟩:=h1;exact OX.R4 (N:=N) (Z:=Z) mP rfl rfl rfl J f (SR.dn (A:=fun _=>True) (x:=l[i]) xy trivial rfl (by simp [Key.cells,Value.oneCell']) rfl) (by omega) (by omega) (by rw [W];exact d.1) T 2 (fun c h hc=>by have:p≠0:=fun e=>h (o e);omega) fun K L wy h1 f o J X=>⟨⟨Nat.le_trans d.1 f.size,f.st d.2 hlN T h0N⟩,f,_,rfl,K,L,rfl,o,h1⟩) ?_
   rintro _ wz _ ⟨a6,c6,rfl,_,_⟩;refine bz ?_;refine DP .r (fun _ d=>PV.xM eI (Ow.rd (As.gs d.2.g2) (by omega)) rfl rfl (by omega))<|(cG)<|?_;rintro w7 ⟨Lp,ef⟩ ⟨PU,⟨_,⟨_,_⟩⟩⟩;obtain⟨_,_,he6,aay,ho6⟩:=PU;simp only [Value.slice.injEq,true_and] at he6;obtain⟨rfl,rfl⟩:=he6;have dw:=ef.add (B:=As.os RR.key 29 2 a6 (p+1) c6 (out.take p++[l[i]])) ho6 aay hlN T h0N;refine WL.ap rfl rfl dw (SR.drop (i:=p) (Ow.rd (As.gs dw.g3) (by omega)) (by omega)) fun a50 aaz w8 ahS ahT dz=>?_;refine bz ?_;have db:=dz.p3.drop;refine gw ?_;refine dY (i+1,_,a50,((p+1)+(y - p)),aaz) ⟨db.p1.drop.p1.drop,⟨by omega,by rw [List.take_succ_eq_append_getElem Gt,tq,← V,UK,if_neg O],trivial⟩⟩
  have O:out[p]?=some l[i]:=by simpa using O
  refine eP ?_;refine dY (i+1,_,C,y,G) ⟨g.drop.drop,⟨by omega,by rw [List.take_succ_eq_append_getElem Gt,tq,← V,UK,if_pos O],trivial⟩⟩
 simp at g10
 have hV:out=jh l:=by rw [V,List.take_of_length_le (by omega)]
 subst hV;refine(bm) ?_;exact⟨_,_,_,rfl,U.p1.drop⟩
theorem rJ(gg:St w M Z w []) (hl:Rd RR.ed 8 Z w a n c l) (h6:l.length≤1000000):Calls prog 576 #[.slice a n c,.int .i64 rev,k.val] w fun e w'=>∃b m Z',e=.returned (.map (some b))∧bA w.heap.size Z Z'∧gG m (cx l rev k)∧St w M Z' w' [As.map Key.val b m]:=by
 have hlen:=hl.len;have hle:=hl.le;refine enter func576 rfl ntmps576 rfl<|?_;have aR:=gg;have st1:=aR.fr hl;refine(dE) st1 fun b5 w1 EV EW st2=>?_;refine cS ?_;refine WL.mm Key.val st2 fun U w2 Lq ahU j5=>?_;refine(aT) ak j5.b1<|?_;refine WL.go rfl (OX.aP (us:=k.cells) dU rfl rfl rfl rfl fun Xi w3 Lr PW=>?_);have i6:=St.vB (R:=RR.key) (E:=29) (k:=2) (a:=some ⟨Xi,0,none⟩) (n:=1) (c:=1) (xs:=[k]) j5 Lr.ext (OR.dn PW (Nat.zero_le _) rfl (by simp [Key.cells,Value.oneCell']) rfl) (fun x s=>by simp [aG] at s;subst s;exact Lr.ge);refine j8 ?_;refine WC.ie (σ:=Nat × (List Key) × (List (Key × Value)) × (Nat→Prop) × (Option Addr) × Nat × Nat) (dm:=fun(i,f,mm,G,o,g,p)=>[(0,.slice a n c),(1,.int .i64 rev),(7,.map (some U)),(8,.slice o g p),(9,.int .i64 (i:Int))]) (F:=fun(i,f,mm,G,o,g,p)=>[As.os RR.key 29 2 o g p (k::f),As.map Key.val U mm]) (I:=fun(i,f,mm,G,o,g,p)=>(i≤f.length+1)∧(bA w.heap.size Z G)∧(f.Nodup)∧(∀x∈f,cx l rev k x)∧(gG mm (·∈f))∧(∀(q:Nat) (y:Key),q<i→(k::f)[q]?=some y→∀x,Ld l rev y x→x∈f)∧True) (μ:=fun(i,f,mm,G,o,g,p)=>l.length+1 - i) (Zf:=fun(i,f,mm,G,o,g,p)=>G) (0,[],[],Z,(some ⟨Xi,0,none⟩),1,1) (i6.p1.p1) Sub.t (⟨by simp,bA.refl _ _,by simp,by simp,gG.nil,fun q y h=>by omega,trivial⟩)<|?_;rintro⟨i,f,mm,G,o,g,p⟩ w4 J ⟨hi,hZ,Fp,L,Jy,Ha,_⟩;simp only [CA,NA] at J hi hZ Fp L Jy Ha ⊢;have r7:=((As.gs J.g0)).len;rw [List.length_cons] at r7
 have hyl:=kA Fp fun x s=>tr (L x s).fK
 rw [List.length_map] at hyl;refine(aN) (fun g20=>?_) fun g20=>?_
 ·
  simp at g20
  have Gt:i<(k::f).length:=by simp;omega
  obtain⟨y,hy0⟩:∃y,(k::f)[i]=y:=⟨_,rfl⟩
  have hy:(k::f)[i]?=some y:=by rw [ai Gt,hy0]
  have aaB:y=k∨cx l rev k y:=by
   have:=List.getElem_mem Gt
   rw [hy0] at this
   rcases List.mem_cons.1 this with h | h
   ·
    exact .inl h
   exact .inr (L y h)
  refine cS ?_;obtain⟨ia,ck⟩:=Ow.addr (As.gs J.g0) hy;refine cX ?_;refine WP .r (PV.ei eI ck rfl rfl (by omega))<|(aT) ak (Ow.mb (As.gs J.g0) (by simp;omega) ck hy)<|?_;have V:=J;refine(bL) kl (iW (k:=y) V.e0 (As.gr V.g3)) ?_;rintro _ w5 ⟨f1,f2,f3,rfl,hq4,pA⟩;have ij:=St.lr V pA;have Me:=St.bB pA;have hsz:=V.size;have ju:=ij.a8 (by omega);have nK:=hZ.trans (bA.dx (F:=fun x=>x∈aG f1) Me) hsz;have Uw:=((As.gr ju.g0)).len;refine(ff) ju fun Rp w6 Gu Gv jc=>?_;refine(cD) gp jc fun w7 ko ly ef=>?_;refine(aU) eZ ef.b0<|cS ?_;refine WC.bd (σ:=Nat × (List Key) × (List (Key × Value)) × (Option Addr) × Nat × Nat) (dm:=fun(j,d,C,o,g,p)=>[(0,.slice a n c),(1,.int .i64 rev),(7,.map (some U)),(8,.slice o g p),(9,.int .i64 (i:Int)),(33,.slice f1 f2 f3),(34,.int .i64 (f2:Int)),(35,.int .i64 (j:Int))]) (F:=fun(j,d,C,o,g,p)=>[As.os RR.key 29 2 o g p (k::d),As.map Key.val U C]) (I:=fun(j,d,C,o,g,p)=>(j≤f2)∧(f <+: d)∧(d.Nodup)∧(∀x∈d,cx l rev k x)∧(gG C (·∈d))∧(∀q x,q<j→(aF l y).reads[q]?=some x→cW l rev x=true→x∈d)∧True) (μ:=fun(j,d,C,o,g,p)=>f2 - j) (0,f,mm,o,g,p) (ef.p3.p3) Sub.t (⟨by omega,List.prefix_refl _,Fp,L,Jy,fun q x h=>by omega,trivial⟩)<|?_;rintro⟨j,d,C,o,g,p⟩ w8 N ⟨hj,H,K,O,Q,W,_⟩;simp only [CA,NA] at N hj H K O Q W ⊢;have DF:=((As.gs N.g0)).len;rw [List.length_cons] at DF
  have aaC:=kA K fun x s=>tr (O x s).fK
  rw [List.length_map] at aaC;refine(aN) (fun g36=>?_) fun g36=>?_
  ·
   simp at g36
   have X:j<(aF l y).reads.length:=by omega
   obtain⟨x,Y⟩:∃x,(aF l y).reads[j]=x:=⟨_,rfl⟩;have hmx:=Q.get x (b:=decide (x∈d)) (by simp);refine cS ?_;obtain⟨nL,DB,Bg,fU,rI,oa,py,mT⟩:=Rd.at (As.gr N.g3) X;have oa:=RR.bN oa;subst oa;have dz:=N.fg mT py;rw [Y] at py dz;refine nx ?_;refine WP .r (PV.ei eI fU rfl rfl (by omega))<|(aT) ak (As.ma dz.g0)<|(ff) dz fun Rq w9 Ls aaF db=>?_;refine(cD) gR db fun jB r8 mr cF=>?_;refine cL ?_;refine WC.cI (t:=48) (v:=.bool (cW l rev x && !decide (x∈d))) cF ?_<|?_
   ·
    refine(aT) ak cF.b0<|(dH) (uD (k:=x) (As.gr cF.g7)) cF fun iV Xc B=>?_;refine(bW) (fun UL=>?_) (fun UL=>?_)
    ·
     refine(aT) ak B.b0<|?_;refine WP .r (PV.oY ec gA yo (As.gm B.g3) (hmx) rfl rfl)<|?_;exact(br) (by simp only [UL];first | rfl | simp) (B)
    exact(br) (by simp only [UL];first | rfl | simp) (B)
   intro iV B;refine(aN) (fun S=>?_) fun S=>?_
   ·
    simp at S
    obtain⟨hox,Gw⟩:=S;have Xj:Ld l rev y x:=⟨Y ▸ List.getElem_mem X,hox⟩
    have hxl:cx l rev k x:=by
     rcases aaB with rfl | h
     ·
      exact .one Xj
     exact .step h Xj
    have ahW:(d++[x]).Nodup:=by rw [List.nodup_append];exact⟨K,by simp,fun a ha b hb=>by simp at hb;subst hb;rintro rfl;exact Gw ha⟩
    refine(aT) ak B.b0<|?_;refine WL.go rfl (OX.put ec gA (As.gm B.g3) rfl rfl rfl fun mu qz qA=>?_);have fJ:=B.p3.jn qz qA;refine(aT) ak fJ.b1<|?_;refine WL.go rfl (OX.aP (us:=x.cells) dU rfl rfl rfl rfl fun b53 oL aaG aaH=>?_);have dW:=fJ.dy aaG aaH;refine WL.ap rfl rfl dW.p4 (SR.dn (A:=fun _=>True) (x:=x) (As.gb dW.g0) trivial rfl (by simp [Key.cells,Value.oneCell']) rfl) fun a54 aaI uL ahX ahY fH=>?_;refine iC ?_
    refine dY (j+1,d++[x],_,a54,(g+1),aaI) ⟨fH.p1.drop.p2.drop.p2.drop,⟨by omega,H.trans (List.prefix_append _ _),by rw [List.nodup_append];exact⟨K,by simp,fun a ha b hb=>by simp at hb;subst hb;rintro rfl;exact Gw ha⟩,fun z u=>by
       rcases List.mem_append.1 u with u | u
       ·
        exact O z u
       simp at u;subst u;exact hxl,Q.put x,bO (P:=fun _ z=>cW l rev z=true→z∈d++[x]) X (fun q z T u ho=>by simp [W q z T u ho]) (fun _=>by simp [← Y]),trivial⟩⟩
   skip
   refine eP ?_;refine dY (j+1,d,C,o,g,p) ⟨B.drop.drop,⟨by omega,H,K,O,Q,bO (P:=fun _ z=>cW l rev z=true→z∈d) X W (fun ho=>by rw [Y] at ho ⊢;simp [ho] at S;exact S),trivial⟩⟩
  simp at g36
  refine o5 ?_
  refine dY (i+1,d,C,_,o,g,p) ⟨N.p2.drop.p2.drop,⟨by have:=H.length_le;show i+1≤d.length+1;omega,nK,K,O,Q,fun q z T u x s=>by
     rcases Nat.lt_or_ge q i with h | h
     ·
      have Xk:(k::f)[q]?=some z:=by
       obtain⟨t,rfl⟩:=H;rw [← List.cons_append,List.getElem?_append_left (by simp;omega)] at u;exact u
      exact H.subset (Ha q z h Xk x s)
     have e:q=i:=by omega
     subst e
     have Xk:some y=some z:=by rw [← hy,← u];obtain⟨t,rfl⟩:=H;rw [← List.cons_append,List.getElem?_append_left (by simp;omega)]
     simp at Xk;subst Xk
     obtain⟨j,hj,rfl⟩:=List.mem_iff_getElem.1 s.1;exact W j _ (by omega) (ai hj) s.2,trivial⟩⟩
 simp at g20
 have PT:=xW L fun y hy x s=>by
  obtain⟨q,T,rfl⟩:=List.mem_iff_getElem.1 hy;exact Ha q _ (by simp at T;omega) (ai T) x s
 refine(bm) ?_;exact⟨_,_,_,rfl,hZ,Jy.congr PT,J.p1.k1⟩
theorem uN(gg:St w M Z w []) (hl:Rd RR.ed 8 Z w a n c l) (h6:l.length≤100000):Calls prog 353 #[.slice a n c,.int .i64 rev,k.val] w fun e w'=>∃X Y c' Z',e=.returned (.slice X Y c')∧bA w.heap.size Z Z'∧St w M Z' w' [As.os RR.key 29 2 X Y c' (aC l rev k)]:=by
 have hlen:=hl.len;have hle:=hl.le;refine enter func353 rfl ntmps353 rfl<|?_;have aR:=St.rb gg;have st1:=aR.fr hl;refine(dE) st1 fun b5 w1 EV EW st2=>?_;refine(aT) ak st2.b0<|(dH) (uD (k:=k) (As.gr st2.g1)) st2 fun w2 s2 H=>?_;refine(aN) (fun g15=>?_) fun g15=>?_
 ·
  simp at g15
  have N:aC l rev k=[k]:=by unfold aC;rw [if_neg (by simp [g15])]
  refine(aT) ak H.b0<|?_;refine WL.go rfl (OX.aP (us:=k.cells) dU rfl rfl rfl rfl fun b17 w3 UM aaJ=>?_);have J:=St.vB (R:=RR.key) (E:=29) (k:=2) (a:=some ⟨b17,0,none⟩) (n:=1) (c:=1) (xs:=[k]) H UM.ext (OR.dn aaJ (Nat.zero_le _) rfl (by simp [Key.cells,Value.oneCell']) rfl) (fun x o=>by simp [aG] at o;subst o;exact UM.ge);refine(bm) ?_;exact⟨_,_,_,_,rfl,bA.refl _ _,by rw [N];exact(St.wk J.p1.drop.p1.drop)⟩
 simp at g15
 have N:aC l rev k=jh (k::iu l rev k l):=by unfold aC;rw [if_pos g15]
 refine(aT) ak H.b0<|?_;refine WL.go rfl (OX.aP (us:=k.cells) dU rfl rfl rfl rfl fun Jz w3 Gx Lt=>?_);have J:=St.vB (R:=RR.key) (E:=29) (k:=2) (a:=some ⟨Jz,0,none⟩) (n:=1) (c:=1) (xs:=[k]) H Gx.ext (OR.dn Lt (Nat.zero_le _) rfl (by simp [Key.cells,Value.oneCell']) rfl) (fun x o=>by simp [aG] at o;subst o;exact Gx.ge);refine(aT) ak J.b1<|?_;have K:=J;refine(bL) MD (rJ (k:=k) K.e0 (As.gr K.g2) (by omega)) ?_;rintro _ w4 ⟨bt,mt,Z1,rfl,y9,hmt,mj⟩;have jC:=St.lv K mj y9;have nK:=y9.le K.size;refine aO ?_;refine WC.bd (σ:=Nat × (List Key) × (Option Addr) × Nat × Nat) (dm:=fun(i,acc,f,g,s)=>[(0,.slice a n c),(1,.int .i64 rev),(5,.pointer (some ⟨b5,0,none⟩)),(7,.slice f g s),(8,.map (some bt)),(24,.slice a n c),(25,.int .i64 (n:Int)),(26,.int .i64 (i:Int))]) (F:=fun(i,acc,f,g,s)=>[As.os RR.key 29 2 f g s (acc)]) (I:=fun(i,acc,f,g,s)=>(i≤n)∧(acc=k::iu l rev k (l.take i))∧True) (μ:=fun(i,acc,f,g,s)=>n - i) (0,[k],(some ⟨Jz,0,none⟩),1,1) (jC.p1) Sub.t (⟨by omega,by simp [iu],trivial⟩)<|?_;rintro⟨i,acc,f,g,s⟩ w5 u ⟨hi,z,_⟩;simp only [CA,NA] at u hi z ⊢;have r7:=((As.gs u.g0)).len;have PX:=ot l rev k (l.take i)
 have vN:acc.length≤100001:=by rw [z,List.length_cons];rw [List.length_take] at PX;omega
 refine(aN) (fun O=>?_) fun O=>?_
 ·
  simp at O
  have P:i<l.length:=by omega
  have hto:=hmt.get l[i].key jO;refine cS ?_;obtain⟨ia,lP,lk,ck,gP,fT,e5,e6⟩:=Rd.at (As.gr u.g3) P;obtain⟨q1,q2,q3,rfl,Gj,Dx⟩:=fT;have Q:=u.fg e6 e5;have y:=Q.fr Gj;refine nx ?_;refine WP .r (PV.ei iy ck rfl rfl (by omega))<|(aT) dA (As.ma y.g1)<|(ff) y fun Rp w6 Gu Gv S=>?_;refine(cD) gp S fun w7 ko ly C=>?_;refine cL ?_;refine WC.cI (t:=48) (v:=.bool (Aa l rev k l[i])) C ?_<|?_
  ·
   have Pu:=C.cj;have aaK:=C.j4;have aaL:=C.size;refine WC.cJ (m:=17) (E:=bK [(15,Hq w7.heap.size fun m=>gG m (cx l rev l[i].key))]) C (aS (⟨fun _ _ _ _ _ _ c h=>Hq.st Pu c h,trivial⟩)) mixed (by kernel_rfl)<|(vE) ak St.g0<|(gx) ak St.g5<|?_;refine DP .r (fun _ j=>PV.Hg ft (p:=l[i].key) (q:=k) rfl rfl)<|(jf) (fun L=>?_) (fun L=>?_)
   ·
    refine(vE) ak St.g0<|?_;refine DP .r (fun _ j=>PV.oY ec gA yo (As.gm j.2.g4) (hto) rfl rfl)<|(jf) (fun T=>?_) (fun T=>?_)
    ·
     refine(vE) ak St.g0<|?_;refine DW.e rfl rfl rfl rfl rfl (fun wx j hF=>OX.call MD rfl rfl ((rJ (k:=l[i].key) (j.2.e0) (As.gr j.2.g6) (by omega)).mono ?_))<|?_
     ·
      rintro _ wy ⟨b,m,Z',rfl,hZ',hm,U⟩;have hy:=U.cg0;exact⟨_,rfl,⟨Nat.le_trans j.1 hy.size,j.2.step hy⟩,hy.p0,_,rfl,b,m,rfl,Nat.le_trans j.1 (St.bB U b rfl),As.gm U.g0,hm⟩
     rintro _ wz _ ⟨Xl,_,rfl,_,_,_⟩;refine(gx) ak St.g5<|(cG)<|?_;rintro V ⟨mh,d⟩ ⟨aaM,_⟩;obtain⟨_,m45,h1,UN,UO,aaN⟩:=aaM
     simp at h1;subst h1
     have Xj:=aaN.get k jO;have G:=d.add (B:=As.map Key.val Xl m45) UO (fun x o=>by have h1:x=Xl:=o;subst h1;exact UN) Pu aaK aaL;refine WP .r (PV.oY ec gA yo (As.gm G.g0) (Xj) rfl rfl)<|?_;exact(br) (by unfold Aa;simp only [L,T];first | rfl | simp) (G.drop)
    refine(cG) ?_;rintro V ⟨mh,d⟩ _;exact(br) (by unfold Aa;simp only [L,T];first | rfl | simp) (d)
   refine(cG) ?_;rintro V ⟨mh,d⟩ _;exact(br) (by unfold Aa;simp only [L];first | rfl | simp) (d)
  intro V d;refine(aN) (fun W=>?_) fun W=>?_
  ·
   refine(il) ak d.b0<|?_;refine WL.go rfl (OX.aP (us:=l[i].key.cells) dU rfl rfl rfl rfl fun b52 w9 aaO aaP=>?_);have G:=d.dy aaO aaP;refine WL.ap rfl rfl G.p4 (SR.dn (A:=fun _=>True) (x:=l[i].key) (As.gb G.g0) trivial rfl (by simp [Key.cells,Value.oneCell']) rfl) fun a53 aaQ jB ah1 ah2 cF=>?_;refine iC ?_;refine dY (i+1,_,a53,(g+1),aaQ) ⟨cF.p7.p7.p7.p3.k4,⟨by omega,by rw [z,rh P,if_pos W];rfl,trivial⟩⟩
  refine eP ?_;refine dY (i+1,_,f,g,s) ⟨d.p6.p6.p6.p6.k4,⟨by omega,by rw [z,rh P,if_neg (by simp [W])],trivial⟩⟩
 simp at O
 have hV:acc=k::iu l rev k l:=by rw [z,List.take_of_length_le (by omega)]
 subst hV;refine gw ?_;have PX:=ot l rev k l;refine bz ?_;have Lu:=St.fresh u;have Q:=u.a8 (by simp;omega);have y:=Q;refine(bL) O8 (lS y.e0 (As.gr y.g0) (fun _ h _=>h) (by simp;omega)) ?_;rintro _ w6 ⟨f1,f2,f3,rfl,IC⟩;have S:=St.lr y IC;refine(bm) ?_;exact⟨_,_,_,_,rfl,nK.trans (bA.dx (F:=fun x=>x∈aG f) Lu) (Nat.le_refl _),by rw [N];exact(St.wk S.k1)⟩
set_option maxHeartbeats 400000
theorem rK(q:aq aa) (hk:eu aa k) (i:St w M Z w [As.ja prog 116 aa x D]):Calls prog 35 #[.pointer (some ⟨D.s,0,none⟩),k.val] w fun e w'=>e=.returned (.string (valOf aa x.ad k))∧St w M Z w' [As.ja prog 116 aa x D]:=by
 obtain⟨j,hb,⟨ml,hm,r⟩,o⟩:=i.g0;have d:St w M Z w (As.blk D.s 116 (D.cells x)::As.map Key.val D.m ml::[]):=St.split i hb r (fun y h=>.inl h) (fun y h=>.inr h) (fun y (h1:y=D.s) (d:y=D.m)=>j (h1.symm.trans d));refine(qy q hk _ _ _ _ (St.enter (rest:=[]) d) o hm).mono<|?_;rintro e w' ⟨p,rfl,t,_,f⟩;have g:St w M Z w' (As.blk D.s 116 (D.cells x)::As.map Key.val D.m p::[]):=St.leave (rest:=[]) (l0:=[_,_]) d f (bA.refl _ _);refine⟨rfl,g.join ⟨j,g.g0,⟨p,t,g.g1⟩,(D.F prog aa x).st f.bT.size (fun y hy hl=>f.bT.block y hl fun⟨A,u,v⟩=>d.oX A u y v hy) o⟩ fun y h=>h⟩
theorem ob(z:aq aa) (hk:eu aa k) (A:St w M Z w [As.ja prog 116 aa x D]) (hi:Rd RR.az 4 Z w a1 n1 e1 b.ad) (hr:Rd RR.ed 8 Z w a2 n2 e2 b.ah):Calls prog 362 #[.pointer (some ⟨D.s,0,none⟩),.agg (b.row a1 n1 e1 a2 n2 e2).toArray,k.val] w fun e w'=>e=.returned (.int .i64 (bR (valOf aa x.ad) b k))∧St w M Z w' [As.ja prog 116 aa x D]:=by
 refine enter func362 rfl ntmps362 rfl<|?_;have aR:=A;have st1:=aR.fr hi;have st2:=st1.fr hr;refine(dE) st2 fun b4 w1 G H B=>?_;refine(dE) B fun b5 w2 I J r=>?_;refine(aT) ak r.b0<|(dH) (de (k:=k)) r fun w3 s3 f=>?_;refine(aN) (fun g10=>?_) fun g10=>?_
 ·
  skip
  refine(aT) aJ f.b1<|(aT) ak f.b0<|(dH) (Be (k:=k) (As.gr f.g3) (As.gr f.g2)) f fun w4 u g=>?_;refine(bm) ?_;exact⟨by unfold bR;rw [if_pos g10],g.p4.k1⟩
 refine(aU) dL f.b1<|(aT) ak f.b0<|(bL) kl (dN (k:=k) (As.gr f.g2)) ?_;rintro _ w4 ⟨f1,f2,f3,rfl,u⟩;have g:=f.step u;refine(ff) g fun K w5 L N C=>?_;refine(cD) gp C fun w6 O P i=>?_;refine cS ?_;refine WC.cI (t:=36) (v:=.bool ((aH b.ah k).isSome && (decide ((aF b.ah k).av=b.ab) || decide (valOf aa x.ad k=(aF b.ah k).value)))) i ?_<|?_
 ·
  have Q:=i.cj;refine WC.cJ (m:=13) (E:=bK [(10,fun v _=>v=.string (valOf aa x.ad k))]) i (aS (⟨fun _ _ _ _ _ _ _ h=>h,trivial⟩)) mixed (by kernel_rfl)<|(jf) (fun g22=>?_) (fun g22=>?_)
  ·
   refine(gT) aK St.g0<|(gT) aK St.g2<|(jf) (fun j=>?_) (fun j=>?_)
   ·
    refine(cG) ?_;rintro w7 ⟨y,d⟩ _;exact(br) (by simp only [g22,j];first | rfl | simp) (d)
   refine(gx) ak St.g1<|?_;refine DW.e rfl rfl rfl rfl rfl (fun R o S=>OX.call Gc rfl rfl ((rK (k:=k) z hk (o.2.one (.tail _ (.tail _ (.tail _ (.tail _ (.tail _ (.head _)))))))).mono ?_))<|?_
   ·
    rintro _ wy ⟨rfl,hy⟩;exact⟨_,rfl,⟨Nat.le_trans o.1 hy.bT.size,o.2.wW M5 hy⟩,hy.bT.mono (fun _ _ F=>Eg M5 F),_,rfl,rfl⟩
   rintro _ T _ rfl;refine(gT) eY St.g0<|(cG)<|?_;rintro w7 ⟨y,d⟩ ⟨_,_⟩;exact(br) (by simp only [g22,j];first | rfl | simp) (d)
  refine(cG) ?_;rintro w7 ⟨y,d⟩ _;exact(br) (by simp only [g22];first | rfl | simp) (d)
 intro w7 d;refine(aN) (fun p=>?_) fun p=>?_
 ·
  have q:bR (valOf aa x.ad) b k=(aF b.ah k).changed:=by unfold bR;rw [if_neg (by simp [g10]),if_pos p]
  refine(aU) aK d.b0<|(bm) ?_;exact⟨by rw [q],d.p5.k1⟩
 have q:bR (valOf aa x.ad) b k=b.ab:=by unfold bR;rw [if_neg (by simp [g10]),if_neg (by simp [p])]
 refine(aU) aK d.b2<|(bm) ?_;exact⟨by rw [q],d.p5.k1⟩
theorem DM(f:aq aa) (hk:eu aa k) (g:St w M Z w [As.ja prog 116 aa x D]) (hi:Rd RR.az 4 Z w a1 n1 e1 b.ad) (hr:Rd RR.ed 8 Z w a2 n2 e2 b.ah):Calls prog 360 #[.pointer (some ⟨D.s,0,none⟩),.agg (b.row a1 n1 e1 a2 n2 e2).toArray,k.val] w fun e w'=>e=.returned (.int .i64 (bR (valOf aa x.ad) b k))∧St w M Z w' [As.ja prog 116 aa x D]:=by
 refine enter func360 rfl ntmps360 rfl<|?_;have aR:=g;have st1:=aR.fr hi;have st2:=st1.fr hr;refine(dE) st2 fun b4 w1 m o h=>?_;refine(dE) h fun b5 w2 p q d=>?_;refine(aT) aJ d.b1<|(aT) ak d.b0<|(bL) MB (ob (k:=k) f hk (d.one (.tail _ (.tail _ (.tail _ (.tail _ (.head _)))))) (As.gr d.g3) (As.gr d.g2)) ?_;rintro _ w3 ⟨rfl,i⟩;have j:=d.wW M4 i;refine(bm) ?_;exact⟨rfl,j.p4.k1⟩
theorem pC(i:aq aa) (hk:eu aa k) (j:St w M Z w [As.ja prog 116 aa x D]) (hi:Rd RR.az 4 Z w a1 n1 e1 b.ad) (hr:Rd RR.ed 8 Z w a2 n2 e2 b.ah):Calls prog 358 #[.pointer (some ⟨D.s,0,none⟩),.agg (b.row a1 n1 e1 a2 n2 e2).toArray,k.val] w fun e w'=>e=.returned (.string (da (valOf aa x.ad) b k))∧St w M Z w' [As.ja prog 116 aa x D]:=by
 refine enter func358 rfl ntmps358 rfl<|?_;have aR:=j;have st1:=aR.fr hi;have st2:=st1.fr hr;refine(dE) st2 fun b4 w1 p q m=>?_;refine(dE) m fun b5 w2 r t h=>?_;refine(aT) ak h.b0<|(dH) (cQ (k:=k)) h fun w3 s3 d=>?_;refine(aN) (fun g10=>?_) fun g10=>?_
 ·
  have f:da (valOf aa x.ad) b k=valOf aa x.ad k:=by unfold da;rw [if_pos g10]
  refine(aT) ak d.b0<|(bL) Gc (rK (k:=k) i hk (d.one (.tail _ (.tail _ (.tail _ (.tail _ (.head _))))))) ?_;rintro _ w4 ⟨rfl,o⟩;have g:=d.wW M4 o;refine(bm) ?_;exact⟨by rw [f],g.p4.k1⟩
 have f:da (valOf aa x.ad) b k=te b k:=by unfold da;rw [if_neg (by simp [g10])]
 refine(aT) aJ d.b1<|(aT) ak d.b0<|(dH) (Dz (k:=k) (As.gr d.g3) (As.gr d.g2)) d fun w4 u g=>?_;refine aO ?_;refine(bm) ?_;exact⟨by rw [f];rfl,g.p4.k1⟩
theorem lT{group:List Key}{bJ:Bool}{u:Option Addr}{g eg:Nat}(U:St w M Z w []) (hi:Rd RR.az 4 Z w a1 n1 e1 x.ad) (hr:Rd RR.ed 8 Z w a2 n2 e2 x.ah) (V:Rd RR.key 2 Z w u g eg group) (W:x.ah.length≤1000000) (X:x.ad.length≤1000000):Calls prog 359 #[.agg (x.row a1 n1 e1 a2 n2 e2).toArray,.slice u g eg,.bool bJ] w fun e w'=>∃E G H J K L Z',e=.returned (.agg ((cE x group bJ).row E G H J K L).toArray)∧bA w.heap.size Z Z'∧St w M Z' w' [As.os RR.az 90 4 E G H (cE x group bJ).ad,As.os RR.ed 34 8 J K L (cE x group bJ).ah]:=by
 have Lv:=hi.len;have GY:=hr.len;refine enter func359 rfl ntmps359 rfl<|?_;have aR:=St.rb U;have st1:=aR.fr hi;have st2:=st1.fr hr;have Y:=st2.fr V;refine(dE) Y fun b3 w1 GS xy i6=>?_;refine(ff) i6 fun b6 w2 Dr Is N=>?_;refine(aT) aJ N.b1<|?_;have q:=N;refine(bL) yt (e7 q.e0 (As.gr q.g4) (As.gr q.g3) W X) ?_;rintro _ w3 ⟨f1,f2,f3,f4,f5,f6,Z1,rfl,O,lQ⟩;have P:=St.lv q lQ O;have nK:=O.le q.size;have Lx:=((As.gs P.g1)).len;refine(cD) eJ P.p3 fun w4 ko ly Q=>?_;refine(aU) dL Q.b0<|cS ?_;refine WC.bd (σ:=Nat × (List Rec)) (dm:=fun(i,acc)=>[(1,.slice u g eg),(2,.bool bJ),(3,.pointer (some ⟨b3,0,none⟩)),(6,.pointer (some ⟨b6,0,none⟩)),(12,.int .i64 (f5:Int)),(13,.int .i64 (i:Int))]) (F:=fun(i,acc)=>[As.os RR.ed 34 8 f4 f5 f6 acc]) (I:=fun(i,acc)=>(i≤f5)∧(acc=(x.ah.take i).map (bC x.ab group bJ)++x.ah.drop i)∧True) (μ:=fun(i,acc)=>f5 - i) (0,x.ah) (Q.p2) Sub.t (⟨by omega,by simp,trivial⟩)<|?_;rintro⟨i,acc⟩ w5 m ⟨hP,s,_⟩;simp only [CA,NA] at m hP s ⊢
 have vN:acc.length=x.ah.length:=by rw [s];simp;omega
 refine(aN) (fun g14=>?_) fun g14=>?_
 ·
  simp at g14
  have Gt:i<x.ah.length:=by omega
  have v:=CB (x:=x) (group:=group) (bJ:=bJ) Gt (by omega);rw [← s] at v
  have p:acc[i]?=some x.ah[i]:=by rw [s,List.getElem?_append_right (by simp;omega)];simp [Nat.min_eq_left (by omega:i≤x.ah.length)]
  refine aO ?_;obtain⟨ia,lk,ck,gP,fT,e5⟩:=Ow.at (As.gs m.g0) (by omega) p;obtain⟨q1,q2,q3,rfl,ah3,ah4⟩:=fT
  have R:∀y,y=bC x.ab group bJ x.ah[i]→acc.set i y=(x.ah.take (i+1)).map (bC x.ab group bJ)++x.ah.drop (i+1):=fun y hy=>by rw [hy];exact v
  refine(aU) dL m.b1<|nx ?_;refine WP .r (PV.ei iy ck rfl rfl (by omega))<|(il) ak e5<|(dH) (qv (k:=x.ah[i].key) (As.gr m.g4)) m fun w6 s6 d=>?_;refine(aN) (fun g24=>?_) fun g24=>?_
  ·
   simp at g24
   have tT:acc=(x.ah.take (i+1)).map (bC x.ab group bJ)++x.ah.drop (i+1):=by
    rw [← v]
    have:bC x.ab group bJ x.ah[i]=x.ah[i]:=by unfold bC;rw [if_neg g24]
    rw [this]
    apply List.ext_getElem?
    intro j;rw [List.getElem?_set]
    split
    ·
     rename_i e;subst e;rw [p];simp;omega
    rfl
   refine iC ?_;refine dY (i+1,acc) ⟨d,⟨by omega,tT,trivial⟩⟩
  simp at g24
  refine(aN) (fun o=>?_) fun o=>?_
  ·
   have o:bJ=true:=o;subst o;have z:=R {x.ah[i] with bJ:=true} (by unfold bC;rw [if_pos g24];rfl);obtain⟨nL,Bg,S,rI,oa,py⟩:=Ow.at (As.gs d.g0) (by omega) p;refine(aU) dL d.b1<|nx ?_;refine WP .r (PV.ei iy S rfl rfl (by omega))<|nx ?_;refine WL.go rfl (OX.NF (i:=i) (f:=7) S8 (As.gs d.g0) S p (by omega) rfl rfl rfl {x.ah[i] with bJ:=true} (fun r _ ⟨a,n,c,h1,A,B⟩=>⟨a,n,c,by rw [h1];rfl,A,B⟩) fun w7 s7 h7x=>?_);have C:=d.fO s7 h7x (fun x h=>.inl h);refine eP ?_;refine dY (i+1,_) ⟨C,⟨by omega,z,trivial⟩⟩
  have o:bJ=false:=o;subst o;have z:=R {x.ah[i] with av:=x.ab} (by unfold bC;rw [if_pos g24];rfl);obtain⟨Ll,aaR,T,UP,E0,MP⟩:=Ow.at (As.gs d.g0) (by omega) p;refine(aU) dL d.b1<|(aU) aK d.b1<|?_;refine WP .r (PV.ei iy T rfl rfl (by omega))<|nx ?_;refine WL.go rfl (OX.NF (i:=i) (f:=5) Jr (As.gs d.g0) T p (by omega) rfl rfl rfl {x.ah[i] with av:=x.ab} (fun r _ ⟨a,n,c,h1,A,B⟩=>⟨a,n,c,by rw [h1];rfl,A,B⟩) fun w7 s8 h8x=>?_);have C:=d.fO s8 h8x (fun x h=>.inl h);refine eP ?_;refine dY (i+1,_) ⟨C,⟨by omega,z,trivial⟩⟩
 simp at g14
 have hV:acc=(cE x group bJ).ah:=by rw [s,List.take_of_length_le (by omega),List.drop_eq_nil_of_le (by omega)];simp [cE]
 subst hV;refine(aT) aJ m.b1<|(cD) eJ m.p3 fun w6 r8 mr d=>?_;refine(ky) aJ d.b0<|?_;exact⟨_,_,_,_,_,_,_,rfl,nK,(St.wk d.p1.p3.k2)⟩
theorem Bt{s:ES}{E:EA}{sb y z:Nat}(i:cC w z 151 (E.cells sb y s)) (hb:KM Key.val w y s.busy) (F:∀k,bq s.busy k=none∨bq s.busy k=some (.bool true)) (hr:Rd RR.ed 8 Z w E.a2 E.n2 E.c2 s.b.ah):CR prog 361 #[.pointer (some ⟨z,0,none⟩),k.val] w (.bool (dQ s k)):=by
 have G:(bq s.busy k).getD (.bool false)=.bool (s.on k):=by unfold ES.on;rcases F k with h | h <;> rw [h] <;> rfl
 refine enter func361 rfl ntmps361 rfl<|?_;have aR:=St.s0 w;refine(dE) aR fun b3 w1 P Q st1=>?_;refine cS ?_;refine WC.cI (t:=20) (v:=.bool (aB k || (s.on k && ax k))) st1 ?_<|?_
 ·
  have R:=st1.cj;refine WC.cJ (m:=8) (E:=bK [(1,fun v _=>v=.bool (aB k))]) st1 (aS (⟨fun _ _ _ _ _ _ _ h=>h,trivial⟩)) mixed (by kernel_rfl)<|(gx) ak St.g0<|?_;refine DW.c0 (fun A d B=>de (k:=k))<|(jf) (fun g9=>?_) (fun g9=>?_)
  ·
   refine(cG) ?_;rintro w2 ⟨H,st2⟩ ⟨_,_⟩;exact(br) (by simp only [g9];first | rfl | simp) (st2)
  refine cL ?_;refine DP .r (fun _ d=>V1 rA (cC.range (i.ext (St.cg d.2))) .r)<|(gx) ak St.g0<|(cG)<|?_;rintro w2 ⟨H,st2⟩ ⟨_,_⟩;refine WP .r (PV.oY ec gA yo (hb.ext (St.cg st2)) (G) rfl rfl)<|(bW) (fun g16=>?_) (fun g16=>?_)
  ·
   refine(aT) ak st2.b0<|(dH) (cQ (k:=k)) st2 fun w3 s3 o=>?_;exact(br) (by simp only [g9,g16];first | rfl | simp) (o)
  exact(br) (by simp only [g9,g16];first | rfl | simp) (st2)
 intro w2 st2;refine(aN) (fun g20=>?_) fun g20=>?_
 ·
  have p:dQ s k=true:=by unfold dQ;simp only [Bool.or_eq_true,Bool.and_eq_true] at g20 ⊢;rcases g20 with h | h <;> simp [h]
  refine(bm) ?_;exact⟨by rw [p],(St.cg st2)⟩
 have p:dQ s k=aM s.b k:=by unfold dQ;simp only [Bool.or_eq_false_iff] at g20;rw [g20.1,g20.2];rfl
 refine cL ?_;have C:=st2.cj;have I:=st2.j4;have J:=st2.size;refine WC.om (m:=11) [9] (E:=bK [(6,fun v _=>∃f1 f2 f3,v=.tuple #[.agg ((aF s.b.ah k).row f1 f2 f3).toArray,.bool (aH s.b.ah k).isSome]),(10,PB w2.heap.size 34 [.int .i64 0,.string ⟨#[]⟩,.string ⟨#[]⟩,.slice none 0 0,.int .i64 0,.int .i64 0,.int .i64 0,.bool false])]) st2 (aS (⟨fun _ _ _ _ _ _ _ h=>h,⟨fun _ _ _ _ _ _ c h=>PB.st C c h,trivial⟩⟩)) mixed (by kernel_rfl) rfl ?_;refine cX ?_;refine DP .r (fun _ d=>PV.ld1 (j:=3) dL (cC.range (i.ext (St.cg d.2))) rfl rfl)<|(gx) ak St.g0<|?_;refine DW.e rfl rfl rfl rfl rfl (fun A d B=>OX.call kl rfl rfl ((dN (k:=k) (hr.ext (St.cg d.2))).mono ?_))<|?_
 ·
  rintro _ wy ⟨f1,f2,f3,rfl,hy⟩;exact⟨_,rfl,⟨Nat.le_trans d.1 hy.size,d.2.step hy⟩,hy.p0,_,rfl,⟨f1,f2,f3,rfl⟩⟩
 rintro _ K _ ⟨f1,f2,f3,rfl⟩;refine cL ?_;refine DW.e rfl rfl rfl rfl rfl (fun A d B=>OX.alloc oG rfl fun b wy g hb=>⟨⟨Nat.le_trans d.1 g.ext.size,d.2.step g.ext⟩,g.ext.p0,_,rfl,_,rfl,Nat.le_trans d.1 g.ge,hb⟩)<|?_;rintro _ K _ ⟨b5,rfl,_,_⟩;refine(cG) ?_;rintro w3 ⟨S,o⟩ ⟨L,⟨_,_⟩⟩;have N:=o.pW L C I J;refine(cD) gp N fun w4 T U q=>?_;refine nx ?_;refine WL.nil (EX.np ?_);refine bz ?_;refine WC.gW (t:=4) (v:=.bool (aM s.b k)) q ?_<|?_
 ·
  have V:=q.cj;refine WC.dS (m:=9) q mixed<|(jf) (fun u=>?_) (fun u=>?_)
  ·
   refine(gT) aK St.g0<|cX ?_;refine DP .r (fun _ d=>PV.ld1 (j:=1) aK (cC.range (i.ext (St.cg d.2))) rfl rfl)<|(cG)<|?_;rintro w5 ⟨O,f⟩ _;exact(eN) (by unfold aM;simp only [u];first | rfl | simp) (f)
  refine(cG) ?_;rintro w5 ⟨O,f⟩ _;exact(eN) (by unfold aM;simp only [u];first | rfl | simp) (f)
 intro w5 f;refine(bm) ?_;exact⟨by rw [p],(St.cg f)⟩
end Go.Rc

