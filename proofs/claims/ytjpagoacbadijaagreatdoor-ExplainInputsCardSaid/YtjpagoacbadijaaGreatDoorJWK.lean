/- Walks over the program, part WK. Conditions: as each theorem says. -/
import Derived.Test.YtjpagoacbadijaaGreatDoorJFacts
import Derived.Test.YtjpagoacbadijaaGreatDoorJWH
import Derived.Test.YtjpagoacbadijaaGreatDoorJBe
import Derived.Test.YtjpagoacbadijaaGreatDoorJWI
import Derived.Test.YtjpagoacbadijaaGreatDoorJWF
set_option linter.all false
namespace Go.Rc
open Go Go.Proofs Go.Proofs.Tryz
variable {l:List Rec}{a a1 a2:Option Addr}{n c n1 e1 n2 e2:Nat}{w:World}{M Z:Nat→Prop}{rev:Int}{k:Key}{aa:List az}{x b:cI}{D:SD}
set_option maxHeartbeats 400000
set_option maxHeartbeats 1600000 in
theorem nG{l:List Key}{A:Nat→Prop}(gq:St w M Z w []) (MT:Rd RR.key 2 A w a n c l) (hA:∀x,A x→x<w.heap.size→Z x) (h6:l.length≤1000000):Calls prog 34 #[.slice a n c] w fun e w'=>∃K n' L,e=.returned (.slice K n' L)∧St w M Z w' [As.os RR.key 39 2 K n' L (iv l)]:=by
 have hl:Rd RR.key 2 Z w a n c l:=SR.mono MT hA fun _ _ h=>h
 have hlen:=hl.len;have hle:=hl.le;refine enter func34 rfl ntmps34 rfl<|?_;have aO:=gq;have st1:=aO.fr hl;have st2:=st1.fY RR.key 39 2;refine aN ?_;refine eL ?_;refine WC.br (σ:=Nat × (List Key) × (Option Addr) × Nat × Nat) (cT:=fun(i,out,C,y,G)=>[(3,.slice C y G),(7,.slice a n c),(8,.int .i64 (n:Int)),(9,.int .i64 (i:Int))]) (F:=fun(i,out,C,y,G)=>[As.os RR.key 39 2 C y G (out)]) (I:=fun(i,out,C,y,G)=>(i≤n)∧(out=iv (l.take i))∧True) (μ:=fun(i,out,C,y,G)=>n - i) (0,[],none,0,0) (st2) Sub.t (⟨by omega,rfl,trivial⟩)<|?_;rintro⟨i,out,C,y,G⟩ w1 U ⟨hi,V,_⟩;simp only [CA,NA] at U hi V ⊢;have sj:=((As.gs U.g0)).len
 have V3:out.length≤1000000:=by have:=tB (l.take i);rw [← V,List.length_take] at this;omega
 refine(aP) (fun g10=>?_) fun g10=>?_
 ·
  simp at g10
  have xY:i<l.length:=by omega
  refine cW ?_;obtain⟨jf,pG,mF,cx,iB,gk,eK,fB⟩:=Rd.at (As.gr U.g1) xY;have gk:=RR.bX gk;subst gk;have iH:=U.fg fB eK;refine nx ?_;refine WP .r (PV.dM dL cx rfl rfl (by omega))<|(bj) ak (As.ll iH.g0)<|(ft) iH fun b5 w2 Nj Lm l5=>?_;refine(dh) gi l5 fun w3 l4 mK ks=>?_;refine px ?_;refine WC.br (σ:=Nat) (cT:=fun p=>[(3,.slice C y G),(5,.pointer (some ⟨b5,0,none⟩)),(6,.int .i64 (p:Int)),(7,.slice a n c),(8,.int .i64 (n:Int)),(9,.int .i64 (i:Int))]) (F:=fun p=>[]) (I:=fun p=>(p≤out.length)∧(∀q x,q<p→out[q]?=some x→bm x l[i]<0)∧True) (μ:=fun p=>out.length - p) (0) (ks) Sub.t (⟨by omega,fun q x h=>by omega,trivial⟩)<|?_;rintro p w4 Q ⟨hp,vY,_⟩;simp only [CA,NA] at Q hp vY ⊢;have Al:=((As.gs Q.g2)).len;refine bP ?_;refine WC.dA (t:=25) (v:=.bool (wX out p l[i])) Q ?_<|?_
  ·
   have LY:=Q.bG;refine WC.dS (m:=10) Q mixed<|(lP) (fun g17=>?_) (fun g17=>?_)
   ·
    simp at g17
    have R:p<out.length:=by omega
    have H:=ae R;obtain⟨oz,hU⟩:=Ow.addr (As.gs Q.g2) H
    have S:wX out p l[i]=decide (bm out[p] l[i]<0):=by unfold wX;rw [H]
    refine bP ?_;refine DP .r (fun _ d=>PV.dM dL hU rfl rfl (by omega))<|DP .r (fun _ d=>VA ak (Ow.tt (As.gs d.2.g2) (by omega) hU H) .r)<|(fk) ak St.g0<|(cy)<|?_;rintro w5 ⟨xZ,z⟩ _;refine(eZ) (jF (k:=out[p]) (q:=l[i])) z fun w6 s6 g=>?_;exact(bW) (by rw [S]) (g)
   simp at g17
   have S:wX out p l[i]=false:=by unfold wX;rw [List.getElem?_eq_none (by omega)]
   refine(cy) ?_;rintro w5 ⟨xZ,z⟩ _;exact(bW) (by rw [S]) (z)
  intro w5 z;refine(aP) (fun u=>?_) fun u=>?_
  ·
   have R:p<out.length:=by
    rcases Nat.lt_or_ge p out.length with h | h
    ·
     exact h
    unfold wX at u;rw [List.getElem?_eq_none h] at u;cases u
   have hcm:bm out[p] l[i]<0:=by unfold wX at u;rw [ae R] at u;simpa using u
   refine px ?_;refine dX (p+1) ⟨z,⟨by omega,cn (P:=fun _ x=>bm x l[i]<0) R vY hcm,trivial⟩⟩
  have J2:∀x,out[p]?=some x→0≤bm x l[i]:=fun x hx=>by unfold wX at u;rw [hx] at u;simp at u;omega
  have Q1:=GA out l[i] p hp vY J2;refine fZ ?_;refine WC.dA (t:=39) (v:=.bool (decide (out[p]?≠some l[i]))) z ?_<|?_
  ·
   have Nk:=z.bG;refine WC.dS (m:=10) z mixed<|(lP) (fun WY=>?_) (fun WY=>?_)
   ·
    simp at WY
    have S:out[p]?=none:=List.getElem?_eq_none (by omega);refine(cy) ?_;rintro w6 ⟨xP,g⟩ _;exact(bW) (by first | (rw [S];rfl) | (rw [H];simp)) (g)
   simp at WY
   have R:p<out.length:=by omega
   have H:=ae R;obtain⟨CL,iC⟩:=Ow.addr (As.gs z.g2) H;refine bP ?_;refine DP .r (fun _ d=>PV.dM dL iC rfl rfl (by omega))<|DP .r (fun _ d=>VA ak (Ow.tt (As.gs d.2.g2) (by omega) iC H) .r)<|(fk) ak St.g0<|(cy)<|?_;rintro w6 ⟨xP,g⟩ _;refine WP .r (PV.FX ek (p:=out[p]) (q:=l[i]) rfl rfl)<|?_;exact(bW) (by first | (rw [S];rfl) | (rw [H];simp)) (g)
  intro w6 g;refine(aP) (fun O=>?_) fun O=>?_
  ·
   have O:¬out[p]?=some l[i]:=by simpa using O
   obtain⟨N,W⟩:∃N,N=w6.heap.size:=⟨_,rfl⟩;have T:=g.hV;have WZ:=g.size;have W0:=g.bG;have ael:=((As.gs g.g2)).len;rw [← W] at T WZ W0;have hN9:=g.bG;refine WC.DD (m:=10) (fun j w w'=>match j with | 6=>yX N 39 (p*2) 2 w w' | _=>aJ [] w w') (E:=bS [(3,fun v w'=>∃a c,v=.slice a p c∧(∀x∈bl a,N≤x)∧(p=0→a=none)∧Ow RR.key 39 2 Z w' a p c (out.take p)),(5,fun v w'=>∃b,v=.slice (some ⟨b,0,none⟩) 1 1∧N≤b∧bN w' b 39 l[i].cells),(6,fun v w'=>∃a c,v=.slice a (p+1) c∧(∀x∈bl a,N≤x)∧Ow RR.key 39 2 Z w' a (p+1) c (out.take p++[l[i]]))]) g (jr (⟨⟨trivial,⟨fun _ _ _ _ _ s ⟨a,c,h1,f,o,J⟩=>⟨a,c,h1,f,o,J.ext s⟩,⟨fun _ _ _ _ _ s ⟨a,c,h1,f,o,J⟩=>⟨a,c,h1,f,o,yX.ow s T J⟩,trivial⟩⟩⟩,⟨⟨fun _ _ _ _ _ s ⟨b,h1,f,o⟩=>⟨b,h1,f,o.ext s⟩,⟨trivial,⟨fun _ _ _ _ _ s ⟨b,h1,f,o⟩=>⟨b,h1,f,yX.blk (l:=l[i].cells) s o⟩,trivial⟩⟩⟩,⟨⟨trivial,⟨trivial,⟨trivial,trivial⟩⟩⟩,trivial⟩⟩⟩)) mixed (by kernel_rfl)<|bP ?_;refine DP .r (fun _ d=>PV.yU dL (Ow.rd (As.gs d.2.g2) (by omega)) rfl rfl (by omega))<|?_;refine DW.e rfl rfl rfl rfl rfl (fun wx d hF=>OX.N0 (N:=N) (Z:=Z) qY rfl rfl rfl (OR.nil 0 wx 39 2 _) (by simp [bl]) (SR.take (i:=p) (Ow.rd (As.gs d.2.g2) (by omega)) (by omega)) (by omega) (by omega) (by rw [W];exact d.1) T 0 (fun c h=>absurd rfl h) fun K L wy h1 f o J X=>⟨⟨Nat.le_trans d.1 X.size,d.2.step X⟩,X,_,rfl,K,L,by rw [Nat.zero_add],o,J,by simpa using h1⟩)<|?_;rintro _ wz _ ⟨a3,c3,rfl,_,_,_⟩;refine(fk) ak St.g0<|?_;refine DW.e rfl rfl rfl rfl rfl (fun wx d hF=>OX.aL (us:=l[i].cells) dc rfl rfl rfl rfl fun b wy Y hb=>⟨⟨Nat.le_trans d.1 Y.ext.size,d.2.step Y.ext⟩,Y.ext,_,rfl,b,rfl,by rw [W];exact Nat.le_trans d.1 Y.ge,hb⟩)<|?_;rintro _ wz _ ⟨b5x,rfl,_,_⟩
   refine DW.e rfl rfl rfl rfl rfl (fun wx d hF=>by
    obtain⟨⟨b',F3,E1,vh⟩,⟨K,L,h1,f,o,J⟩,_⟩:=hF;simp only [Value.slice.injEq,Option.some.injEq,Addr.mk.injEq,and_true,true_and] at F3 h1;subst F3;obtain⟨rfl,rfl⟩:=h1;exact OX.N0 (N:=N) (Z:=Z) qY rfl rfl rfl J f (SR.cV (A:=fun _=>True) (x:=l[i]) vh trivial rfl (by simp [Key.cells,Value.oneCell']) rfl) (by omega) (by omega) (by rw [W];exact d.1) T 2 (fun c h hc=>by have:p≠0:=fun e=>h (o e);omega) fun K L wy h1 f o J X=>⟨⟨Nat.le_trans d.1 f.size,f.st d.2 W0 T WZ⟩,f,_,rfl,K,L,rfl,o,h1⟩) ?_
   rintro _ wz _ ⟨a6,c6,rfl,_,_⟩;refine bP ?_;refine DP .r (fun _ d=>PV.Dx dL (Ow.rd (As.gs d.2.g2) (by omega)) rfl rfl (by omega))<|(cy)<|?_;rintro w7 ⟨LZ,dY⟩ ⟨L0,⟨_,⟨_,_⟩⟩⟩;obtain⟨_,_,he6,W1,ho6⟩:=L0;simp only [Value.slice.injEq,true_and] at he6;obtain⟨rfl,rfl⟩:=he6;have eu:=dY.add (B:=As.os RR.key 39 2 a6 (p+1) c6 (out.take p++[l[i]])) ho6 W1 W0 T WZ;refine WL.ap rfl rfl eu (SR.drop (i:=p) (Ow.rd (As.gs eu.g3) (by omega)) (by omega)) fun a50 W2 w8 aeo aep cQ=>?_;refine bP ?_;have df:=cQ.p3.drop;refine fZ ?_;refine dX (i+1,_,a50,((p+1)+(y - p)),W2) ⟨df.p1.drop.p1.drop,⟨by omega,by rw [List.take_succ_eq_append_getElem xY,qA,← V,Q1,if_neg O],trivial⟩⟩
  have O:out[p]?=some l[i]:=by simpa using O
  refine eL ?_;refine dX (i+1,_,C,y,G) ⟨g.drop.drop,⟨by omega,by rw [List.take_succ_eq_append_getElem xY,qA,← V,Q1,if_pos O],trivial⟩⟩
 simp at g10
 have mn:out=iv l:=by rw [V,List.take_of_length_le (by omega)]
 subst mn;refine(bF) ?_;exact⟨_,_,_,rfl,U.p1.drop⟩
theorem pe(gq:St w M Z w []) (hl:Rd RR.e8 8 Z w a n c l) (h6:l.length≤1000000):Calls prog 37 #[.slice a n c,.int .i64 rev,k.val] w fun e w'=>∃b m Z',e=.returned (.map (some b))∧dV w.heap.size Z Z'∧fJ m (bu l rev k)∧St w M Z' w' [As.map Key.val b m]:=by
 have hlen:=hl.len;have hle:=hl.le;refine enter func37 rfl ntmps37 rfl<|?_;have aO:=gq;have st1:=aO.fr hl;refine(dr) st1 fun b5 w1 Nj Lm st2=>?_;refine cW ?_;refine WL.mm Key.val st2 fun U w2 W3 aeq jg=>?_;refine(bj) ak jg.b1<|?_;refine WL.go rfl (OX.aL (us:=k.cells) dc rfl rfl rfl rfl fun Nq w3 Fm HS=>?_);have iH:=St.lE (R:=RR.key) (E:=39) (k:=2) (a:=some ⟨Nq,0,none⟩) (n:=1) (c:=1) (xs:=[k]) jg Fm.ext (OR.cV HS (Nat.zero_le _) rfl (by simp [Key.cells,Value.oneCell']) rfl) (fun x s=>by simp [bl] at s;subst s;exact Fm.ge);refine mo ?_;refine WC.jv (σ:=Nat × (List Key) × (List (Key × Value)) × (Nat→Prop) × (Option Addr) × Nat × Nat) (cT:=fun(i,f,mm,G,o,g,p)=>[(0,.slice a n c),(1,.int .i64 rev),(7,.map (some U)),(8,.slice o g p),(9,.int .i64 (i:Int))]) (F:=fun(i,f,mm,G,o,g,p)=>[As.os RR.key 39 2 o g p (k::f),As.map Key.val U mm]) (I:=fun(i,f,mm,G,o,g,p)=>(i≤f.length+1)∧(dV w.heap.size Z G)∧(f.Nodup)∧(∀x∈f,bu l rev k x)∧(fJ mm (·∈f))∧(∀(q:Nat) (y:Key),q<i→(k::f)[q]?=some y→∀x,Ld l rev y x→x∈f)∧True) (μ:=fun(i,f,mm,G,o,g,p)=>l.length+1 - i) (Zf:=fun(i,f,mm,G,o,g,p)=>G) (0,[],[],Z,(some ⟨Nq,0,none⟩),1,1) (iH.p1.p1) Sub.t (⟨by simp,dV.refl _ _,by simp,by simp,fJ.nil,fun q y h=>by omega,trivial⟩)<|?_;rintro⟨i,f,mm,G,o,g,p⟩ w4 J ⟨hi,hZ,yY,L,F9,BN,_⟩;simp only [CA,NA] at J hi hZ yY L F9 BN ⊢;have sj:=((As.gs J.g0)).len;rw [List.length_cons] at sj
 have hyl:=eM yY fun x s=>kL (L x s).eQ
 rw [List.length_map] at hyl;refine(aP) (fun g20=>?_) fun g20=>?_
 ·
  simp at g20
  have xY:i<(k::f).length:=by simp;omega
  obtain⟨y,hy0⟩:∃y,(k::f)[i]=y:=⟨_,rfl⟩
  have hy:(k::f)[i]?=some y:=by rw [ae xY,hy0]
  have W4:y=k∨bu l rev k y:=by
   have:=List.getElem_mem xY
   rw [hy0] at this
   rcases List.mem_cons.1 this with h | h
   ·
    exact .inl h
   exact .inr (L y h)
  refine cW ?_;obtain⟨jf,cx⟩:=Ow.addr (As.gs J.g0) hy;refine cB ?_;refine WP .r (PV.dM dL cx rfl rfl (by omega))<|(bj) ak (Ow.tt (As.gs J.g0) (by simp;omega) cx hy)<|?_;have V:=J;refine(cA) ov (iV (k:=y) V.e0 (As.gr V.g3)) ?_;rintro _ w5 ⟨f1,f2,f3,rfl,Tj,pK⟩;have jn:=St.lr V pK;have J2:=St.dw pK;have hsz:=V.size;have ji:=jn.dZ (by omega);have uh:=hZ.trans (dV.nR (F:=fun x=>x∈bl f1) J2) hsz;have Wc:=((As.gr ji.g0)).len;refine(ft) ji fun L4 w6 x3 x4 kz=>?_;refine(dh) fA kz fun w7 l4 mK dY=>?_;refine(bp) gw dY.b0<|cW ?_;refine WC.br (σ:=Nat × (List Key) × (List (Key × Value)) × (Option Addr) × Nat × Nat) (cT:=fun(j,d,C,o,g,p)=>[(0,.slice a n c),(1,.int .i64 rev),(7,.map (some U)),(8,.slice o g p),(9,.int .i64 (i:Int)),(33,.slice f1 f2 f3),(34,.int .i64 (f2:Int)),(35,.int .i64 (j:Int))]) (F:=fun(j,d,C,o,g,p)=>[As.os RR.key 39 2 o g p (k::d),As.map Key.val U C]) (I:=fun(j,d,C,o,g,p)=>(j≤f2)∧(f <+: d)∧(d.Nodup)∧(∀x∈d,bu l rev k x)∧(fJ C (·∈d))∧(∀q x,q<j→(aD l y).reads[q]?=some x→bD l rev x=true→x∈d)∧True) (μ:=fun(j,d,C,o,g,p)=>f2 - j) (0,f,mm,o,g,p) (dY.p3.p3) Sub.t (⟨by omega,List.prefix_refl _,yY,L,F9,fun q x h=>by omega,trivial⟩)<|?_;rintro⟨j,d,C,o,g,p⟩ w8 N ⟨hj,H,K,O,Q,W,_⟩;simp only [CA,NA] at N hj H K O Q W ⊢;have Al:=((As.gs N.g0)).len;rw [List.length_cons] at Al
  have W5:=eM K fun x s=>kL (O x s).eQ
  rw [List.length_map] at W5;refine(aP) (fun W6=>?_) fun W6=>?_
  ·
   simp at W6
   have X:j<(aD l y).reads.length:=by omega
   obtain⟨x,Y⟩:∃x,(aD l y).reads[j]=x:=⟨_,rfl⟩;have W7:=Q.get x (b:=decide (x∈d)) (by simp);refine cW ?_;obtain⟨oz,Ae,xN,hU,pc,iY,iX,jG⟩:=Rd.at (As.gr N.g3) X;have iY:=RR.bX iY;subst iY;have cQ:=N.fg jG iX;rw [Y] at iX cQ;refine nx ?_;refine WP .r (PV.dM dL hU rfl rfl (by omega))<|(bj) ak (As.ll cQ.g0)<|(ft) cQ fun Nr w9 HT W8 df=>?_;refine(dh) gi df fun kl v7 nZ de=>?_;refine ct ?_;refine WC.dA (t:=48) (v:=.bool (bD l rev x && !decide (x∈d))) de ?_<|?_
   ·
    refine(bj) ak de.b0<|(eZ) (rG (k:=x) (As.gr de.g7)) de fun lB s11 B=>?_;refine(cz) (fun W9=>?_) (fun W9=>?_)
    ·
     refine(bj) ak B.b0<|?_;refine WP .r (PV.im cE gx xB (As.gm B.g3) (W7) rfl rfl)<|?_;exact(bW) (by simp only [W9];first | rfl | simp) (B)
    exact(bW) (by simp only [W9];first | rfl | simp) (B)
   intro lB B;refine(aP) (fun S=>?_) fun S=>?_
   ·
    simp at S
    obtain⟨Ns,Ga⟩:=S;have Tp:Ld l rev y x:=⟨Y ▸ List.getElem_mem X,Ns⟩
    have Xa:bu l rev k x:=by
     rcases W4 with rfl | h
     ·
      exact .one Tp
     exact .step h Tp
    have HU:(d++[x]).Nodup:=by rw [List.nodup_append];exact⟨K,by simp,fun a ha b hb=>by simp at hb;subst hb;rintro rfl;exact Ga ha⟩
    refine(bj) ak B.b0<|?_;refine WL.go rfl (OX.put cE gx (As.gm B.g3) rfl rfl rfl fun pJ vt vu=>?_);have iI:=B.p3.iE vt vu;refine(bj) ak iI.b1<|?_;refine WL.go rfl (OX.aL (us:=x.cells) dc rfl rfl rfl rfl fun b53 rJ Xb Xc=>?_);have fy:=iI.dD Xb Xc;refine WL.ap rfl rfl fy.p4 (SR.cV (A:=fun _=>True) (x:=x) (As.gb fy.g0) trivial rfl (by simp [Key.cells,Value.oneCell']) rfl) fun a54 Xd yH aes aet gJ=>?_;refine jx ?_
    refine dX (j+1,d++[x],_,a54,(g+1),Xd) ⟨gJ.p1.drop.p2.drop.p2.drop,⟨by omega,H.trans (List.prefix_append _ _),by rw [List.nodup_append];exact⟨K,by simp,fun a ha b hb=>by simp at hb;subst hb;rintro rfl;exact Ga ha⟩,fun z u=>by
       rcases List.mem_append.1 u with u | u
       ·
        exact O z u
       simp at u;subst u;exact Xa,Q.put x,cn (P:=fun _ z=>bD l rev z=true→z∈d++[x]) X (fun q z T u ho=>by simp [W q z T u ho]) (fun _=>by simp [← Y]),trivial⟩⟩
   skip
   refine eL ?_;refine dX (j+1,d,C,o,g,p) ⟨B.drop.drop,⟨by omega,H,K,O,Q,cn (P:=fun _ z=>bD l rev z=true→z∈d) X W (fun ho=>by rw [Y] at ho ⊢;simp [ho] at S;exact S),trivial⟩⟩
  simp at W6
  refine na ?_
  refine dX (i+1,d,C,_,o,g,p) ⟨N.p2.drop.p2.drop,⟨by have:=H.length_le;show i+1≤d.length+1;omega,uh,K,O,Q,fun q z T u x s=>by
     rcases Nat.lt_or_ge q i with h | h
     ·
      have Tq:(k::f)[q]?=some z:=by
       obtain⟨t,rfl⟩:=H;rw [← List.cons_append,List.getElem?_append_left (by simp;omega)] at u;exact u
      exact H.subset (BN q z h Tq x s)
     have e:q=i:=by omega
     subst e
     have Tq:some y=some z:=by rw [← hy,← u];obtain⟨t,rfl⟩:=H;rw [← List.cons_append,List.getElem?_append_left (by simp;omega)]
     simp at Tq;subst Tq
     obtain⟨j,hj,rfl⟩:=List.mem_iff_getElem.1 s.1;exact W j _ (by omega) (ae hj) s.2,trivial⟩⟩
 simp at g20
 have CN:=uT L fun y hy x s=>by
  obtain⟨q,T,rfl⟩:=List.mem_iff_getElem.1 hy;exact BN q _ (by simp at T;omega) (ae T) x s
 refine(bF) ?_;exact⟨_,_,_,rfl,hZ,F9.congr CN,J.p1.k1⟩
theorem Ar(gq:St w M Z w []) (hl:Rd RR.e8 8 Z w a n c l) (h6:l.length≤100000):Calls prog 16 #[.slice a n c,.int .i64 rev,k.val] w fun e w'=>∃X Y c' Z',e=.returned (.slice X Y c')∧dV w.heap.size Z Z'∧St w M Z' w' [As.os RR.key 39 2 X Y c' (aB l rev k)]:=by
 have hlen:=hl.len;have hle:=hl.le;refine enter func16 rfl ntmps16 rfl<|?_;have aO:=St.rb gq;have st1:=aO.fr hl;refine(dr) st1 fun b5 w1 Nj Lm st2=>?_;refine(bj) ak st2.b0<|(eZ) (rG (k:=k) (As.gr st2.g1)) st2 fun w2 s2 H=>?_;refine(aP) (fun g15=>?_) fun g15=>?_
 ·
  simp at g15
  have N:aB l rev k=[k]:=by unfold aB;rw [if_neg (by simp [g15])]
  refine(bj) ak H.b0<|?_;refine WL.go rfl (OX.aL (us:=k.cells) dc rfl rfl rfl rfl fun Xe w3 Q3 L5=>?_);have J:=St.lE (R:=RR.key) (E:=39) (k:=2) (a:=some ⟨Xe,0,none⟩) (n:=1) (c:=1) (xs:=[k]) H Q3.ext (OR.cV L5 (Nat.zero_le _) rfl (by simp [Key.cells,Value.oneCell']) rfl) (fun x o=>by simp [bl] at o;subst o;exact Q3.ge);refine(bF) ?_;exact⟨_,_,_,_,rfl,dV.refl _ _,by rw [N];exact(St.wk J.p1.drop.p1.drop)⟩
 simp at g15
 have N:aB l rev k=iv (k::gE l rev k l):=by unfold aB;rw [if_pos g15]
 refine(bj) ak H.b0<|?_;refine WL.go rfl (OX.aL (us:=k.cells) dc rfl rfl rfl rfl fun Q4 w3 Fo L6=>?_);have J:=St.lE (R:=RR.key) (E:=39) (k:=2) (a:=some ⟨Q4,0,none⟩) (n:=1) (c:=1) (xs:=[k]) H Fo.ext (OR.cV L6 (Nat.zero_le _) rfl (by simp [Key.cells,Value.oneCell']) rfl) (fun x o=>by simp [bl] at o;subst o;exact Fo.ge);refine(bj) ak J.b1<|?_;have K:=J;refine(cA) Pv (pe (k:=k) K.e0 (As.gr K.g2) (by omega)) ?_;rintro _ w4 ⟨bt,mt,Z1,rfl,Dd,Nt,L7⟩;have ks:=St.lv K L7 Dd;have uh:=Dd.le K.size;refine aN ?_;refine WC.br (σ:=Nat × (List Key) × (Option Addr) × Nat × Nat) (cT:=fun(i,acc,f,g,s)=>[(0,.slice a n c),(1,.int .i64 rev),(5,.pointer (some ⟨b5,0,none⟩)),(7,.slice f g s),(8,.map (some bt)),(24,.slice a n c),(25,.int .i64 (n:Int)),(26,.int .i64 (i:Int))]) (F:=fun(i,acc,f,g,s)=>[As.os RR.key 39 2 f g s (acc)]) (I:=fun(i,acc,f,g,s)=>(i≤n)∧(acc=k::gE l rev k (l.take i))∧True) (μ:=fun(i,acc,f,g,s)=>n - i) (0,[k],(some ⟨Q4,0,none⟩),1,1) (ks.p1) Sub.t (⟨by omega,by simp [gE],trivial⟩)<|?_;rintro⟨i,acc,f,g,s⟩ w5 u ⟨hi,z,_⟩;simp only [CA,NA] at u hi z ⊢;have sj:=((As.gs u.g0)).len;have Nu:=mw l rev k (l.take i)
 have vi:acc.length≤100001:=by rw [z,List.length_cons];rw [List.length_take] at Nu;omega
 refine(aP) (fun O=>?_) fun O=>?_
 ·
  simp at O
  have P:i<l.length:=by omega
  have hto:=Nt.get l[i].key iw;refine cW ?_;obtain⟨jf,pG,mF,cx,iB,gk,eK,fB⟩:=Rd.at (As.gr u.g3) P;obtain⟨q1,q2,q3,rfl,F4,F5⟩:=gk;have Q:=u.fg fB eK;have y:=Q.fr F4;refine nx ?_;refine WP .r (PV.dM iG cx rfl rfl (by omega))<|(bj) dC (As.ll y.g1)<|(ft) y fun L4 w6 x3 x4 S=>?_;refine(dh) fA S fun w7 l4 mK C=>?_;refine ct ?_;refine WC.dA (t:=48) (v:=.bool (wY l rev k l[i])) C ?_<|?_
  ·
   have Nk:=C.bG;have Xf:=C.hV;have Xg:=C.size;refine WC.cJ (m:=17) (E:=bS [(15,DF w7.heap.size fun m=>fJ m (bu l rev l[i].key))]) C (aU (⟨fun _ _ _ _ _ _ c h=>DF.st Nk c h,trivial⟩)) mixed (by kernel_rfl)<|(tu) ak St.g0<|(fk) ak St.g5<|?_;refine DP .r (fun _ j=>PV.FX ek (p:=l[i].key) (q:=k) rfl rfl)<|(lP) (fun L=>?_) (fun L=>?_)
   ·
    refine(tu) ak St.g0<|?_;refine DP .r (fun _ j=>PV.im cE gx xB (As.gm j.2.g4) (hto) rfl rfl)<|(lP) (fun T=>?_) (fun T=>?_)
    ·
     refine(tu) ak St.g0<|?_;refine DW.e rfl rfl rfl rfl rfl (fun wx j hF=>OX.call Pv rfl rfl ((pe (k:=l[i].key) (j.2.e0) (As.gr j.2.g6) (by omega)).mono ?_))<|?_
     ·
      rintro _ wy ⟨b,m,Z',rfl,hZ',hm,U⟩;have hy:=U.cg0;exact⟨_,rfl,⟨Nat.le_trans j.1 hy.size,j.2.step hy⟩,hy.p0,_,rfl,b,m,rfl,Nat.le_trans j.1 (St.dw U b rfl),As.gm U.g0,hm⟩
     rintro _ wz _ ⟨Tr,_,rfl,_,_,_⟩;refine(fk) ak St.g5<|(cy)<|?_;rintro V ⟨xP,d⟩ ⟨Xh,_⟩;obtain⟨_,m45,h1,Q5,Q6,Xi⟩:=Xh
     simp at h1;subst h1
     have Tp:=Xi.get k iw;have G:=d.add (B:=As.map Key.val Tr m45) Q6 (fun x o=>by have h1:x=Tr:=o;subst h1;exact Q5) Nk Xf Xg;refine WP .r (PV.im cE gx xB (As.gm G.g0) (Tp) rfl rfl)<|?_;exact(bW) (by unfold wY;simp only [L,T];first | rfl | simp) (G.drop)
    refine(cy) ?_;rintro V ⟨xP,d⟩ _;exact(bW) (by unfold wY;simp only [L,T];first | rfl | simp) (d)
   refine(cy) ?_;rintro V ⟨xP,d⟩ _;exact(bW) (by unfold wY;simp only [L];first | rfl | simp) (d)
  intro V d;refine(aP) (fun W=>?_) fun W=>?_
  ·
   refine(jJ) ak d.b0<|?_;refine WL.go rfl (OX.aL (us:=l[i].key.cells) dc rfl rfl rfl rfl fun Xj w9 HV L8=>?_);have G:=d.dD HV L8;refine WL.ap rfl rfl G.p4 (SR.cV (A:=fun _=>True) (x:=l[i].key) (As.gb G.g0) trivial rfl (by simp [Key.cells,Value.oneCell']) rfl) fun a53 Xk kl aew aex de=>?_;refine jx ?_;refine dX (i+1,_,a53,(g+1),Xk) ⟨de.p7.p7.p7.p3.k4,⟨by omega,by rw [z,oS P,if_pos W];rfl,trivial⟩⟩
  refine eL ?_;refine dX (i+1,_,f,g,s) ⟨d.p6.p6.p6.p6.k4,⟨by omega,by rw [z,oS P,if_neg (by simp [W])],trivial⟩⟩
 simp at O
 have mn:acc=k::gE l rev k l:=by rw [z,List.take_of_length_le (by omega)]
 subst mn;refine fZ ?_;have Nu:=mw l rev k l;refine bP ?_;have HW:=St.fresh u;have Q:=u.dZ (by simp;omega);have y:=Q;refine(cA) Pu (nG y.e0 (As.gr y.g0) (fun _ h _=>h) (by simp;omega)) ?_;rintro _ w6 ⟨f1,f2,f3,rfl,vw⟩;have S:=St.lr y vw;refine(bF) ?_;exact⟨_,_,_,_,rfl,uh.trans (dV.nR (F:=fun x=>x∈bl f) HW) (Nat.le_refl _),by rw [N];exact(St.wk S.k1)⟩
set_option maxHeartbeats 400000
theorem pf(q:ao aa) (hk:eU aa k) (i:St w M Z w [As.kM prog 134 aa x D]):Calls prog 49 #[.pointer (some ⟨D.s,0,none⟩),k.val] w fun e w'=>e=.returned (.string (valOf aa x.ab k))∧St w M Z w' [As.kM prog 134 aa x D]:=by
 obtain⟨j,hb,⟨ml,hm,r⟩,o⟩:=i.g0;have d:St w M Z w (As.blk D.s 134 (D.cells x)::As.map Key.val D.m ml::[]):=St.split i hb r (fun y h=>.inl h) (fun y h=>.inr h) (fun y (h1:y=D.s) (d:y=D.m)=>j (h1.symm.trans d));refine(um q hk _ _ _ _ (St.enter (rest:=[]) d) o hm).mono<|?_;rintro e w' ⟨p,rfl,t,_,f⟩;have g:St w M Z w' (As.blk D.s 134 (D.cells x)::As.map Key.val D.m p::[]):=St.leave (rest:=[]) (l0:=[_,_]) d f (dV.refl _ _);refine⟨rfl,g.join ⟨j,g.g0,⟨p,t,g.g1⟩,(D.F prog aa x).st f.bR.size (fun y hy hl=>f.bR.block y hl fun⟨A,u,v⟩=>d.jS A u y v hy) o⟩ fun y h=>h⟩
theorem sC(z:ao aa) (hk:eU aa k) (A:St w M Z w [As.kM prog 134 aa x D]) (hi:Rd RR.aC 4 Z w a1 n1 e1 b.ab) (hr:Rd RR.e8 8 Z w a2 n2 e2 b.ah):Calls prog 100 #[.pointer (some ⟨D.s,0,none⟩),.agg (b.row a1 n1 e1 a2 n2 e2).toArray,k.val] w fun e w'=>e=.returned (.int .i64 (aQ (valOf aa x.ab) b k))∧St w M Z w' [As.kM prog 134 aa x D]:=by
 refine enter func100 rfl ntmps100 rfl<|?_;have aO:=A;have st1:=aO.fr hi;have st2:=st1.fr hr;refine(dr) st2 fun b4 w1 G H B=>?_;refine(dr) B fun b5 w2 I J r=>?_;refine(bj) ak r.b0<|(eZ) (dd (k:=k)) r fun w3 K f=>?_;refine(aP) (fun g10=>?_) fun g10=>?_
 ·
  skip
  refine(bj) bz f.b1<|(bj) ak f.b0<|(eZ) (xL (k:=k) (As.gr f.g3) (As.gr f.g2)) f fun w4 u g=>?_;refine(bF) ?_;exact⟨by unfold aQ;rw [if_pos g10],g.p4.k1⟩
 refine(bp) el f.b1<|(bj) ak f.b0<|(cA) ov (cX (k:=k) (As.gr f.g2)) ?_;rintro _ w4 ⟨f1,f2,f3,rfl,u⟩;have g:=f.step u;refine(ft) g fun L w5 N O C=>?_;refine(dh) fA C fun w6 P Q i=>?_;refine cW ?_;refine WC.dA (t:=36) (v:=.bool ((ay b.ah k).isSome && (decide ((aD b.ah k).aq=b.ad) || decide (valOf aa x.ab k=(aD b.ah k).value)))) i ?_<|?_
 ·
  have R:=i.bG;refine WC.cJ (m:=13) (E:=bS [(10,fun v _=>v=.string (valOf aa x.ab k))]) i (aU (⟨fun _ _ _ _ _ _ _ h=>h,trivial⟩)) mixed (by kernel_rfl)<|(lP) (fun g22=>?_) (fun g22=>?_)
  ·
   refine(gP) aK St.g0<|(gP) aK St.g2<|(lP) (fun j=>?_) (fun j=>?_)
   ·
    refine(cy) ?_;rintro w7 ⟨y,d⟩ _;exact(bW) (by simp only [g22,j];first | rfl | simp) (d)
   refine(fk) ak St.g1<|?_;refine DW.e rfl rfl rfl rfl rfl (fun S o T=>OX.call EN rfl rfl ((pf (k:=k) z hk (o.2.one (.tail _ (.tail _ (.tail _ (.tail _ (.tail _ (.head _)))))))).mono ?_))<|?_
   ·
    rintro _ wy ⟨rfl,hy⟩;exact⟨_,rfl,⟨Nat.le_trans o.1 hy.bR.size,o.2.wZ M5 hy⟩,hy.bR.mono (fun _ _ F=>AZ M5 F),_,rfl,rfl⟩
   rintro _ U _ rfl;refine(gP) eV St.g0<|(cy)<|?_;rintro w7 ⟨y,d⟩ ⟨_,_⟩;exact(bW) (by simp only [g22,j];first | rfl | simp) (d)
  refine(cy) ?_;rintro w7 ⟨y,d⟩ _;exact(bW) (by simp only [g22];first | rfl | simp) (d)
 intro w7 d;refine(aP) (fun p=>?_) fun p=>?_
 ·
  have q:aQ (valOf aa x.ab) b k=(aD b.ah k).changed:=by unfold aQ;rw [if_neg (by simp [g10]),if_pos p]
  refine(bp) aK d.b0<|(bF) ?_;exact⟨by rw [q],d.p5.k1⟩
 have q:aQ (valOf aa x.ab) b k=b.ad:=by unfold aQ;rw [if_neg (by simp [g10]),if_neg (by simp [p])]
 refine(bp) aK d.b2<|(bF) ?_;exact⟨by rw [q],d.p5.k1⟩
theorem vx(i:ao aa) (hk:eU aa k) (j:St w M Z w [As.kM prog 134 aa x D]) (hi:Rd RR.aC 4 Z w a1 n1 e1 b.ab) (hr:Rd RR.e8 8 Z w a2 n2 e2 b.ah):Calls prog 103 #[.pointer (some ⟨D.s,0,none⟩),.agg (b.row a1 n1 e1 a2 n2 e2).toArray,k.val] w fun e w'=>e=.returned (.string (dm (valOf aa x.ab) b k))∧St w M Z w' [As.kM prog 134 aa x D]:=by
 refine enter func103 rfl ntmps103 rfl<|?_;have aO:=j;have st1:=aO.fr hi;have st2:=st1.fr hr;refine(dr) st2 fun b4 w1 p q m=>?_;refine(dr) m fun b5 w2 r t h=>?_;refine(bj) ak h.b0<|(eZ) (dz (k:=k)) h fun w3 u d=>?_;refine(aP) (fun g10=>?_) fun g10=>?_
 ·
  have f:dm (valOf aa x.ab) b k=valOf aa x.ab k:=by unfold dm;rw [if_pos g10]
  refine(bj) ak d.b0<|(cA) EN (pf (k:=k) i hk (d.one (.tail _ (.tail _ (.tail _ (.tail _ (.head _))))))) ?_;rintro _ w4 ⟨rfl,o⟩;have g:=d.wZ M4 o;refine(bF) ?_;exact⟨by rw [f],g.p4.k1⟩
 have f:dm (valOf aa x.ab) b k=dO b k:=by unfold dm;rw [if_neg (by simp [g10])]
 refine(bj) bz d.b1<|(bj) ak d.b0<|(eZ) (Ab (k:=k) (As.gr d.g3) (As.gr d.g2)) d fun w4 v g=>?_;refine aN ?_;refine(bF) ?_;exact⟨by rw [f];rfl,g.p4.k1⟩
theorem rO{group:List Key}{bq:Bool}{u:Option Addr}{g eg:Nat}(U:St w M Z w []) (hi:Rd RR.aC 4 Z w a1 n1 e1 x.ab) (hr:Rd RR.e8 8 Z w a2 n2 e2 x.ah) (V:Rd RR.key 2 Z w u g eg group) (W:x.ah.length≤1000000) (X:x.ab.length≤1000000):Calls prog 98 #[.agg (x.row a1 n1 e1 a2 n2 e2).toArray,.slice u g eg,.bool bq] w fun e w'=>∃E G H J K L Z',e=.returned (.agg ((cU x group bq).row E G H J K L).toArray)∧dV w.heap.size Z Z'∧St w M Z' w' [As.os RR.aC 102 4 E G H (cU x group bq).ab,As.os RR.e8 48 8 J K L (cU x group bq).ah]:=by
 have HX:=hi.len;have C7:=hr.len;refine enter func98 rfl ntmps98 rfl<|?_;have aO:=St.rb U;have st1:=aO.fr hi;have st2:=st1.fr hr;have Y:=st2.fr V;refine(dr) Y fun b3 w1 E7 vh iH=>?_;refine(ft) iH fun b6 w2 BA F6 N=>?_;refine(bj) bz N.b1<|?_;have q:=N;refine(cA) EJ (gV q.e0 (As.gr q.g4) (As.gr q.g3) W X) ?_;rintro _ w3 ⟨f1,f2,f3,f4,f5,f6,Z1,rfl,O,pH⟩;have P:=St.lv q pH O;have uh:=O.le q.size;have Ma:=((As.gs P.g1)).len;refine(dh) jE P.p3 fun w4 l4 mK Q=>?_;refine(bp) el Q.b0<|cW ?_;refine WC.br (σ:=Nat × (List Rec)) (cT:=fun(i,acc)=>[(1,.slice u g eg),(2,.bool bq),(3,.pointer (some ⟨b3,0,none⟩)),(6,.pointer (some ⟨b6,0,none⟩)),(12,.int .i64 (f5:Int)),(13,.int .i64 (i:Int))]) (F:=fun(i,acc)=>[As.os RR.e8 48 8 f4 f5 f6 acc]) (I:=fun(i,acc)=>(i≤f5)∧(acc=(x.ah.take i).map (bH x.ad group bq)++x.ah.drop i)∧True) (μ:=fun(i,acc)=>f5 - i) (0,x.ah) (Q.p2) Sub.t (⟨by omega,by simp,trivial⟩)<|?_;rintro⟨i,acc⟩ w5 m ⟨eS,s,_⟩;simp only [CA,NA] at m eS s ⊢
 have vi:acc.length=x.ah.length:=by rw [s];simp;omega
 refine(aP) (fun g14=>?_) fun g14=>?_
 ·
  simp at g14
  have xY:i<x.ah.length:=by omega
  have v:=zb (x:=x) (group:=group) (bq:=bq) xY (by omega);rw [← s] at v
  have p:acc[i]?=some x.ah[i]:=by rw [s,List.getElem?_append_right (by simp;omega)];simp [Nat.min_eq_left (by omega:i≤x.ah.length)]
  refine aN ?_;obtain⟨jf,mF,cx,iB,gk,eK⟩:=Ow.at (As.gs m.g0) (by omega) p;obtain⟨q1,q2,q3,rfl,aey,aez⟩:=gk
  have R:∀y,y=bH x.ad group bq x.ah[i]→acc.set i y=(x.ah.take (i+1)).map (bH x.ad group bq)++x.ah.drop (i+1):=fun y hy=>by rw [hy];exact v
  refine(bp) el m.b1<|nx ?_;refine WP .r (PV.dM iG cx rfl rfl (by omega))<|(jJ) ak eK<|(eZ) (uf (k:=x.ah[i].key) (As.gr m.g4)) m fun w6 s6 d=>?_;refine(aP) (fun g24=>?_) fun g24=>?_
  ·
   simp at g24
   have D9:acc=(x.ah.take (i+1)).map (bH x.ad group bq)++x.ah.drop (i+1):=by
    rw [← v]
    have:bH x.ad group bq x.ah[i]=x.ah[i]:=by unfold bH;rw [if_neg g24]
    rw [this]
    apply List.ext_getElem?
    intro j;rw [List.getElem?_set]
    split
    ·
     rename_i e;subst e;rw [p];simp;omega
    rfl
   refine jx ?_;refine dX (i+1,acc) ⟨d,⟨by omega,D9,trivial⟩⟩
  simp at g24
  refine(aP) (fun o=>?_) fun o=>?_
  ·
   have o:bq=true:=o;subst o;have z:=R {x.ah[i] with bq:=true} (by unfold bH;rw [if_pos g24];rfl);obtain⟨oz,xN,S,pc,iY,iX⟩:=Ow.at (As.gs d.g0) (by omega) p;refine(bp) el d.b1<|nx ?_;refine WP .r (PV.dM iG S rfl rfl (by omega))<|nx ?_;refine WL.go rfl (OX.NZ (i:=i) (f:=7) sz4 (As.gs d.g0) S p (by omega) rfl rfl rfl {x.ah[i] with bq:=true} (fun r _ ⟨a,n,c,h1,A,B⟩=>⟨a,n,c,by rw [h1];rfl,A,B⟩) fun w7 s7 h7x=>?_);have C:=d.mX s7 h7x (fun x h=>.inl h);refine eL ?_;refine dX (i+1,_) ⟨C,⟨by omega,z,trivial⟩⟩
  have o:bq=false:=o;subst o;have z:=R {x.ah[i] with aq:=x.ad} (by unfold bH;rw [if_pos g24];rfl);obtain⟨CL,Q7,T,IZ,pg,BD⟩:=Ow.at (As.gs d.g0) (by omega) p;refine(bp) el d.b1<|(bp) aK d.b1<|?_;refine WP .r (PV.dM iG T rfl rfl (by omega))<|nx ?_;refine WL.go rfl (OX.NZ (i:=i) (f:=5) Ni (As.gs d.g0) T p (by omega) rfl rfl rfl {x.ah[i] with aq:=x.ad} (fun r _ ⟨a,n,c,h1,A,B⟩=>⟨a,n,c,by rw [h1];rfl,A,B⟩) fun w7 s8 h8x=>?_);have C:=d.mX s8 h8x (fun x h=>.inl h);refine eL ?_;refine dX (i+1,_) ⟨C,⟨by omega,z,trivial⟩⟩
 simp at g14
 have mn:acc=(cU x group bq).ah:=by rw [s,List.take_of_length_le (by omega),List.drop_eq_nil_of_le (by omega)];simp [cU]
 subst mn;refine(bj) bz m.b1<|(dh) jE m.p3 fun w6 v7 nZ d=>?_;refine(jm) bz d.b0<|?_;exact⟨_,_,_,_,_,_,_,rfl,uh,(St.wk d.p1.p3.k2)⟩
theorem x5{s:ES}{E:EA}{sb y z:Nat}(i:bN w z 88 (E.cells sb y s)) (hb:KM Key.val w y s.busy) (F:∀k,ba s.busy k=none∨ba s.busy k=some (.bool true)) (hr:Rd RR.e8 8 Z w E.a2 E.n2 E.c2 s.b.ah):CR prog 99 #[.pointer (some ⟨z,0,none⟩),k.val] w (.bool (db s k)):=by
 have G:(ba s.busy k).getD (.bool false)=.bool (s.on k):=by unfold ES.on;rcases F k with h | h <;> rw [h] <;> rfl
 refine enter func99 rfl ntmps99 rfl<|?_;have aO:=St.s0 w;refine(dr) aO fun b3 w1 P Q st1=>?_;refine cW ?_;refine WC.dA (t:=20) (v:=.bool (aw k || (s.on k && aA k))) st1 ?_<|?_
 ·
  have R:=st1.bG;refine WC.cJ (m:=8) (E:=bS [(1,fun v _=>v=.bool (aw k))]) st1 (aU (⟨fun _ _ _ _ _ _ _ h=>h,trivial⟩)) mixed (by kernel_rfl)<|(fk) ak St.g0<|?_;refine DW.c0 (fun A d B=>dd (k:=k))<|(lP) (fun g9=>?_) (fun g9=>?_)
  ·
   refine(cy) ?_;rintro w2 ⟨H,st2⟩ ⟨_,_⟩;exact(bW) (by simp only [g9];first | rfl | simp) (st2)
  refine ct ?_;refine DP .r (fun _ d=>V1 oY (bN.range (i.ext (St.cg d.2))) .r)<|(fk) ak St.g0<|(cy)<|?_;rintro w2 ⟨H,st2⟩ ⟨_,_⟩;refine WP .r (PV.im cE gx xB (hb.ext (St.cg st2)) (G) rfl rfl)<|(cz) (fun g16=>?_) (fun g16=>?_)
  ·
   refine(bj) ak st2.b0<|(eZ) (dz (k:=k)) st2 fun w3 S o=>?_;exact(bW) (by simp only [g9,g16];first | rfl | simp) (o)
  exact(bW) (by simp only [g9,g16];first | rfl | simp) (st2)
 intro w2 st2;refine(aP) (fun g20=>?_) fun g20=>?_
 ·
  have p:db s k=true:=by unfold db;simp only [Bool.or_eq_true,Bool.and_eq_true] at g20 ⊢;rcases g20 with h | h <;> simp [h]
  refine(bF) ?_;exact⟨by rw [p],(St.cg st2)⟩
 have p:db s k=aI s.b k:=by unfold db;simp only [Bool.or_eq_false_iff] at g20;rw [g20.1,g20.2];rfl
 refine ct ?_;have C:=st2.bG;have I:=st2.hV;have J:=st2.size;refine WC.mj (m:=11) [9] (E:=bS [(6,fun v _=>∃f1 f2 f3,v=.tuple #[.agg ((aD s.b.ah k).row f1 f2 f3).toArray,.bool (ay s.b.ah k).isSome]),(10,PB w2.heap.size 48 [.int .i64 0,.string ⟨#[]⟩,.string ⟨#[]⟩,.slice none 0 0,.int .i64 0,.int .i64 0,.int .i64 0,.bool false])]) st2 (aU (⟨fun _ _ _ _ _ _ _ h=>h,⟨fun _ _ _ _ _ _ c h=>PB.st C c h,trivial⟩⟩)) mixed (by kernel_rfl) rfl ?_;refine cB ?_;refine DP .r (fun _ d=>PV.ld1 (j:=3) el (bN.range (i.ext (St.cg d.2))) rfl rfl)<|(fk) ak St.g0<|?_;refine DW.e rfl rfl rfl rfl rfl (fun A d B=>OX.call ov rfl rfl ((cX (k:=k) (hr.ext (St.cg d.2))).mono ?_))<|?_
 ·
  rintro _ wy ⟨f1,f2,f3,rfl,hy⟩;exact⟨_,rfl,⟨Nat.le_trans d.1 hy.size,d.2.step hy⟩,hy.p0,_,rfl,⟨f1,f2,f3,rfl⟩⟩
 rintro _ K _ ⟨f1,f2,f3,rfl⟩;refine ct ?_;refine DW.e rfl rfl rfl rfl rfl (fun A d B=>OX.alloc nC rfl fun b wy g hb=>⟨⟨Nat.le_trans d.1 g.ext.size,d.2.step g.ext⟩,g.ext.p0,_,rfl,_,rfl,Nat.le_trans d.1 g.ge,hb⟩)<|?_;rintro _ K _ ⟨b5,rfl,_,_⟩;refine(cy) ?_;rintro w3 ⟨T,o⟩ ⟨L,⟨_,_⟩⟩;have N:=o.pr L C I J;refine(dh) fA N fun w4 U V q=>?_;refine nx ?_;refine WL.nil (EX.np ?_);refine bP ?_;refine WC.ja (t:=4) (v:=.bool (aI s.b k)) q ?_<|?_
 ·
  have W:=q.bG;refine WC.dS (m:=9) q mixed<|(lP) (fun u=>?_) (fun u=>?_)
  ·
   refine(gP) aK St.g0<|cB ?_;refine DP .r (fun _ d=>PV.ld1 (j:=1) aK (bN.range (i.ext (St.cg d.2))) rfl rfl)<|(cy)<|?_;rintro w5 ⟨O,f⟩ _;exact(eT) (by unfold aI;simp only [u];first | rfl | simp) (f)
  refine(cy) ?_;rintro w5 ⟨O,f⟩ _;exact(eT) (by unfold aI;simp only [u];first | rfl | simp) (f)
 intro w5 f;refine(bF) ?_;exact⟨by rw [p],(St.cg f)⟩
end Go.Rc

