/- Walks over the program, part WK. Conditions: as each theorem says. -/
import Derived.Test.YtilldnlhckpbjaaGreatDoorEFacts
import Derived.Test.YtilldnlhckpbjaaGreatDoorEWH
import Derived.Test.YtilldnlhckpbjaaGreatDoorEBe
import Derived.Test.YtilldnlhckpbjaaGreatDoorEWI
import Derived.Test.YtilldnlhckpbjaaGreatDoorEWF
set_option linter.all false
namespace Go.Rc
open Go Go.Proofs Go.Proofs.Tryz
variable {l:List Rec}{a a1 a2:Option Addr}{n c n1 e1 n2 e2:Nat}{w:World}{M Z:Nat→Prop}{rev:Int}{k:Key}{aa:List aD}{x b:cW}{D:SD}
set_option maxHeartbeats 400000
set_option maxHeartbeats 1600000 in
theorem kf{l:List Key}{A:Nat→Prop}(gn:St w M Z w []) (OI:Rd RR.key 2 A w a n c l) (hA:∀x,A x→x<w.heap.size→Z x) (h6:l.length≤1000000):Calls prog 16 #[.slice a n c] w fun e w'=>∃K n' L,e=.returned (.slice K n' L)∧St w M Z w' [As.os RR.key 43 2 K n' L (gP l)]:=by
 have hl:Rd RR.key 2 Z w a n c l:=SR.mono OI hA fun _ _ h=>h
 have hlen:=hl.len;have hle:=hl.le;refine enter func16 rfl ntmps16 rfl<|?_;have aR:=gn;have st1:=aR.fr hl;have st2:=st1.fD RR.key 43 2;refine aQ ?_;refine eX ?_;refine WC.bm (σ:=Nat × (List Key) × (Option Addr) × Nat × Nat) (db:=fun(i,out,C,y,G)=>[(3,.slice C y G),(7,.slice a n c),(8,.int .i64 (n:Int)),(9,.int .i64 (i:Int))]) (F:=fun(i,out,C,y,G)=>[As.os RR.key 43 2 C y G (out)]) (I:=fun(i,out,C,y,G)=>(i≤n)∧(out=gP (l.take i))∧True) (μ:=fun(i,out,C,y,G)=>n - i) (0,[],none,0,0) (st2) Sub.t (⟨by omega,rfl,trivial⟩)<|?_;rintro⟨i,out,C,y,G⟩ w1 U ⟨hi,V,_⟩;simp only [CA,NA] at U hi V ⊢;have ta:=((As.gs U.g0)).len
 have T1:out.length≤1000000:=by have:=oy (l.take i);rw [← V,List.length_take] at this;omega
 refine(aT) (fun g10=>?_) fun g10=>?_
 ·
  simp at g10
  have y0:i<l.length:=by omega
  refine df ?_;obtain⟨jK,qe,nX,cF,i6,gU,ft,fF⟩:=Rd.at (As.gr U.g1) y0;have gU:=RR.bT gU;subst gU;have iL:=U.fg fF ft;refine nx ?_;refine WP .r (PV.dO dn cF rfl rfl (by omega))<|(bf) ak (As.kW iL.g0)<|(fy) iL fun b5 w2 JA Ih kJ=>?_;refine(dw) fW kJ fun w3 kI nj ke=>?_;refine pU ?_;refine WC.bm (σ:=Nat) (db:=fun p=>[(3,.slice C y G),(5,.pointer (some ⟨b5,0,none⟩)),(6,.int .i64 (p:Int)),(7,.slice a n c),(8,.int .i64 (n:Int)),(9,.int .i64 (i:Int))]) (F:=fun p=>[]) (I:=fun p=>(p≤out.length)∧(∀q x,q<p→out[q]?=some x→bl x l[i]<0)∧True) (μ:=fun p=>out.length - p) (0) (ke) Sub.t (⟨by omega,fun q x h=>by omega,trivial⟩)<|?_;rintro p w4 Q ⟨hp,tU,_⟩;simp only [CA,NA] at Q hp tU ⊢;have AG:=((As.gs Q.g2)).len;refine bJ ?_;refine WC.dz (t:=25) (v:=.bool (xB out p l[i])) Q ?_<|?_
  ·
   have GB:=Q.bA;refine WC.dS (m:=10) Q mixed<|(l9) (fun g17=>?_) (fun g17=>?_)
   ·
    simp at g17
    have R:p<out.length:=by omega
    have H:=ae R;obtain⟨oV,gW⟩:=Ow.addr (As.gs Q.g2) H
    have S:xB out p l[i]=decide (bl out[p] l[i]<0):=by unfold xB;rw [H]
    refine bJ ?_;refine DP .r (fun _ d=>PV.dO dn gW rfl rfl (by omega))<|DP .r (fun _ d=>VA ak (Ow.sP (As.gs d.2.g2) (by omega) gW H) .r)<|(fe) ak St.g0<|(cx)<|?_;rintro w5 ⟨vT,z⟩ _;refine(fw) (jJ (k:=out[p]) (q:=l[i])) z fun w6 s6 g=>?_;exact(bY) (by rw [S]) (g)
   simp at g17
   have S:xB out p l[i]=false:=by unfold xB;rw [List.getElem?_eq_none (by omega)]
   refine(cx) ?_;rintro w5 ⟨vT,z⟩ _;exact(bY) (by rw [S]) (z)
  intro w5 z;refine(aT) (fun u=>?_) fun u=>?_
  ·
   have R:p<out.length:=by
    rcases Nat.lt_or_ge p out.length with h | h
    ·
     exact h
    unfold xB at u;rw [List.getElem?_eq_none h] at u;cases u
   have hcm:bl out[p] l[i]<0:=by unfold xB at u;rw [ae R] at u;simpa using u
   refine pU ?_;refine eb (p+1) ⟨z,⟨by omega,cp (P:=fun _ x=>bl x l[i]<0) R tU hcm,trivial⟩⟩
  have KQ:∀x,out[p]?=some x→0≤bl x l[i]:=fun x hx=>by unfold xB at u;rw [hx] at u;simp at u;omega
  have RZ:=G5 out l[i] p hp tU KQ;refine fY ?_;refine WC.dz (t:=39) (v:=.bool (decide (out[p]?≠some l[i]))) z ?_<|?_
  ·
   have Mn:=z.bA;refine WC.dS (m:=10) z mixed<|(l9) (fun XR=>?_) (fun XR=>?_)
   ·
    simp at XR
    have S:out[p]?=none:=List.getElem?_eq_none (by omega);refine(cx) ?_;rintro w6 ⟨vN,g⟩ _;exact(bY) (by first | (rw [S];rfl) | (rw [H];simp)) (g)
   simp at XR
   have R:p<out.length:=by omega
   have H:=ae R;obtain⟨Di,iM⟩:=Ow.addr (As.gs z.g2) H;refine bJ ?_;refine DP .r (fun _ d=>PV.dO dn iM rfl rfl (by omega))<|DP .r (fun _ d=>VA ak (Ow.sP (As.gs d.2.g2) (by omega) iM H) .r)<|(fe) ak St.g0<|(cx)<|?_;rintro w6 ⟨vN,g⟩ _;refine WP .r (PV.DZ eI (p:=out[p]) (q:=l[i]) rfl rfl)<|?_;exact(bY) (by first | (rw [S];rfl) | (rw [H];simp)) (g)
  intro w6 g;refine(aT) (fun O=>?_) fun O=>?_
  ·
   have O:¬out[p]?=some l[i]:=by simpa using O
   obtain⟨N,W⟩:∃N,N=w6.heap.size:=⟨_,rfl⟩;have T:=g.hV;have XS:=g.size;have XT:=g.bA;have afr:=((As.gs g.g2)).len;rw [← W] at T XS XT;have hN9:=g.bA;refine WC.D8 (m:=10) (fun j w w'=>match j with | 6=>zm N 43 (p*2) 2 w w' | _=>aK [] w w') (E:=bN [(3,fun v w'=>∃a c,v=.slice a p c∧(∀x∈aZ a,N≤x)∧(p=0→a=none)∧Ow RR.key 43 2 Z w' a p c (out.take p)),(5,fun v w'=>∃b,v=.slice (some ⟨b,0,none⟩) 1 1∧N≤b∧bM w' b 43 l[i].cells),(6,fun v w'=>∃a c,v=.slice a (p+1) c∧(∀x∈aZ a,N≤x)∧Ow RR.key 43 2 Z w' a (p+1) c (out.take p++[l[i]]))]) g (jy (⟨⟨trivial,⟨fun _ _ _ _ _ s ⟨a,c,h1,f,o,J⟩=>⟨a,c,h1,f,o,J.ext s⟩,⟨fun _ _ _ _ _ s ⟨a,c,h1,f,o,J⟩=>⟨a,c,h1,f,o,zm.ow s T J⟩,trivial⟩⟩⟩,⟨⟨fun _ _ _ _ _ s ⟨b,h1,f,o⟩=>⟨b,h1,f,o.ext s⟩,⟨trivial,⟨fun _ _ _ _ _ s ⟨b,h1,f,o⟩=>⟨b,h1,f,zm.blk (l:=l[i].cells) s o⟩,trivial⟩⟩⟩,⟨⟨trivial,⟨trivial,⟨trivial,trivial⟩⟩⟩,trivial⟩⟩⟩)) mixed (by kernel_rfl)<|bJ ?_;refine DP .r (fun _ d=>PV.zh dn (Ow.rd (As.gs d.2.g2) (by omega)) rfl rfl (by omega))<|?_;refine DW.e rfl rfl rfl rfl rfl (fun wx d hF=>OX.OZ (N:=N) (Z:=Z) oK rfl rfl rfl (OR.nil 0 wx 43 2 _) (by simp [aZ]) (SR.take (i:=p) (Ow.rd (As.gs d.2.g2) (by omega)) (by omega)) (by omega) (by omega) (by rw [W];exact d.1) T 0 (fun c h=>absurd rfl h) fun K L wy h1 f o J X=>⟨⟨Nat.le_trans d.1 X.size,d.2.step X⟩,X,_,rfl,K,L,by rw [Nat.zero_add],o,J,by simpa using h1⟩)<|?_;rintro _ wz _ ⟨a3,c3,rfl,_,_,_⟩;refine(fe) ak St.g0<|?_;refine DW.e rfl rfl rfl rfl rfl (fun wx d hF=>OX.aM (us:=l[i].cells) cP rfl rfl rfl rfl fun b wy Y hb=>⟨⟨Nat.le_trans d.1 Y.ext.size,d.2.step Y.ext⟩,Y.ext,_,rfl,b,rfl,by rw [W];exact Nat.le_trans d.1 Y.ge,hb⟩)<|?_;rintro _ wz _ ⟨b5x,rfl,_,_⟩
   refine DW.e rfl rfl rfl rfl rfl (fun wx d hF=>by
    obtain⟨⟨b',Gu,Fy,uK⟩,⟨K,L,h1,f,o,J⟩,_⟩:=hF;simp only [Value.slice.injEq,Option.some.injEq,Addr.mk.injEq,and_true,true_and] at Gu h1;subst Gu;obtain⟨rfl,rfl⟩:=h1;exact OX.OZ (N:=N) (Z:=Z) oK rfl rfl rfl J f (SR.cT (A:=fun _=>True) (x:=l[i]) uK trivial rfl (by simp [Key.cells,Value.oneCell']) rfl) (by omega) (by omega) (by rw [W];exact d.1) T 2 (fun c h hc=>by have:p≠0:=fun e=>h (o e);omega) fun K L wy h1 f o J X=>⟨⟨Nat.le_trans d.1 f.size,f.st d.2 XT T XS⟩,f,_,rfl,K,L,rfl,o,h1⟩) ?_
   rintro _ wz _ ⟨a6,c6,rfl,_,_⟩;refine bJ ?_;refine DP .r (fun _ d=>PV.zi dn (Ow.rd (As.gs d.2.g2) (by omega)) rfl rfl (by omega))<|(cx)<|?_;rintro w7 ⟨ML,ek⟩ ⟨MM,⟨_,⟨_,_⟩⟩⟩;obtain⟨_,_,he6,XU,ho6⟩:=MM;simp only [Value.slice.injEq,true_and] at he6;obtain⟨rfl,rfl⟩:=he6;have dP:=ek.add (B:=As.os RR.key 43 2 a6 (p+1) c6 (out.take p++[l[i]])) ho6 XU XT T XS;refine WL.ap rfl rfl dP (SR.drop (i:=p) (Ow.rd (As.gs dP.g3) (by omega)) (by omega)) fun a50 XV w8 afu afv dp=>?_;refine bJ ?_;have cM:=dp.p3.drop;refine fY ?_;refine eb (i+1,_,a50,((p+1)+(y - p)),XV) ⟨cM.p1.drop.p1.drop,⟨by omega,by rw [List.take_succ_eq_append_getElem y0,qZ,← V,RZ,if_neg O],trivial⟩⟩
  have O:out[p]?=some l[i]:=by simpa using O
  refine eX ?_;refine eb (i+1,_,C,y,G) ⟨g.drop.drop,⟨by omega,by rw [List.take_succ_eq_append_getElem y0,qZ,← V,RZ,if_pos O],trivial⟩⟩
 simp at g10
 have kX:out=gP l:=by rw [V,List.take_of_length_le (by omega)]
 subst kX;refine(bF) ?_;exact⟨_,_,_,rfl,U.p1.drop⟩
theorem pI(gn:St w M Z w []) (hl:Rd RR.fl 8 Z w a n c l) (h6:l.length≤1000000):Calls prog 187 #[.slice a n c,.int .i64 rev,k.val] w fun e w'=>∃b m Z',e=.returned (.map (some b))∧dU w.heap.size Z Z'∧fM m (bj l rev k)∧St w M Z' w' [As.map Key.val b m]:=by
 have hlen:=hl.len;have hle:=hl.le;refine enter func187 rfl ntmps187 rfl<|?_;have aR:=gn;have st1:=aR.fr hl;refine(dy) st1 fun b5 w1 JA Ih st2=>?_;refine df ?_;refine WL.mm Key.val st2 fun U w2 R0 afw iO=>?_;refine(bf) ak iO.b1<|?_;refine WL.go rfl (OX.aM (us:=k.cells) cP rfl rfl rfl rfl fun XW w3 Iu MN=>?_);have iL:=St.mI (R:=RR.key) (E:=43) (k:=2) (a:=some ⟨XW,0,none⟩) (n:=1) (c:=1) (xs:=[k]) iO Iu.ext (OR.cT MN (Nat.zero_le _) rfl (by simp [Key.cells,Value.oneCell']) rfl) (fun x s=>by simp [aZ] at s;subst s;exact Iu.ge);refine lU ?_;refine WC.kl (σ:=Nat × (List Key) × (List (Key × Value)) × (Nat→Prop) × (Option Addr) × Nat × Nat) (db:=fun(i,f,mm,G,o,g,p)=>[(0,.slice a n c),(1,.int .i64 rev),(7,.map (some U)),(8,.slice o g p),(9,.int .i64 (i:Int))]) (F:=fun(i,f,mm,G,o,g,p)=>[As.os RR.key 43 2 o g p (k::f),As.map Key.val U mm]) (I:=fun(i,f,mm,G,o,g,p)=>(i≤f.length+1)∧(dU w.heap.size Z G)∧(f.Nodup)∧(∀x∈f,bj l rev k x)∧(fM mm (·∈f))∧(∀(q:Nat) (y:Key),q<i→(k::f)[q]?=some y→∀x,Ld l rev y x→x∈f)∧True) (μ:=fun(i,f,mm,G,o,g,p)=>l.length+1 - i) (Zf:=fun(i,f,mm,G,o,g,p)=>G) (0,[],[],Z,(some ⟨XW,0,none⟩),1,1) (iL.p1.p1) Sub.t (⟨by simp,dU.refl _ _,by simp,by simp,fM.nil,fun q y h=>by omega,trivial⟩)<|?_;rintro⟨i,f,mm,G,o,g,p⟩ w4 J ⟨hi,hZ,zn,L,GA,Gq,_⟩;simp only [CA,NA] at J hi hZ zn L GA Gq ⊢;have ta:=((As.gs J.g0)).len;rw [List.length_cons] at ta
 have hyl:=ez zn fun x s=>k7 (L x s).eY
 rw [List.length_map] at hyl;refine(aT) (fun g20=>?_) fun g20=>?_
 ·
  simp at g20
  have y0:i<(k::f).length:=by simp;omega
  obtain⟨y,hy0⟩:∃y,(k::f)[i]=y:=⟨_,rfl⟩
  have hy:(k::f)[i]?=some y:=by rw [ae y0,hy0]
  have XX:y=k∨bj l rev k y:=by
   have:=List.getElem_mem y0
   rw [hy0] at this
   rcases List.mem_cons.1 this with h | h
   ·
    exact .inl h
   exact .inr (L y h)
  refine df ?_;obtain⟨jK,cF⟩:=Ow.addr (As.gs J.g0) hy;refine cD ?_;refine WP .r (PV.dO dn cF rfl rfl (by omega))<|(bf) ak (Ow.sP (As.gs J.g0) (by simp;omega) cF hy)<|?_;have V:=J;refine(cE) rV (lx (k:=y) V.e0 (As.gr V.g3)) ?_;rintro _ w5 ⟨f1,f2,f3,rfl,T3,qh⟩;have iP:=St.lr V qh;have KQ:=St.dC qh;have hsz:=V.size;have im:=iP.dZ (by omega);have uM:=hZ.trans (dU.nA (F:=fun x=>x∈aZ f1) KQ) hsz;have RJ:=((As.gr im.g0)).len;refine(fy) im fun MO w6 yo yp ju=>?_;refine(dw) gk ju fun w7 kI nj ek=>?_;refine(bq) gS ek.b0<|df ?_;refine WC.bm (σ:=Nat × (List Key) × (List (Key × Value)) × (Option Addr) × Nat × Nat) (db:=fun(j,d,C,o,g,p)=>[(0,.slice a n c),(1,.int .i64 rev),(7,.map (some U)),(8,.slice o g p),(9,.int .i64 (i:Int)),(33,.slice f1 f2 f3),(34,.int .i64 (f2:Int)),(35,.int .i64 (j:Int))]) (F:=fun(j,d,C,o,g,p)=>[As.os RR.key 43 2 o g p (k::d),As.map Key.val U C]) (I:=fun(j,d,C,o,g,p)=>(j≤f2)∧(f <+: d)∧(d.Nodup)∧(∀x∈d,bj l rev k x)∧(fM C (·∈d))∧(∀q x,q<j→(aF l y).reads[q]?=some x→bD l rev x=true→x∈d)∧True) (μ:=fun(j,d,C,o,g,p)=>f2 - j) (0,f,mm,o,g,p) (ek.p3.p3) Sub.t (⟨by omega,List.prefix_refl _,zn,L,GA,fun q x h=>by omega,trivial⟩)<|?_;rintro⟨j,d,C,o,g,p⟩ w8 N ⟨hj,H,K,O,Q,W,_⟩;simp only [CA,NA] at N hj H K O Q W ⊢;have AG:=((As.gs N.g0)).len;rw [List.length_cons] at AG
  have XY:=ez K fun x s=>k7 (O x s).eY
  rw [List.length_map] at XY;refine(aT) (fun XZ=>?_) fun XZ=>?_
  ·
   simp at XZ
   have X:j<(aF l y).reads.length:=by omega
   obtain⟨x,Y⟩:∃x,(aF l y).reads[j]=x:=⟨_,rfl⟩;have X0:=Q.get x (b:=decide (x∈d)) (by simp);refine df ?_;obtain⟨oV,C9,AA,gW,se,kA,kz,ly⟩:=Rd.at (As.gr N.g3) X;have kA:=RR.bT kA;subst kA;have dp:=N.fg ly kz;rw [Y] at kz dp;refine nx ?_;refine WP .r (PV.dO dn gW rfl rfl (by omega))<|(bf) ak (As.kW dp.g0)<|(fy) dp fun MP w9 Iv X1 cM=>?_;refine(dw) fW cM fun jP vI oh cS=>?_;refine cq ?_;refine WC.dz (t:=48) (v:=.bool (bD l rev x && !decide (x∈d))) cS ?_<|?_
   ·
    refine(bf) ak cS.b0<|(fw) (sc (k:=x) (As.gr cS.g7)) cS fun kF s11 B=>?_;refine(cG) (fun X2=>?_) (fun X2=>?_)
    ·
     refine(bf) ak B.b0<|?_;refine WP .r (PV.hW cB fE vC (As.gm B.g3) (X0) rfl rfl)<|?_;exact(bY) (by simp only [X2];first | rfl | simp) (B)
    exact(bY) (by simp only [X2];first | rfl | simp) (B)
   intro kF B;refine(aT) (fun S=>?_) fun S=>?_
   ·
    simp at S
    obtain⟨Ol,GC⟩:=S;have K9:Ld l rev y x:=⟨Y ▸ List.getElem_mem X,Ol⟩
    have X3:bj l rev k x:=by
     rcases XX with rfl | h
     ·
      exact .one K9
     exact .step h K9
    have Iw:(d++[x]).Nodup:=by rw [List.nodup_append];exact⟨K,by simp,fun a ha b hb=>by simp at hb;subst hb;rintro rfl;exact GC ha⟩
    refine(bf) ak B.b0<|?_;refine WL.go rfl (OX.put cB fE (As.gm B.g3) rfl rfl rfl fun pH sj sk=>?_);have hP:=B.p3.hJ sj sk;refine(bf) ak hP.b1<|?_;refine WL.go rfl (OX.aM (us:=x.cells) cP rfl rfl rfl rfl fun b53 qj X4 X5=>?_);have e7:=hP.du X4 X5;refine WL.ap rfl rfl e7.p4 (SR.cT (A:=fun _=>True) (x:=x) (As.gb e7.g0) trivial rfl (by simp [Key.cells,Value.oneCell']) rfl) fun a54 X6 yl afy afz fX=>?_;refine jg ?_
    refine eb (j+1,d++[x],_,a54,(g+1),X6) ⟨fX.p1.drop.p2.drop.p2.drop,⟨by omega,H.trans (List.prefix_append _ _),by rw [List.nodup_append];exact⟨K,by simp,fun a ha b hb=>by simp at hb;subst hb;rintro rfl;exact GC ha⟩,fun z u=>by
       rcases List.mem_append.1 u with u | u
       ·
        exact O z u
       simp at u;subst u;exact X3,Q.put x,cp (P:=fun _ z=>bD l rev z=true→z∈d++[x]) X (fun q z T u ho=>by simp [W q z T u ho]) (fun _=>by simp [← Y]),trivial⟩⟩
   skip
   refine eX ?_;refine eb (j+1,d,C,o,g,p) ⟨B.drop.drop,⟨by omega,H,K,O,Q,cp (P:=fun _ z=>bD l rev z=true→z∈d) X W (fun ho=>by rw [Y] at ho ⊢;simp [ho] at S;exact S),trivial⟩⟩
  simp at XZ
  refine lV ?_
  refine eb (i+1,d,C,_,o,g,p) ⟨N.p2.drop.p2.drop,⟨by have:=H.length_le;show i+1≤d.length+1;omega,uM,K,O,Q,fun q z T u x s=>by
     rcases Nat.lt_or_ge q i with h | h
     ·
      have Ub:(k::f)[q]?=some z:=by
       obtain⟨t,rfl⟩:=H;rw [← List.cons_append,List.getElem?_append_left (by simp;omega)] at u;exact u
      exact H.subset (Gq q z h Ub x s)
     have e:q=i:=by omega
     subst e
     have Ub:some y=some z:=by rw [← hy,← u];obtain⟨t,rfl⟩:=H;rw [← List.cons_append,List.getElem?_append_left (by simp;omega)]
     simp at Ub;subst Ub
     obtain⟨j,hj,rfl⟩:=List.mem_iff_getElem.1 s.1;exact W j _ (by omega) (ae hj) s.2,trivial⟩⟩
 simp at g20
 have Dj:=vi L fun y hy x s=>by
  obtain⟨q,T,rfl⟩:=List.mem_iff_getElem.1 hy;exact Gq q _ (by simp at T;omega) (ae T) x s
 refine(bF) ?_;exact⟨_,_,_,rfl,hZ,GA.congr Dj,J.p1.k1⟩
theorem AR(gn:St w M Z w []) (hl:Rd RR.fl 8 Z w a n c l) (h6:l.length≤100000):Calls prog 134 #[.slice a n c,.int .i64 rev,k.val] w fun e w'=>∃X Y c' Z',e=.returned (.slice X Y c')∧dU w.heap.size Z Z'∧St w M Z' w' [As.os RR.key 43 2 X Y c' (aC l rev k)]:=by
 have hlen:=hl.len;have hle:=hl.le;refine enter func134 rfl ntmps134 rfl<|?_;have aR:=St.rb gn;have st1:=aR.fr hl;refine(dy) st1 fun b5 w1 JA Ih st2=>?_;refine(bf) ak st2.b0<|(fw) (sc (k:=k) (As.gr st2.g1)) st2 fun w2 s2 H=>?_;refine(aT) (fun g15=>?_) fun g15=>?_
 ·
  simp at g15
  have N:aC l rev k=[k]:=by unfold aC;rw [if_neg (by simp [g15])]
  refine(bf) ak H.b0<|?_;refine WL.go rfl (OX.aM (us:=k.cells) cP rfl rfl rfl rfl fun Uc w3 MQ Ix=>?_);have J:=St.mI (R:=RR.key) (E:=43) (k:=2) (a:=some ⟨Uc,0,none⟩) (n:=1) (c:=1) (xs:=[k]) H MQ.ext (OR.cT Ix (Nat.zero_le _) rfl (by simp [Key.cells,Value.oneCell']) rfl) (fun x o=>by simp [aZ] at o;subst o;exact MQ.ge);refine(bF) ?_;exact⟨_,_,_,_,rfl,dU.refl _ _,by rw [N];exact(St.wk J.p1.drop.p1.drop)⟩
 simp at g15
 have N:aC l rev k=gP (k::gC l rev k l):=by unfold aC;rw [if_pos g15]
 refine(bf) ak H.b0<|?_;refine WL.go rfl (OX.aM (us:=k.cells) cP rfl rfl rfl rfl fun R1 w3 FM MR=>?_);have J:=St.mI (R:=RR.key) (E:=43) (k:=2) (a:=some ⟨R1,0,none⟩) (n:=1) (c:=1) (xs:=[k]) H FM.ext (OR.cT MR (Nat.zero_le _) rfl (by simp [Key.cells,Value.oneCell']) rfl) (fun x o=>by simp [aZ] at o;subst o;exact FM.ge);refine(bf) ak J.b1<|?_;have K:=J;refine(cE) Jx (pI (k:=k) K.e0 (As.gr K.g2) (by omega)) ?_;rintro _ w4 ⟨bt,mt,Z1,rfl,DF,Om,AU⟩;have ke:=St.lv K AU DF;have uM:=DF.le K.size;refine aQ ?_;refine WC.bm (σ:=Nat × (List Key) × (Option Addr) × Nat × Nat) (db:=fun(i,acc,f,g,s)=>[(0,.slice a n c),(1,.int .i64 rev),(5,.pointer (some ⟨b5,0,none⟩)),(7,.slice f g s),(8,.map (some bt)),(24,.slice a n c),(25,.int .i64 (n:Int)),(26,.int .i64 (i:Int))]) (F:=fun(i,acc,f,g,s)=>[As.os RR.key 43 2 f g s (acc)]) (I:=fun(i,acc,f,g,s)=>(i≤n)∧(acc=k::gC l rev k (l.take i))∧True) (μ:=fun(i,acc,f,g,s)=>n - i) (0,[k],(some ⟨R1,0,none⟩),1,1) (ke.p1) Sub.t (⟨by omega,by simp [gC],trivial⟩)<|?_;rintro⟨i,acc,f,g,s⟩ w5 u ⟨hi,z,_⟩;simp only [CA,NA] at u hi z ⊢;have ta:=((As.gs u.g0)).len;have On:=mN l rev k (l.take i)
 have uL:acc.length≤100001:=by rw [z,List.length_cons];rw [List.length_take] at On;omega
 refine(aT) (fun O=>?_) fun O=>?_
 ·
  simp at O
  have P:i<l.length:=by omega
  have hto:=Om.get l[i].key iF;refine df ?_;obtain⟨jK,qe,nX,cF,i6,gU,ft,fF⟩:=Rd.at (As.gr u.g3) P;obtain⟨q1,q2,q3,rfl,JB,Ii⟩:=gU;have Q:=u.fg fF ft;have y:=Q.fr JB;refine nx ?_;refine WP .r (PV.dO jk cF rfl rfl (by omega))<|(bf) dN (As.kW y.g1)<|(fy) y fun MO w6 yo yp S=>?_;refine(dw) gk S fun w7 kI nj C=>?_;refine cq ?_;refine WC.dz (t:=48) (v:=.bool (xC l rev k l[i])) C ?_<|?_
  ·
   have Mn:=C.bA;have X7:=C.hV;have X8:=C.size;refine WC.cH (m:=17) (E:=bN [(15,Ea w7.heap.size fun m=>fM m (bj l rev l[i].key))]) C (aU (⟨fun _ _ _ _ _ _ c h=>Ea.st Mn c h,trivial⟩)) mixed (by kernel_rfl)<|(tW) ak St.g0<|(fe) ak St.g5<|?_;refine DP .r (fun _ j=>PV.DZ eI (p:=l[i].key) (q:=k) rfl rfl)<|(l9) (fun L=>?_) (fun L=>?_)
   ·
    refine(tW) ak St.g0<|?_;refine DP .r (fun _ j=>PV.hW cB fE vC (As.gm j.2.g4) (hto) rfl rfl)<|(l9) (fun T=>?_) (fun T=>?_)
    ·
     refine(tW) ak St.g0<|?_;refine DW.e rfl rfl rfl rfl rfl (fun wx j hF=>OX.call Jx rfl rfl ((pI (k:=l[i].key) (j.2.e0) (As.gr j.2.g6) (by omega)).mono ?_))<|?_
     ·
      rintro _ wy ⟨b,m,Z',rfl,hZ',hm,U⟩;have hy:=U.cg0;exact⟨_,rfl,⟨Nat.le_trans j.1 hy.size,j.2.step hy⟩,hy.p0,_,rfl,b,m,rfl,Nat.le_trans j.1 (St.dC U b rfl),As.gm U.g0,hm⟩
     rintro _ wz _ ⟨Ud,_,rfl,_,_,_⟩;refine(fe) ak St.g5<|(cx)<|?_;rintro V ⟨vN,d⟩ ⟨X9,_⟩;obtain⟨_,m45,h1,R2,R3,Ya⟩:=X9
     simp at h1;subst h1
     have K9:=Ya.get k iF;have G:=d.add (B:=As.map Key.val Ud m45) R3 (fun x o=>by have h1:x=Ud:=o;subst h1;exact R2) Mn X7 X8;refine WP .r (PV.hW cB fE vC (As.gm G.g0) (K9) rfl rfl)<|?_;exact(bY) (by unfold xC;simp only [L,T];first | rfl | simp) (G.drop)
    refine(cx) ?_;rintro V ⟨vN,d⟩ _;exact(bY) (by unfold xC;simp only [L,T];first | rfl | simp) (d)
   refine(cx) ?_;rintro V ⟨vN,d⟩ _;exact(bY) (by unfold xC;simp only [L];first | rfl | simp) (d)
  intro V d;refine(aT) (fun W=>?_) fun W=>?_
  ·
   refine(jY) ak d.b0<|?_;refine WL.go rfl (OX.aM (us:=l[i].key.cells) cP rfl rfl rfl rfl fun b52 w9 Yb Yc=>?_);have G:=d.du Yb Yc;refine WL.ap rfl rfl G.p4 (SR.cT (A:=fun _=>True) (x:=l[i].key) (As.gb G.g0) trivial rfl (by simp [Key.cells,Value.oneCell']) rfl) fun a53 Yd jP afC afD cS=>?_;refine jg ?_;refine eb (i+1,_,a53,(g+1),Yd) ⟨cS.p7.p7.p7.p3.k4,⟨by omega,by rw [z,po P,if_pos W];rfl,trivial⟩⟩
  refine eX ?_;refine eb (i+1,_,f,g,s) ⟨d.p6.p6.p6.p6.k4,⟨by omega,by rw [z,po P,if_neg (by simp [W])],trivial⟩⟩
 simp at O
 have kX:acc=k::gC l rev k l:=by rw [z,List.take_of_length_le (by omega)]
 subst kX;refine fY ?_;have On:=mN l rev k l;refine bJ ?_;have Iy:=St.fresh u;have Q:=u.dZ (by simp;omega);have y:=Q;refine(cE) LW (kf y.e0 (As.gr y.g0) (fun _ h _=>h) (by simp;omega)) ?_;rintro _ w6 ⟨f1,f2,f3,rfl,AV⟩;have S:=St.lr y AV;refine(bF) ?_;exact⟨_,_,_,_,rfl,uM.trans (dU.nA (F:=fun x=>x∈aZ f) Iy) (Nat.le_refl _),by rw [N];exact(St.wk S.k1)⟩
set_option maxHeartbeats 400000
theorem pJ(q:ao aa) (hk:eB aa k) (i:St w M Z w [As.k8 prog 139 aa x D]):Calls prog 49 #[.pointer (some ⟨D.s,0,none⟩),k.val] w fun e w'=>e=.returned (.string (valOf aa x.ab k))∧St w M Z w' [As.k8 prog 139 aa x D]:=by
 obtain⟨j,hb,⟨ml,hm,r⟩,o⟩:=i.g0;have d:St w M Z w (As.blk D.s 139 (D.cells x)::As.map Key.val D.m ml::[]):=St.split i hb r (fun y h=>.inl h) (fun y h=>.inr h) (fun y (h1:y=D.s) (d:y=D.m)=>j (h1.symm.trans d));refine(oW q hk _ _ _ _ (St.enter (rest:=[]) d) o hm).mono<|?_;rintro e w' ⟨p,rfl,t,_,f⟩;have g:St w M Z w' (As.blk D.s 139 (D.cells x)::As.map Key.val D.m p::[]):=St.leave (rest:=[]) (l0:=[_,_]) d f (dU.refl _ _);refine⟨rfl,g.join ⟨j,g.g0,⟨p,t,g.g1⟩,(D.F prog aa x).st f.bS.size (fun y hy hl=>f.bS.block y hl fun⟨A,u,v⟩=>d.jV A u y v hy) o⟩ fun y h=>h⟩
theorem th(z:ao aa) (hk:eB aa k) (A:St w M Z w [As.k8 prog 139 aa x D]) (hi:Rd RR.aA 4 Z w a1 n1 e1 b.ab) (hr:Rd RR.fl 8 Z w a2 n2 e2 b.ah):Calls prog 138 #[.pointer (some ⟨D.s,0,none⟩),.agg (b.row a1 n1 e1 a2 n2 e2).toArray,k.val] w fun e w'=>e=.returned (.int .i64 (aP (valOf aa x.ab) b k))∧St w M Z w' [As.k8 prog 139 aa x D]:=by
 refine enter func138 rfl ntmps138 rfl<|?_;have aR:=A;have st1:=aR.fr hi;have st2:=st1.fr hr;refine(dy) st2 fun b4 w1 G H B=>?_;refine(dy) B fun b5 w2 I J r=>?_;refine(bf) ak r.b0<|(fw) (cJ (k:=k)) r fun w3 K f=>?_;refine(aT) (fun g10=>?_) fun g10=>?_
 ·
  skip
  refine(bf) bu f.b1<|(bf) ak f.b0<|(fw) (yc (k:=k) (As.gr f.g3) (As.gr f.g2)) f fun w4 u g=>?_;refine(bF) ?_;exact⟨by unfold aP;rw [if_pos g10],g.p4.k1⟩
 refine(bq) fb f.b1<|(bf) ak f.b0<|(cE) rV (dE (k:=k) (As.gr f.g2)) ?_;rintro _ w4 ⟨f1,f2,f3,rfl,u⟩;have g:=f.step u;refine(fy) g fun L w5 N O C=>?_;refine(dw) gk C fun w6 P Q i=>?_;refine df ?_;refine WC.dz (t:=36) (v:=.bool ((az b.ah k).isSome && (decide ((aF b.ah k).av=b.ad) || decide (valOf aa x.ab k=(aF b.ah k).value)))) i ?_<|?_
 ·
  have R:=i.bA;refine WC.cH (m:=13) (E:=bN [(10,fun v _=>v=.string (valOf aa x.ab k))]) i (aU (⟨fun _ _ _ _ _ _ _ h=>h,trivial⟩)) mixed (by kernel_rfl)<|(l9) (fun g22=>?_) (fun g22=>?_)
  ·
   refine(gp) aL St.g0<|(gp) aL St.g2<|(l9) (fun j=>?_) (fun j=>?_)
   ·
    refine(cx) ?_;rintro w7 ⟨y,d⟩ _;exact(bY) (by simp only [g22,j];first | rfl | simp) (d)
   refine(fe) ak St.g1<|?_;refine DW.e rfl rfl rfl rfl rfl (fun S o T=>OX.call C1 rfl rfl ((pJ (k:=k) z hk (o.2.one (.tail _ (.tail _ (.tail _ (.tail _ (.tail _ (.head _)))))))).mono ?_))<|?_
   ·
    rintro _ wy ⟨rfl,hy⟩;exact⟨_,rfl,⟨Nat.le_trans o.1 hy.bS.size,o.2.xD M5 hy⟩,hy.bS.mono (fun _ _ F=>Bw M5 F),_,rfl,rfl⟩
   rintro _ U _ rfl;refine(gp) fq St.g0<|(cx)<|?_;rintro w7 ⟨y,d⟩ ⟨_,_⟩;exact(bY) (by simp only [g22,j];first | rfl | simp) (d)
  refine(cx) ?_;rintro w7 ⟨y,d⟩ _;exact(bY) (by simp only [g22];first | rfl | simp) (d)
 intro w7 d;refine(aT) (fun p=>?_) fun p=>?_
 ·
  have q:aP (valOf aa x.ab) b k=(aF b.ah k).changed:=by unfold aP;rw [if_neg (by simp [g10]),if_pos p]
  refine(bq) aL d.b0<|(bF) ?_;exact⟨by rw [q],d.p5.k1⟩
 have q:aP (valOf aa x.ab) b k=b.ad:=by unfold aP;rw [if_neg (by simp [g10]),if_neg (by simp [p])]
 refine(bq) aL d.b2<|(bF) ?_;exact⟨by rw [q],d.p5.k1⟩
theorem vU(i:ao aa) (hk:eB aa k) (j:St w M Z w [As.k8 prog 139 aa x D]) (hi:Rd RR.aA 4 Z w a1 n1 e1 b.ab) (hr:Rd RR.fl 8 Z w a2 n2 e2 b.ah):Calls prog 141 #[.pointer (some ⟨D.s,0,none⟩),.agg (b.row a1 n1 e1 a2 n2 e2).toArray,k.val] w fun e w'=>e=.returned (.string (dt (valOf aa x.ab) b k))∧St w M Z w' [As.k8 prog 139 aa x D]:=by
 refine enter func141 rfl ntmps141 rfl<|?_;have aR:=j;have st1:=aR.fr hi;have st2:=st1.fr hr;refine(dy) st2 fun b4 w1 p q m=>?_;refine(dy) m fun b5 w2 r t h=>?_;refine(bf) ak h.b0<|(fw) (dD (k:=k)) h fun w3 u d=>?_;refine(aT) (fun g10=>?_) fun g10=>?_
 ·
  have f:dt (valOf aa x.ab) b k=valOf aa x.ab k:=by unfold dt;rw [if_pos g10]
  refine(bf) ak d.b0<|(cE) C1 (pJ (k:=k) i hk (d.one (.tail _ (.tail _ (.tail _ (.tail _ (.head _))))))) ?_;rintro _ w4 ⟨rfl,o⟩;have g:=d.xD M4 o;refine(bF) ?_;exact⟨by rw [f],g.p4.k1⟩
 have f:dt (valOf aa x.ab) b k=nG b k:=by unfold dt;rw [if_neg (by simp [g10])]
 refine(bf) bu d.b1<|(bf) ak d.b0<|(fw) (Ax (k:=k) (As.gr d.g3) (As.gr d.g2)) d fun w4 v g=>?_;refine aQ ?_;refine(bF) ?_;exact⟨by rw [f];rfl,g.p4.k1⟩
theorem sn{group:List Key}{bp:Bool}{u:Option Addr}{g eg:Nat}(U:St w M Z w []) (hi:Rd RR.aA 4 Z w a1 n1 e1 x.ab) (hr:Rd RR.fl 8 Z w a2 n2 e2 x.ah) (V:Rd RR.key 2 Z w u g eg group) (W:x.ah.length≤1000000) (X:x.ab.length≤1000000):Calls prog 136 #[.agg (x.row a1 n1 e1 a2 n2 e2).toArray,.slice u g eg,.bool bp] w fun e w'=>∃E G H J K L Z',e=.returned (.agg ((de x group bp).row E G H J K L).toArray)∧dU w.heap.size Z Z'∧St w M Z' w' [As.os RR.aA 80 4 E G H (de x group bp).ab,As.os RR.fl 50 8 J K L (de x group bp).ah]:=by
 have Iz:=hi.len;have Jf:=hr.len;refine enter func136 rfl ntmps136 rfl<|?_;have aR:=St.rb U;have st1:=aR.fr hi;have st2:=st1.fr hr;have Y:=st2.fr V;refine(dy) Y fun b3 w1 DB uK iL=>?_;refine(fy) iL fun b6 w2 C7 Ij N=>?_;refine(bf) bu N.b1<|?_;have q:=N;refine(cE) Fm (gV q.e0 (As.gr q.g4) (As.gr q.g3) W X) ?_;rintro _ w3 ⟨f1,f2,f3,f4,f5,f6,Z1,rfl,O,qf⟩;have P:=St.lv q qf O;have uM:=O.le q.size;have JL:=((As.gs P.g1)).len;refine(dw) jl P.p3 fun w4 kI nj Q=>?_;refine(bq) fb Q.b0<|df ?_;refine WC.bm (σ:=Nat × (List Rec)) (db:=fun(i,acc)=>[(1,.slice u g eg),(2,.bool bp),(3,.pointer (some ⟨b3,0,none⟩)),(6,.pointer (some ⟨b6,0,none⟩)),(12,.int .i64 (f5:Int)),(13,.int .i64 (i:Int))]) (F:=fun(i,acc)=>[As.os RR.fl 50 8 f4 f5 f6 acc]) (I:=fun(i,acc)=>(i≤f5)∧(acc=(x.ah.take i).map (bK x.ad group bp)++x.ah.drop i)∧True) (μ:=fun(i,acc)=>f5 - i) (0,x.ah) (Q.p2) Sub.t (⟨by omega,by simp,trivial⟩)<|?_;rintro⟨i,acc⟩ w5 m ⟨eJ,s,_⟩;simp only [CA,NA] at m eJ s ⊢
 have uL:acc.length=x.ah.length:=by rw [s];simp;omega
 refine(aT) (fun g14=>?_) fun g14=>?_
 ·
  simp at g14
  have y0:i<x.ah.length:=by omega
  have v:=zu (x:=x) (group:=group) (bp:=bp) y0 (by omega);rw [← s] at v
  have p:acc[i]?=some x.ah[i]:=by rw [s,List.getElem?_append_right (by simp;omega)];simp [Nat.min_eq_left (by omega:i≤x.ah.length)]
  refine aQ ?_;obtain⟨jK,nX,cF,i6,gU,ft⟩:=Ow.at (As.gs m.g0) (by omega) p;obtain⟨q1,q2,q3,rfl,afE,afF⟩:=gU
  have R:∀y,y=bK x.ad group bp x.ah[i]→acc.set i y=(x.ah.take (i+1)).map (bK x.ad group bp)++x.ah.drop (i+1):=fun y hy=>by rw [hy];exact v
  refine(bq) fb m.b1<|nx ?_;refine WP .r (PV.dO jk cF rfl rfl (by omega))<|(jY) ak ft<|(fw) (oS (k:=x.ah[i].key) (As.gr m.g4)) m fun w6 s6 d=>?_;refine(aT) (fun g24=>?_) fun g24=>?_
  ·
   simp at g24
   have EC:acc=(x.ah.take (i+1)).map (bK x.ad group bp)++x.ah.drop (i+1):=by
    rw [← v]
    have:bK x.ad group bp x.ah[i]=x.ah[i]:=by unfold bK;rw [if_neg g24]
    rw [this]
    apply List.ext_getElem?
    intro j;rw [List.getElem?_set]
    split
    ·
     rename_i e;subst e;rw [p];simp;omega
    rfl
   refine jg ?_;refine eb (i+1,acc) ⟨d,⟨by omega,EC,trivial⟩⟩
  simp at g24
  refine(aT) (fun o=>?_) fun o=>?_
  ·
   have o:bp=true:=o;subst o;have z:=R {x.ah[i] with bp:=true} (by unfold bK;rw [if_pos g24];rfl);obtain⟨oV,AA,S,se,kA,kz⟩:=Ow.at (As.gs d.g0) (by omega) p;refine(bq) fb d.b1<|nx ?_;refine WP .r (PV.dO jk S rfl rfl (by omega))<|nx ?_;refine WL.go rfl (OX.OW (i:=i) (f:=7) sz4 (As.gs d.g0) S p (by omega) rfl rfl rfl {x.ah[i] with bp:=true} (fun r _ ⟨a,n,c,h1,A,B⟩=>⟨a,n,c,by rw [h1];rfl,A,B⟩) fun w7 s7 h7x=>?_);have C:=d.lT s7 h7x (fun x h=>.inl h);refine eX ?_;refine eb (i+1,_) ⟨C,⟨by omega,z,trivial⟩⟩
  have o:bp=false:=o;subst o;have z:=R {x.ah[i] with av:=x.ad} (by unfold bK;rw [if_pos g24];rfl);obtain⟨Di,R4,T,JM,pK,B4⟩:=Ow.at (As.gs d.g0) (by omega) p;refine(bq) fb d.b1<|(bq) aL d.b1<|?_;refine WP .r (PV.dO jk T rfl rfl (by omega))<|nx ?_;refine WL.go rfl (OX.OW (i:=i) (f:=5) Of (As.gs d.g0) T p (by omega) rfl rfl rfl {x.ah[i] with av:=x.ad} (fun r _ ⟨a,n,c,h1,A,B⟩=>⟨a,n,c,by rw [h1];rfl,A,B⟩) fun w7 s8 h8x=>?_);have C:=d.lT s8 h8x (fun x h=>.inl h);refine eX ?_;refine eb (i+1,_) ⟨C,⟨by omega,z,trivial⟩⟩
 simp at g14
 have kX:acc=(de x group bp).ah:=by rw [s,List.take_of_length_le (by omega),List.drop_eq_nil_of_le (by omega)];simp [de]
 subst kX;refine(bf) bu m.b1<|(dw) jl m.p3 fun w6 vI oh d=>?_;refine(jt) bu d.b0<|?_;exact⟨_,_,_,_,_,_,_,rfl,uM,(St.wk d.p1.p3.k2)⟩
theorem yq{s:ES}{E:EA}{sb y z:Nat}(i:bM w z 107 (E.cells sb y s)) (hb:KM Key.val w y s.busy) (F:∀k,aX s.busy k=none∨aX s.busy k=some (.bool true)) (hr:Rd RR.fl 8 Z w E.a2 E.n2 E.c2 s.b.ah):CR prog 137 #[.pointer (some ⟨z,0,none⟩),k.val] w (.bool (dj s k)):=by
 have G:(aX s.busy k).getD (.bool false)=.bool (s.on k):=by unfold ES.on;rcases F k with h | h <;> rw [h] <;> rfl
 refine enter func137 rfl ntmps137 rfl<|?_;have aR:=St.s0 w;refine(dy) aR fun b3 w1 P Q st1=>?_;refine df ?_;refine WC.dz (t:=20) (v:=.bool (aw k || (s.on k && aB k))) st1 ?_<|?_
 ·
  have R:=st1.bA;refine WC.cH (m:=8) (E:=bN [(1,fun v _=>v=.bool (aw k))]) st1 (aU (⟨fun _ _ _ _ _ _ _ h=>h,trivial⟩)) mixed (by kernel_rfl)<|(fe) ak St.g0<|?_;refine DW.c0 (fun A d B=>cJ (k:=k))<|(l9) (fun g9=>?_) (fun g9=>?_)
  ·
   refine(cx) ?_;rintro w2 ⟨H,st2⟩ ⟨_,_⟩;exact(bY) (by simp only [g9];first | rfl | simp) (st2)
  refine cq ?_;refine DP .r (fun _ d=>V1 pz (bM.range (i.ext (St.cg d.2))) .r)<|(fe) ak St.g0<|(cx)<|?_;rintro w2 ⟨H,st2⟩ ⟨_,_⟩;refine WP .r (PV.hW cB fE vC (hb.ext (St.cg st2)) (G) rfl rfl)<|(cG) (fun g16=>?_) (fun g16=>?_)
  ·
   refine(bf) ak st2.b0<|(fw) (dD (k:=k)) st2 fun w3 S o=>?_;exact(bY) (by simp only [g9,g16];first | rfl | simp) (o)
  exact(bY) (by simp only [g9,g16];first | rfl | simp) (st2)
 intro w2 st2;refine(aT) (fun g20=>?_) fun g20=>?_
 ·
  have p:dj s k=true:=by unfold dj;simp only [Bool.or_eq_true,Bool.and_eq_true] at g20 ⊢;rcases g20 with h | h <;> simp [h]
  refine(bF) ?_;exact⟨by rw [p],(St.cg st2)⟩
 have p:dj s k=aI s.b k:=by unfold dj;simp only [Bool.or_eq_false_iff] at g20;rw [g20.1,g20.2];rfl
 refine cq ?_;have C:=st2.bA;have I:=st2.hV;have J:=st2.size;refine WC.mJ (m:=11) [9] (E:=bN [(6,fun v _=>∃f1 f2 f3,v=.tuple #[.agg ((aF s.b.ah k).row f1 f2 f3).toArray,.bool (az s.b.ah k).isSome]),(10,PB w2.heap.size 50 [.int .i64 0,.string ⟨#[]⟩,.string ⟨#[]⟩,.slice none 0 0,.int .i64 0,.int .i64 0,.int .i64 0,.bool false])]) st2 (aU (⟨fun _ _ _ _ _ _ _ h=>h,⟨fun _ _ _ _ _ _ c h=>PB.st C c h,trivial⟩⟩)) mixed (by kernel_rfl) rfl ?_;refine cD ?_;refine DP .r (fun _ d=>PV.ld1 (j:=3) fb (bM.range (i.ext (St.cg d.2))) rfl rfl)<|(fe) ak St.g0<|?_;refine DW.e rfl rfl rfl rfl rfl (fun A d B=>OX.call rV rfl rfl ((dE (k:=k) (hr.ext (St.cg d.2))).mono ?_))<|?_
 ·
  rintro _ wy ⟨f1,f2,f3,rfl,hy⟩;exact⟨_,rfl,⟨Nat.le_trans d.1 hy.size,d.2.step hy⟩,hy.p0,_,rfl,⟨f1,f2,f3,rfl⟩⟩
 rintro _ K _ ⟨f1,f2,f3,rfl⟩;refine cq ?_;refine DW.e rfl rfl rfl rfl rfl (fun A d B=>OX.alloc oL rfl fun b wy g hb=>⟨⟨Nat.le_trans d.1 g.ext.size,d.2.step g.ext⟩,g.ext.p0,_,rfl,_,rfl,Nat.le_trans d.1 g.ge,hb⟩)<|?_;rintro _ K _ ⟨b5,rfl,_,_⟩;refine(cx) ?_;rintro w3 ⟨T,o⟩ ⟨L,⟨_,_⟩⟩;have N:=o.ov L C I J;refine(dw) gk N fun w4 U V q=>?_;refine nx ?_;refine WL.nil (EX.np ?_);refine bJ ?_;refine WC.jf (t:=4) (v:=.bool (aI s.b k)) q ?_<|?_
 ·
  have W:=q.bA;refine WC.dS (m:=9) q mixed<|(l9) (fun u=>?_) (fun u=>?_)
  ·
   refine(gp) aL St.g0<|cD ?_;refine DP .r (fun _ d=>PV.ld1 (j:=1) aL (bM.range (i.ext (St.cg d.2))) rfl rfl)<|(cx)<|?_;rintro w5 ⟨O,f⟩ _;exact(e8) (by unfold aI;simp only [u];first | rfl | simp) (f)
  refine(cx) ?_;rintro w5 ⟨O,f⟩ _;exact(e8) (by unfold aI;simp only [u];first | rfl | simp) (f)
 intro w5 f;refine(bF) ?_;exact⟨by rw [p],(St.cg f)⟩
end Go.Rc

