/- Walks over the program, part WK. Conditions: as each theorem says. -/
import Derived.Test.YtfamnpoplgkkcaaGreatDoorOFacts
import Derived.Test.YtfamnpoplgkkcaaGreatDoorOWH
import Derived.Test.YtfamnpoplgkkcaaGreatDoorOBe
import Derived.Test.YtfamnpoplgkkcaaGreatDoorOWI
import Derived.Test.YtfamnpoplgkkcaaGreatDoorOWF
set_option linter.all false
namespace Go.Rc
open Go Go.Proofs Go.Proofs.Tryz
variable {l:List Rec}{a a1 a2:Option Addr}{n c n1 e1 n2 e2:Nat}{w:World}{M Z:Nat→Prop}{rev:Int}{k:Key}{aa:List aG}{x b:cy}{D:SD}
set_option maxHeartbeats 400000
set_option maxHeartbeats 1600000 in
theorem qC{l:List Key}{A:Nat→Prop}(gk:St w M Z w []) (Up:Rd RR.key 2 A w a n c l) (hA:∀x,A x→x<w.heap.size→Z x) (h6:l.length≤1000000):Calls prog 103 #[.slice a n c] w fun e w'=>∃K n' L,e=.returned (.slice K n' L)∧St w M Z w' [As.os RR.key 41 2 K n' L (kf l)]:=by
 have hl:Rd RR.key 2 Z w a n c l:=SR.mono Up hA fun _ _ h=>h
 have hlen:=hl.len;have hle:=hl.le;refine enter func103 rfl ntmps103 rfl<|?_;have aO:=gk;have st1:=aO.fr hl;have st2:=st1.dp RR.key 41 2;refine aX ?_;refine ed ?_;refine WC.bd (σ:=Nat × (List Key) × (Option Addr) × Nat × Nat) (dj:=fun(i,out,C,y,G)=>[(3,.slice C y G),(7,.slice a n c),(8,.int .i64 (n:Int)),(9,.int .i64 (i:Int))]) (F:=fun(i,out,C,y,G)=>[As.os RR.key 41 2 C y G (out)]) (I:=fun(i,out,C,y,G)=>(i≤n)∧(out=kf (l.take i))∧True) (μ:=fun(i,out,C,y,G)=>n - i) (0,[],none,0,0) (st2) Sub.t (⟨by omega,rfl,trivial⟩)<|?_;rintro⟨i,out,C,y,G⟩ w1 U ⟨hi,V,_⟩;simp only [CA,NA] at U hi V ⊢;have qU:=((As.gs U.g0)).len
 have hol:out.length≤1000000:=by have:=xz (l.take i);rw [← V,List.length_take] at this;omega
 refine(aR) (fun g10=>?_) fun g10=>?_
 ·
  simp at g10
  have rY:i<l.length:=by omega
  refine db ?_;obtain⟨gH,kz,jY,cR,gG,eZ,et,eI⟩:=Rd.at (As.gr U.g1) rY;have eZ:=RR.a8 eZ;subst eZ;have ik:=U.fg eI et;refine nx ?_;refine WP .r (PV.dI ek cR rfl rfl (by omega))<|(aY) ao (As.kH ik.g0)<|(eN) ik fun b5 w2 HM HN iY=>?_;refine(cF) gQ iY fun w3 jO jZ iC=>?_;refine kI ?_;refine WC.bd (σ:=Nat) (dj:=fun p=>[(3,.slice C y G),(5,.pointer (some ⟨b5,0,none⟩)),(6,.int .i64 (p:Int)),(7,.slice a n c),(8,.int .i64 (n:Int)),(9,.int .i64 (i:Int))]) (F:=fun p=>[]) (I:=fun p=>(p≤out.length)∧(∀q x,q<p→out[q]?=some x→bA x l[i]<0)∧True) (μ:=fun p=>out.length - p) (0) (iC) Sub.t (⟨by omega,fun q x h=>by omega,trivial⟩)<|?_;rintro p w4 Q ⟨hp,AB,_⟩;simp only [CA,NA] at Q hp AB ⊢;have Fh:=((As.gs Q.g2)).len;refine bK ?_;refine WC.dU (t:=25) (v:=.bool (Bx out p l[i])) Q ?_<|?_
  ·
   have PA:=Q.bL;refine WC.dS (m:=10) Q mixed<|(ob) (fun g17=>?_) (fun g17=>?_)
   ·
    simp at g17
    have R:p<out.length:=by omega
    have H:=ak R;obtain⟨rW,jP⟩:=Ow.addr (As.gs Q.g2) H
    have S:Bx out p l[i]=decide (bA out[p] l[i]<0):=by unfold Bx;rw [H]
    refine bK ?_;refine DP .r (fun _ d=>PV.dI ek jP rfl rfl (by omega))<|DP .r (fun _ d=>VA ao (Ow.jD (As.gs d.2.g2) (by omega) jP H) .r)<|(gI) ao St.g0<|(cP)<|?_;rintro w5 ⟨qD,z⟩ _;refine(eS) (j7 (k:=out[p]) (q:=l[i])) z fun w6 s6 g=>?_;exact(cw) (by rw [S]) (g)
   simp at g17
   have S:Bx out p l[i]=false:=by unfold Bx;rw [List.getElem?_eq_none (by omega)]
   refine(cP) ?_;rintro w5 ⟨qD,z⟩ _;exact(cw) (by rw [S]) (z)
  intro w5 z;refine(aR) (fun u=>?_) fun u=>?_
  ·
   have R:p<out.length:=by
    rcases Nat.lt_or_ge p out.length with h | h
    ·
     exact h
    unfold Bx at u;rw [List.getElem?_eq_none h] at u;cases u
   have hcm:bA out[p] l[i]<0:=by unfold Bx at u;rw [ak R] at u;simpa using u
   refine kI ?_;refine ef (p+1) ⟨z,⟨by omega,cG (P:=fun _ x=>bA x l[i]<0) R AB hcm,trivial⟩⟩
  have Io:∀x,out[p]?=some x→0≤bA x l[i]:=fun x hx=>by unfold Bx at u;rw [hx] at u;simp at u;omega
  have Yi:=Mb out l[i] p hp AB Io;refine fO ?_;refine WC.dU (t:=39) (v:=.bool (decide (out[p]?≠some l[i]))) z ?_<|?_
  ·
   have Pr:=z.bL;refine WC.dS (m:=10) z mixed<|(ob) (fun SS=>?_) (fun SS=>?_)
   ·
    simp at SS
    have S:out[p]?=none:=List.getElem?_eq_none (by omega);refine(cP) ?_;rintro w6 ⟨l8,g⟩ _;exact(cw) (by first | (rw [S];rfl) | (rw [H];simp)) (g)
   simp at SS
   have R:p<out.length:=by omega
   have H:=ak R;obtain⟨HX,ks⟩:=Ow.addr (As.gs z.g2) H;refine bK ?_;refine DP .r (fun _ d=>PV.dI ek ks rfl rfl (by omega))<|DP .r (fun _ d=>VA ao (Ow.jD (As.gs d.2.g2) (by omega) ks H) .r)<|(gI) ao St.g0<|(cP)<|?_;rintro w6 ⟨l8,g⟩ _;refine WP .r (PV.Lk fH (p:=out[p]) (q:=l[i]) rfl rfl)<|?_;exact(cw) (by first | (rw [S];rfl) | (rw [H];simp)) (g)
  intro w6 g;refine(aR) (fun O=>?_) fun O=>?_
  ·
   have O:¬out[p]?=some l[i]:=by simpa using O
   obtain⟨N,W⟩:∃N,N=w6.heap.size:=⟨_,rfl⟩;have T:=g.jG;have h0N:=g.size;have hlN:=g.bL;have am7:=((As.gs g.g2)).len;rw [← W] at T h0N hlN;have hN9:=g.bL;refine WC.I4 (m:=10) (fun j w w'=>match j with | 6=>DV N 41 (p*2) 2 w w' | _=>aS [] w w') (E:=cA [(3,fun v w'=>∃a c,v=.slice a p c∧(∀x∈aI a,N≤x)∧(p=0→a=none)∧Ow RR.key 41 2 Z w' a p c (out.take p)),(5,fun v w'=>∃b,v=.slice (some ⟨b,0,none⟩) 1 1∧N≤b∧bQ w' b 41 l[i].cells),(6,fun v w'=>∃a c,v=.slice a (p+1) c∧(∀x∈aI a,N≤x)∧Ow RR.key 41 2 Z w' a (p+1) c (out.take p++[l[i]]))]) g (lB (⟨⟨trivial,⟨fun _ _ _ _ _ s ⟨a,c,h1,f,o,J⟩=>⟨a,c,h1,f,o,J.ext s⟩,⟨fun _ _ _ _ _ s ⟨a,c,h1,f,o,J⟩=>⟨a,c,h1,f,o,DV.ow s T J⟩,trivial⟩⟩⟩,⟨⟨fun _ _ _ _ _ s ⟨b,h1,f,o⟩=>⟨b,h1,f,o.ext s⟩,⟨trivial,⟨fun _ _ _ _ _ s ⟨b,h1,f,o⟩=>⟨b,h1,f,DV.blk (l:=l[i].cells) s o⟩,trivial⟩⟩⟩,⟨⟨trivial,⟨trivial,⟨trivial,trivial⟩⟩⟩,trivial⟩⟩⟩)) mixed (by kernel_rfl)<|bK ?_;refine DP .r (fun _ d=>PV.mS ek (Ow.rd (As.gs d.2.g2) (by omega)) rfl rfl (by omega))<|?_;refine DW.e rfl rfl rfl rfl rfl (fun wx d hF=>OX.Vf (N:=N) (Z:=Z) l5 rfl rfl rfl (OR.nil 0 wx 41 2 _) (by simp [aI]) (SR.take (i:=p) (Ow.rd (As.gs d.2.g2) (by omega)) (by omega)) (by omega) (by omega) (by rw [W];exact d.1) T 0 (fun c h=>absurd rfl h) fun K L wy h1 f o J X=>⟨⟨Nat.le_trans d.1 X.size,d.2.step X⟩,X,_,rfl,K,L,by rw [Nat.zero_add],o,J,by simpa using h1⟩)<|?_;rintro _ wz _ ⟨a3,c3,rfl,_,_,_⟩;refine(gI) ao St.g0<|?_;refine DW.e rfl rfl rfl rfl rfl (fun wx d hF=>OX.aP (us:=l[i].cells) dz rfl rfl rfl rfl fun b wy Y hb=>⟨⟨Nat.le_trans d.1 Y.ext.size,d.2.step Y.ext⟩,Y.ext,_,rfl,b,rfl,by rw [W];exact Nat.le_trans d.1 Y.ge,hb⟩)<|?_;rintro _ wz _ ⟨b5x,rfl,_,_⟩
   refine DW.e rfl rfl rfl rfl rfl (fun wx d hF=>by
    obtain⟨⟨b',E0,wD,wE⟩,⟨K,L,h1,f,o,J⟩,_⟩:=hF;simp only [Value.slice.injEq,Option.some.injEq,Addr.mk.injEq,and_true,true_and] at E0 h1;subst E0;obtain⟨rfl,rfl⟩:=h1;exact OX.Vf (N:=N) (Z:=Z) l5 rfl rfl rfl J f (SR.dd (A:=fun _=>True) (x:=l[i]) wE trivial rfl (by simp [Key.cells,Value.oneCell']) rfl) (by omega) (by omega) (by rw [W];exact d.1) T 2 (fun c h hc=>by have:p≠0:=fun e=>h (o e);omega) fun K L wy h1 f o J X=>⟨⟨Nat.le_trans d.1 f.size,f.st d.2 hlN T h0N⟩,f,_,rfl,K,L,rfl,o,h1⟩) ?_
   rintro _ wz _ ⟨a6,c6,rfl,_,_⟩;refine bK ?_;refine DP .r (fun _ d=>PV.yv ek (Ow.rd (As.gs d.2.g2) (by omega)) rfl rfl (by omega))<|(cP)<|?_;rintro w7 ⟨HZ,eD⟩ ⟨SU,⟨_,⟨_,_⟩⟩⟩;obtain⟨_,_,he6,aeI,ho6⟩:=SU;simp only [Value.slice.injEq,true_and] at he6;obtain⟨rfl,rfl⟩:=he6;have dh:=eD.add (B:=As.os RR.key 41 2 a6 (p+1) c6 (out.take p++[l[i]])) ho6 aeI hlN T h0N;refine WL.ap rfl rfl dh (SR.drop (i:=p) (Ow.rd (As.gs dh.g3) (by omega)) (by omega)) fun a50 aeJ w8 ana anb cW=>?_;refine bK ?_;have di:=cW.p3.drop;refine fO ?_;refine ef (i+1,_,a50,((p+1)+(y - p)),aeJ) ⟨di.p1.drop.p1.drop,⟨by omega,by rw [List.take_succ_eq_append_getElem rY,uy,← V,Yi,if_neg O],trivial⟩⟩
  have O:out[p]?=some l[i]:=by simpa using O
  refine ed ?_;refine ef (i+1,_,C,y,G) ⟨g.drop.drop,⟨by omega,by rw [List.take_succ_eq_append_getElem rY,uy,← V,Yi,if_pos O],trivial⟩⟩
 simp at g10
 have hY:out=kf l:=by rw [V,List.take_of_length_le (by omega)]
 subst hY;refine(bs) ?_;exact⟨_,_,_,rfl,U.p1.drop⟩
theorem tb(gk:St w M Z w []) (hl:Rd RR.dV 8 Z w a n c l) (h6:l.length≤1000000):Calls prog 258 #[.slice a n c,.int .i64 rev,k.val] w fun e w'=>∃b m Z',e=.returned (.map (some b))∧bH w.heap.size Z Z'∧ic m (bR l rev k)∧St w M Z' w' [As.map Key.val b m]:=by
 have hlen:=hl.len;have hle:=hl.le;refine enter func258 rfl ntmps258 rfl<|?_;have aO:=gk;have st1:=aO.fr hl;refine(dq) st1 fun b5 w1 HM HN st2=>?_;refine db ?_;refine WL.mm Key.val st2 fun V w2 Yj anc iT=>?_;refine(aY) ao iT.b1<|?_;refine WL.go rfl (OX.aP (us:=k.cells) dz rfl rfl rfl rfl fun b16 w3 NY SX=>?_);have ik:=St.pU (R:=RR.key) (E:=41) (k:=2) (a:=some ⟨b16,0,none⟩) (n:=1) (c:=1) (xs:=[k]) iT NY.ext (OR.dd SX (Nat.zero_le _) rfl (by simp [Key.cells,Value.oneCell']) rfl) (fun x s=>by simp [aI] at s;subst s;exact NY.ge);refine ju ?_;refine WC.hh (σ:=Nat × (List Key) × (List (Key × Value)) × (Nat→Prop) × (Option Addr) × Nat × Nat) (dj:=fun(i,f,mm,G,o,g,p)=>[(0,.slice a n c),(1,.int .i64 rev),(7,.map (some V)),(8,.slice o g p),(9,.int .i64 (i:Int))]) (F:=fun(i,f,mm,G,o,g,p)=>[As.os RR.key 41 2 o g p (k::f),As.map Key.val V mm]) (I:=fun(i,f,mm,G,o,g,p)=>(i≤f.length+1)∧(bH w.heap.size Z G)∧(f.Nodup)∧(∀x∈f,bR l rev k x)∧(ic mm (·∈f))∧(∀(q:Nat) (y:Key),q<i→(k::f)[q]?=some y→∀x,Ld l rev y x→x∈f)∧True) (μ:=fun(i,f,mm,G,o,g,p)=>l.length+1 - i) (Zf:=fun(i,f,mm,G,o,g,p)=>G) (0,[],[],Z,(some ⟨b16,0,none⟩),1,1) (ik.p1.p1) Sub.t (⟨by simp,bH.refl _ _,by simp,by simp,ic.nil,fun q y h=>by omega,trivial⟩)<|?_;rintro⟨i,f,mm,G,o,g,p⟩ w4 J ⟨hi,hZ,yB,L,LA,GW,_⟩;simp only [CA,NA] at J hi hZ yB L LA GW ⊢;have qU:=((As.gs J.g0)).len;rw [List.length_cons] at qU
 have hyl:=eP yB fun x s=>nb (L x s).gC
 rw [List.length_map] at hyl;refine(aR) (fun g20=>?_) fun g20=>?_
 ·
  simp at g20
  have rY:i<(k::f).length:=by simp;omega
  obtain⟨y,hy0⟩:∃y,(k::f)[i]=y:=⟨_,rfl⟩
  have N:(k::f)[i]?=some y:=by rw [ak rY,hy0]
  have aeL:y=k∨bR l rev k y:=by
   have:=List.getElem_mem rY
   rw [hy0] at this
   rcases List.mem_cons.1 this with h | h
   ·
    exact .inl h
   exact .inr (L y h)
  refine db ?_;obtain⟨gH,cR⟩:=Ow.addr (As.gs J.g0) N;refine cj ?_;refine WP .r (PV.dI ek cR rfl rfl (by omega))<|(aY) ao (Ow.jD (As.gs J.g0) (by simp;omega) cR N)<|?_;have W:=J;refine(bX) pr (iz (k:=y) W.e0 (As.gr W.g3)) ?_;rintro _ w5 ⟨f1,f2,f3,rfl,It,qB⟩;have gW:=St.lr W qB;have Io:=St.bM qB;have hsz:=W.size;have iH:=gW.ba (by omega);have mx:=hZ.trans (bH.dA (F:=fun x=>x∈aI f1) Io) hsz;have X5:=((As.gr iH.g0)).len;refine(eN) iH fun PC w6 Fo Fp iE=>?_;refine(cF) fI iE fun w7 jO jZ eD=>?_;refine(aZ) dC eD.b0<|db ?_;refine WC.bd (σ:=Nat × (List Key) × (List (Key × Value)) × (Option Addr) × Nat × Nat) (dj:=fun(j,d,C,o,g,p)=>[(0,.slice a n c),(1,.int .i64 rev),(7,.map (some V)),(8,.slice o g p),(9,.int .i64 (i:Int)),(33,.slice f1 f2 f3),(34,.int .i64 (f2:Int)),(35,.int .i64 (j:Int))]) (F:=fun(j,d,C,o,g,p)=>[As.os RR.key 41 2 o g p (k::d),As.map Key.val V C]) (I:=fun(j,d,C,o,g,p)=>(j≤f2)∧(f <+: d)∧(d.Nodup)∧(∀x∈d,bR l rev k x)∧(ic C (·∈d))∧(∀q x,q<j→(aC l y).reads[q]?=some x→bU l rev x=true→x∈d)∧True) (μ:=fun(j,d,C,o,g,p)=>f2 - j) (0,f,mm,o,g,p) (eD.p3.p3) Sub.t (⟨by omega,List.prefix_refl _,yB,L,LA,fun q x h=>by omega,trivial⟩)<|?_;rintro⟨j,d,C,o,g,p⟩ w8 O ⟨hj,H,K,Q,S,X,_⟩;simp only [CA,NA] at O hj H K Q S X ⊢;have Fh:=((As.gs O.g0)).len;rw [List.length_cons] at Fh
  have aeM:=eP K fun x s=>nb (Q x s).gC
  rw [List.length_map] at aeM;refine(aR) (fun g36=>?_) fun g36=>?_
  ·
   simp at g36
   have Y:j<(aC l y).reads.length:=by omega
   obtain⟨x,LD⟩:∃x,(aC l y).reads[j]=x:=⟨_,rfl⟩;have hmx:=S.get x (b:=decide (x∈d)) (by simp);refine db ?_;obtain⟨rW,Fc,Cl,jP,sY,kO,kN,lK⟩:=Rd.at (As.gr O.g3) Y;have kO:=RR.a8 kO;subst kO;have cW:=O.fg lK kN;rw [LD] at kN cW;refine nx ?_;refine WP .r (PV.dI ek jP rfl rfl (by omega))<|(aY) ao (As.kH cW.g0)<|(eN) cW fun UC w9 NZ aeP di=>?_;refine(cF) gQ di fun iN qV mi da=>?_;refine bY ?_;refine WC.dU (t:=48) (v:=.bool (bU l rev x && !decide (x∈d))) da ?_<|?_
   ·
    refine(aY) ao da.b0<|(eS) (vq (k:=x) (As.gr da.g7)) da fun iV s11 B=>?_;refine(dc) (fun Yk=>?_) (fun Yk=>?_)
    ·
     refine(aY) ao B.b0<|?_;refine WP .r (PV.jK cZ gE B7 (As.gm B.g3) (hmx) rfl rfl)<|?_;exact(cw) (by simp only [Yk];first | rfl | simp) (B)
    exact(cw) (by simp only [Yk];first | rfl | simp) (B)
   intro iV B;refine(aR) (fun T=>?_) fun T=>?_
   ·
    simp at T
    obtain⟨UD,GL⟩:=T;have hld:Ld l rev y x:=⟨LD ▸ List.getElem_mem Y,UD⟩
    have hxl:bR l rev k x:=by
     rcases aeL with rfl | h
     ·
      exact .one hld
     exact .step h hld
    have N0:(d++[x]).Nodup:=by rw [List.nodup_append];exact⟨K,by simp,fun a ha b hb=>by simp at hb;subst hb;rintro rfl;exact GL ha⟩
    refine(aY) ao B.b0<|?_;refine WL.go rfl (OX.put cZ gE (As.gm B.g3) rfl rfl rfl fun k9 zF zG=>?_);have fX:=B.p3.jS zF zG;refine(aY) ao fX.b1<|?_;refine WL.go rfl (OX.aP (us:=x.cells) dz rfl rfl rfl rfl fun b53 mM aeR aeS=>?_);have eu:=fX.de aeR aeS;refine WL.ap rfl rfl eu.p4 (SR.dd (A:=fun _=>True) (x:=x) (As.gb eu.g0) trivial rfl (by simp [Key.cells,Value.oneCell']) rfl) fun a54 aeT pH ane anf dZ=>?_;refine gL ?_
    refine ef (j+1,d++[x],_,a54,(g+1),aeT) ⟨dZ.p1.drop.p2.drop.p2.drop,⟨by omega,H.trans (List.prefix_append _ _),by rw [List.nodup_append];exact⟨K,by simp,fun a ha b hb=>by simp at hb;subst hb;rintro rfl;exact GL ha⟩,fun z u=>by
       rcases List.mem_append.1 u with u | u
       ·
        exact Q z u
       simp at u;subst u;exact hxl,S.put x,cG (P:=fun _ z=>bU l rev z=true→z∈d++[x]) Y (fun q z U u ho=>by simp [X q z U u ho]) (fun _=>by simp [← LD]),trivial⟩⟩
   skip
   refine ed ?_;refine ef (j+1,d,C,o,g,p) ⟨B.drop.drop,⟨by omega,H,K,Q,S,cG (P:=fun _ z=>bU l rev z=true→z∈d) Y X (fun ho=>by rw [LD] at ho ⊢;simp [ho] at T;exact T),trivial⟩⟩
  simp at g36
  refine jT ?_
  refine ef (i+1,d,C,_,o,g,p) ⟨O.p2.drop.p2.drop,⟨by have:=H.length_le;show i+1≤d.length+1;omega,mx,K,Q,S,fun q z U u x s=>by
     rcases Nat.lt_or_ge q i with h | h
     ·
      have hz2:(k::f)[q]?=some z:=by
       obtain⟨t,rfl⟩:=H;rw [← List.cons_append,List.getElem?_append_left (by simp;omega)] at u;exact u
      exact H.subset (GW q z h hz2 x s)
     have e:q=i:=by omega
     subst e
     have hz2:some y=some z:=by rw [← N,← u];obtain⟨t,rfl⟩:=H;rw [← List.cons_append,List.getElem?_append_left (by simp;omega)]
     simp at hz2;subst hz2
     obtain⟨j,hj,rfl⟩:=List.mem_iff_getElem.1 s.1;exact X j _ (by omega) (ak hj) s.2,trivial⟩⟩
 simp at g20
 have HY:=yM L fun y N x s=>by
  obtain⟨q,U,rfl⟩:=List.mem_iff_getElem.1 N;exact GW q _ (by simp at U;omega) (ak U) x s
 refine(bs) ?_;exact⟨_,_,_,rfl,hZ,LA.congr HY,J.p1.k1⟩
theorem vB(gk:St w M Z w []) (hl:Rd RR.dV 8 Z w a n c l) (h6:l.length≤100000):Calls prog 192 #[.slice a n c,.int .i64 rev,k.val] w fun e w'=>∃Y n' c' Z',e=.returned (.slice Y n' c')∧bH w.heap.size Z Z'∧St w M Z' w' [As.os RR.key 41 2 Y n' c' (aB l rev k)]:=by
 have hlen:=hl.len;have hle:=hl.le;refine enter func192 rfl ntmps192 rfl<|?_;have aO:=St.rb gk;have st1:=aO.fr hl;refine(dq) st1 fun b5 w1 HM HN st2=>?_;refine(aY) ao st2.b0<|(eS) (vq (k:=k) (As.gr st2.g1)) st2 fun w2 s2 H=>?_;refine(aR) (fun g15=>?_) fun g15=>?_
 ·
  simp at g15
  have N:aB l rev k=[k]:=by unfold aB;rw [if_neg (by simp [g15])]
  refine(aY) ao H.b0<|?_;refine WL.go rfl (OX.aP (us:=k.cells) dz rfl rfl rfl rfl fun UE w3 N1 KC=>?_);have J:=St.pU (R:=RR.key) (E:=41) (k:=2) (a:=some ⟨UE,0,none⟩) (n:=1) (c:=1) (xs:=[k]) H N1.ext (OR.dd KC (Nat.zero_le _) rfl (by simp [Key.cells,Value.oneCell']) rfl) (fun x o=>by simp [aI] at o;subst o;exact N1.ge);refine(bs) ?_;exact⟨_,_,_,_,rfl,bH.refl _ _,by rw [N];exact(St.wk J.p1.drop.p1.drop)⟩
 simp at g15
 have N:aB l rev k=kf (k::jc l rev k l):=by unfold aB;rw [if_pos g15]
 refine(aY) ao H.b0<|?_;refine WL.go rfl (OX.aP (us:=k.cells) dz rfl rfl rfl rfl fun Yl w3 KD SY=>?_);have J:=St.pU (R:=RR.key) (E:=41) (k:=2) (a:=some ⟨Yl,0,none⟩) (n:=1) (c:=1) (xs:=[k]) H KD.ext (OR.dd SY (Nat.zero_le _) rfl (by simp [Key.cells,Value.oneCell']) rfl) (fun x o=>by simp [aI] at o;subst o;exact KD.ge);refine(aY) ao J.b1<|?_;have K:=J;refine(bX) Pj (tb (k:=k) K.e0 (As.gr K.g2) (by omega)) ?_;rintro _ w4 ⟨bt,mt,Z1,rfl,wg,hmt,oi⟩;have iC:=St.lv K oi wg;have mx:=wg.le K.size;refine aX ?_;refine WC.bd (σ:=Nat × (List Key) × (Option Addr) × Nat × Nat) (dj:=fun(i,acc,f,g,s)=>[(0,.slice a n c),(1,.int .i64 rev),(5,.pointer (some ⟨b5,0,none⟩)),(7,.slice f g s),(8,.map (some bt)),(24,.slice a n c),(25,.int .i64 (n:Int)),(26,.int .i64 (i:Int))]) (F:=fun(i,acc,f,g,s)=>[As.os RR.key 41 2 f g s (acc)]) (I:=fun(i,acc,f,g,s)=>(i≤n)∧(acc=k::jc l rev k (l.take i))∧True) (μ:=fun(i,acc,f,g,s)=>n - i) (0,[k],(some ⟨Yl,0,none⟩),1,1) (iC.p1) Sub.t (⟨by omega,by simp [jc],trivial⟩)<|?_;rintro⟨i,acc,f,g,s⟩ w5 u ⟨hi,z,_⟩;simp only [CA,NA] at u hi z ⊢;have qU:=((As.gs u.g0)).len;have Lo:=oZ l rev k (l.take i)
 have yc:acc.length≤100001:=by rw [z,List.length_cons];rw [List.length_take] at Lo;omega
 refine(aR) (fun O=>?_) fun O=>?_
 ·
  simp at O
  have P:i<l.length:=by omega
  have hto:=hmt.get l[i].key kg;refine db ?_;obtain⟨gH,kz,jY,cR,gG,eZ,et,eI⟩:=Rd.at (As.gr u.g3) P;obtain⟨q1,q2,q3,rfl,GI,Ci⟩:=eZ;have Q:=u.fg eI et;have y:=Q.fr GI;refine nx ?_;refine WP .r (PV.dI ij cR rfl rfl (by omega))<|(aY) cU (As.kH y.g1)<|(eN) y fun PC w6 Fo Fp S=>?_;refine(cF) fI S fun w7 jO jZ C=>?_;refine bY ?_;refine WC.dU (t:=48) (v:=.bool (Bz l rev k l[i])) C ?_<|?_
  ·
   have Pr:=C.bL;have aeU:=C.jG;have aeV:=C.size;refine WC.dB (m:=17) (E:=cA [(15,I7 w7.heap.size fun m=>ic m (bR l rev l[i].key))]) C (bj (⟨fun _ _ _ _ _ _ c h=>I7.st Pr c h,trivial⟩)) mixed (by kernel_rfl)<|(tr) ao St.g0<|(gI) ao St.g5<|?_;refine DP .r (fun _ j=>PV.Lk fH (p:=l[i].key) (q:=k) rfl rfl)<|(ob) (fun L=>?_) (fun L=>?_)
   ·
    refine(tr) ao St.g0<|?_;refine DP .r (fun _ j=>PV.jK cZ gE B7 (As.gm j.2.g4) (hto) rfl rfl)<|(ob) (fun T=>?_) (fun T=>?_)
    ·
     refine(tr) ao St.g0<|?_;refine DW.e rfl rfl rfl rfl rfl (fun wx j hF=>OX.call Pj rfl rfl ((tb (k:=l[i].key) (j.2.e0) (As.gr j.2.g6) (by omega)).mono ?_))<|?_
     ·
      rintro _ wy ⟨b,m,Z',rfl,hZ',hm,U⟩;have V:=U.cg0;exact⟨_,rfl,⟨Nat.le_trans j.1 V.size,j.2.step V⟩,V.p0,_,rfl,b,m,rfl,Nat.le_trans j.1 (St.bM U b rfl),As.gm U.g0,hm⟩
     rintro _ wz _ ⟨b45,_,rfl,_,_,_⟩;refine(gI) ao St.g5<|(cP)<|?_;rintro W ⟨l8,d⟩ ⟨aeW,_⟩;obtain⟨_,m45,h1,Ym,Yn,aeX⟩:=aeW
     simp at h1;subst h1
     have hld:=aeX.get k kg;have G:=d.add (B:=As.map Key.val b45 m45) Yn (fun x o=>by have h1:x=b45:=o;subst h1;exact Ym) Pr aeU aeV;refine WP .r (PV.jK cZ gE B7 (As.gm G.g0) (hld) rfl rfl)<|?_;exact(cw) (by unfold Bz;simp only [L,T];first | rfl | simp) (G.drop)
    refine(cP) ?_;rintro W ⟨l8,d⟩ _;exact(cw) (by unfold Bz;simp only [L,T];first | rfl | simp) (d)
   refine(cP) ?_;rintro W ⟨l8,d⟩ _;exact(cw) (by unfold Bz;simp only [L];first | rfl | simp) (d)
  intro W d;refine(aR) (fun X=>?_) fun X=>?_
  ·
   refine(gX) ao d.b0<|?_;refine WL.go rfl (OX.aP (us:=l[i].key.cells) dz rfl rfl rfl rfl fun b52 w9 aeY aeZ=>?_);have G:=d.de aeY aeZ;refine WL.ap rfl rfl G.p4 (SR.dd (A:=fun _=>True) (x:=l[i].key) (As.gb G.g0) trivial rfl (by simp [Key.cells,Value.oneCell']) rfl) fun a53 ae0 iN ani anj da=>?_;refine gL ?_;refine ef (i+1,_,a53,(g+1),ae0) ⟨da.p7.p7.p7.p3.k4,⟨by omega,by rw [z,sD P,if_pos X];rfl,trivial⟩⟩
  refine ed ?_;refine ef (i+1,_,f,g,s) ⟨d.p6.p6.p6.p6.k4,⟨by omega,by rw [z,sD P,if_neg (by simp [X])],trivial⟩⟩
 simp at O
 have hY:acc=k::jc l rev k l:=by rw [z,List.take_of_length_le (by omega)]
 subst hY;refine fO ?_;have Lo:=oZ l rev k l;refine bK ?_;have N2:=St.fresh u;have Q:=u.ba (by simp;omega);have y:=Q;refine(bX) O2 (qC y.e0 (As.gr y.g0) (fun _ h _=>h) (by simp;omega)) ?_;rintro _ w6 ⟨f1,f2,f3,rfl,zH⟩;have S:=St.lr y zH;refine(bs) ?_;exact⟨_,_,_,_,rfl,mx.trans (bH.dA (F:=fun x=>x∈aI f) N2) (Nat.le_refl _),by rw [N];exact(St.wk S.k1)⟩
set_option maxHeartbeats 400000
theorem tc(q:aq aa) (hk:eG aa k) (i:St w M Z w [As.jH prog 137 aa x D]):Calls prog 47 #[.pointer (some ⟨D.s,0,none⟩),k.val] w fun e w'=>e=.returned (.string (valOf aa x.ab k))∧St w M Z w' [As.jH prog 137 aa x D]:=by
 obtain⟨j,hb,⟨ml,hm,r⟩,o⟩:=i.g0;have d:St w M Z w (As.blk D.s 137 (D.cells x)::As.map Key.val D.m ml::[]):=St.split i hb r (fun y h=>.inl h) (fun y h=>.inr h) (fun y (h1:y=D.s) (d:y=D.m)=>j (h1.symm.trans d));refine(yi q hk _ _ _ _ (St.enter (rest:=[]) d) o hm).mono<|?_;rintro e w' ⟨p,rfl,t,_,f⟩;have g:St w M Z w' (As.blk D.s 137 (D.cells x)::As.map Key.val D.m p::[]):=St.leave (rest:=[]) (l0:=[_,_]) d f (bH.refl _ _);refine⟨rfl,g.join ⟨j,g.g0,⟨p,t,g.g1⟩,(D.F prog aa x).st f.bV.size (fun y u hl=>f.bV.block y hl fun⟨A,v,z⟩=>d.lR A v y z u) o⟩ fun y h=>h⟩
theorem oH(A:aq aa) (hk:eG aa k) (B:St w M Z w [As.jH prog 137 aa x D]) (hi:Rd RR.aD 4 Z w a1 n1 e1 b.ab) (hr:Rd RR.dV 8 Z w a2 n2 e2 b.ah):Calls prog 201 #[.pointer (some ⟨D.s,0,none⟩),.agg (b.row a1 n1 e1 a2 n2 e2).toArray,k.val] w fun e w'=>e=.returned (.int .i64 (aV (valOf aa x.ab) b k))∧St w M Z w' [As.jH prog 137 aa x D]:=by
 refine enter func201 rfl ntmps201 rfl<|?_;have aO:=B;have st1:=aO.fr hi;have st2:=st1.fr hr;refine(dq) st2 fun b4 w1 H I C=>?_;refine(dq) C fun b5 w2 J K u=>?_;refine(aY) ao u.b0<|(eS) (ep (k:=k)) u fun w3 L f=>?_;refine(aR) (fun g10=>?_) fun g10=>?_
 ·
  skip
  refine(aY) aL f.b1<|(aY) ao f.b0<|(eS) (Cj (k:=k) (As.gr f.g3) (As.gr f.g2)) f fun w4 y g=>?_;refine(bs) ?_;exact⟨by unfold aV;rw [if_pos g10],g.p4.k1⟩
 refine(aZ) dt f.b1<|(aY) ao f.b0<|(bX) pr (dY (k:=k) (As.gr f.g2)) ?_;rintro _ w4 ⟨f1,f2,f3,rfl,y⟩;have g:=f.step y;refine(eN) g fun N w5 O P F=>?_;refine(cF) fI F fun w6 Q R i=>?_;refine db ?_;refine WC.dU (t:=36) (v:=.bool ((az b.ah k).isSome && (decide ((aC b.ah k).av=b.ad) || decide (valOf aa x.ab k=(aC b.ah k).value)))) i ?_<|?_
 ·
  have S:=i.bL;refine WC.dB (m:=13) (E:=cA [(10,fun v _=>v=.string (valOf aa x.ab k))]) i (bj (⟨fun _ _ _ _ _ _ _ h=>h,trivial⟩)) mixed (by kernel_rfl)<|(ob) (fun g22=>?_) (fun g22=>?_)
  ·
   refine(il) aN St.g0<|(il) aN St.g2<|(ob) (fun j=>?_) (fun j=>?_)
   ·
    refine(cP) ?_;rintro w7 ⟨z,d⟩ _;exact(cw) (by simp only [g22,j];first | rfl | simp) (d)
   refine(gI) ao St.g1<|?_;refine DW.e rfl rfl rfl rfl rfl (fun T o U=>OX.call Kh rfl rfl ((tc (k:=k) A hk (o.2.one (.tail _ (.tail _ (.tail _ (.tail _ (.tail _ (.head _)))))))).mono ?_))<|?_
   ·
    rintro _ wy ⟨rfl,p⟩;exact⟨_,rfl,⟨Nat.le_trans o.1 p.bV.size,o.2.xA M5 p⟩,p.bV.mono (fun _ _ G=>F9 M5 G),_,rfl,rfl⟩
   rintro _ V _ rfl;refine(il) fh St.g0<|(cP)<|?_;rintro w7 ⟨z,d⟩ ⟨_,_⟩;exact(cw) (by simp only [g22,j];first | rfl | simp) (d)
  refine(cP) ?_;rintro w7 ⟨z,d⟩ _;exact(cw) (by simp only [g22];first | rfl | simp) (d)
 intro w7 d;refine(aR) (fun q=>?_) fun q=>?_
 ·
  have r:aV (valOf aa x.ab) b k=(aC b.ah k).changed:=by unfold aV;rw [if_neg (by simp [g10]),if_pos q]
  refine(aZ) aN d.b0<|(bs) ?_;exact⟨by rw [r],d.p5.k1⟩
 have r:aV (valOf aa x.ab) b k=b.ad:=by unfold aV;rw [if_neg (by simp [g10]),if_neg (by simp [q])]
 refine(aZ) aN d.b2<|(bs) ?_;exact⟨by rw [r],d.p5.k1⟩
theorem Fq(f:aq aa) (hk:eG aa k) (g:St w M Z w [As.jH prog 137 aa x D]) (hi:Rd RR.aD 4 Z w a1 n1 e1 b.ab) (hr:Rd RR.dV 8 Z w a2 n2 e2 b.ah):Calls prog 199 #[.pointer (some ⟨D.s,0,none⟩),.agg (b.row a1 n1 e1 a2 n2 e2).toArray,k.val] w fun e w'=>e=.returned (.int .i64 (aV (valOf aa x.ab) b k))∧St w M Z w' [As.jH prog 137 aa x D]:=by
 refine enter func199 rfl ntmps199 rfl<|?_;have aO:=g;have st1:=aO.fr hi;have st2:=st1.fr hr;refine(dq) st2 fun b4 w1 m o h=>?_;refine(dq) h fun b5 w2 p q d=>?_;refine(aY) aL d.b1<|(aY) ao d.b0<|(bX) Ph (oH (k:=k) f hk (d.one (.tail _ (.tail _ (.tail _ (.tail _ (.head _)))))) (As.gr d.g3) (As.gr d.g2)) ?_;rintro _ w3 ⟨rfl,i⟩;have j:=d.xA M4 i;refine(bs) ?_;exact⟨rfl,j.p4.k1⟩
theorem qE(i:aq aa) (hk:eG aa k) (j:St w M Z w [As.jH prog 137 aa x D]) (hi:Rd RR.aD 4 Z w a1 n1 e1 b.ab) (hr:Rd RR.dV 8 Z w a2 n2 e2 b.ah):Calls prog 197 #[.pointer (some ⟨D.s,0,none⟩),.agg (b.row a1 n1 e1 a2 n2 e2).toArray,k.val] w fun e w'=>e=.returned (.string (bO (valOf aa x.ab) b k))∧St w M Z w' [As.jH prog 137 aa x D]:=by
 refine enter func197 rfl ntmps197 rfl<|?_;have aO:=j;have st1:=aO.fr hi;have st2:=st1.fr hr;refine(dq) st2 fun b4 w1 p q m=>?_;refine(dq) m fun b5 w2 r t h=>?_;refine(aY) ao h.b0<|(eS) (df (k:=k)) h fun w3 u d=>?_;refine(aR) (fun g10=>?_) fun g10=>?_
 ·
  have f:bO (valOf aa x.ab) b k=valOf aa x.ab k:=by unfold bO;rw [if_pos g10]
  refine(aY) ao d.b0<|(bX) Kh (tc (k:=k) i hk (d.one (.tail _ (.tail _ (.tail _ (.tail _ (.head _))))))) ?_;rintro _ w4 ⟨rfl,o⟩;have g:=d.xA M4 o;refine(bs) ?_;exact⟨by rw [f],g.p4.k1⟩
 have f:bO (valOf aa x.ab) b k=im b k:=by unfold bO;rw [if_neg (by simp [g10])]
 refine(aY) aL d.b1<|(aY) ao d.b0<|(eS) (Fa (k:=k) (As.gr d.g3) (As.gr d.g2)) d fun w4 v g=>?_;refine aX ?_;refine(bs) ?_;exact⟨by rw [f];rfl,g.p4.k1⟩
theorem l9{group:List Key}{bu:Bool}{u:Option Addr}{g eg:Nat}(U:St w M Z w []) (hi:Rd RR.aD 4 Z w a1 n1 e1 x.ab) (hr:Rd RR.dV 8 Z w a2 n2 e2 x.ah) (V:Rd RR.key 2 Z w u g eg group) (W:x.ah.length≤1000000) (X:x.ab.length≤1000000):Calls prog 198 #[.agg (x.row a1 n1 e1 a2 n2 e2).toArray,.slice u g eg,.bool bu] w fun e w'=>∃E G H J K L Z',e=.returned (.agg ((cH x group bu).row E G H J K L).toArray)∧bH w.heap.size Z Z'∧St w M Z' w' [As.os RR.aD 88 4 E G H (cH x group bu).ab,As.os RR.dV 47 8 J K L (cH x group bu).ah]:=by
 have H0:=hi.len;have SZ:=hr.len;refine enter func198 rfl ntmps198 rfl<|?_;have aO:=St.rb U;have st1:=aO.fr hi;have st2:=st1.fr hr;have Y:=st2.fr V;refine(dq) Y fun b3 w1 HO wE ik=>?_;refine(eN) ik fun b6 w2 Dx Is N=>?_;refine(aY) aL N.b1<|?_;have q:=N;refine(bX) zv (fA q.e0 (As.gr q.g4) (As.gr q.g3) W X) ?_;rintro _ w3 ⟨f1,f2,f3,f4,f5,f6,Z1,rfl,O,kq⟩;have P:=St.lv q kq O;have mx:=O.le q.size;have Eo:=((As.gs P.g1)).len;refine(cF) dR P.p3 fun w4 jO jZ Q=>?_;refine(aZ) dt Q.b0<|db ?_;refine WC.bd (σ:=Nat × (List Rec)) (dj:=fun(i,acc)=>[(1,.slice u g eg),(2,.bool bu),(3,.pointer (some ⟨b3,0,none⟩)),(6,.pointer (some ⟨b6,0,none⟩)),(12,.int .i64 (f5:Int)),(13,.int .i64 (i:Int))]) (F:=fun(i,acc)=>[As.os RR.dV 47 8 f4 f5 f6 acc]) (I:=fun(i,acc)=>(i≤f5)∧(acc=(x.ah.take i).map (a7 x.ad group bu)++x.ah.drop i)∧True) (μ:=fun(i,acc)=>f5 - i) (0,x.ah) (Q.p2) Sub.t (⟨by omega,by simp,trivial⟩)<|?_;rintro⟨i,acc⟩ w5 m ⟨eJ,s,_⟩;simp only [CA,NA] at m eJ s ⊢
 have yc:acc.length=x.ah.length:=by rw [s];simp;omega
 refine(aR) (fun g14=>?_) fun g14=>?_
 ·
  simp at g14
  have rY:i<x.ah.length:=by omega
  have v:=D5 (x:=x) (group:=group) (bu:=bu) rY (by omega);rw [← s] at v
  have p:acc[i]?=some x.ah[i]:=by rw [s,List.getElem?_append_right (by simp;omega)];simp [Nat.min_eq_left (by omega:i≤x.ah.length)]
  refine aX ?_;obtain⟨gH,jY,cR,gG,eZ,et⟩:=Ow.at (As.gs m.g0) (by omega) p;obtain⟨q1,q2,q3,rfl,ank,anl⟩:=eZ
  have R:∀y,y=a7 x.ad group bu x.ah[i]→acc.set i y=(x.ah.take (i+1)).map (a7 x.ad group bu)++x.ah.drop (i+1):=fun y hy=>by rw [hy];exact v
  refine(aZ) dt m.b1<|nx ?_;refine WP .r (PV.dI ij cR rfl rfl (by omega))<|(gX) ao et<|(eS) (rT (k:=x.ah[i].key) (As.gr m.g4)) m fun w6 s6 d=>?_;refine(aR) (fun g24=>?_) fun g24=>?_
  ·
   simp at g24
   have uO:acc=(x.ah.take (i+1)).map (a7 x.ad group bu)++x.ah.drop (i+1):=by
    rw [← v]
    have:a7 x.ad group bu x.ah[i]=x.ah[i]:=by unfold a7;rw [if_neg g24]
    rw [this]
    apply List.ext_getElem?
    intro j;rw [List.getElem?_set]
    split
    ·
     rename_i e;subst e;rw [p];simp;omega
    rfl
   refine gL ?_;refine ef (i+1,acc) ⟨d,⟨by omega,uO,trivial⟩⟩
  simp at g24
  refine(aR) (fun o=>?_) fun o=>?_
  ·
   have o:bu=true:=o;subst o;have z:=R {x.ah[i] with bu:=true} (by unfold a7;rw [if_pos g24];rfl);obtain⟨rW,Cl,S,sY,kO,kN⟩:=Ow.at (As.gs d.g0) (by omega) p;refine(aZ) dt d.b1<|nx ?_;refine WP .r (PV.dI ij S rfl rfl (by omega))<|nx ?_;refine WL.go rfl (OX.Qp (i:=i) (f:=7) OU (As.gs d.g0) S p (by omega) rfl rfl rfl {x.ah[i] with bu:=true} (fun r _ ⟨a,n,c,h1,A,B⟩=>⟨a,n,c,by rw [h1];rfl,A,B⟩) fun w7 s7 h7x=>?_);have C:=d.eV s7 h7x (fun x h=>.inl h);refine ed ?_;refine ef (i+1,_) ⟨C,⟨by omega,z,trivial⟩⟩
  have o:bu=false:=o;subst o;have z:=R {x.ah[i] with av:=x.ad} (by unfold a7;rw [if_pos g24];rfl);obtain⟨HX,Yo,T,PD,td,GM⟩:=Ow.at (As.gs d.g0) (by omega) p;refine(aZ) dt d.b1<|(aZ) aN d.b1<|?_;refine WP .r (PV.dI ij T rfl rfl (by omega))<|nx ?_;refine WL.go rfl (OX.Qp (i:=i) (f:=5) GB (As.gs d.g0) T p (by omega) rfl rfl rfl {x.ah[i] with av:=x.ad} (fun r _ ⟨a,n,c,h1,A,B⟩=>⟨a,n,c,by rw [h1];rfl,A,B⟩) fun w7 s8 h8x=>?_);have C:=d.eV s8 h8x (fun x h=>.inl h);refine ed ?_;refine ef (i+1,_) ⟨C,⟨by omega,z,trivial⟩⟩
 simp at g14
 have hY:acc=(cH x group bu).ah:=by rw [s,List.take_of_length_le (by omega),List.drop_eq_nil_of_le (by omega)];simp [cH]
 subst hY;refine(aY) aL m.b1<|(cF) dR m.p3 fun w6 qV mi d=>?_;refine(kR) aL d.b0<|?_;exact⟨_,_,_,_,_,_,_,rfl,mx,(St.wk d.p1.p3.k2)⟩
theorem Cr{s:ES}{E:EA}{sb z A:Nat}(i:bQ w A 153 (E.cells sb z s)) (hb:KM Key.val w z s.busy) (G:∀k,bC s.busy k=none∨bC s.busy k=some (.bool true)) (hr:Rd RR.dV 8 Z w E.a2 E.n2 E.c2 s.b.ah):CR prog 200 #[.pointer (some ⟨A,0,none⟩),k.val] w (.bool (ei s k)):=by
 have H:(bC s.busy k).getD (.bool false)=.bool (s.on k):=by unfold ES.on;rcases G k with h | h <;> rw [h] <;> rfl
 refine enter func200 rfl ntmps200 rfl<|?_;have aO:=St.s0 w;refine(dq) aO fun b3 w1 Q R st1=>?_;refine db ?_;refine WC.dU (t:=20) (v:=.bool (ay k || (s.on k && ax k))) st1 ?_<|?_
 ·
  have S:=st1.bL;refine WC.dB (m:=8) (E:=cA [(1,fun v _=>v=.bool (ay k))]) st1 (bj (⟨fun _ _ _ _ _ _ _ h=>h,trivial⟩)) mixed (by kernel_rfl)<|(gI) ao St.g0<|?_;refine DW.c0 (fun B d C=>ep (k:=k))<|(ob) (fun g9=>?_) (fun g9=>?_)
  ·
   refine(cP) ?_;rintro w2 ⟨I,st2⟩ ⟨_,_⟩;exact(cw) (by simp only [g9];first | rfl | simp) (st2)
  refine bY ?_;refine DP .r (fun _ d=>V1 nE (bQ.range (i.ext (St.cg d.2))) .r)<|(gI) ao St.g0<|(cP)<|?_;rintro w2 ⟨I,st2⟩ ⟨_,_⟩;refine WP .r (PV.jK cZ gE B7 (hb.ext (St.cg st2)) (H) rfl rfl)<|(dc) (fun g16=>?_) (fun g16=>?_)
  ·
   refine(aY) ao st2.b0<|(eS) (df (k:=k)) st2 fun w3 T o=>?_;exact(cw) (by simp only [g9,g16];first | rfl | simp) (o)
  exact(cw) (by simp only [g9,g16];first | rfl | simp) (st2)
 intro w2 st2;refine(aR) (fun g20=>?_) fun g20=>?_
 ·
  have p:ei s k=true:=by unfold ei;simp only [Bool.or_eq_true,Bool.and_eq_true] at g20 ⊢;rcases g20 with h | h <;> simp [h]
  refine(bs) ?_;exact⟨by rw [p],(St.cg st2)⟩
 have p:ei s k=aA s.b k:=by unfold ei;simp only [Bool.or_eq_false_iff] at g20;rw [g20.1,g20.2];rfl
 refine bY ?_;have F:=st2.bL;have J:=st2.jG;have K:=st2.size;refine WC.oV (m:=11) [9] (E:=cA [(6,fun v _=>∃f1 f2 f3,v=.tuple #[.agg ((aC s.b.ah k).row f1 f2 f3).toArray,.bool (az s.b.ah k).isSome]),(10,PB w2.heap.size 47 [.int .i64 0,.string ⟨#[]⟩,.string ⟨#[]⟩,.slice none 0 0,.int .i64 0,.int .i64 0,.int .i64 0,.bool false])]) st2 (bj (⟨fun _ _ _ _ _ _ _ h=>h,⟨fun _ _ _ _ _ _ c h=>PB.st F c h,trivial⟩⟩)) mixed (by kernel_rfl) rfl ?_;refine cj ?_;refine DP .r (fun _ d=>PV.ld1 (j:=3) dt (bQ.range (i.ext (St.cg d.2))) rfl rfl)<|(gI) ao St.g0<|?_;refine DW.e rfl rfl rfl rfl rfl (fun B d C=>OX.call pr rfl rfl ((dY (k:=k) (hr.ext (St.cg d.2))).mono ?_))<|?_
 ·
  rintro _ wy ⟨f1,f2,f3,rfl,q⟩;exact⟨_,rfl,⟨Nat.le_trans d.1 q.size,d.2.step q⟩,q.p0,_,rfl,⟨f1,f2,f3,rfl⟩⟩
 rintro _ L _ ⟨f1,f2,f3,rfl⟩;refine bY ?_;refine DW.e rfl rfl rfl rfl rfl (fun B d C=>OX.alloc nF rfl fun b wy g hb=>⟨⟨Nat.le_trans d.1 g.ext.size,d.2.step g.ext⟩,g.ext.p0,_,rfl,_,rfl,Nat.le_trans d.1 g.ge,hb⟩)<|?_;rintro _ L _ ⟨b5,rfl,_,_⟩;refine(cP) ?_;rintro w3 ⟨U,o⟩ ⟨N,⟨_,_⟩⟩;have O:=o.tp N F J K;refine(cF) fI O fun w4 V W u=>?_;refine nx ?_;refine WL.nil (EX.np ?_);refine bK ?_;refine WC.kQ (t:=4) (v:=.bool (aA s.b k)) u ?_<|?_
 ·
  have X:=u.bL;refine WC.dS (m:=9) u mixed<|(ob) (fun y=>?_) (fun y=>?_)
  ·
   refine(il) aN St.g0<|cj ?_;refine DP .r (fun _ d=>PV.ld1 (j:=1) aN (bQ.range (i.ext (St.cg d.2))) rfl rfl)<|(cP)<|?_;rintro w5 ⟨P,f⟩ _;exact(gz) (by unfold aA;simp only [y];first | rfl | simp) (f)
  refine(cP) ?_;rintro w5 ⟨P,f⟩ _;exact(gz) (by unfold aA;simp only [y];first | rfl | simp) (f)
 intro w5 f;refine(bs) ?_;exact⟨by rw [p],(St.cg f)⟩
end Go.Rc

