/- Walks over the program, part WK. Conditions: as each theorem says. -/
import Derived.Test.YtmpkegmkoclbhaaGreatDoorDFacts
import Derived.Test.YtmpkegmkoclbhaaGreatDoorDWH
import Derived.Test.YtmpkegmkoclbhaaGreatDoorDBe
import Derived.Test.YtmpkegmkoclbhaaGreatDoorDWI
import Derived.Test.YtmpkegmkoclbhaaGreatDoorDWF
set_option linter.all false
namespace Go.Rc
open Go Go.Proofs Go.Proofs.Tryz
variable {l:List Rec}{a a1 a2:Option Addr}{n c n1 e1 n2 e2:Nat}{w:World}{M Z:Nat→Prop}{rev:Int}{k:Key}{aa:List aH}{x b:bZ}{D:SD}
set_option maxHeartbeats 400000
set_option maxHeartbeats 1600000 in
theorem me{l:List Key}{A:Nat→Prop}(gF:St w M Z w []) (UK:Rd RR.key 2 A w a n c l) (hA:∀x,A x→x<w.heap.size→Z x) (h6:l.length≤1000000):Calls prog 14 #[.slice a n c] w fun e w'=>∃K n' L,e=.returned (.slice K n' L)∧St w M Z w' [As.os RR.key 40 2 K n' L (jR l)]:=by
 have hl:Rd RR.key 2 Z w a n c l:=SR.mono UK hA fun _ _ h=>h
 have hlen:=hl.len;have hle:=hl.le;refine enter func14 rfl ntmps14 rfl<|?_;have aQ:=gF;have st1:=aQ.fr hl;have st2:=st1.dp RR.key 40 2;refine aY ?_;refine ez ?_;refine WC.br (σ:=Nat × (List Key) × (Option Addr) × Nat × Nat) (dn:=fun(i,out,C,y,G)=>[(3,.slice C y G),(7,.slice a n c),(8,.int .i64 (n:Int)),(9,.int .i64 (i:Int))]) (F:=fun(i,out,C,y,G)=>[As.os RR.key 40 2 C y G (out)]) (I:=fun(i,out,C,y,G)=>(i≤n)∧(out=jR (l.take i))∧True) (μ:=fun(i,out,C,y,G)=>n - i) (0,[],none,0,0) (st2) Sub.t (⟨by omega,rfl,trivial⟩)<|?_;rintro⟨i,out,C,y,G⟩ w1 U ⟨hi,V,_⟩;simp only [CA,NA] at U hi V ⊢;have qT:=((As.gs U.g0)).len
 have hol:out.length≤1000000:=by have:=rq (l.take i);rw [← V,List.length_take] at this;omega
 refine(aS) (fun g10=>?_) fun g10=>?_
 ·
  simp at g10
  have yl:i<l.length:=by omega
  refine dd ?_;obtain⟨gT,k8,kz,cW,gU,gg,eH,eV⟩:=Rd.at (As.gr U.g1) yl;have gg:=RR.bd gg;subst gg;have hU:=U.fg eV eH;refine nx ?_;refine WP .r (PV.dU eA cW rfl rfl (by omega))<|(aZ) ao (As.lF hU.g0)<|(eZ) hU fun b5 w2 H4 H5 ja=>?_;refine(cJ) hP ja fun w3 jU j3 hY=>?_;refine kS ?_;refine WC.br (σ:=Nat) (dn:=fun p=>[(3,.slice C y G),(5,.pointer (some ⟨b5,0,none⟩)),(6,.int .i64 (p:Int)),(7,.slice a n c),(8,.int .i64 (n:Int)),(9,.int .i64 (i:Int))]) (F:=fun p=>[]) (I:=fun p=>(p≤out.length)∧(∀q x,q<p→out[q]?=some x→bC x l[i]<0)∧True) (μ:=fun p=>out.length - p) (0) (hY) Sub.t (⟨by omega,fun q x h=>by omega,trivial⟩)<|?_;rintro p w4 Q ⟨hp,AE,_⟩;simp only [CA,NA] at Q hp AE ⊢;have Fw:=((As.gs Q.g2)).len;refine bO ?_;refine WC.dZ (t:=25) (v:=.bool (BE out p l[i])) Q ?_<|?_
  ·
   have PI:=Q.bN;refine WC.dS (m:=10) Q mixed<|(oo) (fun g17=>?_) (fun g17=>?_)
   ·
    simp at g17
    have R:p<out.length:=by omega
    have H:=ak R;obtain⟨tw,kP⟩:=Ow.addr (As.gs Q.g2) H
    have S:BE out p l[i]=decide (bC out[p] l[i]<0):=by unfold BE;rw [H]
    refine bO ?_;refine DP .r (fun _ d=>PV.dU eA kP rfl rfl (by omega))<|DP .r (fun _ d=>VA ao (Ow.jH (As.gs d.2.g2) (by omega) kP H) .r)<|(gN) ao St.g0<|(cQ)<|?_;rintro w5 ⟨qB,z⟩ _;refine(eP) (kb (k:=out[p]) (q:=l[i])) z fun w6 s6 g=>?_;exact(cA) (by rw [S]) (g)
   simp at g17
   have S:BE out p l[i]=false:=by unfold BE;rw [List.getElem?_eq_none (by omega)]
   refine(cQ) ?_;rintro w5 ⟨qB,z⟩ _;exact(cA) (by rw [S]) (z)
  intro w5 z;refine(aS) (fun u=>?_) fun u=>?_
  ·
   have R:p<out.length:=by
    rcases Nat.lt_or_ge p out.length with h | h
    ·
     exact h
    unfold BE at u;rw [List.getElem?_eq_none h] at u;cases u
   have hcm:bC out[p] l[i]<0:=by unfold BE at u;rw [ak R] at u;simpa using u
   refine kS ?_;refine eB (p+1) ⟨z,⟨by omega,cG (P:=fun _ x=>bC x l[i]<0) R AE hcm,trivial⟩⟩
  have ID:∀x,out[p]?=some x→0≤bC x l[i]:=fun x hx=>by unfold BE at u;rw [hx] at u;simp at u;omega
  have Yr:=Mq out l[i] p hp AE ID;refine fL ?_;refine WC.dZ (t:=39) (v:=.bool (decide (out[p]?≠some l[i]))) z ?_<|?_
  ·
   have PA:=z.bN;refine WC.dS (m:=10) z mixed<|(oo) (fun Ta=>?_) (fun Ta=>?_)
   ·
    simp at Ta
    have S:out[p]?=none:=List.getElem?_eq_none (by omega);refine(cQ) ?_;rintro w6 ⟨mc,g⟩ _;exact(cA) (by first | (rw [S];rfl) | (rw [H];simp)) (g)
   simp at Ta
   have R:p<out.length:=by omega
   have H:=ak R;obtain⟨KQ,lO⟩:=Ow.addr (As.gs z.g2) H;refine bO ?_;refine DP .r (fun _ d=>PV.dU eA lO rfl rfl (by omega))<|DP .r (fun _ d=>VA ao (Ow.jH (As.gs d.2.g2) (by omega) lO H) .r)<|(gN) ao St.g0<|(cQ)<|?_;rintro w6 ⟨mc,g⟩ _;refine WP .r (PV.LG fI (p:=out[p]) (q:=l[i]) rfl rfl)<|?_;exact(cA) (by first | (rw [S];rfl) | (rw [H];simp)) (g)
  intro w6 g;refine(aS) (fun O=>?_) fun O=>?_
  ·
   have O:¬out[p]?=some l[i]:=by simpa using O
   obtain⟨N,W⟩:∃N,N=w6.heap.size:=⟨_,rfl⟩;have T:=g.jL;have h0N:=g.size;have hlN:=g.bN;have anT:=((As.gs g.g2)).len;rw [← W] at T h0N hlN;have hN9:=g.bN;refine WC.Jj (m:=10) (fun j w w'=>match j with | 6=>D5 N 40 (p*2) 2 w w' | _=>aT [] w w') (E:=cB [(3,fun v w'=>∃a c,v=.slice a p c∧(∀x∈aJ a,N≤x)∧(p=0→a=none)∧Ow RR.key 40 2 Z w' a p c (out.take p)),(5,fun v w'=>∃b,v=.slice (some ⟨b,0,none⟩) 1 1∧N≤b∧bU w' b 40 l[i].cells),(6,fun v w'=>∃a c,v=.slice a (p+1) c∧(∀x∈aJ a,N≤x)∧Ow RR.key 40 2 Z w' a (p+1) c (out.take p++[l[i]]))]) g (lB (⟨⟨trivial,⟨fun _ _ _ _ _ s ⟨a,c,h1,f,o,J⟩=>⟨a,c,h1,f,o,J.ext s⟩,⟨fun _ _ _ _ _ s ⟨a,c,h1,f,o,J⟩=>⟨a,c,h1,f,o,D5.ow s T J⟩,trivial⟩⟩⟩,⟨⟨fun _ _ _ _ _ s ⟨b,h1,f,o⟩=>⟨b,h1,f,o.ext s⟩,⟨trivial,⟨fun _ _ _ _ _ s ⟨b,h1,f,o⟩=>⟨b,h1,f,D5.blk (l:=l[i].cells) s o⟩,trivial⟩⟩⟩,⟨⟨trivial,⟨trivial,⟨trivial,trivial⟩⟩⟩,trivial⟩⟩⟩)) mixed (by kernel_rfl)<|bO ?_;refine DP .r (fun _ d=>PV.mZ eA (Ow.rd (As.gs d.2.g2) (by omega)) rfl rfl (by omega))<|?_;refine DW.e rfl rfl rfl rfl rfl (fun wx d hF=>OX.Vx (N:=N) (Z:=Z) lN rfl rfl rfl (OR.nil 0 wx 40 2 _) (by simp [aJ]) (SR.take (i:=p) (Ow.rd (As.gs d.2.g2) (by omega)) (by omega)) (by omega) (by omega) (by rw [W];exact d.1) T 0 (fun c h=>absurd rfl h) fun K L wy h1 f o J X=>⟨⟨Nat.le_trans d.1 X.size,d.2.step X⟩,X,_,rfl,K,L,by rw [Nat.zero_add],o,J,by simpa using h1⟩)<|?_;rintro _ wz _ ⟨a3,c3,rfl,_,_,_⟩;refine(gN) ao St.g0<|?_;refine DW.e rfl rfl rfl rfl rfl (fun wx d hF=>OX.aR (us:=l[i].cells) dx rfl rfl rfl rfl fun b wy Y hb=>⟨⟨Nat.le_trans d.1 Y.ext.size,d.2.step Y.ext⟩,Y.ext,_,rfl,b,rfl,by rw [W];exact Nat.le_trans d.1 Y.ge,hb⟩)<|?_;rintro _ wz _ ⟨b5x,rfl,_,_⟩
   refine DW.e rfl rfl rfl rfl rfl (fun wx d hF=>by
    obtain⟨⟨b',Fj,wJ,wK⟩,⟨K,L,h1,f,o,J⟩,_⟩:=hF;simp only [Value.slice.injEq,Option.some.injEq,Addr.mk.injEq,and_true,true_and] at Fj h1;subst Fj;obtain⟨rfl,rfl⟩:=h1;exact OX.Vx (N:=N) (Z:=Z) lN rfl rfl rfl J f (SR.dc (A:=fun _=>True) (x:=l[i]) wK trivial rfl (by simp [Key.cells,Value.oneCell']) rfl) (by omega) (by omega) (by rw [W];exact d.1) T 2 (fun c h hc=>by have:p≠0:=fun e=>h (o e);omega) fun K L wy h1 f o J X=>⟨⟨Nat.le_trans d.1 f.size,f.st d.2 hlN T h0N⟩,f,_,rfl,K,L,rfl,o,h1⟩) ?_
   rintro _ wz _ ⟨a6,c6,rfl,_,_⟩;refine bO ?_;refine DP .r (fun _ d=>PV.yx eA (Ow.rd (As.gs d.2.g2) (by omega)) rfl rfl (by omega))<|(cQ)<|?_;rintro w7 ⟨Il,eE⟩ ⟨Tb,⟨_,⟨_,_⟩⟩⟩;obtain⟨_,_,he6,aeU,ho6⟩:=Tb;simp only [Value.slice.injEq,true_and] at he6;obtain⟨rfl,rfl⟩:=he6;have dh:=eE.add (B:=As.os RR.key 40 2 a6 (p+1) c6 (out.take p++[l[i]])) ho6 aeU hlN T h0N;refine WL.ap rfl rfl dh (SR.drop (i:=p) (Ow.rd (As.gs dh.g3) (by omega)) (by omega)) fun a50 aeV w8 anW anX cX=>?_;refine bO ?_;have dj:=cX.p3.drop;refine fL ?_;refine eB (i+1,_,a50,((p+1)+(y - p)),aeV) ⟨dj.p1.drop.p1.drop,⟨by omega,by rw [List.take_succ_eq_append_getElem yl,uv,← V,Yr,if_neg O],trivial⟩⟩
  have O:out[p]?=some l[i]:=by simpa using O
  refine ez ?_;refine eB (i+1,_,C,y,G) ⟨g.drop.drop,⟨by omega,by rw [List.take_succ_eq_append_getElem yl,uv,← V,Yr,if_pos O],trivial⟩⟩
 simp at g10
 have hK:out=jR l:=by rw [V,List.take_of_length_le (by omega)]
 subst hK;refine(bz) ?_;exact⟨_,_,_,rfl,U.p1.drop⟩
theorem sX(gF:St w M Z w []) (hl:Rd RR.ei 8 Z w a n c l) (h6:l.length≤1000000):Calls prog 217 #[.slice a n c,.int .i64 rev,k.val] w fun e w'=>∃b m Z',e=.returned (.map (some b))∧bK w.heap.size Z Z'∧ik m (bM l rev k)∧St w M Z' w' [As.map Key.val b m]:=by
 have hlen:=hl.len;have hle:=hl.le;refine enter func217 rfl ntmps217 rfl<|?_;have aQ:=gF;have st1:=aQ.fr hl;refine(dy) st1 fun b5 w1 H4 H5 st2=>?_;refine dd ?_;refine WL.mm Key.val st2 fun U w2 Ys anY iW=>?_;refine(aZ) ao iW.b1<|?_;refine WL.go rfl (OX.aR (us:=k.cells) dx rfl rfl rfl rfl fun b16 w3 N5 Tc=>?_);have hU:=St.pY (R:=RR.key) (E:=40) (k:=2) (a:=some ⟨b16,0,none⟩) (n:=1) (c:=1) (xs:=[k]) iW N5.ext (OR.dc Tc (Nat.zero_le _) rfl (by simp [Key.cells,Value.oneCell']) rfl) (fun x s=>by simp [aJ] at s;subst s;exact N5.ge);refine jM ?_;refine WC.gY (σ:=Nat × (List Key) × (List (Key × Value)) × (Nat→Prop) × (Option Addr) × Nat × Nat) (dn:=fun(i,f,mm,G,o,g,p)=>[(0,.slice a n c),(1,.int .i64 rev),(7,.map (some U)),(8,.slice o g p),(9,.int .i64 (i:Int))]) (F:=fun(i,f,mm,G,o,g,p)=>[As.os RR.key 40 2 o g p (k::f),As.map Key.val U mm]) (I:=fun(i,f,mm,G,o,g,p)=>(i≤f.length+1)∧(bK w.heap.size Z G)∧(f.Nodup)∧(∀x∈f,bM l rev k x)∧(ik mm (·∈f))∧(∀(q:Nat) (y:Key),q<i→(k::f)[q]?=some y→∀x,Ld l rev y x→x∈f)∧True) (μ:=fun(i,f,mm,G,o,g,p)=>l.length+1 - i) (Zf:=fun(i,f,mm,G,o,g,p)=>G) (0,[],[],Z,(some ⟨b16,0,none⟩),1,1) (hU.p1.p1) Sub.t (⟨by simp,bK.refl _ _,by simp,by simp,ik.nil,fun q y h=>by omega,trivial⟩)<|?_;rintro⟨i,f,mm,G,o,g,p⟩ w4 J ⟨hi,hZ,yD,L,LS,Ha,_⟩;simp only [CA,NA] at J hi hZ yD L LS Ha ⊢;have qT:=((As.gs J.g0)).len;rw [List.length_cons] at qT
 have hyl:=eL yD fun x s=>nq (L x s).gz
 rw [List.length_map] at hyl;refine(aS) (fun g20=>?_) fun g20=>?_
 ·
  simp at g20
  have yl:i<(k::f).length:=by simp;omega
  obtain⟨y,hy0⟩:∃y,(k::f)[i]=y:=⟨_,rfl⟩
  have hy:(k::f)[i]?=some y:=by rw [ak yl,hy0]
  have aeX:y=k∨bM l rev k y:=by
   have:=List.getElem_mem yl
   rw [hy0] at this
   rcases List.mem_cons.1 this with h | h
   ·
    exact .inl h
   exact .inr (L y h)
  refine dd ?_;obtain⟨gT,cW⟩:=Ow.addr (As.gs J.g0) hy;refine cy ?_;refine WP .r (PV.dU eA cW rfl rfl (by omega))<|(aZ) ao (Ow.jH (As.gs J.g0) (by simp;omega) cW hy)<|?_;have V:=J;refine(bY) kN (jF (k:=y) V.e0 (As.gr V.g3)) ?_;rintro _ w5 ⟨f1,f2,f3,rfl,IL,qA⟩;have hh:=St.lr V qA;have ID:=St.bP qA;have hsz:=V.size;have iK:=hh.ba (by omega);have mC:=hZ.trans (bK.dA (F:=fun x=>x∈aJ f1) ID) hsz;have Yg:=((As.gr iK.g0)).len;refine(eZ) iK fun KW w6 Cz CB iH=>?_;refine(cJ) fY iH fun w7 jU j3 eE=>?_;refine(a7) dE eE.b0<|dd ?_;refine WC.br (σ:=Nat × (List Key) × (List (Key × Value)) × (Option Addr) × Nat × Nat) (dn:=fun(j,d,C,o,g,p)=>[(0,.slice a n c),(1,.int .i64 rev),(7,.map (some U)),(8,.slice o g p),(9,.int .i64 (i:Int)),(33,.slice f1 f2 f3),(34,.int .i64 (f2:Int)),(35,.int .i64 (j:Int))]) (F:=fun(j,d,C,o,g,p)=>[As.os RR.key 40 2 o g p (k::d),As.map Key.val U C]) (I:=fun(j,d,C,o,g,p)=>(j≤f2)∧(f <+: d)∧(d.Nodup)∧(∀x∈d,bM l rev k x)∧(ik C (·∈d))∧(∀q x,q<j→(aC l y).reads[q]?=some x→bT l rev x=true→x∈d)∧True) (μ:=fun(j,d,C,o,g,p)=>f2 - j) (0,f,mm,o,g,p) (eE.p3.p3) Sub.t (⟨by omega,List.prefix_refl _,yD,L,LS,fun q x h=>by omega,trivial⟩)<|?_;rintro⟨j,d,C,o,g,p⟩ w8 N ⟨hj,H,K,O,Q,W,_⟩;simp only [CA,NA] at N hj H K O Q W ⊢;have Fw:=((As.gs N.g0)).len;rw [List.length_cons] at Fw
  have aeY:=eL K fun x s=>nq (O x s).gz
  rw [List.length_map] at aeY;refine(aS) (fun g36=>?_) fun g36=>?_
  ·
   simp at g36
   have X:j<(aC l y).reads.length:=by omega
   obtain⟨x,Y⟩:∃x,(aC l y).reads[j]=x:=⟨_,rfl⟩;have hmx:=Q.get x (b:=decide (x∈d)) (by simp);refine dd ?_;obtain⟨tw,H7,Ft,kP,vt,mE,mD,nM⟩:=Rd.at (As.gr N.g3) X;have mE:=RR.bd mE;subst mE;have cX:=N.fg nM mD;rw [Y] at mD cX;refine nx ?_;refine WP .r (PV.dU eA kP rfl rfl (by omega))<|(aZ) ao (As.lF cX.g0)<|(eZ) cX fun Td w9 N6 ae1 dj=>?_;refine(cJ) hP dj fun iT qU mu cS=>?_;refine cq ?_;refine WC.dZ (t:=48) (v:=.bool (bT l rev x && !decide (x∈d))) cS ?_<|?_
   ·
    refine(aZ) ao cS.b0<|(eP) (vo (k:=x) (As.gr cS.g7)) cS fun iY s11 B=>?_;refine(db) (fun Yt=>?_) (fun Yt=>?_)
    ·
     refine(aZ) ao B.b0<|?_;refine WP .r (PV.jQ cZ gL Cf (As.gm B.g3) (hmx) rfl rfl)<|?_;exact(cA) (by simp only [Yt];first | rfl | simp) (B)
    exact(cA) (by simp only [Yt];first | rfl | simp) (B)
   intro iY B;refine(aS) (fun S=>?_) fun S=>?_
   ·
    simp at S
    obtain⟨UY,G2⟩:=S;have hld:Ld l rev y x:=⟨Y ▸ List.getElem_mem X,UY⟩
    have hxl:bM l rev k x:=by
     rcases aeX with rfl | h
     ·
      exact .one hld
     exact .step h hld
    have N7:(d++[x]).Nodup:=by rw [List.nodup_append];exact⟨K,by simp,fun a ha b hb=>by simp at hb;subst hb;rintro rfl;exact G2 ha⟩
    refine(aZ) ao B.b0<|?_;refine WL.go rfl (OX.put cZ gL (As.gm B.g3) rfl rfl rfl fun lx zG zH=>?_);have gy:=B.p3.jW zG zH;refine(aZ) ao gy.b1<|?_;refine WL.go rfl (OX.aR (us:=x.cells) dx rfl rfl rfl rfl fun b53 nN ae3 ae4=>?_);have dT:=gy.da ae3 ae4;refine WL.ap rfl rfl dT.p4 (SR.dc (A:=fun _=>True) (x:=x) (As.gb dT.g0) trivial rfl (by simp [Key.cells,Value.oneCell']) rfl) fun a54 ae5 qV anZ an0 ef=>?_;refine gV ?_
    refine eB (j+1,d++[x],_,a54,(g+1),ae5) ⟨ef.p1.drop.p2.drop.p2.drop,⟨by omega,H.trans (List.prefix_append _ _),by rw [List.nodup_append];exact⟨K,by simp,fun a ha b hb=>by simp at hb;subst hb;rintro rfl;exact G2 ha⟩,fun z u=>by
       rcases List.mem_append.1 u with u | u
       ·
        exact O z u
       simp at u;subst u;exact hxl,Q.put x,cG (P:=fun _ z=>bT l rev z=true→z∈d++[x]) X (fun q z T u ho=>by simp [W q z T u ho]) (fun _=>by simp [← Y]),trivial⟩⟩
   skip
   refine ez ?_;refine eB (j+1,d,C,o,g,p) ⟨B.drop.drop,⟨by omega,H,K,O,Q,cG (P:=fun _ z=>bT l rev z=true→z∈d) X W (fun ho=>by rw [Y] at ho ⊢;simp [ho] at S;exact S),trivial⟩⟩
  simp at g36
  refine kg ?_
  refine eB (i+1,d,C,_,o,g,p) ⟨N.p2.drop.p2.drop,⟨by have:=H.length_le;show i+1≤d.length+1;omega,mC,K,O,Q,fun q z T u x s=>by
     rcases Nat.lt_or_ge q i with h | h
     ·
      have hz2:(k::f)[q]?=some z:=by
       obtain⟨t,rfl⟩:=H;rw [← List.cons_append,List.getElem?_append_left (by simp;omega)] at u;exact u
      exact H.subset (Ha q z h hz2 x s)
     have e:q=i:=by omega
     subst e
     have hz2:some y=some z:=by rw [← hy,← u];obtain⟨t,rfl⟩:=H;rw [← List.cons_append,List.getElem?_append_left (by simp;omega)]
     simp at hz2;subst hz2
     obtain⟨j,hj,rfl⟩:=List.mem_iff_getElem.1 s.1;exact W j _ (by omega) (ak hj) s.2,trivial⟩⟩
 simp at g20
 have Ij:=yM L fun y hy x s=>by
  obtain⟨q,T,rfl⟩:=List.mem_iff_getElem.1 hy;exact Ha q _ (by simp at T;omega) (ak T) x s
 refine(bz) ?_;exact⟨_,_,_,rfl,hZ,LS.congr Ij,J.p1.k1⟩
theorem vC(gF:St w M Z w []) (hl:Rd RR.ei 8 Z w a n c l) (h6:l.length≤100000):Calls prog 179 #[.slice a n c,.int .i64 rev,k.val] w fun e w'=>∃X Y c' Z',e=.returned (.slice X Y c')∧bK w.heap.size Z Z'∧St w M Z' w' [As.os RR.key 40 2 X Y c' (aB l rev k)]:=by
 have hlen:=hl.len;have hle:=hl.le;refine enter func179 rfl ntmps179 rfl<|?_;have aQ:=St.rb gF;have st1:=aQ.fr hl;refine(dy) st1 fun b5 w1 H4 H5 st2=>?_;refine(aZ) ao st2.b0<|(eP) (vo (k:=k) (As.gr st2.g1)) st2 fun w2 s2 H=>?_;refine(aS) (fun g15=>?_) fun g15=>?_
 ·
  simp at g15
  have N:aB l rev k=[k]:=by unfold aB;rw [if_neg (by simp [g15])]
  refine(aZ) ao H.b0<|?_;refine WL.go rfl (OX.aR (us:=k.cells) dx rfl rfl rfl rfl fun Yu w3 Te N8=>?_);have J:=St.pY (R:=RR.key) (E:=40) (k:=2) (a:=some ⟨Yu,0,none⟩) (n:=1) (c:=1) (xs:=[k]) H Te.ext (OR.dc N8 (Nat.zero_le _) rfl (by simp [Key.cells,Value.oneCell']) rfl) (fun x o=>by simp [aJ] at o;subst o;exact Te.ge);refine(bz) ?_;exact⟨_,_,_,_,rfl,bK.refl _ _,by rw [N];exact(St.wk J.p1.drop.p1.drop)⟩
 simp at g15
 have N:aB l rev k=jR (k::jg l rev k l):=by unfold aB;rw [if_pos g15]
 refine(aZ) ao H.b0<|?_;refine WL.go rfl (OX.aR (us:=k.cells) dx rfl rfl rfl rfl fun Yv w3 KX Tf=>?_);have J:=St.pY (R:=RR.key) (E:=40) (k:=2) (a:=some ⟨Yv,0,none⟩) (n:=1) (c:=1) (xs:=[k]) H KX.ext (OR.dc Tf (Nat.zero_le _) rfl (by simp [Key.cells,Value.oneCell']) rfl) (fun x o=>by simp [aJ] at o;subst o;exact KX.ge);refine(aZ) ao J.b1<|?_;have K:=J;refine(bY) Pr (sX (k:=k) K.e0 (As.gr K.g2) (by omega)) ?_;rintro _ w4 ⟨bt,mt,Z1,rfl,wt,hmt,ox⟩;have hY:=St.lv K ox wt;have mC:=wt.le K.size;refine aY ?_;refine WC.br (σ:=Nat × (List Key) × (Option Addr) × Nat × Nat) (dn:=fun(i,acc,f,g,s)=>[(0,.slice a n c),(1,.int .i64 rev),(5,.pointer (some ⟨b5,0,none⟩)),(7,.slice f g s),(8,.map (some bt)),(24,.slice a n c),(25,.int .i64 (n:Int)),(26,.int .i64 (i:Int))]) (F:=fun(i,acc,f,g,s)=>[As.os RR.key 40 2 f g s (acc)]) (I:=fun(i,acc,f,g,s)=>(i≤n)∧(acc=k::jg l rev k (l.take i))∧True) (μ:=fun(i,acc,f,g,s)=>n - i) (0,[k],(some ⟨Yv,0,none⟩),1,1) (hY.p1) Sub.t (⟨by omega,by simp [jg],trivial⟩)<|?_;rintro⟨i,acc,f,g,s⟩ w5 u ⟨hi,z,_⟩;simp only [CA,NA] at u hi z ⊢;have qT:=((As.gs u.g0)).len;have LJ:=pc l rev k (l.take i)
 have yg:acc.length≤100001:=by rw [z,List.length_cons];rw [List.length_take] at LJ;omega
 refine(aS) (fun O=>?_) fun O=>?_
 ·
  simp at O
  have P:i<l.length:=by omega
  have hto:=hmt.get l[i].key kl;refine dd ?_;obtain⟨gT,k8,kz,cW,gU,gg,eH,eV⟩:=Rd.at (As.gr u.g3) P;obtain⟨q1,q2,q3,rfl,IJ,DJ⟩:=gg;have Q:=u.fg eV eH;have y:=Q.fr IJ;refine nx ?_;refine WP .r (PV.dU iG cW rfl rfl (by omega))<|(aZ) cV (As.lF y.g1)<|(eZ) y fun KW w6 Cz CB S=>?_;refine(cJ) fY S fun w7 jU j3 C=>?_;refine cq ?_;refine WC.dZ (t:=48) (v:=.bool (BF l rev k l[i])) C ?_<|?_
  ·
   have PA:=C.bN;have ae6:=C.jL;have ae7:=C.size;refine WC.dB (m:=17) (E:=cB [(15,Jm w7.heap.size fun m=>ik m (bM l rev l[i].key))]) C (bm (⟨fun _ _ _ _ _ _ c h=>Jm.st PA c h,trivial⟩)) mixed (by kernel_rfl)<|(tn) ao St.g0<|(gN) ao St.g5<|?_;refine DP .r (fun _ j=>PV.LG fI (p:=l[i].key) (q:=k) rfl rfl)<|(oo) (fun L=>?_) (fun L=>?_)
   ·
    refine(tn) ao St.g0<|?_;refine DP .r (fun _ j=>PV.jQ cZ gL Cf (As.gm j.2.g4) (hto) rfl rfl)<|(oo) (fun T=>?_) (fun T=>?_)
    ·
     refine(tn) ao St.g0<|?_;refine DW.e rfl rfl rfl rfl rfl (fun wx j hF=>OX.call Pr rfl rfl ((sX (k:=l[i].key) (j.2.e0) (As.gr j.2.g6) (by omega)).mono ?_))<|?_
     ·
      rintro _ wy ⟨b,m,Z',rfl,hZ',hm,U⟩;have hy:=U.cg0;exact⟨_,rfl,⟨Nat.le_trans j.1 hy.size,j.2.step hy⟩,hy.p0,_,rfl,b,m,rfl,Nat.le_trans j.1 (St.bP U b rfl),As.gm U.g0,hm⟩
     rintro _ wz _ ⟨b45,_,rfl,_,_,_⟩;refine(gN) ao St.g5<|(cQ)<|?_;rintro V ⟨mc,d⟩ ⟨ae8,_⟩;obtain⟨_,m45,h1,Yw,Yx,ae9⟩:=ae8
     simp at h1;subst h1
     have hld:=ae9.get k kl;have G:=d.add (B:=As.map Key.val b45 m45) Yx (fun x o=>by have h1:x=b45:=o;subst h1;exact Yw) PA ae6 ae7;refine WP .r (PV.jQ cZ gL Cf (As.gm G.g0) (hld) rfl rfl)<|?_;exact(cA) (by unfold BF;simp only [L,T];first | rfl | simp) (G.drop)
    refine(cQ) ?_;rintro V ⟨mc,d⟩ _;exact(cA) (by unfold BF;simp only [L,T];first | rfl | simp) (d)
   refine(cQ) ?_;rintro V ⟨mc,d⟩ _;exact(cA) (by unfold BF;simp only [L];first | rfl | simp) (d)
  intro V d;refine(aS) (fun W=>?_) fun W=>?_
  ·
   refine(hW) ao d.b0<|?_;refine WL.go rfl (OX.aR (us:=l[i].key.cells) dx rfl rfl rfl rfl fun b52 w9 afa afb=>?_);have G:=d.da afa afb;refine WL.ap rfl rfl G.p4 (SR.dc (A:=fun _=>True) (x:=l[i].key) (As.gb G.g0) trivial rfl (by simp [Key.cells,Value.oneCell']) rfl) fun a53 afc iT an3 an4 cS=>?_;refine gV ?_;refine eB (i+1,_,a53,(g+1),afc) ⟨cS.p7.p7.p7.p3.k4,⟨by omega,by rw [z,sC P,if_pos W];rfl,trivial⟩⟩
  refine ez ?_;refine eB (i+1,_,f,g,s) ⟨d.p6.p6.p6.p6.k4,⟨by omega,by rw [z,sC P,if_neg (by simp [W])],trivial⟩⟩
 simp at O
 have hK:acc=k::jg l rev k l:=by rw [z,List.take_of_length_le (by omega)]
 subst hK;refine fL ?_;have LJ:=pc l rev k l;refine bO ?_;have N9:=St.fresh u;have Q:=u.ba (by simp;omega);have y:=Q;refine(bY) Sc (me y.e0 (As.gr y.g0) (fun _ h _=>h) (by simp;omega)) ?_;rintro _ w6 ⟨f1,f2,f3,rfl,zI⟩;have S:=St.lr y zI;refine(bz) ?_;exact⟨_,_,_,_,rfl,mC.trans (bK.dA (F:=fun x=>x∈aJ f) N9) (Nat.le_refl _),by rw [N];exact(St.wk S.k1)⟩
set_option maxHeartbeats 400000
theorem sY(q:aq aa) (hk:ep aa k) (i:St w M Z w [As.jO prog 176 aa x D]):Calls prog 220 #[.pointer (some ⟨D.s,0,none⟩),k.val] w fun e w'=>e=.returned (.string (valOf aa x.ab k))∧St w M Z w' [As.jO prog 176 aa x D]:=by
 obtain⟨j,hb,⟨ml,hm,r⟩,o⟩:=i.g0;have d:St w M Z w (As.blk D.s 176 (D.cells x)::As.map Key.val D.m ml::[]):=St.split i hb r (fun y h=>.inl h) (fun y h=>.inr h) (fun y (h1:y=D.s) (d:y=D.m)=>j (h1.symm.trans d));refine(Ik q hk _ _ _ _ (St.enter (rest:=[]) d) o hm).mono<|?_;rintro e w' ⟨p,rfl,t,_,f⟩;have g:St w M Z w' (As.blk D.s 176 (D.cells x)::As.map Key.val D.m p::[]):=St.leave (rest:=[]) (l0:=[_,_]) d f (bK.refl _ _);refine⟨rfl,g.join ⟨j,g.g0,⟨p,t,g.g1⟩,(D.F prog aa x).st f.bX.size (fun y hy hl=>f.bX.block y hl fun⟨A,u,v⟩=>d.lV A u y v hy) o⟩ fun y h=>h⟩
theorem oP(z:aq aa) (hk:ep aa k) (A:St w M Z w [As.jO prog 176 aa x D]) (hi:Rd RR.aD 4 Z w a1 n1 e1 b.ab) (hr:Rd RR.ei 8 Z w a2 n2 e2 b.ah):Calls prog 189 #[.pointer (some ⟨D.s,0,none⟩),.agg (b.row a1 n1 e1 a2 n2 e2).toArray,k.val] w fun e w'=>e=.returned (.int .i64 (aV (valOf aa x.ab) b k))∧St w M Z w' [As.jO prog 176 aa x D]:=by
 refine enter func189 rfl ntmps189 rfl<|?_;have aQ:=A;have st1:=aQ.fr hi;have st2:=st1.fr hr;refine(dy) st2 fun b4 w1 G H B=>?_;refine(dy) B fun b5 w2 I J r=>?_;refine(aZ) ao r.b0<|(eP) (ew (k:=k)) r fun w3 K f=>?_;refine(aS) (fun g10=>?_) fun g10=>?_
 ·
  skip
  refine(aZ) aO f.b1<|(aZ) ao f.b0<|(eP) (Cr (k:=k) (As.gr f.g3) (As.gr f.g2)) f fun w4 u g=>?_;refine(bz) ?_;exact⟨by unfold aV;rw [if_pos g10],g.p4.k1⟩
 refine(a7) dD f.b1<|(aZ) ao f.b0<|(bY) kN (ee (k:=k) (As.gr f.g2)) ?_;rintro _ w4 ⟨f1,f2,f3,rfl,u⟩;have g:=f.step u;refine(eZ) g fun L w5 N O C=>?_;refine(cJ) fY C fun w6 P Q i=>?_;refine dd ?_;refine WC.dZ (t:=36) (v:=.bool ((aA b.ah k).isSome && (decide ((aC b.ah k).av=b.ad) || decide (valOf aa x.ab k=(aC b.ah k).value)))) i ?_<|?_
 ·
  have R:=i.bN;refine WC.dB (m:=13) (E:=cB [(10,fun v _=>v=.string (valOf aa x.ab k))]) i (bm (⟨fun _ _ _ _ _ _ _ h=>h,trivial⟩)) mixed (by kernel_rfl)<|(oo) (fun g22=>?_) (fun g22=>?_)
  ·
   refine(iv) aP St.g0<|(iv) aP St.g2<|(oo) (fun j=>?_) (fun j=>?_)
   ·
    refine(cQ) ?_;rintro w7 ⟨y,d⟩ _;exact(cA) (by simp only [g22,j];first | rfl | simp) (d)
   refine(gN) ao St.g1<|?_;refine DW.e rfl rfl rfl rfl rfl (fun S o T=>OX.call GZ rfl rfl ((sY (k:=k) z hk (o.2.one (.tail _ (.tail _ (.tail _ (.tail _ (.tail _ (.head _)))))))).mono ?_))<|?_
   ·
    rintro _ wy ⟨rfl,hy⟩;exact⟨_,rfl,⟨Nat.le_trans o.1 hy.bX.size,o.2.xE M5 hy⟩,hy.bX.mono (fun _ _ F=>Gr M5 F),_,rfl,rfl⟩
   rintro _ U _ rfl;refine(iv) fy St.g0<|(cQ)<|?_;rintro w7 ⟨y,d⟩ ⟨_,_⟩;exact(cA) (by simp only [g22,j];first | rfl | simp) (d)
  refine(cQ) ?_;rintro w7 ⟨y,d⟩ _;exact(cA) (by simp only [g22];first | rfl | simp) (d)
 intro w7 d;refine(aS) (fun p=>?_) fun p=>?_
 ·
  have q:aV (valOf aa x.ab) b k=(aC b.ah k).changed:=by unfold aV;rw [if_neg (by simp [g10]),if_pos p]
  refine(a7) aP d.b0<|(bz) ?_;exact⟨by rw [q],d.p5.k1⟩
 have q:aV (valOf aa x.ab) b k=b.ad:=by unfold aV;rw [if_neg (by simp [g10]),if_neg (by simp [p])]
 refine(a7) aP d.b2<|(bz) ?_;exact⟨by rw [q],d.p5.k1⟩
theorem FJ(f:aq aa) (hk:ep aa k) (g:St w M Z w [As.jO prog 176 aa x D]) (hi:Rd RR.aD 4 Z w a1 n1 e1 b.ab) (hr:Rd RR.ei 8 Z w a2 n2 e2 b.ah):Calls prog 187 #[.pointer (some ⟨D.s,0,none⟩),.agg (b.row a1 n1 e1 a2 n2 e2).toArray,k.val] w fun e w'=>e=.returned (.int .i64 (aV (valOf aa x.ab) b k))∧St w M Z w' [As.jO prog 176 aa x D]:=by
 refine enter func187 rfl ntmps187 rfl<|?_;have aQ:=g;have st1:=aQ.fr hi;have st2:=st1.fr hr;refine(dy) st2 fun b4 w1 m o h=>?_;refine(dy) h fun b5 w2 p q d=>?_;refine(aZ) aO d.b1<|(aZ) ao d.b0<|(bY) Pq (oP (k:=k) f hk (d.one (.tail _ (.tail _ (.tail _ (.tail _ (.head _)))))) (As.gr d.g3) (As.gr d.g2)) ?_;rintro _ w3 ⟨rfl,i⟩;have j:=d.xE M4 i;refine(bz) ?_;exact⟨rfl,j.p4.k1⟩
theorem qC(i:aq aa) (hk:ep aa k) (j:St w M Z w [As.jO prog 176 aa x D]) (hi:Rd RR.aD 4 Z w a1 n1 e1 b.ab) (hr:Rd RR.ei 8 Z w a2 n2 e2 b.ah):Calls prog 185 #[.pointer (some ⟨D.s,0,none⟩),.agg (b.row a1 n1 e1 a2 n2 e2).toArray,k.val] w fun e w'=>e=.returned (.string (bS (valOf aa x.ab) b k))∧St w M Z w' [As.jO prog 176 aa x D]:=by
 refine enter func185 rfl ntmps185 rfl<|?_;have aQ:=j;have st1:=aQ.fr hi;have st2:=st1.fr hr;refine(dy) st2 fun b4 w1 p q m=>?_;refine(dy) m fun b5 w2 r t h=>?_;refine(aZ) ao h.b0<|(eP) (de (k:=k)) h fun w3 u d=>?_;refine(aS) (fun g10=>?_) fun g10=>?_
 ·
  have f:bS (valOf aa x.ab) b k=valOf aa x.ab k:=by unfold bS;rw [if_pos g10]
  refine(aZ) ao d.b0<|(bY) GZ (sY (k:=k) i hk (d.one (.tail _ (.tail _ (.tail _ (.tail _ (.head _))))))) ?_;rintro _ w4 ⟨rfl,o⟩;have g:=d.xE M4 o;refine(bz) ?_;exact⟨by rw [f],g.p4.k1⟩
 have f:bS (valOf aa x.ab) b k=i6 b k:=by unfold bS;rw [if_neg (by simp [g10])]
 refine(aZ) aO d.b1<|(aZ) ao d.b0<|(eP) (Fq (k:=k) (As.gr d.g3) (As.gr d.g2)) d fun w4 v g=>?_;refine aY ?_;refine(bz) ?_;exact⟨by rw [f];rfl,g.p4.k1⟩
theorem mf{group:List Key}{bq:Bool}{u:Option Addr}{g eg:Nat}(U:St w M Z w []) (hi:Rd RR.aD 4 Z w a1 n1 e1 x.ab) (hr:Rd RR.ei 8 Z w a2 n2 e2 x.ah) (V:Rd RR.key 2 Z w u g eg group) (W:x.ah.length≤1000000) (X:x.ab.length≤1000000):Calls prog 186 #[.agg (x.row a1 n1 e1 a2 n2 e2).toArray,.slice u g eg,.bool bq] w fun e w'=>∃E G H J K L Z',e=.returned (.agg ((cI x group bq).row E G H J K L).toArray)∧bK w.heap.size Z Z'∧St w M Z' w' [As.os RR.aD 78 4 E G H (cI x group bq).ab,As.os RR.ei 88 8 J K L (cI x group bq).ah]:=by
 have LU:=hi.len;have OU:=hr.len;refine enter func186 rfl ntmps186 rfl<|?_;have aQ:=St.rb U;have st1:=aQ.fr hi;have st2:=st1.fr hr;have Y:=st2.fr V;refine(dy) Y fun b3 w1 H6 wK hU=>?_;refine(eZ) hU fun b6 w2 DH IK N=>?_;refine(aZ) aO N.b1<|?_;have q:=N;refine(bY) zv (fA q.e0 (As.gr q.g4) (As.gr q.g3) W X) ?_;rintro _ w3 ⟨f1,f2,f3,f4,f5,f6,Z1,rfl,O,kA⟩;have P:=St.lv q kA O;have mC:=O.le q.size;have Ez:=((As.gs P.g1)).len;refine(cJ) dN P.p3 fun w4 jU j3 Q=>?_;refine(a7) dD Q.b0<|dd ?_;refine WC.br (σ:=Nat × (List Rec)) (dn:=fun(i,acc)=>[(1,.slice u g eg),(2,.bool bq),(3,.pointer (some ⟨b3,0,none⟩)),(6,.pointer (some ⟨b6,0,none⟩)),(12,.int .i64 (f5:Int)),(13,.int .i64 (i:Int))]) (F:=fun(i,acc)=>[As.os RR.ei 88 8 f4 f5 f6 acc]) (I:=fun(i,acc)=>(i≤f5)∧(acc=(x.ah.take i).map (aX x.ad group bq)++x.ah.drop i)∧True) (μ:=fun(i,acc)=>f5 - i) (0,x.ah) (Q.p2) Sub.t (⟨by omega,by simp,trivial⟩)<|?_;rintro⟨i,acc⟩ w5 m ⟨eK,s,_⟩;simp only [CA,NA] at m eK s ⊢
 have yg:acc.length=x.ah.length:=by rw [s];simp;omega
 refine(aS) (fun g14=>?_) fun g14=>?_
 ·
  simp at g14
  have yl:i<x.ah.length:=by omega
  have v:=Ee (x:=x) (group:=group) (bq:=bq) yl (by omega);rw [← s] at v
  have p:acc[i]?=some x.ah[i]:=by rw [s,List.getElem?_append_right (by simp;omega)];simp [Nat.min_eq_left (by omega:i≤x.ah.length)]
  refine aY ?_;obtain⟨gT,kz,cW,gU,gg,eH⟩:=Ow.at (As.gs m.g0) (by omega) p;obtain⟨q1,q2,q3,rfl,an5,an6⟩:=gg
  have R:∀y,y=aX x.ad group bq x.ah[i]→acc.set i y=(x.ah.take (i+1)).map (aX x.ad group bq)++x.ah.drop (i+1):=fun y hy=>by rw [hy];exact v
  refine(a7) dD m.b1<|nx ?_;refine WP .r (PV.dU iG cW rfl rfl (by omega))<|(hW) ao eH<|(eP) (rU (k:=x.ah[i].key) (As.gr m.g4)) m fun w6 s6 d=>?_;refine(aS) (fun g24=>?_) fun g24=>?_
  ·
   simp at g24
   have uK:acc=(x.ah.take (i+1)).map (aX x.ad group bq)++x.ah.drop (i+1):=by
    rw [← v]
    have:aX x.ad group bq x.ah[i]=x.ah[i]:=by unfold aX;rw [if_neg g24]
    rw [this]
    apply List.ext_getElem?
    intro j;rw [List.getElem?_set]
    split
    ·
     rename_i e;subst e;rw [p];simp;omega
    rfl
   refine gV ?_;refine eB (i+1,acc) ⟨d,⟨by omega,uK,trivial⟩⟩
  simp at g24
  refine(aS) (fun o=>?_) fun o=>?_
  ·
   have o:bq=true:=o;subst o;have z:=R {x.ah[i] with bq:=true} (by unfold aX;rw [if_pos g24];rfl);obtain⟨tw,Ft,S,vt,mE,mD⟩:=Ow.at (As.gs d.g0) (by omega) p;refine(a7) dD d.b1<|nx ?_;refine WP .r (PV.dU iG S rfl rfl (by omega))<|nx ?_;refine WL.go rfl (OX.Qu (i:=i) (f:=7) O4 (As.gs d.g0) S p (by omega) rfl rfl rfl {x.ah[i] with bq:=true} (fun r _ ⟨a,n,c,h1,A,B⟩=>⟨a,n,c,by rw [h1];rfl,A,B⟩) fun w7 s7 h7x=>?_);have C:=d.eO s7 h7x (fun x h=>.inl h);refine ez ?_;refine eB (i+1,_) ⟨C,⟨by omega,z,trivial⟩⟩
  have o:bq=false:=o;subst o;have z:=R {x.ah[i] with av:=x.ad} (by unfold aX;rw [if_pos g24];rfl);obtain⟨KQ,afd,T,Yy,G3,PJ⟩:=Ow.at (As.gs d.g0) (by omega) p;refine(a7) dD d.b1<|(a7) aP d.b1<|?_;refine WP .r (PV.dU iG T rfl rfl (by omega))<|nx ?_;refine WL.go rfl (OX.Qu (i:=i) (f:=5) GS (As.gs d.g0) T p (by omega) rfl rfl rfl {x.ah[i] with av:=x.ad} (fun r _ ⟨a,n,c,h1,A,B⟩=>⟨a,n,c,by rw [h1];rfl,A,B⟩) fun w7 s8 h8x=>?_);have C:=d.eO s8 h8x (fun x h=>.inl h);refine ez ?_;refine eB (i+1,_) ⟨C,⟨by omega,z,trivial⟩⟩
 simp at g14
 have hK:acc=(cI x group bq).ah:=by rw [s,List.take_of_length_le (by omega),List.drop_eq_nil_of_le (by omega)];simp [cI]
 subst hK;refine(aZ) aO m.b1<|(cJ) dN m.p3 fun w6 qU mu d=>?_;refine(kT) aO d.b0<|?_;exact⟨_,_,_,_,_,_,_,rfl,mC,(St.wk d.p1.p3.k2)⟩
theorem CC{s:ES}{E:EA}{sb y z:Nat}(i:bU w z 140 (E.cells sb y s)) (hb:KM Key.val w y s.busy) (F:∀k,bF s.busy k=none∨bF s.busy k=some (.bool true)) (hr:Rd RR.ei 8 Z w E.a2 E.n2 E.c2 s.b.ah):CR prog 188 #[.pointer (some ⟨z,0,none⟩),k.val] w (.bool (eu s k)):=by
 have G:(bF s.busy k).getD (.bool false)=.bool (s.on k):=by unfold ES.on;rcases F k with h | h <;> rw [h] <;> rfl
 refine enter func188 rfl ntmps188 rfl<|?_;have aQ:=St.s0 w;refine(dy) aQ fun b3 w1 P Q st1=>?_;refine dd ?_;refine WC.dZ (t:=20) (v:=.bool (aw k || (s.on k && az k))) st1 ?_<|?_
 ·
  have R:=st1.bN;refine WC.dB (m:=8) (E:=cB [(1,fun v _=>v=.bool (aw k))]) st1 (bm (⟨fun _ _ _ _ _ _ _ h=>h,trivial⟩)) mixed (by kernel_rfl)<|(gN) ao St.g0<|?_;refine DW.c0 (fun A d B=>ew (k:=k))<|(oo) (fun g9=>?_) (fun g9=>?_)
  ·
   refine(cQ) ?_;rintro w2 ⟨H,st2⟩ ⟨_,_⟩;exact(cA) (by simp only [g9];first | rfl | simp) (st2)
  refine cq ?_;refine DP .r (fun _ d=>V1 nJ (bU.range (i.ext (St.cg d.2))) .r)<|(gN) ao St.g0<|(cQ)<|?_;rintro w2 ⟨H,st2⟩ ⟨_,_⟩;refine WP .r (PV.jQ cZ gL Cf (hb.ext (St.cg st2)) (G) rfl rfl)<|(db) (fun g16=>?_) (fun g16=>?_)
  ·
   refine(aZ) ao st2.b0<|(eP) (de (k:=k)) st2 fun w3 S o=>?_;exact(cA) (by simp only [g9,g16];first | rfl | simp) (o)
  exact(cA) (by simp only [g9,g16];first | rfl | simp) (st2)
 intro w2 st2;refine(aS) (fun g20=>?_) fun g20=>?_
 ·
  have p:eu s k=true:=by unfold eu;simp only [Bool.or_eq_true,Bool.and_eq_true] at g20 ⊢;rcases g20 with h | h <;> simp [h]
  refine(bz) ?_;exact⟨by rw [p],(St.cg st2)⟩
 have p:eu s k=ay s.b k:=by unfold eu;simp only [Bool.or_eq_false_iff] at g20;rw [g20.1,g20.2];rfl
 refine cq ?_;have C:=st2.bN;have I:=st2.jL;have J:=st2.size;refine WC.o7 (m:=11) [9] (E:=cB [(6,fun v _=>∃f1 f2 f3,v=.tuple #[.agg ((aC s.b.ah k).row f1 f2 f3).toArray,.bool (aA s.b.ah k).isSome]),(10,PB w2.heap.size 88 [.int .i64 0,.string ⟨#[]⟩,.string ⟨#[]⟩,.slice none 0 0,.int .i64 0,.int .i64 0,.int .i64 0,.bool false])]) st2 (bm (⟨fun _ _ _ _ _ _ _ h=>h,⟨fun _ _ _ _ _ _ c h=>PB.st C c h,trivial⟩⟩)) mixed (by kernel_rfl) rfl ?_;refine cy ?_;refine DP .r (fun _ d=>PV.ld1 (j:=3) dD (bU.range (i.ext (St.cg d.2))) rfl rfl)<|(gN) ao St.g0<|?_;refine DW.e rfl rfl rfl rfl rfl (fun A d B=>OX.call kN rfl rfl ((ee (k:=k) (hr.ext (St.cg d.2))).mono ?_))<|?_
 ·
  rintro _ wy ⟨f1,f2,f3,rfl,hy⟩;exact⟨_,rfl,⟨Nat.le_trans d.1 hy.size,d.2.step hy⟩,hy.p0,_,rfl,⟨f1,f2,f3,rfl⟩⟩
 rintro _ K _ ⟨f1,f2,f3,rfl⟩;refine cq ?_;refine DW.e rfl rfl rfl rfl rfl (fun A d B=>OX.alloc nL rfl fun b wy g hb=>⟨⟨Nat.le_trans d.1 g.ext.size,d.2.step g.ext⟩,g.ext.p0,_,rfl,_,rfl,Nat.le_trans d.1 g.ge,hb⟩)<|?_;rintro _ K _ ⟨b5,rfl,_,_⟩;refine(cQ) ?_;rintro w3 ⟨T,o⟩ ⟨L,⟨_,_⟩⟩;have N:=o.tj L C I J;refine(cJ) fY N fun w4 U V q=>?_;refine nx ?_;refine WL.nil (EX.np ?_);refine bO ?_;refine WC.kR (t:=4) (v:=.bool (ay s.b k)) q ?_<|?_
 ·
  have W:=q.bN;refine WC.dS (m:=9) q mixed<|(oo) (fun u=>?_) (fun u=>?_)
  ·
   refine(iv) aP St.g0<|cy ?_;refine DP .r (fun _ d=>PV.ld1 (j:=1) aP (bU.range (i.ext (St.cg d.2))) rfl rfl)<|(cQ)<|?_;rintro w5 ⟨O,f⟩ _;exact(gH) (by unfold ay;simp only [u];first | rfl | simp) (f)
  refine(cQ) ?_;rintro w5 ⟨O,f⟩ _;exact(gH) (by unfold ay;simp only [u];first | rfl | simp) (f)
 intro w5 f;refine(bz) ?_;exact⟨by rw [p],(St.cg f)⟩
end Go.Rc

