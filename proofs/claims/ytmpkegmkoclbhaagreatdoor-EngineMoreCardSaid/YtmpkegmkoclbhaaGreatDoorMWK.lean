/- Walks over the program, part WK. Conditions: as each theorem says. -/
import Derived.Test.YtmpkegmkoclbhaaGreatDoorMFacts
import Derived.Test.YtmpkegmkoclbhaaGreatDoorMWH
import Derived.Test.YtmpkegmkoclbhaaGreatDoorMBe
import Derived.Test.YtmpkegmkoclbhaaGreatDoorMWI
import Derived.Test.YtmpkegmkoclbhaaGreatDoorMWF
set_option linter.all false
namespace Go.Rc
open Go Go.Proofs Go.Proofs.Tryz
variable {l:List Rec}{a a1 a2:Option Addr}{n c n1 e1 n2 e2:Nat}{w:World}{M Z:Nat→Prop}{rev:Int}{k:Key}{aa:List aG}{x b:cm}{D:SD}
set_option maxHeartbeats 400000
set_option maxHeartbeats 1600000 in
theorem mi{l:List Key}{A:Nat→Prop}(gE:St w M Z w []) (UR:Rd RR.key 2 A w a n c l) (hA:∀x,A x→x<w.heap.size→Z x) (h6:l.length≤1000000):Calls prog 14 #[.slice a n c] w fun e w'=>∃K n' L,e=.returned (.slice K n' L)∧St w M Z w' [As.os RR.key 40 2 K n' L (jP l)]:=by
 have hl:Rd RR.key 2 Z w a n c l:=SR.mono UR hA fun _ _ h=>h
 have hlen:=hl.len;have hle:=hl.le;refine enter func14 rfl ntmps14 rfl<|?_;have aP:=gE;have st1:=aP.fr hl;have st2:=st1.dq RR.key 40 2;refine aX ?_;refine ez ?_;refine WC.bq (σ:=Nat × (List Key) × (Option Addr) × Nat × Nat) (dn:=fun(i,out,C,y,G)=>[(3,.slice C y G),(7,.slice a n c),(8,.int .i64 (n:Int)),(9,.int .i64 (i:Int))]) (F:=fun(i,out,C,y,G)=>[As.os RR.key 40 2 C y G (out)]) (I:=fun(i,out,C,y,G)=>(i≤n)∧(out=jP (l.take i))∧True) (μ:=fun(i,out,C,y,G)=>n - i) (0,[],none,0,0) (st2) Sub.t (⟨by omega,rfl,trivial⟩)<|?_;rintro⟨i,out,C,y,G⟩ w1 U ⟨hi,V,_⟩;simp only [CA,NA] at U hi V ⊢;have qZ:=((As.gs U.g0)).len
 have hol:out.length≤1000000:=by have:=rB (l.take i);rw [← V,List.length_take] at this;omega
 refine(aT) (fun g10=>?_) fun g10=>?_
 ·
  simp at g10
  have wN:i<l.length:=by omega
  refine de ?_;obtain⟨gV,k8,ky,cW,gW,gg,eG,eV⟩:=Rd.at (As.gr U.g1) wN;have gg:=RR.ba gg;subst gg;have iq:=U.fg eV eG;refine nx ?_;refine WP .r (PV.dQ et cW rfl rfl (by omega))<|(aZ) ao (As.lG iq.g0)<|(eW) iq fun b5 w2 H3 H4 i7=>?_;refine(cI) hP i7 fun w3 jS jZ iE=>?_;refine kR ?_;refine WC.bq (σ:=Nat) (dn:=fun p=>[(3,.slice C y G),(5,.pointer (some ⟨b5,0,none⟩)),(6,.int .i64 (p:Int)),(7,.slice a n c),(8,.int .i64 (n:Int)),(9,.int .i64 (i:Int))]) (F:=fun p=>[]) (I:=fun p=>(p≤out.length)∧(∀q x,q<p→out[q]?=some x→bC x l[i]<0)∧True) (μ:=fun p=>out.length - p) (0) (iE) Sub.t (⟨by omega,fun q x h=>by omega,trivial⟩)<|?_;rintro p w4 Q ⟨hp,AH,_⟩;simp only [CA,NA] at Q hp AH ⊢;have Fu:=((As.gs Q.g2)).len;refine bN ?_;refine WC.dW (t:=25) (v:=.bool (BI out p l[i])) Q ?_<|?_
  ·
   have PF:=Q.bO;refine WC.dS (m:=10) Q mixed<|(ot) (fun g17=>?_) (fun g17=>?_)
   ·
    simp at g17
    have R:p<out.length:=by omega
    have H:=ak R;obtain⟨tA,kO⟩:=Ow.addr (As.gs Q.g2) H
    have S:BI out p l[i]=decide (bC out[p] l[i]<0):=by unfold BI;rw [H]
    refine bN ?_;refine DP .r (fun _ d=>PV.dQ et kO rfl rfl (by omega))<|DP .r (fun _ d=>VA ao (Ow.jI (As.gs d.2.g2) (by omega) kO H) .r)<|(gM) ao St.g0<|(cQ)<|?_;rintro w5 ⟨qH,z⟩ _;refine(eN) (kb (k:=out[p]) (q:=l[i])) z fun w6 s6 g=>?_;exact(cz) (by rw [S]) (g)
   simp at g17
   have S:BI out p l[i]=false:=by unfold BI;rw [List.getElem?_eq_none (by omega)]
   refine(cQ) ?_;rintro w5 ⟨qH,z⟩ _;exact(cz) (by rw [S]) (z)
  intro w5 z;refine(aT) (fun u=>?_) fun u=>?_
  ·
   have R:p<out.length:=by
    rcases Nat.lt_or_ge p out.length with h | h
    ·
     exact h
    unfold BI at u;rw [List.getElem?_eq_none h] at u;cases u
   have hcm:bC out[p] l[i]<0:=by unfold BI at u;rw [ak R] at u;simpa using u
   refine kR ?_;refine eC (p+1) ⟨z,⟨by omega,cF (P:=fun _ x=>bC x l[i]<0) R AH hcm,trivial⟩⟩
  have IA:∀x,out[p]?=some x→0≤bC x l[i]:=fun x hx=>by unfold BI at u;rw [hx] at u;simp at u;omega
  have YA:=Mk out l[i] p hp AH IA;refine fO ?_;refine WC.dW (t:=39) (v:=.bool (decide (out[p]?≠some l[i]))) z ?_<|?_
  ·
   have Py:=z.bO;refine WC.dS (m:=10) z mixed<|(ot) (fun Ti=>?_) (fun Ti=>?_)
   ·
    simp at Ti
    have S:out[p]?=none:=List.getElem?_eq_none (by omega);refine(cQ) ?_;rintro w6 ⟨lO,g⟩ _;exact(cz) (by first | (rw [S];rfl) | (rw [H];simp)) (g)
   simp at Ti
   have R:p<out.length:=by omega
   have H:=ak R;obtain⟨KJ,lP⟩:=Ow.addr (As.gs z.g2) H;refine bN ?_;refine DP .r (fun _ d=>PV.dQ et lP rfl rfl (by omega))<|DP .r (fun _ d=>VA ao (Ow.jI (As.gs d.2.g2) (by omega) lP H) .r)<|(gM) ao St.g0<|(cQ)<|?_;rintro w6 ⟨lO,g⟩ _;refine WP .r (PV.Lv fK (p:=out[p]) (q:=l[i]) rfl rfl)<|?_;exact(cz) (by first | (rw [S];rfl) | (rw [H];simp)) (g)
  intro w6 g;refine(aT) (fun O=>?_) fun O=>?_
  ·
   have O:¬out[p]?=some l[i]:=by simpa using O
   obtain⟨N,W⟩:∃N,N=w6.heap.size:=⟨_,rfl⟩;have T:=g.jK;have h0N:=g.size;have hlN:=g.bO;have aog:=((As.gs g.g2)).len;rw [← W] at T h0N hlN;have hN9:=g.bO;refine WC.Jg (m:=10) (fun j w w'=>match j with | 6=>D4 N 40 (p*2) 2 w w' | _=>aS [] w w') (E:=cB [(3,fun v w'=>∃a c,v=.slice a p c∧(∀x∈aI a,N≤x)∧(p=0→a=none)∧Ow RR.key 40 2 Z w' a p c (out.take p)),(5,fun v w'=>∃b,v=.slice (some ⟨b,0,none⟩) 1 1∧N≤b∧bT w' b 40 l[i].cells),(6,fun v w'=>∃a c,v=.slice a (p+1) c∧(∀x∈aI a,N≤x)∧Ow RR.key 40 2 Z w' a (p+1) c (out.take p++[l[i]]))]) g (lC (⟨⟨trivial,⟨fun _ _ _ _ _ s ⟨a,c,h1,f,o,J⟩=>⟨a,c,h1,f,o,J.ext s⟩,⟨fun _ _ _ _ _ s ⟨a,c,h1,f,o,J⟩=>⟨a,c,h1,f,o,D4.ow s T J⟩,trivial⟩⟩⟩,⟨⟨fun _ _ _ _ _ s ⟨b,h1,f,o⟩=>⟨b,h1,f,o.ext s⟩,⟨trivial,⟨fun _ _ _ _ _ s ⟨b,h1,f,o⟩=>⟨b,h1,f,D4.blk (l:=l[i].cells) s o⟩,trivial⟩⟩⟩,⟨⟨trivial,⟨trivial,⟨trivial,trivial⟩⟩⟩,trivial⟩⟩⟩)) mixed (by kernel_rfl)<|bN ?_;refine DP .r (fun _ d=>PV.na et (Ow.rd (As.gs d.2.g2) (by omega)) rfl rfl (by omega))<|?_;refine DW.e rfl rfl rfl rfl rfl (fun wx d hF=>OX.VI (N:=N) (Z:=Z) kX rfl rfl rfl (OR.nil 0 wx 40 2 _) (by simp [aI]) (SR.take (i:=p) (Ow.rd (As.gs d.2.g2) (by omega)) (by omega)) (by omega) (by omega) (by rw [W];exact d.1) T 0 (fun c h=>absurd rfl h) fun K L wy h1 f o J X=>⟨⟨Nat.le_trans d.1 X.size,d.2.step X⟩,X,_,rfl,K,L,by rw [Nat.zero_add],o,J,by simpa using h1⟩)<|?_;rintro _ wz _ ⟨a3,c3,rfl,_,_,_⟩;refine(gM) ao St.g0<|?_;refine DW.e rfl rfl rfl rfl rfl (fun wx d hF=>OX.aO (us:=l[i].cells) dx rfl rfl rfl rfl fun b wy Y hb=>⟨⟨Nat.le_trans d.1 Y.ext.size,d.2.step Y.ext⟩,Y.ext,_,rfl,b,rfl,by rw [W];exact Nat.le_trans d.1 Y.ge,hb⟩)<|?_;rintro _ wz _ ⟨b5x,rfl,_,_⟩
   refine DW.e rfl rfl rfl rfl rfl (fun wx d hF=>by
    obtain⟨⟨b',Fh,wo,wK⟩,⟨K,L,h1,f,o,J⟩,_⟩:=hF;simp only [Value.slice.injEq,Option.some.injEq,Addr.mk.injEq,and_true,true_and] at Fh h1;subst Fh;obtain⟨rfl,rfl⟩:=h1;exact OX.VI (N:=N) (Z:=Z) kX rfl rfl rfl J f (SR.dd (A:=fun _=>True) (x:=l[i]) wK trivial rfl (by simp [Key.cells,Value.oneCell']) rfl) (by omega) (by omega) (by rw [W];exact d.1) T 2 (fun c h hc=>by have:p≠0:=fun e=>h (o e);omega) fun K L wy h1 f o J X=>⟨⟨Nat.le_trans d.1 f.size,f.st d.2 hlN T h0N⟩,f,_,rfl,K,L,rfl,o,h1⟩) ?_
   rintro _ wz _ ⟨a6,c6,rfl,_,_⟩;refine bN ?_;refine DP .r (fun _ d=>PV.yA et (Ow.rd (As.gs d.2.g2) (by omega)) rfl rfl (by omega))<|(cQ)<|?_;rintro w7 ⟨FE,eD⟩ ⟨Tj,⟨_,⟨_,_⟩⟩⟩;obtain⟨_,_,he6,aff,ho6⟩:=Tj;simp only [Value.slice.injEq,true_and] at he6;obtain⟨rfl,rfl⟩:=he6;have di:=eD.add (B:=As.os RR.key 40 2 a6 (p+1) c6 (out.take p++[l[i]])) ho6 aff hlN T h0N;refine WL.ap rfl rfl di (SR.drop (i:=p) (Ow.rd (As.gs di.g3) (by omega)) (by omega)) fun a50 afg w8 aoj aok cY=>?_;refine bN ?_;have dm:=cY.p3.drop;refine fO ?_;refine eC (i+1,_,a50,((p+1)+(y - p)),afg) ⟨dm.p1.drop.p1.drop,⟨by omega,by rw [List.take_succ_eq_append_getElem wN,uv,← V,YA,if_neg O],trivial⟩⟩
  have O:out[p]?=some l[i]:=by simpa using O
  refine ez ?_;refine eC (i+1,_,C,y,G) ⟨g.drop.drop,⟨by omega,by rw [List.take_succ_eq_append_getElem wN,uv,← V,YA,if_pos O],trivial⟩⟩
 simp at g10
 have hK:out=jP l:=by rw [V,List.take_of_length_le (by omega)]
 subst hK;refine(bw) ?_;exact⟨_,_,_,rfl,U.p1.drop⟩
theorem ta(gE:St w M Z w []) (hl:Rd RR.ei 8 Z w a n c l) (h6:l.length≤1000000):Calls prog 217 #[.slice a n c,.int .i64 rev,k.val] w fun e w'=>∃b m Z',e=.returned (.map (some b))∧bH w.heap.size Z Z'∧ik m (bM l rev k)∧St w M Z' w' [As.map Key.val b m]:=by
 have hlen:=hl.len;have hle:=hl.le;refine enter func217 rfl ntmps217 rfl<|?_;have aP:=gE;have st1:=aP.fr hl;refine(dy) st1 fun b5 w1 H3 H4 st2=>?_;refine de ?_;refine WL.mm Key.val st2 fun U w2 YB aol iV=>?_;refine(aZ) ao iV.b1<|?_;refine WL.go rfl (OX.aO (us:=k.cells) dx rfl rfl rfl rfl fun b16 w3 NZ Tk=>?_);have iq:=St.pf (R:=RR.key) (E:=40) (k:=2) (a:=some ⟨b16,0,none⟩) (n:=1) (c:=1) (xs:=[k]) iV NZ.ext (OR.dd Tk (Nat.zero_le _) rfl (by simp [Key.cells,Value.oneCell']) rfl) (fun x s=>by simp [aI] at s;subst s;exact NZ.ge);refine jL ?_;refine WC.ia (σ:=Nat × (List Key) × (List (Key × Value)) × (Nat→Prop) × (Option Addr) × Nat × Nat) (dn:=fun(i,f,mm,G,o,g,p)=>[(0,.slice a n c),(1,.int .i64 rev),(7,.map (some U)),(8,.slice o g p),(9,.int .i64 (i:Int))]) (F:=fun(i,f,mm,G,o,g,p)=>[As.os RR.key 40 2 o g p (k::f),As.map Key.val U mm]) (I:=fun(i,f,mm,G,o,g,p)=>(i≤f.length+1)∧(bH w.heap.size Z G)∧(f.Nodup)∧(∀x∈f,bM l rev k x)∧(ik mm (·∈f))∧(∀(q:Nat) (y:Key),q<i→(k::f)[q]?=some y→∀x,Ld l rev y x→x∈f)∧True) (μ:=fun(i,f,mm,G,o,g,p)=>l.length+1 - i) (Zf:=fun(i,f,mm,G,o,g,p)=>G) (0,[],[],Z,(some ⟨b16,0,none⟩),1,1) (iq.p1.p1) Sub.t (⟨by simp,bH.refl _ _,by simp,by simp,ik.nil,fun q y h=>by omega,trivial⟩)<|?_;rintro⟨i,f,mm,G,o,g,p⟩ w4 J ⟨hi,hZ,yG,L,LK,G8,_⟩;simp only [CA,NA] at J hi hZ yG L LK G8 ⊢;have qZ:=((As.gs J.g0)).len;rw [List.length_cons] at qZ
 have hyl:=eK yG fun x s=>nt (L x s).gC
 rw [List.length_map] at hyl;refine(aT) (fun g20=>?_) fun g20=>?_
 ·
  simp at g20
  have wN:i<(k::f).length:=by simp;omega
  obtain⟨y,hy0⟩:∃y,(k::f)[i]=y:=⟨_,rfl⟩
  have hy:(k::f)[i]?=some y:=by rw [ak wN,hy0]
  have afi:y=k∨bM l rev k y:=by
   have:=List.getElem_mem wN
   rw [hy0] at this
   rcases List.mem_cons.1 this with h | h
   ·
    exact .inl h
   exact .inr (L y h)
  refine de ?_;obtain⟨gV,cW⟩:=Ow.addr (As.gs J.g0) hy;refine cj ?_;refine WP .r (PV.dQ et cW rfl rfl (by omega))<|(aZ) ao (Ow.jI (As.gs J.g0) (by simp;omega) cW hy)<|?_;have V:=J;refine(bX) kM (jD (k:=y) V.e0 (As.gr V.g3)) ?_;rintro _ w5 ⟨f1,f2,f3,rfl,DH,qG⟩;have hJ:=St.lr V qG;have IA:=St.bP qG;have hsz:=V.size;have iK:=hJ.aY (by omega);have mG:=hZ.trans (bH.dA (F:=fun x=>x∈aI f1) IA) hsz;have Yp:=((As.gr iK.g0)).len;refine(eW) iK fun PG w6 FH FJ iH=>?_;refine(cI) fY iH fun w7 jS jZ eD=>?_;refine(a8) dE eD.b0<|de ?_;refine WC.bq (σ:=Nat × (List Key) × (List (Key × Value)) × (Option Addr) × Nat × Nat) (dn:=fun(j,d,C,o,g,p)=>[(0,.slice a n c),(1,.int .i64 rev),(7,.map (some U)),(8,.slice o g p),(9,.int .i64 (i:Int)),(33,.slice f1 f2 f3),(34,.int .i64 (f2:Int)),(35,.int .i64 (j:Int))]) (F:=fun(j,d,C,o,g,p)=>[As.os RR.key 40 2 o g p (k::d),As.map Key.val U C]) (I:=fun(j,d,C,o,g,p)=>(j≤f2)∧(f <+: d)∧(d.Nodup)∧(∀x∈d,bM l rev k x)∧(ik C (·∈d))∧(∀q x,q<j→(aD l y).reads[q]?=some x→bU l rev x=true→x∈d)∧True) (μ:=fun(j,d,C,o,g,p)=>f2 - j) (0,f,mm,o,g,p) (eD.p3.p3) Sub.t (⟨by omega,List.prefix_refl _,yG,L,LK,fun q x h=>by omega,trivial⟩)<|?_;rintro⟨j,d,C,o,g,p⟩ w8 N ⟨hj,H,K,O,Q,W,_⟩;simp only [CA,NA] at N hj H K O Q W ⊢;have Fu:=((As.gs N.g0)).len;rw [List.length_cons] at Fu
  have afj:=eK K fun x s=>nt (O x s).gC
  rw [List.length_map] at afj;refine(aT) (fun g36=>?_) fun g36=>?_
  ·
   simp at g36
   have X:j<(aD l y).reads.length:=by omega
   obtain⟨x,Y⟩:∃x,(aD l y).reads[j]=x:=⟨_,rfl⟩;have hmx:=Q.get x (b:=decide (x∈d)) (by simp);refine de ?_;obtain⟨tA,H6,Fq,kO,vt,mI,mH,nO⟩:=Rd.at (As.gr N.g3) X;have mI:=RR.ba mI;subst mI;have cY:=N.fg nO mH;rw [Y] at mH cY;refine nx ?_;refine WP .r (PV.dQ et kO rfl rfl (by omega))<|(aZ) ao (As.lG cY.g0)<|(eW) cY fun U7 w9 N0 afm dm=>?_;refine(cI) hP dm fun iS re mz db=>?_;refine cq ?_;refine WC.dW (t:=48) (v:=.bool (bU l rev x && !decide (x∈d))) db ?_<|?_
   ·
    refine(aZ) ao db.b0<|(eN) (vo (k:=x) (As.gr db.g7)) db fun iX s11 B=>?_;refine(dc) (fun YC=>?_) (fun YC=>?_)
    ·
     refine(aZ) ao B.b0<|?_;refine WP .r (PV.jO da gK Ch (As.gm B.g3) (hmx) rfl rfl)<|?_;exact(cz) (by simp only [YC];first | rfl | simp) (B)
    exact(cz) (by simp only [YC];first | rfl | simp) (B)
   intro iX B;refine(aT) (fun S=>?_) fun S=>?_
   ·
    simp at S
    obtain⟨U8,G0⟩:=S;have hld:Ld l rev y x:=⟨Y ▸ List.getElem_mem X,U8⟩
    have hxl:bM l rev k x:=by
     rcases afi with rfl | h
     ·
      exact .one hld
     exact .step h hld
    have N1:(d++[x]).Nodup:=by rw [List.nodup_append];exact⟨K,by simp,fun a ha b hb=>by simp at hb;subst hb;rintro rfl;exact G0 ha⟩
    refine(aZ) ao B.b0<|?_;refine WL.go rfl (OX.put da gK (As.gm B.g3) rfl rfl rfl fun ly zJ zK=>?_);have gx:=B.p3.jU zJ zK;refine(aZ) ao gx.b1<|?_;refine WL.go rfl (OX.aO (us:=x.cells) dx rfl rfl rfl rfl fun b53 oo afo afp=>?_);have ew:=gx.cX afo afp;refine WL.ap rfl rfl ew.p4 (SR.dd (A:=fun _=>True) (x:=x) (As.gb ew.g0) trivial rfl (by simp [Key.cells,Value.oneCell']) rfl) fun a54 afq r7 aom aon eb=>?_;refine gX ?_
    refine eC (j+1,d++[x],_,a54,(g+1),afq) ⟨eb.p1.drop.p2.drop.p2.drop,⟨by omega,H.trans (List.prefix_append _ _),by rw [List.nodup_append];exact⟨K,by simp,fun a ha b hb=>by simp at hb;subst hb;rintro rfl;exact G0 ha⟩,fun z u=>by
       rcases List.mem_append.1 u with u | u
       ·
        exact O z u
       simp at u;subst u;exact hxl,Q.put x,cF (P:=fun _ z=>bU l rev z=true→z∈d++[x]) X (fun q z T u ho=>by simp [W q z T u ho]) (fun _=>by simp [← Y]),trivial⟩⟩
   skip
   refine ez ?_;refine eC (j+1,d,C,o,g,p) ⟨B.drop.drop,⟨by omega,H,K,O,Q,cF (P:=fun _ z=>bU l rev z=true→z∈d) X W (fun ho=>by rw [Y] at ho ⊢;simp [ho] at S;exact S),trivial⟩⟩
  simp at g36
  refine kE ?_
  refine eC (i+1,d,C,_,o,g,p) ⟨N.p2.drop.p2.drop,⟨by have:=H.length_le;show i+1≤d.length+1;omega,mG,K,O,Q,fun q z T u x s=>by
     rcases Nat.lt_or_ge q i with h | h
     ·
      have hz2:(k::f)[q]?=some z:=by
       obtain⟨t,rfl⟩:=H;rw [← List.cons_append,List.getElem?_append_left (by simp;omega)] at u;exact u
      exact H.subset (G8 q z h hz2 x s)
     have e:q=i:=by omega
     subst e
     have hz2:some y=some z:=by rw [← hy,← u];obtain⟨t,rfl⟩:=H;rw [← List.cons_append,List.getElem?_append_left (by simp;omega)]
     simp at hz2;subst hz2
     obtain⟨j,hj,rfl⟩:=List.mem_iff_getElem.1 s.1;exact W j _ (by omega) (ak hj) s.2,trivial⟩⟩
 simp at g20
 have Ii:=yP L fun y hy x s=>by
  obtain⟨q,T,rfl⟩:=List.mem_iff_getElem.1 hy;exact G8 q _ (by simp at T;omega) (ak T) x s
 refine(bw) ?_;exact⟨_,_,_,rfl,hZ,LK.congr Ii,J.p1.k1⟩
theorem vC(gE:St w M Z w []) (hl:Rd RR.ei 8 Z w a n c l) (h6:l.length≤100000):Calls prog 179 #[.slice a n c,.int .i64 rev,k.val] w fun e w'=>∃X Y c' Z',e=.returned (.slice X Y c')∧bH w.heap.size Z Z'∧St w M Z' w' [As.os RR.key 40 2 X Y c' (aB l rev k)]:=by
 have hlen:=hl.len;have hle:=hl.le;refine enter func179 rfl ntmps179 rfl<|?_;have aP:=St.rb gE;have st1:=aP.fr hl;refine(dy) st1 fun b5 w1 H3 H4 st2=>?_;refine(aZ) ao st2.b0<|(eN) (vo (k:=k) (As.gr st2.g1)) st2 fun w2 s2 H=>?_;refine(aT) (fun g15=>?_) fun g15=>?_
 ·
  simp at g15
  have N:aB l rev k=[k]:=by unfold aB;rw [if_neg (by simp [g15])]
  refine(aZ) ao H.b0<|?_;refine WL.go rfl (OX.aO (us:=k.cells) dx rfl rfl rfl rfl fun U9 w3 Tl N2=>?_);have J:=St.pf (R:=RR.key) (E:=40) (k:=2) (a:=some ⟨U9,0,none⟩) (n:=1) (c:=1) (xs:=[k]) H Tl.ext (OR.dd N2 (Nat.zero_le _) rfl (by simp [Key.cells,Value.oneCell']) rfl) (fun x o=>by simp [aI] at o;subst o;exact Tl.ge);refine(bw) ?_;exact⟨_,_,_,_,rfl,bH.refl _ _,by rw [N];exact(St.wk J.p1.drop.p1.drop)⟩
 simp at g15
 have N:aB l rev k=jP (k::jf l rev k l):=by unfold aB;rw [if_pos g15]
 refine(aZ) ao H.b0<|?_;refine WL.go rfl (OX.aO (us:=k.cells) dx rfl rfl rfl rfl fun YD w3 KP Tm=>?_);have J:=St.pf (R:=RR.key) (E:=40) (k:=2) (a:=some ⟨YD,0,none⟩) (n:=1) (c:=1) (xs:=[k]) H KP.ext (OR.dd Tm (Nat.zero_le _) rfl (by simp [Key.cells,Value.oneCell']) rfl) (fun x o=>by simp [aI] at o;subst o;exact KP.ge);refine(aZ) ao J.b1<|?_;have K:=J;refine(bX) Pq (ta (k:=k) K.e0 (As.gr K.g2) (by omega)) ?_;rintro _ w4 ⟨bt,mt,Z1,rfl,wt,hmt,oz⟩;have iE:=St.lv K oz wt;have mG:=wt.le K.size;refine aX ?_;refine WC.bq (σ:=Nat × (List Key) × (Option Addr) × Nat × Nat) (dn:=fun(i,acc,f,g,s)=>[(0,.slice a n c),(1,.int .i64 rev),(5,.pointer (some ⟨b5,0,none⟩)),(7,.slice f g s),(8,.map (some bt)),(24,.slice a n c),(25,.int .i64 (n:Int)),(26,.int .i64 (i:Int))]) (F:=fun(i,acc,f,g,s)=>[As.os RR.key 40 2 f g s (acc)]) (I:=fun(i,acc,f,g,s)=>(i≤n)∧(acc=k::jf l rev k (l.take i))∧True) (μ:=fun(i,acc,f,g,s)=>n - i) (0,[k],(some ⟨YD,0,none⟩),1,1) (iE.p1) Sub.t (⟨by omega,by simp [jf],trivial⟩)<|?_;rintro⟨i,acc,f,g,s⟩ w5 u ⟨hi,z,_⟩;simp only [CA,NA] at u hi z ⊢;have qZ:=((As.gs u.g0)).len;have LA:=po l rev k (l.take i)
 have yk:acc.length≤100001:=by rw [z,List.length_cons];rw [List.length_take] at LA;omega
 refine(aT) (fun O=>?_) fun O=>?_
 ·
  simp at O
  have P:i<l.length:=by omega
  have hto:=hmt.get l[i].key kj;refine de ?_;obtain⟨gV,k8,ky,cW,gW,gg,eG,eV⟩:=Rd.at (As.gr u.g3) P;obtain⟨q1,q2,q3,rfl,IE,DF⟩:=gg;have Q:=u.fg eV eG;have y:=Q.fr IE;refine nx ?_;refine WP .r (PV.dQ iG cW rfl rfl (by omega))<|(aZ) cV (As.lG y.g1)<|(eW) y fun PG w6 FH FJ S=>?_;refine(cI) fY S fun w7 jS jZ C=>?_;refine cq ?_;refine WC.dW (t:=48) (v:=.bool (BJ l rev k l[i])) C ?_<|?_
  ·
   have Py:=C.bO;have afr:=C.jK;have afs:=C.size;refine WC.dB (m:=17) (E:=cB [(15,Jj w7.heap.size fun m=>ik m (bM l rev l[i].key))]) C (bm (⟨fun _ _ _ _ _ _ c h=>Jj.st Py c h,trivial⟩)) mixed (by kernel_rfl)<|(tr) ao St.g0<|(gM) ao St.g5<|?_;refine DP .r (fun _ j=>PV.Lv fK (p:=l[i].key) (q:=k) rfl rfl)<|(ot) (fun L=>?_) (fun L=>?_)
   ·
    refine(tr) ao St.g0<|?_;refine DP .r (fun _ j=>PV.jO da gK Ch (As.gm j.2.g4) (hto) rfl rfl)<|(ot) (fun T=>?_) (fun T=>?_)
    ·
     refine(tr) ao St.g0<|?_;refine DW.e rfl rfl rfl rfl rfl (fun wx j hF=>OX.call Pq rfl rfl ((ta (k:=l[i].key) (j.2.e0) (As.gr j.2.g6) (by omega)).mono ?_))<|?_
     ·
      rintro _ wy ⟨b,m,Z',rfl,hZ',hm,U⟩;have hy:=U.cg0;exact⟨_,rfl,⟨Nat.le_trans j.1 hy.size,j.2.step hy⟩,hy.p0,_,rfl,b,m,rfl,Nat.le_trans j.1 (St.bP U b rfl),As.gm U.g0,hm⟩
     rintro _ wz _ ⟨b45,_,rfl,_,_,_⟩;refine(gM) ao St.g5<|(cQ)<|?_;rintro V ⟨lO,d⟩ ⟨aft,_⟩;obtain⟨_,m45,h1,YE,YF,afu⟩:=aft
     simp at h1;subst h1
     have hld:=afu.get k kj;have G:=d.add (B:=As.map Key.val b45 m45) YF (fun x o=>by have h1:x=b45:=o;subst h1;exact YE) Py afr afs;refine WP .r (PV.jO da gK Ch (As.gm G.g0) (hld) rfl rfl)<|?_;exact(cz) (by unfold BJ;simp only [L,T];first | rfl | simp) (G.drop)
    refine(cQ) ?_;rintro V ⟨lO,d⟩ _;exact(cz) (by unfold BJ;simp only [L,T];first | rfl | simp) (d)
   refine(cQ) ?_;rintro V ⟨lO,d⟩ _;exact(cz) (by unfold BJ;simp only [L];first | rfl | simp) (d)
  intro V d;refine(aT) (fun W=>?_) fun W=>?_
  ·
   refine(hW) ao d.b0<|?_;refine WL.go rfl (OX.aO (us:=l[i].key.cells) dx rfl rfl rfl rfl fun b52 w9 afv afw=>?_);have G:=d.cX afv afw;refine WL.ap rfl rfl G.p4 (SR.dd (A:=fun _=>True) (x:=l[i].key) (As.gb G.g0) trivial rfl (by simp [Key.cells,Value.oneCell']) rfl) fun a53 afx iS aoq aor db=>?_;refine gX ?_;refine eC (i+1,_,a53,(g+1),afx) ⟨db.p7.p7.p7.p3.k4,⟨by omega,by rw [z,sF P,if_pos W];rfl,trivial⟩⟩
  refine ez ?_;refine eC (i+1,_,f,g,s) ⟨d.p6.p6.p6.p6.k4,⟨by omega,by rw [z,sF P,if_neg (by simp [W])],trivial⟩⟩
 simp at O
 have hK:acc=k::jf l rev k l:=by rw [z,List.take_of_length_le (by omega)]
 subst hK;refine fO ?_;have LA:=po l rev k l;refine bN ?_;have N3:=St.fresh u;have Q:=u.aY (by simp;omega);have y:=Q;refine(bX) Sh (mi y.e0 (As.gr y.g0) (fun _ h _=>h) (by simp;omega)) ?_;rintro _ w6 ⟨f1,f2,f3,rfl,zL⟩;have S:=St.lr y zL;refine(bw) ?_;exact⟨_,_,_,_,rfl,mG.trans (bH.dA (F:=fun x=>x∈aI f) N3) (Nat.le_refl _),by rw [N];exact(St.wk S.k1)⟩
set_option maxHeartbeats 400000
theorem tb(q:aq aa) (hk:dX aa k) (i:St w M Z w [As.jM prog 176 aa x D]):Calls prog 220 #[.pointer (some ⟨D.s,0,none⟩),k.val] w fun e w'=>e=.returned (.string (valOf aa x.ab k))∧St w M Z w' [As.jM prog 176 aa x D]:=by
 obtain⟨j,hb,⟨ml,hm,r⟩,o⟩:=i.g0;have d:St w M Z w (As.blk D.s 176 (D.cells x)::As.map Key.val D.m ml::[]):=St.split i hb r (fun y h=>.inl h) (fun y h=>.inr h) (fun y (h1:y=D.s) (d:y=D.m)=>j (h1.symm.trans d));refine(Ij q hk _ _ _ _ (St.enter (rest:=[]) d) o hm).mono<|?_;rintro e w' ⟨p,rfl,t,_,f⟩;have g:St w M Z w' (As.blk D.s 176 (D.cells x)::As.map Key.val D.m p::[]):=St.leave (rest:=[]) (l0:=[_,_]) d f (bH.refl _ _);refine⟨rfl,g.join ⟨j,g.g0,⟨p,t,g.g1⟩,(D.F prog aa x).st f.bV.size (fun y hy hl=>f.bV.block y hl fun⟨A,u,v⟩=>d.l4 A u y v hy) o⟩ fun y h=>h⟩
theorem oW(z:aq aa) (hk:dX aa k) (A:St w M Z w [As.jM prog 176 aa x D]) (hi:Rd RR.aC 4 Z w a1 n1 e1 b.ab) (hr:Rd RR.ei 8 Z w a2 n2 e2 b.ah):Calls prog 189 #[.pointer (some ⟨D.s,0,none⟩),.agg (b.row a1 n1 e1 a2 n2 e2).toArray,k.val] w fun e w'=>e=.returned (.int .i64 (aV (valOf aa x.ab) b k))∧St w M Z w' [As.jM prog 176 aa x D]:=by
 refine enter func189 rfl ntmps189 rfl<|?_;have aP:=A;have st1:=aP.fr hi;have st2:=st1.fr hr;refine(dy) st2 fun b4 w1 G H B=>?_;refine(dy) B fun b5 w2 I J r=>?_;refine(aZ) ao r.b0<|(eN) (eu (k:=k)) r fun w3 K f=>?_;refine(aT) (fun g10=>?_) fun g10=>?_
 ·
  skip
  refine(aZ) aM f.b1<|(aZ) ao f.b0<|(eN) (Ct (k:=k) (As.gr f.g3) (As.gr f.g2)) f fun w4 u g=>?_;refine(bw) ?_;exact⟨by unfold aV;rw [if_pos g10],g.p4.k1⟩
 refine(a8) dD f.b1<|(aZ) ao f.b0<|(bX) kM (dZ (k:=k) (As.gr f.g2)) ?_;rintro _ w4 ⟨f1,f2,f3,rfl,u⟩;have g:=f.step u;refine(eW) g fun L w5 N O C=>?_;refine(cI) fY C fun w6 P Q i=>?_;refine de ?_;refine WC.dW (t:=36) (v:=.bool ((aA b.ah k).isSome && (decide ((aD b.ah k).av=b.ad) || decide (valOf aa x.ab k=(aD b.ah k).value)))) i ?_<|?_
 ·
  have R:=i.bO;refine WC.dB (m:=13) (E:=cB [(10,fun v _=>v=.string (valOf aa x.ab k))]) i (bm (⟨fun _ _ _ _ _ _ _ h=>h,trivial⟩)) mixed (by kernel_rfl)<|(ot) (fun g22=>?_) (fun g22=>?_)
  ·
   refine(iu) aN St.g0<|(iu) aN St.g2<|(ot) (fun j=>?_) (fun j=>?_)
   ·
    refine(cQ) ?_;rintro w7 ⟨y,d⟩ _;exact(cz) (by simp only [g22,j];first | rfl | simp) (d)
   refine(gM) ao St.g1<|?_;refine DW.e rfl rfl rfl rfl rfl (fun S o T=>OX.call GX rfl rfl ((tb (k:=k) z hk (o.2.one (.tail _ (.tail _ (.tail _ (.tail _ (.tail _ (.head _)))))))).mono ?_))<|?_
   ·
    rintro _ wy ⟨rfl,hy⟩;exact⟨_,rfl,⟨Nat.le_trans o.1 hy.bV.size,o.2.xI M5 hy⟩,hy.bV.mono (fun _ _ F=>Gp M5 F),_,rfl,rfl⟩
   rintro _ U _ rfl;refine(iu) fw St.g0<|(cQ)<|?_;rintro w7 ⟨y,d⟩ ⟨_,_⟩;exact(cz) (by simp only [g22,j];first | rfl | simp) (d)
  refine(cQ) ?_;rintro w7 ⟨y,d⟩ _;exact(cz) (by simp only [g22];first | rfl | simp) (d)
 intro w7 d;refine(aT) (fun p=>?_) fun p=>?_
 ·
  have q:aV (valOf aa x.ab) b k=(aD b.ah k).changed:=by unfold aV;rw [if_neg (by simp [g10]),if_pos p]
  refine(a8) aN d.b0<|(bw) ?_;exact⟨by rw [q],d.p5.k1⟩
 have q:aV (valOf aa x.ab) b k=b.ad:=by unfold aV;rw [if_neg (by simp [g10]),if_neg (by simp [p])]
 refine(a8) aN d.b2<|(bw) ?_;exact⟨by rw [q],d.p5.k1⟩
theorem FK(f:aq aa) (hk:dX aa k) (g:St w M Z w [As.jM prog 176 aa x D]) (hi:Rd RR.aC 4 Z w a1 n1 e1 b.ab) (hr:Rd RR.ei 8 Z w a2 n2 e2 b.ah):Calls prog 187 #[.pointer (some ⟨D.s,0,none⟩),.agg (b.row a1 n1 e1 a2 n2 e2).toArray,k.val] w fun e w'=>e=.returned (.int .i64 (aV (valOf aa x.ab) b k))∧St w M Z w' [As.jM prog 176 aa x D]:=by
 refine enter func187 rfl ntmps187 rfl<|?_;have aP:=g;have st1:=aP.fr hi;have st2:=st1.fr hr;refine(dy) st2 fun b4 w1 m o h=>?_;refine(dy) h fun b5 w2 p q d=>?_;refine(aZ) aM d.b1<|(aZ) ao d.b0<|(bX) Pp (oW (k:=k) f hk (d.one (.tail _ (.tail _ (.tail _ (.tail _ (.head _)))))) (As.gr d.g3) (As.gr d.g2)) ?_;rintro _ w3 ⟨rfl,i⟩;have j:=d.xI M4 i;refine(bw) ?_;exact⟨rfl,j.p4.k1⟩
theorem qI(i:aq aa) (hk:dX aa k) (j:St w M Z w [As.jM prog 176 aa x D]) (hi:Rd RR.aC 4 Z w a1 n1 e1 b.ab) (hr:Rd RR.ei 8 Z w a2 n2 e2 b.ah):Calls prog 185 #[.pointer (some ⟨D.s,0,none⟩),.agg (b.row a1 n1 e1 a2 n2 e2).toArray,k.val] w fun e w'=>e=.returned (.string (bS (valOf aa x.ab) b k))∧St w M Z w' [As.jM prog 176 aa x D]:=by
 refine enter func185 rfl ntmps185 rfl<|?_;have aP:=j;have st1:=aP.fr hi;have st2:=st1.fr hr;refine(dy) st2 fun b4 w1 p q m=>?_;refine(dy) m fun b5 w2 r t h=>?_;refine(aZ) ao h.b0<|(eN) (df (k:=k)) h fun w3 u d=>?_;refine(aT) (fun g10=>?_) fun g10=>?_
 ·
  have f:bS (valOf aa x.ab) b k=valOf aa x.ab k:=by unfold bS;rw [if_pos g10]
  refine(aZ) ao d.b0<|(bX) GX (tb (k:=k) i hk (d.one (.tail _ (.tail _ (.tail _ (.tail _ (.head _))))))) ?_;rintro _ w4 ⟨rfl,o⟩;have g:=d.xI M4 o;refine(bw) ?_;exact⟨by rw [f],g.p4.k1⟩
 have f:bS (valOf aa x.ab) b k=i1 b k:=by unfold bS;rw [if_neg (by simp [g10])]
 refine(aZ) aM d.b1<|(aZ) ao d.b0<|(eN) (Fo (k:=k) (As.gr d.g3) (As.gr d.g2)) d fun w4 v g=>?_;refine aX ?_;refine(bw) ?_;exact⟨by rw [f];rfl,g.p4.k1⟩
theorem mj{group:List Key}{bA:Bool}{u:Option Addr}{g eg:Nat}(U:St w M Z w []) (hi:Rd RR.aC 4 Z w a1 n1 e1 x.ab) (hr:Rd RR.ei 8 Z w a2 n2 e2 x.ah) (V:Rd RR.key 2 Z w u g eg group) (W:x.ah.length≤1000000) (X:x.ab.length≤1000000):Calls prog 186 #[.agg (x.row a1 n1 e1 a2 n2 e2).toArray,.slice u g eg,.bool bA] w fun e w'=>∃E G H J K L Z',e=.returned (.agg ((cH x group bA).row E G H J K L).toArray)∧bH w.heap.size Z Z'∧St w M Z' w' [As.os RR.aC 78 4 E G H (cH x group bA).ab,As.os RR.ei 88 8 J K L (cH x group bA).ah]:=by
 have LL:=hi.len;have OS:=hr.len;refine enter func186 rfl ntmps186 rfl<|?_;have aP:=St.rb U;have st1:=aP.fr hi;have st2:=st1.fr hr;have Y:=st2.fr V;refine(dy) Y fun b3 w1 H5 wK iq=>?_;refine(eW) iq fun b6 w2 DD IF N=>?_;refine(aZ) aM N.b1<|?_;have q:=N;refine(bX) zy (fx q.e0 (As.gr q.g4) (As.gr q.g3) W X) ?_;rintro _ w3 ⟨f1,f2,f3,f4,f5,f6,Z1,rfl,O,kz⟩;have P:=St.lv q kz O;have mG:=O.le q.size;have Ey:=((As.gs P.g1)).len;refine(cI) dL P.p3 fun w4 jS jZ Q=>?_;refine(a8) dD Q.b0<|de ?_;refine WC.bq (σ:=Nat × (List Rec)) (dn:=fun(i,acc)=>[(1,.slice u g eg),(2,.bool bA),(3,.pointer (some ⟨b3,0,none⟩)),(6,.pointer (some ⟨b6,0,none⟩)),(12,.int .i64 (f5:Int)),(13,.int .i64 (i:Int))]) (F:=fun(i,acc)=>[As.os RR.ei 88 8 f4 f5 f6 acc]) (I:=fun(i,acc)=>(i≤f5)∧(acc=(x.ah.take i).map (a7 x.ad group bA)++x.ah.drop i)∧True) (μ:=fun(i,acc)=>f5 - i) (0,x.ah) (Q.p2) Sub.t (⟨by omega,by simp,trivial⟩)<|?_;rintro⟨i,acc⟩ w5 m ⟨eQ,s,_⟩;simp only [CA,NA] at m eQ s ⊢
 have yk:acc.length=x.ah.length:=by rw [s];simp;omega
 refine(aT) (fun g14=>?_) fun g14=>?_
 ·
  simp at g14
  have wN:i<x.ah.length:=by omega
  have v:=Ed (x:=x) (group:=group) (bA:=bA) wN (by omega);rw [← s] at v
  have p:acc[i]?=some x.ah[i]:=by rw [s,List.getElem?_append_right (by simp;omega)];simp [Nat.min_eq_left (by omega:i≤x.ah.length)]
  refine aX ?_;obtain⟨gV,ky,cW,gW,gg,eG⟩:=Ow.at (As.gs m.g0) (by omega) p;obtain⟨q1,q2,q3,rfl,aos,aot⟩:=gg
  have R:∀y,y=a7 x.ad group bA x.ah[i]→acc.set i y=(x.ah.take (i+1)).map (a7 x.ad group bA)++x.ah.drop (i+1):=fun y hy=>by rw [hy];exact v
  refine(a8) dD m.b1<|nx ?_;refine WP .r (PV.dQ iG cW rfl rfl (by omega))<|(hW) ao eG<|(eN) (rY (k:=x.ah[i].key) (As.gr m.g4)) m fun w6 s6 d=>?_;refine(aT) (fun g24=>?_) fun g24=>?_
  ·
   simp at g24
   have uL:acc=(x.ah.take (i+1)).map (a7 x.ad group bA)++x.ah.drop (i+1):=by
    rw [← v]
    have:a7 x.ad group bA x.ah[i]=x.ah[i]:=by unfold a7;rw [if_neg g24]
    rw [this]
    apply List.ext_getElem?
    intro j;rw [List.getElem?_set]
    split
    ·
     rename_i e;subst e;rw [p];simp;omega
    rfl
   refine gX ?_;refine eC (i+1,acc) ⟨d,⟨by omega,uL,trivial⟩⟩
  simp at g24
  refine(aT) (fun o=>?_) fun o=>?_
  ·
   have o:bA=true:=o;subst o;have z:=R {x.ah[i] with bA:=true} (by unfold a7;rw [if_pos g24];rfl);obtain⟨tA,Fq,S,vt,mI,mH⟩:=Ow.at (As.gs d.g0) (by omega) p;refine(a8) dD d.b1<|nx ?_;refine WP .r (PV.dQ iG S rfl rfl (by omega))<|nx ?_;refine WL.go rfl (OX.Qx (i:=i) (f:=7) O3 (As.gs d.g0) S p (by omega) rfl rfl rfl {x.ah[i] with bA:=true} (fun r _ ⟨a,n,c,h1,A,B⟩=>⟨a,n,c,by rw [h1];rfl,A,B⟩) fun w7 s7 h7x=>?_);have C:=d.eS s7 h7x (fun x h=>.inl h);refine ez ?_;refine eC (i+1,_) ⟨C,⟨by omega,z,trivial⟩⟩
  have o:bA=false:=o;subst o;have z:=R {x.ah[i] with av:=x.ad} (by unfold a7;rw [if_pos g24];rfl);obtain⟨KJ,afy,T,YG,G1,PH⟩:=Ow.at (As.gs d.g0) (by omega) p;refine(a8) dD d.b1<|(a8) aN d.b1<|?_;refine WP .r (PV.dQ iG T rfl rfl (by omega))<|nx ?_;refine WL.go rfl (OX.Qx (i:=i) (f:=5) GQ (As.gs d.g0) T p (by omega) rfl rfl rfl {x.ah[i] with av:=x.ad} (fun r _ ⟨a,n,c,h1,A,B⟩=>⟨a,n,c,by rw [h1];rfl,A,B⟩) fun w7 s8 h8x=>?_);have C:=d.eS s8 h8x (fun x h=>.inl h);refine ez ?_;refine eC (i+1,_) ⟨C,⟨by omega,z,trivial⟩⟩
 simp at g14
 have hK:acc=(cH x group bA).ah:=by rw [s,List.take_of_length_le (by omega),List.drop_eq_nil_of_le (by omega)];simp [cH]
 subst hK;refine(aZ) aM m.b1<|(cI) dL m.p3 fun w6 re mz d=>?_;refine(kS) aM d.b0<|?_;exact⟨_,_,_,_,_,_,_,rfl,mG,(St.wk d.p1.p3.k2)⟩
theorem CC{s:ES}{E:EA}{sb y z:Nat}(i:bT w z 140 (E.cells sb y s)) (hb:KM Key.val w y s.busy) (F:∀k,bD s.busy k=none∨bD s.busy k=some (.bool true)) (hr:Rd RR.ei 8 Z w E.a2 E.n2 E.c2 s.b.ah):CR prog 188 #[.pointer (some ⟨z,0,none⟩),k.val] w (.bool (ep s k)):=by
 have G:(bD s.busy k).getD (.bool false)=.bool (s.on k):=by unfold ES.on;rcases F k with h | h <;> rw [h] <;> rfl
 refine enter func188 rfl ntmps188 rfl<|?_;have aP:=St.s0 w;refine(dy) aP fun b3 w1 P Q st1=>?_;refine de ?_;refine WC.dW (t:=20) (v:=.bool (ay k || (s.on k && ax k))) st1 ?_<|?_
 ·
  have R:=st1.bO;refine WC.dB (m:=8) (E:=cB [(1,fun v _=>v=.bool (ay k))]) st1 (bm (⟨fun _ _ _ _ _ _ _ h=>h,trivial⟩)) mixed (by kernel_rfl)<|(gM) ao St.g0<|?_;refine DW.c0 (fun A d B=>eu (k:=k))<|(ot) (fun g9=>?_) (fun g9=>?_)
  ·
   refine(cQ) ?_;rintro w2 ⟨H,st2⟩ ⟨_,_⟩;exact(cz) (by simp only [g9];first | rfl | simp) (st2)
  refine cq ?_;refine DP .r (fun _ d=>V1 nL (bT.range (i.ext (St.cg d.2))) .r)<|(gM) ao St.g0<|(cQ)<|?_;rintro w2 ⟨H,st2⟩ ⟨_,_⟩;refine WP .r (PV.jO da gK Ch (hb.ext (St.cg st2)) (G) rfl rfl)<|(dc) (fun g16=>?_) (fun g16=>?_)
  ·
   refine(aZ) ao st2.b0<|(eN) (df (k:=k)) st2 fun w3 S o=>?_;exact(cz) (by simp only [g9,g16];first | rfl | simp) (o)
  exact(cz) (by simp only [g9,g16];first | rfl | simp) (st2)
 intro w2 st2;refine(aT) (fun g20=>?_) fun g20=>?_
 ·
  have p:ep s k=true:=by unfold ep;simp only [Bool.or_eq_true,Bool.and_eq_true] at g20 ⊢;rcases g20 with h | h <;> simp [h]
  refine(bw) ?_;exact⟨by rw [p],(St.cg st2)⟩
 have p:ep s k=az s.b k:=by unfold ep;simp only [Bool.or_eq_false_iff] at g20;rw [g20.1,g20.2];rfl
 refine cq ?_;have C:=st2.bO;have I:=st2.jK;have J:=st2.size;refine WC.pg (m:=11) [9] (E:=cB [(6,fun v _=>∃f1 f2 f3,v=.tuple #[.agg ((aD s.b.ah k).row f1 f2 f3).toArray,.bool (aA s.b.ah k).isSome]),(10,PB w2.heap.size 88 [.int .i64 0,.string ⟨#[]⟩,.string ⟨#[]⟩,.slice none 0 0,.int .i64 0,.int .i64 0,.int .i64 0,.bool false])]) st2 (bm (⟨fun _ _ _ _ _ _ _ h=>h,⟨fun _ _ _ _ _ _ c h=>PB.st C c h,trivial⟩⟩)) mixed (by kernel_rfl) rfl ?_;refine cj ?_;refine DP .r (fun _ d=>PV.ld1 (j:=3) dD (bT.range (i.ext (St.cg d.2))) rfl rfl)<|(gM) ao St.g0<|?_;refine DW.e rfl rfl rfl rfl rfl (fun A d B=>OX.call kM rfl rfl ((dZ (k:=k) (hr.ext (St.cg d.2))).mono ?_))<|?_
 ·
  rintro _ wy ⟨f1,f2,f3,rfl,hy⟩;exact⟨_,rfl,⟨Nat.le_trans d.1 hy.size,d.2.step hy⟩,hy.p0,_,rfl,⟨f1,f2,f3,rfl⟩⟩
 rintro _ K _ ⟨f1,f2,f3,rfl⟩;refine cq ?_;refine DW.e rfl rfl rfl rfl rfl (fun A d B=>OX.alloc nN rfl fun b wy g hb=>⟨⟨Nat.le_trans d.1 g.ext.size,d.2.step g.ext⟩,g.ext.p0,_,rfl,_,rfl,Nat.le_trans d.1 g.ge,hb⟩)<|?_;rintro _ K _ ⟨b5,rfl,_,_⟩;refine(cQ) ?_;rintro w3 ⟨T,o⟩ ⟨L,⟨_,_⟩⟩;have N:=o.tn L C I J;refine(cI) fY N fun w4 U V q=>?_;refine nx ?_;refine WL.nil (EX.np ?_);refine bN ?_;refine WC.kQ (t:=4) (v:=.bool (az s.b k)) q ?_<|?_
 ·
  have W:=q.bO;refine WC.dS (m:=9) q mixed<|(ot) (fun u=>?_) (fun u=>?_)
  ·
   refine(iu) aN St.g0<|cj ?_;refine DP .r (fun _ d=>PV.ld1 (j:=1) aN (bT.range (i.ext (St.cg d.2))) rfl rfl)<|(cQ)<|?_;rintro w5 ⟨O,f⟩ _;exact(gG) (by unfold az;simp only [u];first | rfl | simp) (f)
  refine(cQ) ?_;rintro w5 ⟨O,f⟩ _;exact(gG) (by unfold az;simp only [u];first | rfl | simp) (f)
 intro w5 f;refine(bw) ?_;exact⟨by rw [p],(St.cg f)⟩
end Go.Rc

