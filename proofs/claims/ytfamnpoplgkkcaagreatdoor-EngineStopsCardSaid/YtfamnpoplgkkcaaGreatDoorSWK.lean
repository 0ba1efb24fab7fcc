/- Walks over the program, part WK. Conditions: as each theorem says. -/
import Derived.Test.YtfamnpoplgkkcaaGreatDoorSFacts
import Derived.Test.YtfamnpoplgkkcaaGreatDoorSWH
import Derived.Test.YtfamnpoplgkkcaaGreatDoorSBe
import Derived.Test.YtfamnpoplgkkcaaGreatDoorSWI
import Derived.Test.YtfamnpoplgkkcaaGreatDoorSWF
set_option linter.all false
namespace Go.Rc
open Go Go.Proofs Go.Proofs.Tryz
variable {l:List Rec}{a a1 a2:Option Addr}{n c n1 e1 n2 e2:Nat}{w:World}{M Z:Nat→Prop}{rev:Int}{k:Key}{aa:List aG}{x b:cz}{D:SD}
set_option maxHeartbeats 400000
set_option maxHeartbeats 1600000 in
theorem qL{l:List Key}{A:Nat→Prop}(gp:St w M Z w []) (UN:Rd RR.key 2 A w a n c l) (hA:∀x,A x→x<w.heap.size→Z x) (h6:l.length≤1000000):Calls prog 103 #[.slice a n c] w fun e w'=>∃K n' L,e=.returned (.slice K n' L)∧St w M Z w' [As.os RR.key 41 2 K n' L (kl l)]:=by
 have hl:Rd RR.key 2 Z w a n c l:=SR.mono UN hA fun _ _ h=>h
 have hlen:=hl.len;have hle:=hl.le;refine enter func103 rfl ntmps103 rfl<|?_;have aQ:=gp;have st1:=aQ.fr hl;have st2:=st1.dp RR.key 41 2;refine aW ?_;refine eD ?_;refine WC.bm (σ:=Nat × (List Key) × (Option Addr) × Nat × Nat) (dn:=fun(i,out,C,y,G)=>[(3,.slice C y G),(7,.slice a n c),(8,.int .i64 (n:Int)),(9,.int .i64 (i:Int))]) (F:=fun(i,out,C,y,G)=>[As.os RR.key 41 2 C y G (out)]) (I:=fun(i,out,C,y,G)=>(i≤n)∧(out=kl (l.take i))∧True) (μ:=fun(i,out,C,y,G)=>n - i) (0,[],none,0,0) (st2) Sub.t (⟨by omega,rfl,trivial⟩)<|?_;rintro⟨i,out,C,y,G⟩ w1 U ⟨hi,V,_⟩;simp only [CA,NA] at U hi V ⊢;have ru:=((As.gs U.g0)).len
 have hol:out.length≤1000000:=by have:=xK (l.take i);rw [← V,List.length_take] at this;omega
 refine(aS) (fun g10=>?_) fun g10=>?_
 ·
  simp at g10
  have qM:i<l.length:=by omega
  refine dd ?_;obtain⟨gJ,kF,jV,cR,gI,fw,ek,eJ⟩:=Rd.at (As.gr U.g1) qM;have fw:=RR.ba fw;subst fw;have hJ:=U.fg eJ ek;refine nx ?_;refine WP .r (PV.dV ey cR rfl rfl (by omega))<|(aX) ao (As.kT hJ.g0)<|(eT) hJ fun b5 w2 H9 Ia iY=>?_;refine(cI) gR iY fun w3 jW ka hM=>?_;refine kU ?_;refine WC.bm (σ:=Nat) (dn:=fun p=>[(3,.slice C y G),(5,.pointer (some ⟨b5,0,none⟩)),(6,.int .i64 (p:Int)),(7,.slice a n c),(8,.int .i64 (n:Int)),(9,.int .i64 (i:Int))]) (F:=fun p=>[]) (I:=fun p=>(p≤out.length)∧(∀q x,q<p→out[q]?=some x→bD x l[i]<0)∧True) (μ:=fun p=>out.length - p) (0) (hM) Sub.t (⟨by omega,fun q x h=>by omega,trivial⟩)<|?_;rintro p w4 Q ⟨hp,AM,_⟩;simp only [CA,NA] at Q hp AM ⊢;have Fy:=((As.gs Q.g2)).len;refine bO ?_;refine WC.dJ (t:=25) (v:=.bool (BI out p l[i])) Q ?_<|?_
  ·
   have Tj:=Q.bQ;refine WC.dS (m:=10) Q mixed<|(om) (fun g17=>?_) (fun g17=>?_)
   ·
    simp at g17
    have R:p<out.length:=by omega
    have H:=ak R;obtain⟨tH,kQ⟩:=Ow.addr (As.gs Q.g2) H
    have S:BI out p l[i]=decide (bD out[p] l[i]<0):=by unfold BI;rw [H]
    refine bO ?_;refine DP .r (fun _ d=>PV.dV ey kQ rfl rfl (by omega))<|DP .r (fun _ d=>VA ao (Ow.jD (As.gs d.2.g2) (by omega) kQ H) .r)<|(gU) ao St.g0<|(cS)<|?_;rintro w5 ⟨tM,z⟩ _;refine(eV) (j9 (k:=out[p]) (q:=l[i])) z fun w6 s6 g=>?_;exact(bZ) (by rw [S]) (g)
   simp at g17
   have S:BI out p l[i]=false:=by unfold BI;rw [List.getElem?_eq_none (by omega)]
   refine(cS) ?_;rintro w5 ⟨tM,z⟩ _;exact(bZ) (by rw [S]) (z)
  intro w5 z;refine(aS) (fun u=>?_) fun u=>?_
  ·
   have R:p<out.length:=by
    rcases Nat.lt_or_ge p out.length with h | h
    ·
     exact h
    unfold BI at u;rw [List.getElem?_eq_none h] at u;cases u
   have hcm:bD out[p] l[i]<0:=by unfold BI at u;rw [ak R] at u;simpa using u
   refine kU ?_;refine ez (p+1) ⟨z,⟨by omega,cJ (P:=fun _ x=>bD x l[i]<0) R AM hcm,trivial⟩⟩
  have IL:∀x,out[p]?=some x→0≤bD x l[i]:=fun x hx=>by unfold BI at u;rw [hx] at u;simp at u;omega
  have YM:=MF out l[i] p hp AM IL;refine fH ?_;refine WC.dJ (t:=39) (v:=.bool (decide (out[p]?≠some l[i]))) z ?_<|?_
  ·
   have PW:=z.bQ;refine WC.dS (m:=10) z mixed<|(om) (fun Mc=>?_) (fun Mc=>?_)
   ·
    simp at Mc
    have S:out[p]?=none:=List.getElem?_eq_none (by omega);refine(cS) ?_;rintro w6 ⟨mf,g⟩ _;exact(bZ) (by first | (rw [S];rfl) | (rw [H];simp)) (g)
   simp at Mc
   have R:p<out.length:=by omega
   have H:=ak R;obtain⟨Ip,kz⟩:=Ow.addr (As.gs z.g2) H;refine bO ?_;refine DP .r (fun _ d=>PV.dV ey kz rfl rfl (by omega))<|DP .r (fun _ d=>VA ao (Ow.jD (As.gs d.2.g2) (by omega) kz H) .r)<|(gU) ao St.g0<|(cS)<|?_;rintro w6 ⟨mf,g⟩ _;refine WP .r (PV.LP fS (p:=out[p]) (q:=l[i]) rfl rfl)<|?_;exact(bZ) (by first | (rw [S];rfl) | (rw [H];simp)) (g)
  intro w6 g;refine(aS) (fun O=>?_) fun O=>?_
  ·
   have O:¬out[p]?=some l[i]:=by simpa using O
   obtain⟨N,W⟩:∃N,N=w6.heap.size:=⟨_,rfl⟩;have T:=g.jG;have h0N:=g.size;have hlN:=g.bQ;have anT:=((As.gs g.g2)).len;rw [← W] at T h0N hlN;have hN9:=g.bQ;refine WC.Jo (m:=10) (fun j w w'=>match j with | 6=>Ec N 41 (p*2) 2 w w' | _=>aU [] w w') (E:=cF [(3,fun v w'=>∃a c,v=.slice a p c∧(∀x∈aJ a,N≤x)∧(p=0→a=none)∧Ow RR.key 41 2 Z w' a p c (out.take p)),(5,fun v w'=>∃b,v=.slice (some ⟨b,0,none⟩) 1 1∧N≤b∧bR w' b 41 l[i].cells),(6,fun v w'=>∃a c,v=.slice a (p+1) c∧(∀x∈aJ a,N≤x)∧Ow RR.key 41 2 Z w' a (p+1) c (out.take p++[l[i]]))]) g (lF (⟨⟨trivial,⟨fun _ _ _ _ _ s ⟨a,c,h1,f,o,J⟩=>⟨a,c,h1,f,o,J.ext s⟩,⟨fun _ _ _ _ _ s ⟨a,c,h1,f,o,J⟩=>⟨a,c,h1,f,o,Ec.ow s T J⟩,trivial⟩⟩⟩,⟨⟨fun _ _ _ _ _ s ⟨b,h1,f,o⟩=>⟨b,h1,f,o.ext s⟩,⟨trivial,⟨fun _ _ _ _ _ s ⟨b,h1,f,o⟩=>⟨b,h1,f,Ec.blk (l:=l[i].cells) s o⟩,trivial⟩⟩⟩,⟨⟨trivial,⟨trivial,⟨trivial,trivial⟩⟩⟩,trivial⟩⟩⟩)) mixed (by kernel_rfl)<|bO ?_;refine DP .r (fun _ d=>PV.mX ey (Ow.rd (As.gs d.2.g2) (by omega)) rfl rfl (by omega))<|?_;refine DW.e rfl rfl rfl rfl rfl (fun wx d hF=>OX.VG (N:=N) (Z:=Z) mb rfl rfl rfl (OR.nil 0 wx 41 2 _) (by simp [aJ]) (SR.take (i:=p) (Ow.rd (As.gs d.2.g2) (by omega)) (by omega)) (by omega) (by omega) (by rw [W];exact d.1) T 0 (fun c h=>absurd rfl h) fun K L wy h1 f o J X=>⟨⟨Nat.le_trans d.1 X.size,d.2.step X⟩,X,_,rfl,K,L,by rw [Nat.zero_add],o,J,by simpa using h1⟩)<|?_;rintro _ wz _ ⟨a3,c3,rfl,_,_,_⟩;refine(gU) ao St.g0<|?_;refine DW.e rfl rfl rfl rfl rfl (fun wx d hF=>OX.aP (us:=l[i].cells) dt rfl rfl rfl rfl fun b wy Y hb=>⟨⟨Nat.le_trans d.1 Y.ext.size,d.2.step Y.ext⟩,Y.ext,_,rfl,b,rfl,by rw [W];exact Nat.le_trans d.1 Y.ge,hb⟩)<|?_;rintro _ wz _ ⟨b5x,rfl,_,_⟩
   refine DW.e rfl rfl rfl rfl rfl (fun wx d hF=>by
    obtain⟨⟨b',Fk,wN,wO⟩,⟨K,L,h1,f,o,J⟩,_⟩:=hF;simp only [Value.slice.injEq,Option.some.injEq,Addr.mk.injEq,and_true,true_and] at Fk h1;subst Fk;obtain⟨rfl,rfl⟩:=h1;exact OX.VG (N:=N) (Z:=Z) mb rfl rfl rfl J f (SR.dc (A:=fun _=>True) (x:=l[i]) wO trivial rfl (by simp [Key.cells,Value.oneCell']) rfl) (by omega) (by omega) (by rw [W];exact d.1) T 2 (fun c h hc=>by have:p≠0:=fun e=>h (o e);omega) fun K L wy h1 f o J X=>⟨⟨Nat.le_trans d.1 f.size,f.st d.2 hlN T h0N⟩,f,_,rfl,K,L,rfl,o,h1⟩) ?_
   rintro _ wz _ ⟨a6,c6,rfl,_,_⟩;refine bO ?_;refine DP .r (fun _ d=>PV.yG ey (Ow.rd (As.gs d.2.g2) (by omega)) rfl rfl (by omega))<|(cS)<|?_;rintro w7 ⟨Ir,eE⟩ ⟨Tk,⟨_,⟨_,_⟩⟩⟩;obtain⟨_,_,he6,ae4,ho6⟩:=Tk;simp only [Value.slice.injEq,true_and] at he6;obtain⟨rfl,rfl⟩:=he6;have di:=eE.add (B:=As.os RR.key 41 2 a6 (p+1) c6 (out.take p++[l[i]])) ho6 ae4 hlN T h0N;refine WL.ap rfl rfl di (SR.drop (i:=p) (Ow.rd (As.gs di.g3) (by omega)) (by omega)) fun a50 ae5 w8 anW anX cX=>?_;refine bO ?_;have dm:=cX.p3.drop;refine fH ?_;refine ez (i+1,_,a50,((p+1)+(y - p)),ae5) ⟨dm.p1.drop.p1.drop,⟨by omega,by rw [List.take_succ_eq_append_getElem qM,uD,← V,YM,if_neg O],trivial⟩⟩
  have O:out[p]?=some l[i]:=by simpa using O
  refine eD ?_;refine ez (i+1,_,C,y,G) ⟨g.drop.drop,⟨by omega,by rw [List.take_succ_eq_append_getElem qM,uD,← V,YM,if_pos O],trivial⟩⟩
 simp at g10
 have ig:out=kl l:=by rw [V,List.take_of_length_le (by omega)]
 subst ig;refine(bA) ?_;exact⟨_,_,_,rfl,U.p1.drop⟩
theorem th(gp:St w M Z w []) (hl:Rd RR.ew 8 Z w a n c l) (h6:l.length≤1000000):Calls prog 258 #[.slice a n c,.int .i64 rev,k.val] w fun e w'=>∃b m Z',e=.returned (.map (some b))∧bJ w.heap.size Z Z'∧il m (bT l rev k)∧St w M Z' w' [As.map Key.val b m]:=by
 have hlen:=hl.len;have hle:=hl.le;refine enter func258 rfl ntmps258 rfl<|?_;have aQ:=gp;have st1:=aQ.fr hl;refine(dz) st1 fun b5 w1 H9 Ia st2=>?_;refine dd ?_;refine WL.mm Key.val st2 fun V w2 YN anY ir=>?_;refine(aX) ao ir.b1<|?_;refine WL.go rfl (OX.aP (us:=k.cells) dt rfl rfl rfl rfl fun YO w3 K5 Ot=>?_);have hJ:=St.qe (R:=RR.key) (E:=41) (k:=2) (a:=some ⟨YO,0,none⟩) (n:=1) (c:=1) (xs:=[k]) ir K5.ext (OR.dc Ot (Nat.zero_le _) rfl (by simp [Key.cells,Value.oneCell']) rfl) (fun x s=>by simp [aJ] at s;subst s;exact K5.ge);refine i7 ?_;refine WC.gY (σ:=Nat × (List Key) × (List (Key × Value)) × (Nat→Prop) × (Option Addr) × Nat × Nat) (dn:=fun(i,f,mm,G,o,g,p)=>[(0,.slice a n c),(1,.int .i64 rev),(7,.map (some V)),(8,.slice o g p),(9,.int .i64 (i:Int))]) (F:=fun(i,f,mm,G,o,g,p)=>[As.os RR.key 41 2 o g p (k::f),As.map Key.val V mm]) (I:=fun(i,f,mm,G,o,g,p)=>(i≤f.length+1)∧(bJ w.heap.size Z G)∧(f.Nodup)∧(∀x∈f,bT l rev k x)∧(il mm (·∈f))∧(∀(q:Nat) (y:Key),q<i→(k::f)[q]?=some y→∀x,Ld l rev y x→x∈f)∧True) (μ:=fun(i,f,mm,G,o,g,p)=>l.length+1 - i) (Zf:=fun(i,f,mm,G,o,g,p)=>G) (0,[],[],Z,(some ⟨YO,0,none⟩),1,1) (hJ.p1.p1) Sub.t (⟨by simp,bJ.refl _ _,by simp,by simp,il.nil,fun q y h=>by omega,trivial⟩)<|?_;rintro⟨i,f,mm,G,o,g,p⟩ w4 J ⟨hi,hZ,yM,L,Mb,Hf,_⟩;simp only [CA,NA] at J hi hZ yM L Mb Hf ⊢;have ru:=((As.gs J.g0)).len;rw [List.length_cons] at ru
 have hyl:=eP yM fun x s=>nk (L x s).gA
 rw [List.length_map] at hyl;refine(aS) (fun g20=>?_) fun g20=>?_
 ·
  simp at g20
  have qM:i<(k::f).length:=by simp;omega
  obtain⟨y,hy0⟩:∃y,(k::f)[i]=y:=⟨_,rfl⟩
  have N:(k::f)[i]?=some y:=by rw [ak qM,hy0]
  have ae6:y=k∨bT l rev k y:=by
   have:=List.getElem_mem qM
   rw [hy0] at this
   rcases List.mem_cons.1 this with h | h
   ·
    exact .inl h
   exact .inr (L y h)
  refine dd ?_;obtain⟨gJ,cR⟩:=Ow.addr (As.gs J.g0) N;refine ck ?_;refine WP .r (PV.dV ey cR rfl rfl (by omega))<|(aX) ao (Ow.jD (As.gs J.g0) (by simp;omega) cR N)<|?_;have W:=J;refine(bY) ou (gS (k:=y) W.e0 (As.gr W.g3)) ?_;rintro _ w5 ⟨f1,f2,f3,rfl,IU,qK⟩;have hh:=St.lr W qK;have IL:=St.bN qK;have hsz:=W.size;have iI:=hh.a8 (by omega);have mC:=hZ.trans (bJ.dC (F:=fun x=>x∈aJ f1) IL) hsz;have Yx:=((As.gr iI.g0)).len;refine(eT) iI fun K6 w6 FL FM iF=>?_;refine(cI) fI iF fun w7 jW ka eE=>?_;refine(aZ) dK eE.b0<|dd ?_;refine WC.bm (σ:=Nat × (List Key) × (List (Key × Value)) × (Option Addr) × Nat × Nat) (dn:=fun(j,d,C,o,g,p)=>[(0,.slice a n c),(1,.int .i64 rev),(7,.map (some V)),(8,.slice o g p),(9,.int .i64 (i:Int)),(33,.slice f1 f2 f3),(34,.int .i64 (f2:Int)),(35,.int .i64 (j:Int))]) (F:=fun(j,d,C,o,g,p)=>[As.os RR.key 41 2 o g p (k::d),As.map Key.val V C]) (I:=fun(j,d,C,o,g,p)=>(j≤f2)∧(f <+: d)∧(d.Nodup)∧(∀x∈d,bT l rev k x)∧(il C (·∈d))∧(∀q x,q<j→(aC l y).reads[q]?=some x→bV l rev x=true→x∈d)∧True) (μ:=fun(j,d,C,o,g,p)=>f2 - j) (0,f,mm,o,g,p) (eE.p3.p3) Sub.t (⟨by omega,List.prefix_refl _,yM,L,Mb,fun q x h=>by omega,trivial⟩)<|?_;rintro⟨j,d,C,o,g,p⟩ w8 O ⟨hj,H,K,Q,S,X,_⟩;simp only [CA,NA] at O hj H K Q S X ⊢;have Fy:=((As.gs O.g0)).len;rw [List.length_cons] at Fy
  have ae7:=eP K fun x s=>nk (Q x s).gA
  rw [List.length_map] at ae7;refine(aS) (fun g36=>?_) fun g36=>?_
  ·
   simp at g36
   have Y:j<(aC l y).reads.length:=by omega
   obtain⟨x,Md⟩:∃x,(aC l y).reads[j]=x:=⟨_,rfl⟩;have hmx:=S.get x (b:=decide (x∈d)) (by simp);refine dd ?_;obtain⟨tH,Ic,Fu,kQ,vC,mE,mD,nK⟩:=Rd.at (As.gr O.g3) Y;have mE:=RR.ba mE;subst mE;have cX:=O.fg nK mD;rw [Md] at mD cX;refine nx ?_;refine WP .r (PV.dV ey kQ rfl rfl (by omega))<|(aX) ao (As.kT cX.g0)<|(eT) cX fun U2 w9 Ou afa dm=>?_;refine(cI) gR dm fun iP ry mu cW=>?_;refine cm ?_;refine WC.dJ (t:=48) (v:=.bool (bV l rev x && !decide (x∈d))) cW ?_<|?_
   ·
    refine(aX) ao cW.b0<|(eV) (vA (k:=x) (As.gr cW.g7)) cW fun iW s11 B=>?_;refine(de) (fun YP=>?_) (fun YP=>?_)
    ·
     refine(aX) ao B.b0<|?_;refine WP .r (PV.jJ db gG Cl (As.gm B.g3) (hmx) rfl rfl)<|?_;exact(bZ) (by simp only [YP];first | rfl | simp) (B)
    exact(bZ) (by simp only [YP];first | rfl | simp) (B)
   intro iW B;refine(aS) (fun T=>?_) fun T=>?_
   ·
    simp at T
    obtain⟨U3,G7⟩:=T;have hld:Ld l rev y x:=⟨Md ▸ List.getElem_mem Y,U3⟩
    have hxl:bT l rev k x:=by
     rcases ae6 with rfl | h
     ·
      exact .one hld
     exact .step h hld
    have Ov:(d++[x]).Nodup:=by rw [List.nodup_append];exact⟨K,by simp,fun a ha b hb=>by simp at hb;subst hb;rintro rfl;exact G7 ha⟩
    refine(aX) ao B.b0<|?_;refine WL.go rfl (OX.put db gG (As.gm B.g3) rfl rfl rfl fun lB zO zP=>?_);have fJ:=B.p3.jQ zO zP;refine(aX) ao fJ.b1<|?_;refine WL.go rfl (OX.aP (us:=x.cells) dt rfl rfl rfl rfl fun b53 oh afc afd=>?_);have ep:=fJ.cZ afc afd;refine WL.ap rfl rfl ep.p4 (SR.dc (A:=fun _=>True) (x:=x) (As.gb ep.g0) trivial rfl (by simp [Key.cells,Value.oneCell']) rfl) fun a54 afe sg anZ an0 eb=>?_;refine gK ?_
    refine ez (j+1,d++[x],_,a54,(g+1),afe) ⟨eb.p1.drop.p2.drop.p2.drop,⟨by omega,H.trans (List.prefix_append _ _),by rw [List.nodup_append];exact⟨K,by simp,fun a ha b hb=>by simp at hb;subst hb;rintro rfl;exact G7 ha⟩,fun z u=>by
       rcases List.mem_append.1 u with u | u
       ·
        exact Q z u
       simp at u;subst u;exact hxl,S.put x,cJ (P:=fun _ z=>bV l rev z=true→z∈d++[x]) Y (fun q z U u ho=>by simp [X q z U u ho]) (fun _=>by simp [← Md]),trivial⟩⟩
   skip
   refine eD ?_;refine ez (j+1,d,C,o,g,p) ⟨B.drop.drop,⟨by omega,H,K,Q,S,cJ (P:=fun _ z=>bV l rev z=true→z∈d) Y X (fun ho=>by rw [Md] at ho ⊢;simp [ho] at T;exact T),trivial⟩⟩
  simp at g36
  refine kg ?_
  refine ez (i+1,d,C,_,o,g,p) ⟨O.p2.drop.p2.drop,⟨by have:=H.length_le;show i+1≤d.length+1;omega,mC,K,Q,S,fun q z U u x s=>by
     rcases Nat.lt_or_ge q i with h | h
     ·
      have hz2:(k::f)[q]?=some z:=by
       obtain⟨t,rfl⟩:=H;rw [← List.cons_append,List.getElem?_append_left (by simp;omega)] at u;exact u
      exact H.subset (Hf q z h hz2 x s)
     have e:q=i:=by omega
     subst e
     have hz2:some y=some z:=by rw [← N,← u];obtain⟨t,rfl⟩:=H;rw [← List.cons_append,List.getElem?_append_left (by simp;omega)]
     simp at hz2;subst hz2
     obtain⟨j,hj,rfl⟩:=List.mem_iff_getElem.1 s.1;exact X j _ (by omega) (ak hj) s.2,trivial⟩⟩
 simp at g20
 have Iq:=yY L fun y N x s=>by
  obtain⟨q,U,rfl⟩:=List.mem_iff_getElem.1 N;exact Hf q _ (by simp at U;omega) (ak U) x s
 refine(bA) ?_;exact⟨_,_,_,rfl,hZ,Mb.congr Iq,J.p1.k1⟩
theorem vJ(gp:St w M Z w []) (hl:Rd RR.ew 8 Z w a n c l) (h6:l.length≤100000):Calls prog 192 #[.slice a n c,.int .i64 rev,k.val] w fun e w'=>∃Y n' c' Z',e=.returned (.slice Y n' c')∧bJ w.heap.size Z Z'∧St w M Z' w' [As.os RR.key 41 2 Y n' c' (aA l rev k)]:=by
 have hlen:=hl.len;have hle:=hl.le;refine enter func192 rfl ntmps192 rfl<|?_;have aQ:=St.rb gp;have st1:=aQ.fr hl;refine(dz) st1 fun b5 w1 H9 Ia st2=>?_;refine(aX) ao st2.b0<|(eV) (vA (k:=k) (As.gr st2.g1)) st2 fun w2 s2 H=>?_;refine(aS) (fun g15=>?_) fun g15=>?_
 ·
  simp at g15
  have N:aA l rev k=[k]:=by unfold aA;rw [if_neg (by simp [g15])]
  refine(aX) ao H.b0<|?_;refine WL.go rfl (OX.aP (us:=k.cells) dt rfl rfl rfl rfl fun Tl w3 Ox K7=>?_);have J:=St.qe (R:=RR.key) (E:=41) (k:=2) (a:=some ⟨Tl,0,none⟩) (n:=1) (c:=1) (xs:=[k]) H Ox.ext (OR.dc K7 (Nat.zero_le _) rfl (by simp [Key.cells,Value.oneCell']) rfl) (fun x o=>by simp [aJ] at o;subst o;exact Ox.ge);refine(bA) ?_;exact⟨_,_,_,_,rfl,bJ.refl _ _,by rw [N];exact(St.wk J.p1.drop.p1.drop)⟩
 simp at g15
 have N:aA l rev k=kl (k::jd l rev k l):=by unfold aA;rw [if_pos g15]
 refine(aX) ao H.b0<|?_;refine WL.go rfl (OX.aP (us:=k.cells) dt rfl rfl rfl rfl fun YQ w3 K8 Tm=>?_);have J:=St.qe (R:=RR.key) (E:=41) (k:=2) (a:=some ⟨YQ,0,none⟩) (n:=1) (c:=1) (xs:=[k]) H K8.ext (OR.dc Tm (Nat.zero_le _) rfl (by simp [Key.cells,Value.oneCell']) rfl) (fun x o=>by simp [aJ] at o;subst o;exact K8.ge);refine(aX) ao J.b1<|?_;have K:=J;refine(bY) PQ (th (k:=k) K.e0 (As.gr K.g2) (by omega)) ?_;rintro _ w4 ⟨bt,mt,Z1,rfl,wC,hmt,oy⟩;have hM:=St.lv K oy wC;have mC:=wC.le K.size;refine aW ?_;refine WC.bm (σ:=Nat × (List Key) × (Option Addr) × Nat × Nat) (dn:=fun(i,acc,f,g,s)=>[(0,.slice a n c),(1,.int .i64 rev),(5,.pointer (some ⟨b5,0,none⟩)),(7,.slice f g s),(8,.map (some bt)),(24,.slice a n c),(25,.int .i64 (n:Int)),(26,.int .i64 (i:Int))]) (F:=fun(i,acc,f,g,s)=>[As.os RR.key 41 2 f g s (acc)]) (I:=fun(i,acc,f,g,s)=>(i≤n)∧(acc=k::jd l rev k (l.take i))∧True) (μ:=fun(i,acc,f,g,s)=>n - i) (0,[k],(some ⟨YQ,0,none⟩),1,1) (hM.p1) Sub.t (⟨by omega,by simp [jd],trivial⟩)<|?_;rintro⟨i,acc,f,g,s⟩ w5 u ⟨hi,z,_⟩;simp only [CA,NA] at u hi z ⊢;have ru:=((As.gs u.g0)).len;have LY:=pf l rev k (l.take i)
 have yo:acc.length≤100001:=by rw [z,List.length_cons];rw [List.length_take] at LY;omega
 refine(aS) (fun O=>?_) fun O=>?_
 ·
  simp at O
  have P:i<l.length:=by omega
  have hto:=hmt.get l[i].key kn;refine dd ?_;obtain⟨gJ,kF,jV,cR,gI,fw,ek,eJ⟩:=Rd.at (As.gr u.g3) P;obtain⟨q1,q2,q3,rfl,IQ,DT⟩:=fw;have Q:=u.fg eJ ek;have y:=Q.fr IQ;refine nx ?_;refine WP .r (PV.dV iV cR rfl rfl (by omega))<|(aX) dh (As.kT y.g1)<|(eT) y fun K6 w6 FL FM S=>?_;refine(cI) fI S fun w7 jW ka C=>?_;refine cm ?_;refine WC.dJ (t:=48) (v:=.bool (BJ l rev k l[i])) C ?_<|?_
  ·
   have PW:=C.bQ;have aff:=C.jG;have afg:=C.size;refine WC.dD (m:=17) (E:=cF [(15,Jr w7.heap.size fun m=>il m (bT l rev l[i].key))]) C (bj (⟨fun _ _ _ _ _ _ c h=>Jr.st PW c h,trivial⟩)) mixed (by kernel_rfl)<|(tv) ao St.g0<|(gU) ao St.g5<|?_;refine DP .r (fun _ j=>PV.LP fS (p:=l[i].key) (q:=k) rfl rfl)<|(om) (fun L=>?_) (fun L=>?_)
   ·
    refine(tv) ao St.g0<|?_;refine DP .r (fun _ j=>PV.jJ db gG Cl (As.gm j.2.g4) (hto) rfl rfl)<|(om) (fun T=>?_) (fun T=>?_)
    ·
     refine(tv) ao St.g0<|?_;refine DW.e rfl rfl rfl rfl rfl (fun wx j hF=>OX.call PQ rfl rfl ((th (k:=l[i].key) (j.2.e0) (As.gr j.2.g6) (by omega)).mono ?_))<|?_
     ·
      rintro _ wy ⟨b,m,Z',rfl,hZ',hm,U⟩;have V:=U.cg0;exact⟨_,rfl,⟨Nat.le_trans j.1 V.size,j.2.step V⟩,V.p0,_,rfl,b,m,rfl,Nat.le_trans j.1 (St.bN U b rfl),As.gm U.g0,hm⟩
     rintro _ wz _ ⟨b45,_,rfl,_,_,_⟩;refine(gU) ao St.g5<|(cS)<|?_;rintro W ⟨mf,d⟩ ⟨afh,_⟩;obtain⟨_,m45,h1,YR,YS,afi⟩:=afh
     simp at h1;subst h1
     have hld:=afi.get k kn;have G:=d.add (B:=As.map Key.val b45 m45) YS (fun x o=>by have h1:x=b45:=o;subst h1;exact YR) PW aff afg;refine WP .r (PV.jJ db gG Cl (As.gm G.g0) (hld) rfl rfl)<|?_;exact(bZ) (by unfold BJ;simp only [L,T];first | rfl | simp) (G.drop)
    refine(cS) ?_;rintro W ⟨mf,d⟩ _;exact(bZ) (by unfold BJ;simp only [L,T];first | rfl | simp) (d)
   refine(cS) ?_;rintro W ⟨mf,d⟩ _;exact(bZ) (by unfold BJ;simp only [L];first | rfl | simp) (d)
  intro W d;refine(aS) (fun X=>?_) fun X=>?_
  ·
   refine(ia) ao d.b0<|?_;refine WL.go rfl (OX.aP (us:=l[i].key.cells) dt rfl rfl rfl rfl fun b52 w9 afj afk=>?_);have G:=d.cZ afj afk;refine WL.ap rfl rfl G.p4 (SR.dc (A:=fun _=>True) (x:=l[i].key) (As.gb G.g0) trivial rfl (by simp [Key.cells,Value.oneCell']) rfl) fun a53 afl iP an3 an4 cW=>?_;refine gK ?_;refine ez (i+1,_,a53,(g+1),afl) ⟨cW.p7.p7.p7.p3.k4,⟨by omega,by rw [z,sO P,if_pos X];rfl,trivial⟩⟩
  refine eD ?_;refine ez (i+1,_,f,g,s) ⟨d.p6.p6.p6.p6.k4,⟨by omega,by rw [z,sO P,if_neg (by simp [X])],trivial⟩⟩
 simp at O
 have ig:acc=k::jd l rev k l:=by rw [z,List.take_of_length_le (by omega)]
 subst ig;refine fH ?_;have LY:=pf l rev k l;refine bO ?_;have Oy:=St.fresh u;have Q:=u.a8 (by simp;omega);have y:=Q;refine(bY) Pw (qL y.e0 (As.gr y.g0) (fun _ h _=>h) (by simp;omega)) ?_;rintro _ w6 ⟨f1,f2,f3,rfl,FN⟩;have S:=St.lr y FN;refine(bA) ?_;exact⟨_,_,_,_,rfl,mC.trans (bJ.dC (F:=fun x=>x∈aJ f) Oy) (Nat.le_refl _),by rw [N];exact(St.wk S.k1)⟩
set_option maxHeartbeats 400000
theorem ti(q:aq aa) (hk:eA aa k) (i:St w M Z w [As.jH prog 137 aa x D]):Calls prog 47 #[.pointer (some ⟨D.s,0,none⟩),k.val] w fun e w'=>e=.returned (.string (valOf aa x.ab k))∧St w M Z w' [As.jH prog 137 aa x D]:=by
 obtain⟨j,hb,⟨ml,hm,r⟩,o⟩:=i.g0;have d:St w M Z w (As.blk D.s 137 (D.cells x)::As.map Key.val D.m ml::[]):=St.split i hb r (fun y h=>.inl h) (fun y h=>.inr h) (fun y (h1:y=D.s) (d:y=D.m)=>j (h1.symm.trans d));refine(yu q hk _ _ _ _ (St.enter (rest:=[]) d) o hm).mono<|?_;rintro e w' ⟨p,rfl,t,_,f⟩;have g:St w M Z w' (As.blk D.s 137 (D.cells x)::As.map Key.val D.m p::[]):=St.leave (rest:=[]) (l0:=[_,_]) d f (bJ.refl _ _);refine⟨rfl,g.join ⟨j,g.g0,⟨p,t,g.g1⟩,(D.F prog aa x).st f.bW.size (fun y u hl=>f.bW.block y hl fun⟨A,v,z⟩=>d.lV A v y z u) o⟩ fun y h=>h⟩
theorem oQ(A:aq aa) (hk:eA aa k) (B:St w M Z w [As.jH prog 137 aa x D]) (hi:Rd RR.aD 4 Z w a1 n1 e1 b.ab) (hr:Rd RR.ew 8 Z w a2 n2 e2 b.ah):Calls prog 201 #[.pointer (some ⟨D.s,0,none⟩),.agg (b.row a1 n1 e1 a2 n2 e2).toArray,k.val] w fun e w'=>e=.returned (.int .i64 (aR (valOf aa x.ab) b k))∧St w M Z w' [As.jH prog 137 aa x D]:=by
 refine enter func201 rfl ntmps201 rfl<|?_;have aQ:=B;have st1:=aQ.fr hi;have st2:=st1.fr hr;refine(dz) st2 fun b4 w1 H I C=>?_;refine(dz) C fun b5 w2 J K u=>?_;refine(aX) ao u.b0<|(eV) (ei (k:=k)) u fun w3 L f=>?_;refine(aS) (fun g10=>?_) fun g10=>?_
 ·
  skip
  refine(aX) aN f.b1<|(aX) ao f.b0<|(eV) (Cw (k:=k) (As.gr f.g3) (As.gr f.g2)) f fun w4 y g=>?_;refine(bA) ?_;exact⟨by unfold aR;rw [if_pos g10],g.p4.k1⟩
 refine(aZ) dF f.b1<|(aX) ao f.b0<|(bY) ou (dZ (k:=k) (As.gr f.g2)) ?_;rintro _ w4 ⟨f1,f2,f3,rfl,y⟩;have g:=f.step y;refine(eT) g fun N w5 O P F=>?_;refine(cI) fI F fun w6 Q R i=>?_;refine dd ?_;refine WC.dJ (t:=36) (v:=.bool ((aB b.ah k).isSome && (decide ((aC b.ah k).av=b.ad) || decide (valOf aa x.ab k=(aC b.ah k).value)))) i ?_<|?_
 ·
  have S:=i.bQ;refine WC.dD (m:=13) (E:=cF [(10,fun v _=>v=.string (valOf aa x.ab k))]) i (bj (⟨fun _ _ _ _ _ _ _ h=>h,trivial⟩)) mixed (by kernel_rfl)<|(om) (fun g22=>?_) (fun g22=>?_)
  ·
   refine(iD) aO St.g0<|(iD) aO St.g2<|(om) (fun j=>?_) (fun j=>?_)
   ·
    refine(cS) ?_;rintro w7 ⟨z,d⟩ _;exact(bZ) (by simp only [g22,j];first | rfl | simp) (d)
   refine(gU) ao St.g1<|?_;refine DW.e rfl rfl rfl rfl rfl (fun T o U=>OX.call KD rfl rfl ((ti (k:=k) A hk (o.2.one (.tail _ (.tail _ (.tail _ (.tail _ (.tail _ (.head _)))))))).mono ?_))<|?_
   ·
    rintro _ wy ⟨rfl,p⟩;exact⟨_,rfl,⟨Nat.le_trans o.1 p.bW.size,o.2.xL M5 p⟩,p.bW.mono (fun _ _ G=>Gw M5 G),_,rfl,rfl⟩
   rintro _ V _ rfl;refine(iD) e7 St.g0<|(cS)<|?_;rintro w7 ⟨z,d⟩ ⟨_,_⟩;exact(bZ) (by simp only [g22,j];first | rfl | simp) (d)
  refine(cS) ?_;rintro w7 ⟨z,d⟩ _;exact(bZ) (by simp only [g22];first | rfl | simp) (d)
 intro w7 d;refine(aS) (fun q=>?_) fun q=>?_
 ·
  have r:aR (valOf aa x.ab) b k=(aC b.ah k).changed:=by unfold aR;rw [if_neg (by simp [g10]),if_pos q]
  refine(aZ) aO d.b0<|(bA) ?_;exact⟨by rw [r],d.p5.k1⟩
 have r:aR (valOf aa x.ab) b k=b.ad:=by unfold aR;rw [if_neg (by simp [g10]),if_neg (by simp [q])]
 refine(aZ) aO d.b2<|(bA) ?_;exact⟨by rw [r],d.p5.k1⟩
theorem FO(f:aq aa) (hk:eA aa k) (g:St w M Z w [As.jH prog 137 aa x D]) (hi:Rd RR.aD 4 Z w a1 n1 e1 b.ab) (hr:Rd RR.ew 8 Z w a2 n2 e2 b.ah):Calls prog 199 #[.pointer (some ⟨D.s,0,none⟩),.agg (b.row a1 n1 e1 a2 n2 e2).toArray,k.val] w fun e w'=>e=.returned (.int .i64 (aR (valOf aa x.ab) b k))∧St w M Z w' [As.jH prog 137 aa x D]:=by
 refine enter func199 rfl ntmps199 rfl<|?_;have aQ:=g;have st1:=aQ.fr hi;have st2:=st1.fr hr;refine(dz) st2 fun b4 w1 m o h=>?_;refine(dz) h fun b5 w2 p q d=>?_;refine(aX) aN d.b1<|(aX) ao d.b0<|(bY) PO (oQ (k:=k) f hk (d.one (.tail _ (.tail _ (.tail _ (.tail _ (.head _)))))) (As.gr d.g3) (As.gr d.g2)) ?_;rintro _ w3 ⟨rfl,i⟩;have j:=d.xL M4 i;refine(bA) ?_;exact⟨rfl,j.p4.k1⟩
theorem qN(i:aq aa) (hk:eA aa k) (j:St w M Z w [As.jH prog 137 aa x D]) (hi:Rd RR.aD 4 Z w a1 n1 e1 b.ab) (hr:Rd RR.ew 8 Z w a2 n2 e2 b.ah):Calls prog 197 #[.pointer (some ⟨D.s,0,none⟩),.agg (b.row a1 n1 e1 a2 n2 e2).toArray,k.val] w fun e w'=>e=.returned (.string (bP (valOf aa x.ab) b k))∧St w M Z w' [As.jH prog 137 aa x D]:=by
 refine enter func197 rfl ntmps197 rfl<|?_;have aQ:=j;have st1:=aQ.fr hi;have st2:=st1.fr hr;refine(dz) st2 fun b4 w1 p q m=>?_;refine(dz) m fun b5 w2 r t h=>?_;refine(aX) ao h.b0<|(eV) (df (k:=k)) h fun w3 u d=>?_;refine(aS) (fun g10=>?_) fun g10=>?_
 ·
  have f:bP (valOf aa x.ab) b k=valOf aa x.ab k:=by unfold bP;rw [if_pos g10]
  refine(aX) ao d.b0<|(bY) KD (ti (k:=k) i hk (d.one (.tail _ (.tail _ (.tail _ (.tail _ (.head _))))))) ?_;rintro _ w4 ⟨rfl,o⟩;have g:=d.xL M4 o;refine(bA) ?_;exact⟨by rw [f],g.p4.k1⟩
 have f:bP (valOf aa x.ab) b k=fY b k:=by unfold bP;rw [if_neg (by simp [g10])]
 refine(aX) aN d.b1<|(aX) ao d.b0<|(eV) (Fs (k:=k) (As.gr d.g3) (As.gr d.g2)) d fun w4 v g=>?_;refine aW ?_;refine(bA) ?_;exact⟨by rw [f];rfl,g.p4.k1⟩
theorem mg{group:List Key}{bp:Bool}{u:Option Addr}{g eg:Nat}(U:St w M Z w []) (hi:Rd RR.aD 4 Z w a1 n1 e1 x.ab) (hr:Rd RR.ew 8 Z w a2 n2 e2 x.ah) (V:Rd RR.key 2 Z w u g eg group) (W:x.ah.length≤1000000) (X:x.ab.length≤1000000):Calls prog 198 #[.agg (x.row a1 n1 e1 a2 n2 e2).toArray,.slice u g eg,.bool bp] w fun e w'=>∃E G H J K L Z',e=.returned (.agg ((cL x group bp).row E G H J K L).toArray)∧bJ w.heap.size Z Z'∧St w M Z' w' [As.os RR.aD 88 4 E G H (cL x group bp).ab,As.os RR.ew 47 8 J K L (cL x group bp).ah]:=by
 have Is:=hi.len;have Tn:=hr.len;refine enter func198 rfl ntmps198 rfl<|?_;have aQ:=St.rb U;have st1:=aQ.fr hi;have st2:=st1.fr hr;have Y:=st2.fr V;refine(dz) Y fun b3 w1 Ib wO hJ=>?_;refine(eT) hJ fun b6 w2 Fi KW N=>?_;refine(aX) aN N.b1<|?_;have q:=N;refine(bY) zD (fx q.e0 (As.gr q.g4) (As.gr q.g3) W X) ?_;rintro _ w3 ⟨f1,f2,f3,f4,f5,f6,Z1,rfl,O,ky⟩;have P:=St.lv q ky O;have mC:=O.le q.size;have EE:=((As.gs P.g1)).len;refine(cI) dP P.p3 fun w4 jW ka Q=>?_;refine(aZ) dF Q.b0<|dd ?_;refine WC.bm (σ:=Nat × (List Rec)) (dn:=fun(i,acc)=>[(1,.slice u g eg),(2,.bool bp),(3,.pointer (some ⟨b3,0,none⟩)),(6,.pointer (some ⟨b6,0,none⟩)),(12,.int .i64 (f5:Int)),(13,.int .i64 (i:Int))]) (F:=fun(i,acc)=>[As.os RR.ew 47 8 f4 f5 f6 acc]) (I:=fun(i,acc)=>(i≤f5)∧(acc=(x.ah.take i).map (aY x.ad group bp)++x.ah.drop i)∧True) (μ:=fun(i,acc)=>f5 - i) (0,x.ah) (Q.p2) Sub.t (⟨by omega,by simp,trivial⟩)<|?_;rintro⟨i,acc⟩ w5 m ⟨eS,s,_⟩;simp only [CA,NA] at m eS s ⊢
 have yo:acc.length=x.ah.length:=by rw [s];simp;omega
 refine(aS) (fun g14=>?_) fun g14=>?_
 ·
  simp at g14
  have qM:i<x.ah.length:=by omega
  have v:=El (x:=x) (group:=group) (bp:=bp) qM (by omega);rw [← s] at v
  have p:acc[i]?=some x.ah[i]:=by rw [s,List.getElem?_append_right (by simp;omega)];simp [Nat.min_eq_left (by omega:i≤x.ah.length)]
  refine aW ?_;obtain⟨gJ,jV,cR,gI,fw,ek⟩:=Ow.at (As.gs m.g0) (by omega) p;obtain⟨q1,q2,q3,rfl,an5,an6⟩:=fw
  have R:∀y,y=aY x.ad group bp x.ah[i]→acc.set i y=(x.ah.take (i+1)).map (aY x.ad group bp)++x.ah.drop (i+1):=fun y hy=>by rw [hy];exact v
  refine(aZ) dF m.b1<|nx ?_;refine WP .r (PV.dV iV cR rfl rfl (by omega))<|(ia) ao ek<|(eV) (og (k:=x.ah[i].key) (As.gr m.g4)) m fun w6 s6 d=>?_;refine(aS) (fun g24=>?_) fun g24=>?_
  ·
   simp at g24
   have uU:acc=(x.ah.take (i+1)).map (aY x.ad group bp)++x.ah.drop (i+1):=by
    rw [← v]
    have:aY x.ad group bp x.ah[i]=x.ah[i]:=by unfold aY;rw [if_neg g24]
    rw [this]
    apply List.ext_getElem?
    intro j;rw [List.getElem?_set]
    split
    ·
     rename_i e;subst e;rw [p];simp;omega
    rfl
   refine gK ?_;refine ez (i+1,acc) ⟨d,⟨by omega,uU,trivial⟩⟩
  simp at g24
  refine(aS) (fun o=>?_) fun o=>?_
  ·
   have o:bp=true:=o;subst o;have z:=R {x.ah[i] with bp:=true} (by unfold aY;rw [if_pos g24];rfl);obtain⟨tH,Fu,S,vC,mE,mD⟩:=Ow.at (As.gs d.g0) (by omega) p;refine(aZ) dF d.b1<|nx ?_;refine WP .r (PV.dV iV S rfl rfl (by omega))<|nx ?_;refine WL.go rfl (OX.QJ (i:=i) (f:=7) Pn (As.gs d.g0) S p (by omega) rfl rfl rfl {x.ah[i] with bp:=true} (fun r _ ⟨a,n,c,h1,A,B⟩=>⟨a,n,c,by rw [h1];rfl,A,B⟩) fun w7 s7 h7x=>?_);have C:=d.eU s7 h7x (fun x h=>.inl h);refine eD ?_;refine ez (i+1,_) ⟨C,⟨by omega,z,trivial⟩⟩
  have o:bp=false:=o;subst o;have z:=R {x.ah[i] with av:=x.ad} (by unfold aY;rw [if_pos g24];rfl);obtain⟨Ip,YT,T,P3,tj,G8⟩:=Ow.at (As.gs d.g0) (by omega) p;refine(aZ) dF d.b1<|(aZ) aO d.b1<|?_;refine WP .r (PV.dV iV T rfl rfl (by omega))<|nx ?_;refine WL.go rfl (OX.QJ (i:=i) (f:=5) G1 (As.gs d.g0) T p (by omega) rfl rfl rfl {x.ah[i] with av:=x.ad} (fun r _ ⟨a,n,c,h1,A,B⟩=>⟨a,n,c,by rw [h1];rfl,A,B⟩) fun w7 s8 h8x=>?_);have C:=d.eU s8 h8x (fun x h=>.inl h);refine eD ?_;refine ez (i+1,_) ⟨C,⟨by omega,z,trivial⟩⟩
 simp at g14
 have ig:acc=(cL x group bp).ah:=by rw [s,List.take_of_length_le (by omega),List.drop_eq_nil_of_le (by omega)];simp [cL]
 subst ig;refine(aX) aN m.b1<|(cI) dP m.p3 fun w6 ry mu d=>?_;refine(kV) aN d.b0<|?_;exact⟨_,_,_,_,_,_,_,rfl,mC,(St.wk d.p1.p3.k2)⟩
theorem CI{s:ES}{E:EA}{sb z A:Nat}(i:bR w A 153 (E.cells sb z s)) (hb:KM Key.val w z s.busy) (G:∀k,bE s.busy k=none∨bE s.busy k=some (.bool true)) (hr:Rd RR.ew 8 Z w E.a2 E.n2 E.c2 s.b.ah):CR prog 200 #[.pointer (some ⟨A,0,none⟩),k.val] w (.bool (eh s k)):=by
 have H:(bE s.busy k).getD (.bool false)=.bool (s.on k):=by unfold ES.on;rcases G k with h | h <;> rw [h] <;> rfl
 refine enter func200 rfl ntmps200 rfl<|?_;have aQ:=St.s0 w;refine(dz) aQ fun b3 w1 Q R st1=>?_;refine dd ?_;refine WC.dJ (t:=20) (v:=.bool (ay k || (s.on k && ax k))) st1 ?_<|?_
 ·
  have S:=st1.bQ;refine WC.dD (m:=8) (E:=cF [(1,fun v _=>v=.bool (ay k))]) st1 (bj (⟨fun _ _ _ _ _ _ _ h=>h,trivial⟩)) mixed (by kernel_rfl)<|(gU) ao St.g0<|?_;refine DW.c0 (fun B d C=>ei (k:=k))<|(om) (fun g9=>?_) (fun g9=>?_)
  ·
   refine(cS) ?_;rintro w2 ⟨I,st2⟩ ⟨_,_⟩;exact(bZ) (by simp only [g9];first | rfl | simp) (st2)
  refine cm ?_;refine DP .r (fun _ d=>V1 nI (bR.range (i.ext (St.cg d.2))) .r)<|(gU) ao St.g0<|(cS)<|?_;rintro w2 ⟨I,st2⟩ ⟨_,_⟩;refine WP .r (PV.jJ db gG Cl (hb.ext (St.cg st2)) (H) rfl rfl)<|(de) (fun g16=>?_) (fun g16=>?_)
  ·
   refine(aX) ao st2.b0<|(eV) (df (k:=k)) st2 fun w3 T o=>?_;exact(bZ) (by simp only [g9,g16];first | rfl | simp) (o)
  exact(bZ) (by simp only [g9,g16];first | rfl | simp) (st2)
 intro w2 st2;refine(aS) (fun g20=>?_) fun g20=>?_
 ·
  have p:eh s k=true:=by unfold eh;simp only [Bool.or_eq_true,Bool.and_eq_true] at g20 ⊢;rcases g20 with h | h <;> simp [h]
  refine(bA) ?_;exact⟨by rw [p],(St.cg st2)⟩
 have p:eh s k=az s.b k:=by unfold eh;simp only [Bool.or_eq_false_iff] at g20;rw [g20.1,g20.2];rfl
 refine cm ?_;have F:=st2.bQ;have J:=st2.jG;have K:=st2.size;refine WC.pa (m:=11) [9] (E:=cF [(6,fun v _=>∃f1 f2 f3,v=.tuple #[.agg ((aC s.b.ah k).row f1 f2 f3).toArray,.bool (aB s.b.ah k).isSome]),(10,PB w2.heap.size 47 [.int .i64 0,.string ⟨#[]⟩,.string ⟨#[]⟩,.slice none 0 0,.int .i64 0,.int .i64 0,.int .i64 0,.bool false])]) st2 (bj (⟨fun _ _ _ _ _ _ _ h=>h,⟨fun _ _ _ _ _ _ c h=>PB.st F c h,trivial⟩⟩)) mixed (by kernel_rfl) rfl ?_;refine ck ?_;refine DP .r (fun _ d=>PV.ld1 (j:=3) dF (bR.range (i.ext (St.cg d.2))) rfl rfl)<|(gU) ao St.g0<|?_;refine DW.e rfl rfl rfl rfl rfl (fun B d C=>OX.call ou rfl rfl ((dZ (k:=k) (hr.ext (St.cg d.2))).mono ?_))<|?_
 ·
  rintro _ wy ⟨f1,f2,f3,rfl,q⟩;exact⟨_,rfl,⟨Nat.le_trans d.1 q.size,d.2.step q⟩,q.p0,_,rfl,⟨f1,f2,f3,rfl⟩⟩
 rintro _ L _ ⟨f1,f2,f3,rfl⟩;refine cm ?_;refine DW.e rfl rfl rfl rfl rfl (fun B d C=>OX.alloc nJ rfl fun b wy g hb=>⟨⟨Nat.le_trans d.1 g.ext.size,d.2.step g.ext⟩,g.ext.p0,_,rfl,_,rfl,Nat.le_trans d.1 g.ge,hb⟩)<|?_;rintro _ L _ ⟨b5,rfl,_,_⟩;refine(cS) ?_;rintro w3 ⟨U,o⟩ ⟨N,⟨_,_⟩⟩;have O:=o.tt N F J K;refine(cI) fI O fun w4 V W u=>?_;refine nx ?_;refine WL.nil (EX.np ?_);refine bO ?_;refine WC.kf (t:=4) (v:=.bool (az s.b k)) u ?_<|?_
 ·
  have X:=u.bQ;refine WC.dS (m:=9) u mixed<|(om) (fun y=>?_) (fun y=>?_)
  ·
   refine(iD) aO St.g0<|ck ?_;refine DP .r (fun _ d=>PV.ld1 (j:=1) aO (bR.range (i.ext (St.cg d.2))) rfl rfl)<|(cS)<|?_;rintro w5 ⟨P,f⟩ _;exact(gu) (by unfold az;simp only [y];first | rfl | simp) (f)
  refine(cS) ?_;rintro w5 ⟨P,f⟩ _;exact(gu) (by unfold az;simp only [y];first | rfl | simp) (f)
 intro w5 f;refine(bA) ?_;exact⟨by rw [p],(St.cg f)⟩
end Go.Rc

