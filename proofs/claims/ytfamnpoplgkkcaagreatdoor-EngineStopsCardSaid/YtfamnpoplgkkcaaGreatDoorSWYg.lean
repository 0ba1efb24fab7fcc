/- Walks over the program, part WYg. Conditions: as each theorem says. -/
import Derived.Test.YtfamnpoplgkkcaaGreatDoorSFacts
import Derived.Test.YtfamnpoplgkkcaaGreatDoorSWZr
import Derived.Test.YtfamnpoplgkkcaaGreatDoorSWO
import Derived.Test.YtfamnpoplgkkcaaGreatDoorSBi
set_option linter.all false
namespace Go.Rc
open Go Go.Proofs Go.Proofs.Tryz
variable {f:bq}{cap:Value}{a ra al:Option Addr}{n c v rn rc wb nl el:Nat}{w:World}{Z M:Nat→Prop}{k:Key}{D:WD}{rev:Int}{aD:List cB}{aa:List aG}{ml eL:List (Key × Value)}{l:List Rec}{lf:Key→RL}{x0:cz}{S:SD}{bf:List Key}{value:ByteArray}
set_option maxHeartbeats 400000
theorem xe{l:List (bq × eC)}{p:bq × eC→Bool}{f:FuncId}(m:CF prog f) (hl:Rd RR.iq 6 Z w a n c l) (o:∀w1,aU [] w w1→∀x∈l,Calls prog f #[.agg (bq.ot x).toArray,cap] w1 fun e w'=>e=.returned (.bool (p x))∧aU [] w1 w'):Calls prog 153 #[.slice a n c,.func (.func f) #[] #[cap]] w fun e w'=>∃j:Int,e=.returned (.int .i64 j)∧uJ l p j∧aU [] w w':=by
 have hlen:=hl.len;have hle:=hl.le;refine enter func153 rfl ntmps153 rfl<|?_;have aQ:=St.s0 w;refine aW ?_;refine bO ?_;refine WC.bm (σ:=Nat) (dn:=fun i=>[(0,.slice a n c),(1,.func (.func f) #[] #[cap]),(7,.int .i64 (n:Int)),(8,.int .i64 (i:Int))]) (F:=fun i=>[]) (I:=fun i=>(i≤n)∧(∀j x,j<i→l[j]?=some x→p x=false)∧True) (μ:=fun i=>n - i) (0) (aQ) Sub.t (⟨by omega,fun j x h=>by omega,trivial⟩)<|?_;rintro i w1 st1 ⟨hi,b,_⟩;simp only [CA,NA] at st1 hi b ⊢;refine(aS) (fun g9=>?_) fun g9=>?_
 ·
  simp at g9
  have d:i<l.length:=by omega
  refine kg ?_;obtain⟨A,B,C,q,E,g,s,G⟩:=Rd.at hl d;have g:=RR.ba g;subst g;refine ck ?_;refine WP .r (PV.dV mM q rfl rfl (by omega))<|(aX) nG (a7 s (St.cg st1) (by simp))<|?_;refine WL.go rfl (OX.mY m rfl rfl rfl ((Calls.cap (o _ (St.cg st1) l[i] (List.getElem_mem d))).mono ?_));rintro _ w2 ⟨rfl,s2⟩;refine⟨_,rfl,?_⟩;have st2:=st1.step s2;refine(aS) (fun g16=>?_) fun g16=>?_
  ·
   refine(bA) ?_;exact⟨_,rfl,.inl ⟨i,_,ak d,g16,b,rfl⟩,(St.cg st2)⟩
  have g16:p l[i]=false:=by simpa using g16
  refine eD ?_;refine ez (i+1) ⟨st2,⟨by omega,cJ d b (by simpa using g16),trivial⟩⟩
 simp at g9
 have u:∀x∈l,p x=false:=fun x y=>by obtain⟨j,z,rfl⟩:=List.getElem_of_mem y;exact b j _ (by omega) (ak z)
 refine(bA) ?_;exact⟨_,rfl,.inr ⟨u,rfl⟩,(St.cg st1)⟩
theorem ss{l:List (bq × eC)}{p:bq × eC→Bool}{f:FuncId}(b:CF prog f) (hl:Rd RR.iq 6 Z w a n c l) (d:∀w1,aU [] w w1→∀x∈l,Calls prog f #[.agg (bq.ot x).toArray,cap] w1 fun e w'=>e=.returned (.bool (p x))∧aU [] w1 w'):CR prog 115 #[.slice a n c,.func (.func f) #[] #[cap]] w (.bool (l.any p)):=by
 refine enter func115 rfl ntmps115 rfl<|?_;have aQ:=St.s0 w;refine(bY) XR (xe (w:=w) b (hl.ext (St.cg aQ)) (fun w1 h1=>d w1 (aU.trans (St.cg aQ) h1))) ?_;rintro _ w1 ⟨j,rfl,g,s1⟩;have st1:=aQ.step s1;have h:=g.any;refine(bA) ?_;exact⟨by rw [h],(St.cg st1)⟩
theorem Ag{x:bq × eC}{pb:Nat}(b:bR w pb 41 k.cells):CR prog 116 #[.agg (bq.ot x).toArray,.pointer (some ⟨pb,0,none⟩)] w (.bool (decide (x.1.key=k))):=by
 refine enter func116 rfl ntmps116 rfl<|?_;have aQ:=St.s0 w;refine(dz) aQ fun b2 w1 d e st1=>?_;refine(ia) ao st1.b0<|(aX) ao (bR.range (b.ext (St.cg st1)))<|(bA) ?_;exact⟨rfl,(St.cg st1)⟩
theorem Ah :CR prog 34 #[k.val] w (.bool false):=by
 refine enter func34 rfl ntmps34 rfl<|?_;have aQ:=St.s0 w;refine(dz) aQ fun b1 w1 b d st1=>?_;refine(bA) ?_;exact⟨rfl,(St.cg st1)⟩
theorem nO{L:List (bq × eC)}{A:Nat→Prop}(g:bR w wb 86 (D.wc v rev ra rn rc)) (hm:KM Key.val w D.m ml) (h:dy l lf ml) (i:(As.gw 47 lf l).ok Z w) (j:KR aa l) (hl:Rd RR.iq 6 A w al nl el L) (e:cY k):CR prog 70 #[.pointer (some ⟨wb,0,none⟩),.slice al nl el,k.val,.func (.func 34) #[] #[]] w (.int .i64 (bH ⟨rev,aD,l⟩ (L.map Prod.fst) [] k)):=by
 refine enter func70 rfl ntmps70 rfl<|?_;have aQ:=St.s0 w;refine(dz) aQ fun o w1 y z st1=>?_;refine fH ?_;refine WP .r (PV.func (us:=[]) (vs:=[.pointer (some ⟨o,0,none⟩)]) rfl rfl)<|?_;refine WL.c1 (u:=.bool (fZ (L.map Prod.fst) k)) (ss (p:=fun x=>decide (x.1.key=k)) Xr (hl.ext (St.cg st1)) (fun w1 h1 x B=>Ag (bR.ext (As.gb st1.g0) h1))) (by rw [Nb]) st1 fun w2 s2 st2=>?_;refine fH ?_;refine WC.dJ (t:=13) (v:=.bool (fZ (L.map Prod.fst) k && !ax k)) st2 ?_<|?_
 ·
  refine(de) (fun g15=>?_) (fun g15=>?_)
  ·
   refine(aX) ao st2.b0<|?_;refine WL.c1 (u:=.bool (ax k)) (fF (k:=k) e) (by rw [B5 e]) st2 fun w3 C b=>?_;exact(bZ) (tG g15) (b)
  exact(bZ) (tG g15) (st2)
 intro w3 b;refine(aS) (fun g13=>?_) fun g13=>?_
 ·
  refine(bA) ?_;exact⟨by rw [J4 g13],(St.cg b)⟩
 ·
  have g13:(fZ (L.map Prod.fst) k && !ax k)=false:=by simpa using g13
  refine nx ?_;refine WC.dJ (t:=20) (v:=.bool (fZ (L.map Prod.fst) k || (ay k || az ⟨rev,aD,l⟩ k))) b ?_<|?_
  ·
   refine(de) (fun g22=>?_) (fun g22=>?_)
   ·
    exact(bZ) (tG g22) (b)
   refine(aX) ao b.b0<|(eV) (F1 (aD:=aD) (g.ext (St.cg b)) (hm.ext (St.cg b)) h (As.exc i (St.cg b)) j) b fun w4 E d=>?_;exact(bZ) (tG g22) (d)
  intro w4 d;refine(aS) (fun g20=>?_) fun g20=>?_
  ·
   refine(bA) ?_;exact⟨by rw [J5 g13 g20],(St.cg d)⟩
  have g20:(fZ (L.map Prod.fst) k || (ay k || az ⟨rev,aD,l⟩ k))=false:=by simpa using g20
  refine(aX) ao d.b0<|?_;refine WL.go rfl (OX.mY adH rfl rfl rfl ((Calls.VV (Ah (k:=k))).mono ?_));rintro _ w5 ⟨rfl,q⟩;refine⟨_,rfl,?_⟩;have s:=d.step q;refine ck ?_;refine WC.oD rfl<|(bA) ?_;exact⟨by rw [J6 g13 g20],(St.cg s)⟩
 -- F G H
theorem nP{L:List (bq × eC)}(b:St w M Z w [As.os RR.iq 126 6 al nl el L]) (i:L.length≤100000):Calls prog 71 #[.slice al nl el,k.val] w fun e w'=>∃(a:Option Addr) (n c:Nat),e=.returned (.slice a n c)∧St w M Z w' [As.os RR.iq 126 6 a n c (L++[((⟨k,false,0,[],[]⟩:bq),(⟨none,0,0,none,0,0⟩:eC))])]:=by
 have j:=(As.gs b.g0).len;refine enter func71 rfl ntmps71 rfl<|?_;have aQ:=b;refine(dz) aQ fun b3 w1 m o st1=>?_;refine(aX) ao st1.b0<|?_;refine WP .r (PV.bC (us:=((⟨k,false,0,[],[]⟩:bq).row none 0 0 none 0 0)) GY rfl rfl rfl)<|?_;refine WL.go rfl (OX.aP (us:=(bq.ot ((⟨k,false,0,[],[]⟩:bq),(⟨none,0,0,none,0,0⟩:eC)))) rZ rfl rfl rfl rfl fun p w2 d g=>?_);have st2:=st1.cZ d g;refine WL.ap rfl rfl st2.p2 (SR.dc (A:=fun _=>True) (x:=((⟨k,false,0,[],[]⟩:bq),(⟨none,0,0,none,0,0⟩:eC))) (As.gb st2.g0) trivial rfl (bq.one _ _ _ _ _ _ _) rfl) fun a9 q w3 s t h=>?_;refine(bA) ?_;exact⟨_,_,_,rfl,h.p1.drop.p1.drop⟩
theorem C6(h:St w M Z w []) (i:bR w wb 86 (D.wc v rev ra rn rc)) (hm:KM Key.val w D.m ml) (j:dy l lf ml) (o:(As.gw 47 lf l).ok Z w) (p:KR aa l) (q:cY k):Calls prog 33 #[.pointer (some ⟨wb,0,none⟩),k.val,.func (.func 34) #[] #[]] w fun e w'=>∃(a:Option Addr) (n c:Nat),e=.returned (.slice a n c)∧St w M Z w' [As.os RR.iq 126 6 a n c (if cH ⟨rev,aD,l⟩ [] k=true then [((⟨k,false,0,[],[]⟩:bq),(⟨none,0,0,none,0,0⟩:eC))] else [])]:=by
 refine enter func33 rfl ntmps33 rfl<|?_;have aQ:=St.rb h;have st1:=aQ.dp RR.iq 126 6;refine(dz) st1 fun b4 w1 z B st2=>?_;refine(aX) ao st2.b0<|nx ?_;refine WL.c1 (u:=.int .i64 (if cH ⟨rev,aD,l⟩ [] k=true then 1 else 0)) (nO (aD:=aD) (L:=[]) (A:=fun _=>True) (i.ext (St.cg st2)) (hm.ext (St.cg st2)) j (As.exc o (St.cg st2)) p (Rd.nil _ _ _ _) q) (by rw [show bH ⟨rev,aD,l⟩ (List.map Prod.fst ([]:List (bq × eC))) [] k=_ from HN]) st2 fun w2 s2 b=>?_;refine(aS) (fun g11=>?_) fun g11=>?_
 ·
  have d:cH ⟨rev,aD,l⟩ [] k=true:=by simpa using g11
  refine(aX) ao b.b0<|?_;have g:=b.p1;refine(bY) Sq (nP (k:=k) g.e1 (by simp)) ?_;rintro _ w3 ⟨r,s,t,rfl,x⟩;have y:=St.lr g x;refine(bA) ?_;exact⟨r,s,t,rfl,by rw [if_pos d];exact(St.wk y.p1.drop)⟩
 have d:¬cH ⟨rev,aD,l⟩ [] k=true:=by simpa using g11
 refine(bA) ?_;exact⟨none,0,0,rfl,by rw [if_neg d];exact(St.wk b.drop)⟩
theorem C7{x:cz}{a1 a2:Option Addr}{n1 e1 n2 e2:Nat}(hi:Rd RR.aD 4 Z w a1 n1 e1 x.ab):CR prog 43 #[.agg (x.row a1 n1 e1 a2 n2 e2).toArray,k.val] w (.string (bw x.ab k).value):=by
 refine enter func43 rfl ntmps43 rfl<|?_;have aQ:=St.s0 w;refine(dz) aQ fun b2 w1 g h st1=>?_;refine(dz) st1 fun b3 w2 i j st2=>?_;refine(aX) aN st2.b1<|(aX) ao st2.b0<|(bY) Ss (mh (k:=k) (hi.ext (St.cg st2))) ?_;rintro _ w3 ⟨y,rfl,b,_,d⟩;have e:=st2.step d;refine WP .r (PV.uv (fs:=[_,_,_]) (f:=1) (off:=2) (T:=88) underlying88 rfl rfl (show ∀w,(isAgg 9).run _ w=.ok false w from isAgg9) rfl rfl)<|(bA) ?_;exact⟨by rw [← b],(St.cg e)⟩
theorem C8(j:St w M Z w [As.map Key.val S.m ml,As.map Key.val S.q [],As.blk wb 86 (D.wc S.s rev ra rn rc),As.map Key.val D.m eL,As.gw 47 lf l]) (o:(S.FV prog aa x0).p Z w) (t:Rd RR.aD 4 Z w D.a1 D.n1 D.c1 x0.ab) (hm:aV aa x0.ab ml) (A:dy l lf eL) (C:aq aa) (E:∀k,(valOf aa x0.ab k).size≤1000) (eS:ay k=true):Calls prog 121 #[.pointer (some ⟨wb,0,none⟩),k.val] w fun e w'=>∃b,e=.returned (.string (bP (valOf aa x0.ab) ⟨rev,x0.ab,l⟩ k))∧aV aa x0.ab b∧fW ml b∧St w M Z w' [As.map Key.val S.m b,As.map Key.val S.q [],As.blk wb 86 (D.wc S.s rev ra rn rc),As.map Key.val D.m eL,As.gw 47 lf l]:=by
 refine enter func121 rfl ntmps121 rfl<|?_;have aQ:=j;have st1:=aQ.fr t;have st2:=st1.fact (B:=As.fz (S.FV prog aa x0)) o (fun _ y=>y);refine(dz) st2 fun b3 w1 F G g=>?_;refine ck ?_;have H:=g.bQ;refine WC.dS (m:=5) g mixed<|(iD) fT St.g5<|(gU) ao St.g0<|(cS)<|?_;rintro w2 ⟨I,d⟩ _;refine WP .r (PV.look db fU ff (As.gm d.g6) rfl rfl)<|(aX) ao d.b0<|?_;refine WL.c1 (u:=.bool true) (cN (k:=k)) (by rw [eS]) d fun w3 J h=>?_;refine cm ?_;refine WC.oD rfl<|nx ?_;have K:=h.bQ;refine WC.dS (m:=5) h mixed<|(tv) aN St.g5<|(gU) ao St.g0<|(cS)<|?_;rintro w4 ⟨L,i⟩ _;refine(eV) (C7 (x:=⟨rev,x0.ab,l⟩) (k:=k) (a2:=D.a2) (n2:=D.n2) (e2:=D.c2) (As.gr i.g2)) i fun w5 N z=>?_;refine(bA) ?_;exact⟨ml,by rw [Rr eS],hm,fW.refl _,z.drop.drop.drop⟩
theorem C9(x:St w M Z w [As.map Key.val S.m ml,As.map Key.val S.q [],As.blk wb 86 (D.wc S.s rev ra rn rc),As.map Key.val D.m eL,As.gw 47 lf l]) (y:(S.FV prog aa x0).p Z w) (z:Rd RR.aD 4 Z w D.a1 D.n1 D.c1 x0.ab) (hm:aV aa x0.ab ml) (K:dy l lf eL) (A:aq aa) (C:∀k,(valOf aa x0.ab k).size≤1000) (eS:ay k=false) (h:cY k) (i:ax k=true) (hk:eA aa k):Calls prog 121 #[.pointer (some ⟨wb,0,none⟩),k.val] w fun e w'=>∃b,e=.returned (.string (bP (valOf aa x0.ab) ⟨rev,x0.ab,l⟩ k))∧aV aa x0.ab b∧fW ml b∧St w M Z w' [As.map Key.val S.m b,As.map Key.val S.q [],As.blk wb 86 (D.wc S.s rev ra rn rc),As.map Key.val D.m eL,As.gw 47 lf l]:=by
 refine enter func121 rfl ntmps121 rfl<|?_;have aQ:=x;have st1:=aQ.fr z;have st2:=st1.fact (B:=As.fz (S.FV prog aa x0)) y (fun _ E=>E);refine(dz) st2 fun b3 w1 L N j=>?_;refine ck ?_;have O:=j.bQ;refine WC.dS (m:=5) j mixed<|(iD) fT St.g5<|(gU) ao St.g0<|(cS)<|?_;rintro w2 ⟨P,d⟩ _;refine WP .r (PV.look db fU ff (As.gm d.g6) rfl rfl)<|(aX) ao d.b0<|?_;refine WL.c1 (u:=.bool false) (cN (k:=k)) (by rw [eS]) d fun w3 Q o=>?_;refine cm ?_;refine WC.fX rfl<|(aX) ao o.b0<|?_;refine WL.c1 (u:=.bool true) (fF (k:=k) h) (by rw [(B5 h).symm.trans i]) o fun w4 R F=>?_;refine cm ?_;refine WC.oD rfl<|nx ?_;refine WC.bM (m:=5) [] [] [0,1,2,3,4] [] F (ai.k4 M0 M1 M2 M3<|ai.k4 M4 M5 M6 M7<|ai.nil) mixed (by kernel_rfl) (by kernel_rfl) rfl<|?_
 iterate 3 refine DG.a ?_
 refine(oo) yj SV.g5<|(kW) ao SV.g0<|(jm)<|?_;intro w5 T t;simp only [CM,NM,CA,NA,hK.it] at t;have g:=t.p4.p4;refine(bY) G4 (Ll A C hk _ _ _ _ _ g.e2 (As.gf g.g3) hm (fun _=>lL.nil _)) ?_;rintro _ w6 ⟨eO,rfl,G,H,I⟩;have J:=St.lr g I;refine nx ?_;refine WL.nil (EX.np ?_);refine(bA) ?_;exact⟨eO,by rw [Nc i],G,H,J.p2.drop.p2.drop.p2.drop⟩
theorem Da(y:St w M Z w [As.map Key.val S.m ml,As.map Key.val S.q [],As.blk wb 86 (D.wc S.s rev ra rn rc),As.map Key.val D.m eL,As.gw 47 lf l]) (z:(S.FV prog aa x0).p Z w) (A:Rd RR.aD 4 Z w D.a1 D.n1 D.c1 x0.ab) (hm:aV aa x0.ab ml) (C:dy l lf eL) (G:aq aa) (H:∀k,(valOf aa x0.ab k).size≤1000) {r:Rec}(eS:ay k=false) (h:cY k) (i:ax k=false) (b:aB l k=some r) (E:r.av=rev):Calls prog 121 #[.pointer (some ⟨wb,0,none⟩),k.val] w fun e w'=>∃d,e=.returned (.string (bP (valOf aa x0.ab) ⟨rev,x0.ab,l⟩ k))∧aV aa x0.ab d∧fW ml d∧St w M Z w' [As.map Key.val S.m d,As.map Key.val S.q [],As.blk wb 86 (D.wc S.s rev ra rn rc),As.map Key.val D.m eL,As.gw 47 lf l]:=by
 refine enter func121 rfl ntmps121 rfl<|?_;have aQ:=y;have st1:=aQ.fr A;have st2:=st1.fact (B:=As.fz (S.FV prog aa x0)) z (fun _ F=>F);refine(dz) st2 fun b3 w1 I J j=>?_;refine ck ?_;have K:=j.bQ;refine WC.dS (m:=5) j mixed<|(iD) fT St.g5<|(gU) ao St.g0<|(cS)<|?_;rintro w2 ⟨L,g⟩ _;refine WP .r (PV.bH db fU ff (As.gm g.g6) (C.yes b) rfl rfl)<|(aX) ao g.b0<|?_;refine WL.c1 (u:=.bool false) (cN (k:=k)) (by rw [eS]) g fun w3 N o=>?_;refine cm ?_;refine WC.fX rfl<|(aX) ao o.b0<|?_;refine WL.c1 (u:=.bool false) (fF (k:=k) h) (by rw [(B5 h).symm.trans i]) o fun w4 O t=>?_;refine cm ?_;refine WC.fX rfl<|(aS) (fun x=>?_) fun x=>?_
 ·
  exact dr x
 refine(aZ) e7 (bR.range ((As.sS t.g7).1 _ _ b).1)<|(bA) ?_;exact⟨ml,by rw [Nd eS i b E],hm,fW.refl _,t.drop.drop.drop⟩
theorem F2{L:List bq}(b:St w M Z w [As.map Key.val S.m ml,As.map Key.val S.q [],As.blk wb 86 (D.wc S.s rev ra rn rc),As.map Key.val D.m eL,As.gw 47 lf l]) (d:(S.FV prog aa x0).p Z w) (g:Rd RR.aD 4 Z w D.a1 D.n1 D.c1 x0.ab) (hm:aV aa x0.ab ml) (i:dy l lf eL) (j:aq aa) (o:∀k,(valOf aa x0.ab k).size≤1000) (hk:eA aa k) (x:fR L ⟨rev,x0.ab,l⟩ k):Calls prog 121 #[.pointer (some ⟨wb,0,none⟩),k.val] w fun e w'=>∃t,e=.returned (.string (bP (valOf aa x0.ab) ⟨rev,x0.ab,l⟩ k))∧aV aa x0.ab t∧fW ml t∧St w M Z w' [As.map Key.val S.m t,As.map Key.val S.q [],As.blk wb 86 (D.wc S.s rev ra rn rc),As.map Key.val D.m eL,As.gw 47 lf l]:=by
 cases eS:ay k with
 | true=>exact C8 b d g hm i j o eS
 | false=>
  cases u:ax k with
  | true=>exact C9 b d g hm i j o eS hk.cY u hk
  | false=>
   have hu:az ⟨rev,x0.ab,l⟩ k=true:=by
    rcases x with h | ⟨_,h⟩ | h
    ·
     rw [eS] at h;cases h
    ·
     rw [u] at h;cases h
    exact h
   obtain⟨r,y,z⟩:=aT.1 hu;exact Da b d g hm i j o eS hk.cY u y z
set_option maxHeartbeats 400000
theorem nQ{xs:List Key}(i:St w M Z w []) (hl:Rd RR.key 2 (fun x=>Z x∨x∈aJ a) w a n c xs) (m:∀x∈aJ a,x<w.heap.size) (o:xs.length≤1000000):Calls prog 78 #[.slice a n c] w fun e w'=>∃b d g,e=.returned (.slice b d g)∧St w M Z w' [As.os RR.key 41 2 b d g xs]:=by
 have p:St w M (fun x=>Z x∨x∈aJ a) w []:=⟨i.bW,fun x q=>q.elim (i.jG x) (m x),by simp,by simp,.nil,by simp⟩;refine(js p hl o).mono<|?_;rintro e w' ⟨b,d,g,rfl,j⟩;exact⟨b,d,g,rfl,j.unz (fun _ h=>.inl h) (Ow.z (As.gs j.g0))⟩
theorem Db{A:eC}(y:St w M Z w [As.blk wb 86 (D.wc v rev ra rn rc),As.map Key.val D.m eL,As.gw 47 lf l,As.os RR.key 41 2 ra rn rc bf,As.os RR.key 41 2 A.a A.n A.c f.reads]) (U:dy l lf eL) (V:f.reads.length≤4000) (hr:bf.length≤100000) (I:aB l f.key=none) (hn4:eL.length<4000):Calls prog 120 #[.pointer (some ⟨wb,0,none⟩),.agg (bq.ot (f,A)).toArray,.string value] w fun e w'=>∃(q:RL) (a:Option Addr) (n c:Nat) (Z':Nat→Prop),e=.returned (.int .i64 0)∧bJ w.heap.size Z Z'∧St w M Z' w' [As.blk wb 86 (D.wc v rev a n c),As.map Key.val D.m (cM eL f.key (.pointer (some ⟨q.b,0,none⟩))),As.gw 47 (wL lf f.key q) (eu l (bL ⟨rev,aD,l⟩ f.key value f.reads)),As.os RR.key 41 2 a n c (bf++[f.key]),As.os RR.key 41 2 A.a A.n A.c f.reads]:=by
 have EE:=(As.gs y.g3).len;have W:=(As.gs y.g4).len;refine enter func120 rfl ntmps120 rfl<|?_;have aQ:=y;refine(dz) aQ fun b4 w1 Fh IY st1=>?_;refine ck ?_;have hN1:=st1.bQ;refine WC.dS (m:=6) st1 mixed<|(iD) fT St.g1<|(tv) ao St.g0<|(cS)<|?_;rintro w2 ⟨sf,st2⟩ _;refine WP .r (PV.jJ db fU ff (As.gm st2.g2) (U.no I) rfl rfl)<|kU ?_;refine WL.cq (t:=19) rfl (fun g19=>?_) (fun g19=>?_)
 ·
  refine(aZ) fT st2.b1<|?_;refine WP .r (PV.acs fU (As.gm st2.g2) rfl)<|(aS) (fun J=>?_) fun J=>?_
  ·
   exact absurd J (by simp;omega)
  skip
  refine gK ?_;refine WP .r (PV.ld1 (j:=1) aO st2.b1 rfl rfl)<|ck ?_;refine WC.bM (m:=14) [] [5] [3,4,5,0,1,2,6,7,8,9,10,11,12,13] [(13,.blk 47 [.int .i64 0,.string ⟨#[]⟩,.string ⟨#[]⟩,.slice none 0 0,.int .i64 0,.int .i64 0,.int .i64 0,.bool false])] st2 (ai.k4 M0 M1 M2 M3<|ai.cons M4<|ai.cons M5<|ai.nil) mixed (by kernel_rfl) (by kernel_rfl) rfl<|(oo) dK SV.g0<|(fL) (fun w3 IA sr K jM=>?_);simp only [CA,NA] at K;have d:=K;refine OX.call KF rfl rfl ((nQ d.e0 (Ow.rd (As.gs d.g5) (by omega)) (OR.lt (As.gs d.g5)) (by omega)).mono ?_);rintro _ w4 ⟨g,o,p,rfl,z⟩;have X:=St.lr d z;have Y:=St.bN z;have TV:=d.size;have hM:=X.a8 (by omega);have hZc:=(bJ.refl w.heap.size Z).trans (bJ.dC (F:=fun x=>x∈aJ g) Y) TV;refine⟨_,rfl,z.bW.size,_,rfl,_,_,_,hM,aw.k4<|aw.k2<|aw.cons<|aw.nil,ai.k4 M1 M2 M3 M4<|ai.cons M5<|ai.cons M6<|ai.nil,?_⟩;refine(yR) ao SV.g0<|?_
  iterate 4 refine DG.a ?_
  refine(oo) dK SV.g0<|?_;refine DG.a<|?_;refine DQ .r (fun C E G _ h yw=>PV.add rfl rfl (by show _≤(1:Int)+(A.n:Int);omega) (by show(1:Int)+(A.n:Int)≤_;omega))<|DQ .r (fun C E G _ h yw=>PV.bC (us:=[.int .i64 f.key.kind,.string f.key.text,.string value,.slice g o p,.int .i64 rev,.int .i64 rev,.int .i64 (1+(A.n:Int)),.bool false]) Nt rfl rfl rfl)<|?_;refine DG.side (s:=.blk 47 [.int .i64 0,.string ⟨#[]⟩,.string ⟨#[]⟩,.slice none 0 0,.int .i64 0,.int .i64 0,.int .i64 0,.bool false]) rfl rfl rfl rfl rfl rfl (fun C E G qS h=>OX.alloc nJ rfl fun b wy i hb=>⟨i.ext.size,_,rfl,⟨b,rfl⟩,h.cZ i hb⟩)<|?_;rintro _ ⟨H,rfl⟩;refine(jm) ?_;intro w5 vU L;simp only [CM,NM,CA,NA,hK.it] at L;refine(cI) fI L fun w6 jW ka iI=>?_;refine WL.nil (EX.np ?_);have N:=iI.rH (B:=As.blk H 47 ((bL ⟨rev,aD,l⟩ f.key value f.reads).row g o p)) (by rw [J7 I];simp only [Rec.row,W]);refine eD ?_;refine WL.cq (t:=47) rfl (fun O=>?_) (fun O=>?_)
  ·
   exact dr O
  refine kU ?_;refine WC.fX rfl<|cm ?_;have PW:=N.bQ;refine WC.dS (m:=6) N mixed<|(iD) fT St.g3<|(tv) ao St.g2<|(cS)<|?_;rintro w7 ⟨mf,P⟩ _;refine WL.go rfl (OX.put db fU (As.gm P.g4) rfl rfl rfl fun w8 zK vF=>?_);have di:=P.p4.jQ zK vF;refine cm ?_;refine WC.bM (m:=9) [] [8] [1,2,3,4,5,6,7,8,0] [(7,.sl 41 1 f.key.cells)] di (ai.k4 M0 M1 M2 M3<|ai.cons M4<|ai.cons M5<|ai.cons M7<|ai.nil) mixed (by kernel_rfl) (by kernel_rfl) rfl<|?_
  iterate 3 refine DG.a ?_
  refine(oo) dK SV.g4<|(yR) ao SV.g3<|?_;refine DG.side (s:=.sl 41 1 f.key.cells) rfl rfl rfl rfl rfl rfl (fun C E G qS h=>OX.aP (us:=f.key.cells) dt rfl rfl rfl rfl fun b wy i hb=>⟨i.ext.size,_,rfl,⟨b,rfl⟩,h.cZ i hb⟩)<|?_;rintro _ ⟨b73,rfl⟩;refine(fL) (fun w9 R8x TU u C4=>?_);simp only [CA,NA] at u;refine OX.jO mb rfl rfl rfl (As.gs u.g6) (SR.dc (A:=fun _=>True) (x:=f.key) (show bR _ b73 _ _ from u.ok _ (.tail _ (.tail _ (.tail _ (.tail _ (.tail _ (.tail _ (.tail _ (.tail _ (C4 _ (.head _))))))))))) trivial rfl (by simp [Key.cells,Value.oneCell']) rfl) (by omega) (by omega) (Nat.zero_le _) fun a74 agl iP TW Q TX agm=>?_;have dm:=u.p6.eU Q TW TX;refine⟨Q.size,_,rfl,_,_,_,dm,aw.k4<|aw.k4<|aw.nil,ai.k4 M1 M2 M3 M4<|ai.cons M5<|ai.cons M6<|ai.cons M7<|ai.nil,?_⟩;refine(jm) ?_;intro iW Ir R;simp only [CM,NM,CA,NA,hK.it] at R;refine bO ?_;refine WL.s1 R.p6 fun lB _ ed=>?_;refine WL.nil (EX.np ?_);refine eD ?_;have T:=ed.p7.p5;have ep:=St.zh (q:=⟨H,g,o,p⟩) (r:=(bL ⟨rev,aD,l⟩ f.key value f.reads)) (l':=eu l (bL ⟨rev,aD,l⟩ f.key value f.reads)) T (As.gr T.g6) V (cU l (bL ⟨rev,aD,l⟩ f.key value f.reads));refine(bA) ?_;exact⟨⟨H,g,o,p⟩,_,_,_,_,rfl,hZc,ep.p2.drop.p4.drop.p4.drop.p3.p2⟩
 exact dr g19
theorem Dc{A:eC}(G:St w M Z w [As.blk wb 86 (D.wc v rev ra rn rc),As.map Key.val D.m eL,As.gw 47 lf l,As.os RR.key 41 2 ra rn rc bf,As.os RR.key 41 2 A.a A.n A.c f.reads]) (Y:dy l lf eL) (h4:f.reads.length≤4000) (hr:bf.length≤100000) {r:Rec}(y:aB l f.key=some r):Calls prog 120 #[.pointer (some ⟨wb,0,none⟩),.agg (bq.ot (f,A)).toArray,.string value] w fun e w'=>∃(q:RL) (a:Option Addr) (n c:Nat) (Z':Nat→Prop),e=.returned (.int .i64 0)∧bJ w.heap.size Z Z'∧St w M Z' w' [As.blk wb 86 (D.wc v rev a n c),As.map Key.val D.m (cM eL f.key (.pointer (some ⟨q.b,0,none⟩))),As.gw 47 (wL lf f.key q) (eu l (bL ⟨rev,aD,l⟩ f.key value f.reads)),As.os RR.key 41 2 a n c (bf++[f.key]),As.os RR.key 41 2 A.a A.n A.c f.reads]:=by
 have EE:=(As.gs G.g3).len;have hAn:=(As.gs G.g4).len;refine enter func120 rfl ntmps120 rfl<|?_;have aQ:=G;refine(dz) aQ fun b4 w1 Fh IY st1=>?_;refine ck ?_;have hN1:=st1.bQ;refine WC.dS (m:=6) st1 mixed<|(iD) fT St.g1<|(tv) ao St.g0<|(cS)<|?_;rintro w2 ⟨sf,st2⟩ _;refine WP .r (PV.bH db fU ff (As.gm st2.g2) (Y.yes y) rfl rfl)<|kU ?_;refine WL.cq (t:=19) rfl (fun g19=>?_) (fun g19=>?_)
 ·
  exact dr g19
 refine kU ?_;refine WC.fX rfl<|gK ?_;refine WP .r (PV.ld1 (j:=1) aO st2.b1 rfl rfl)<|ck ?_;refine WC.bM (m:=14) [] [5] [3,4,5,0,1,2,6,7,8,9,10,11,12,13] [(13,.blk 47 [.int .i64 0,.string ⟨#[]⟩,.string ⟨#[]⟩,.slice none 0 0,.int .i64 0,.int .i64 0,.int .i64 0,.bool false])] st2 (ai.k4 M0 M1 M2 M3<|ai.cons M4<|ai.cons M5<|ai.nil) mixed (by kernel_rfl) (by kernel_rfl) rfl<|(oo) dK SV.g0<|(fL) (fun w3 IA sr P jM=>?_);simp only [CA,NA] at P;have g:=P;refine OX.call KF rfl rfl ((nQ g.e0 (Ow.rd (As.gs g.g5) (by omega)) (OR.lt (As.gs g.g5)) (by omega)).mono ?_);rintro _ w4 ⟨d,h,i,rfl,H⟩;have iY:=St.lr g H;have YW:=St.bN H;have TV:=g.size;have hM:=iY.a8 (by omega);have hZc:=(bJ.refl w.heap.size Z).trans (bJ.dC (F:=fun x=>x∈aJ d) YW) TV;refine⟨_,rfl,H.bW.size,_,rfl,_,_,_,hM,aw.k4<|aw.k2<|aw.cons<|aw.nil,ai.k4 M1 M2 M3 M4<|ai.cons M5<|ai.cons M6<|ai.nil,?_⟩;refine(yR) ao SV.g0<|?_
 iterate 4 refine DG.a ?_
 refine(oo) dK SV.g0<|?_;refine DG.a<|?_;refine DQ .r (fun I J K _ o yw=>PV.add rfl rfl (by show _≤(1:Int)+(A.n:Int);omega) (by show(1:Int)+(A.n:Int)≤_;omega))<|DQ .r (fun I J K _ o yw=>PV.bC (us:=[.int .i64 f.key.kind,.string f.key.text,.string value,.slice d h i,.int .i64 rev,.int .i64 rev,.int .i64 (1+(A.n:Int)),.bool false]) Nt rfl rfl rfl)<|?_;refine DG.side (s:=.blk 47 [.int .i64 0,.string ⟨#[]⟩,.string ⟨#[]⟩,.slice none 0 0,.int .i64 0,.int .i64 0,.int .i64 0,.bool false]) rfl rfl rfl rfl rfl rfl (fun I J K qS o=>OX.alloc nJ rfl fun b wy p hb=>⟨p.ext.size,_,rfl,⟨b,rfl⟩,o.cZ p hb⟩)<|?_;rintro _ ⟨u,rfl⟩;refine(jm) ?_;intro w5 vU Q;simp only [CM,NM,CA,NA,hK.it] at Q;refine(cI) fI Q fun w6 jW ka L=>?_;refine WL.nil (EX.np ?_);refine cm ?_;refine WC.dJ (t:=54) (v:=.bool (decide (r.value=value))) L ?_<|?_
 ·
  refine ck ?_;refine WL.cq (t:=47) rfl (fun N=>?_) (fun N=>?_)
  ·
   refine(aZ) e7 (bR.range ((As.sS L.g5).1 _ _ y).1)<|?_;exact(bZ) (tG N) (L)
  exact dr N
 intro w7 iF;refine nx ?_;have z:=iF;refine WC.jx (σ:=Int) [_] (fun ch=>[(0,.pointer (some ⟨wb,0,none⟩)),(4,.pointer (some ⟨b4,0,none⟩)),(9,.pointer (some ⟨u,0,none⟩))]) (fun ch=>[As.blk u 47 [.int .i64 f.key.kind,.string f.key.text,.string value,.slice d h i,.int .i64 ch,.int .i64 rev,.int .i64 (1+(A.n:Int)),.bool false]]) (fun ch=>(ch=if r.value=value then r.changed else rev)∧True) z ?_ ?_
 ·
  refine(aS) (fun O=>?_) fun O=>?_
  ·
   refine(aZ) aO (bR.range ((As.sS z.g5).1 _ _ y).1)<|nx ?_;refine WL.s1 z fun w8 _ C=>?_;refine nx ?_;exact mQ (r.changed) ⟨C,⟨by rw [if_pos (by simpa using O)],trivial⟩⟩
  refine nx ?_;exact mQ (rev) ⟨z,⟨by rw [if_neg (by simpa using O)],trivial⟩⟩
 rintro ch w8 C ⟨R,_⟩;simp only [CA,NA] at C R ⊢;refine bO ?_;have T:=C.rH (B:=As.blk u 47 ((bL ⟨rev,aD,l⟩ f.key value f.reads).row d h i)) (by rw [J8 y,R];simp only [Rec.row,hAn]);have PW:=T.bQ;refine WC.dS (m:=6) T mixed<|(iD) fT St.g3<|(tv) ao St.g2<|(cS)<|?_;rintro w9 ⟨mf,U⟩ _;refine WL.go rfl (OX.put db fU (As.gm U.g4) rfl rfl rfl fun iP zK vF=>?_);have cW:=U.p4.jQ zK vF;refine cm ?_;refine WC.bM (m:=9) [] [8] [1,2,3,4,5,6,7,8,0] [(7,.sl 41 1 f.key.cells)] cW (ai.k4 M0 M1 M2 M3<|ai.cons M4<|ai.cons M5<|ai.cons M7<|ai.nil) mixed (by kernel_rfl) (by kernel_rfl) rfl<|?_
 iterate 3 refine DG.a ?_
 refine(oo) dK SV.g4<|(yR) ao SV.g3<|?_;refine DG.side (s:=.sl 41 1 f.key.cells) rfl rfl rfl rfl rfl rfl (fun I J K qS o=>OX.aP (us:=f.key.cells) dt rfl rfl rfl rfl fun b wy p hb=>⟨p.ext.size,_,rfl,⟨b,rfl⟩,o.cZ p hb⟩)<|?_;rintro _ ⟨b73,rfl⟩;refine(fL) (fun iW R8x TU E C4=>?_);simp only [CA,NA] at E;refine OX.jO mb rfl rfl rfl (As.gs E.g6) (SR.dc (A:=fun _=>True) (x:=f.key) (show bR _ b73 _ _ from E.ok _ (.tail _ (.tail _ (.tail _ (.tail _ (.tail _ (.tail _ (.tail _ (.tail _ (C4 _ (.head _))))))))))) trivial rfl (by simp [Key.cells,Value.oneCell']) rfl) (by omega) (by omega) (Nat.zero_le _) fun a74 agl lB TW V TX agm=>?_;have fJ:=E.p6.eU V TW TX;refine⟨V.size,_,rfl,_,_,_,fJ,aw.k4<|aw.k4<|aw.nil,ai.k4 M1 M2 M3 M4<|ai.cons M5<|ai.cons M6<|ai.cons M7<|ai.nil,?_⟩;refine(jm) ?_;intro oh Ir W;simp only [CM,NM,CA,NA,hK.it] at W;refine bO ?_;refine WL.s1 W.p6 fun sg _ eb=>?_;refine WL.nil (EX.np ?_);refine eD ?_;have X:=eb.p7.p5;have dI:=St.zh (q:=⟨u,d,h,i⟩) (r:=(bL ⟨rev,aD,l⟩ f.key value f.reads)) (l':=eu l (bL ⟨rev,aD,l⟩ f.key value f.reads)) X (As.gr X.g6) h4 (cU l (bL ⟨rev,aD,l⟩ f.key value f.reads));refine(bA) ?_;exact⟨⟨u,d,h,i⟩,_,_,_,_,rfl,hZc,dI.p2.drop.p4.drop.p4.drop.p3.p2⟩
set_option maxHeartbeats 400000
theorem Dd{L:List (bq × eC)}{A:eC}(u:St w M Z w [As.map Key.val S.m ml,As.map Key.val S.q [],As.blk wb 86 (D.wc S.s rev ra rn rc),As.map Key.val D.m eL,As.gw 47 lf l,As.os RR.iq 126 6 al nl el (L++[(f,A)])]) (I:(S.FV prog aa x0).p Z w) (J:Rd RR.aD 4 Z w D.a1 D.n1 D.c1 x0.ab) (hm:aV aa x0.ab ml) (y:dy l lf eL) (V:aq aa) (W:∀k,(valOf aa x0.ab k).size≤1000) (X:KR aa l) (Y:L.length≤1000) (z:f.running=false) (g:aB l f.key=none):Calls prog 73 #[.pointer (some ⟨wb,0,none⟩),.slice al nl el,.func (.func 34) #[] #[]] w fun e w'=>∃(l':List Rec) (L':List (bq × eC)) (d:Bool) (C:Int) (a:Option Addr) (n c:Nat) (j:List (Key × Value)),e=.returned (.tuple #[.slice a n c,.bool d,.int .i64 C])∧FT aa (valOf aa x0.ab) ⟨rev,x0.ab,l⟩ L f A ⟨rev,x0.ab,l'⟩ L' [] C∧dy l' lf eL∧aV aa x0.ab j∧fW ml j∧St w M Z w' [As.map Key.val S.m j,As.map Key.val S.q [],As.blk wb 86 (D.wc S.s rev ra rn rc),As.map Key.val D.m eL,As.gw 47 lf l',As.os RR.iq 126 6 a n c L']:=by
 have K:=(As.gs u.g5).len;rw [List.length_append,List.length_singleton] at K
 have ZA:((L++[(f,A)]).map Prod.fst)=L.map Prod.fst++[f]:=by simp
 refine enter func73 rfl ntmps73 rfl<|?_;have aQ:=u;have st1:=aQ.fr J;have st2:=st1.fact (B:=As.fz (S.FV prog aa x0)) I (fun _ N=>N);refine gK ?_;obtain⟨gJ,b⟩:=Ow.addr (As.gs st2.g7) (bG L (f,A));refine ck ?_;refine WP .r ((PV.sub rfl rfl (by omega) (by omega)).cast (v':=.int .i64 (L.length:Int)) (congrArg (Value.int .i64) (by omega)))<|WP .r (PV.dV mM (i:=L.length) b rfl rfl (by omega))<|ck ?_;have U6:=st2.bQ;refine WC.dS (m:=8) st2 mixed<|(iD) fT St.g4<|cm ?_;refine DP .r (fun _ O=>PV.wA ao (Ow.jD (As.gs O.2.g7) (by rw [List.length_append,List.length_singleton];omega) b (bG L (f,A))) rfl rfl)<|(cS)<|?_;rintro w1 ⟨oz,o⟩ _;refine WP .r (PV.jJ db fU ff (As.gm o.g5) (y.no g) rfl rfl)<|fH ?_;have DU:=o.bQ;refine WC.dS (m:=12) o mixed<|cm ?_;refine DW.cq (t:=35) rfl (fun E=>?_) (fun E=>?_)
 ·
  exact dr E
 ·
  refine(cS) ?_;rintro w2 ⟨pI,F⟩ _;refine dd ?_;refine WC.fX rfl<|dd ?_;refine WL.cq (t:=55) rfl (fun G=>?_) (fun G=>?_)
  ·
   refine gK ?_;refine WC.oD rfl<|fH ?_;refine WL.go rfl (OX.AR (f:=2) Pn (As.gs F.g7) b (by omega) rfl rfl rfl ((({f with running:=true}:bq),A):bq × eC) (fun r h=>by rw [RR.ba h];rfl) fun w3 P Q=>?_);have H:=F.p7.eU P Q (fun x h=>.inl h);refine bO ?_;refine WL.go rfl (OX.AR (f:=3) G1 (As.gs H.g0) b (by omega) rfl rfl rfl ((({f with running:=true,at_:=0}:bq),A):bq × eC) (fun r h=>by rw [RR.ba h];rfl) fun w4 R T=>?_);have U:=H.eU R T (fun x h=>.inl h);refine aW ?_;refine nx ?_;refine EX.et rfl (RS.tmp rfl<|RS.tmp rfl<|RS.tmp rfl<|RS.nil) rfl<|?_;exact⟨l,L++[(({f with running:=true,at_:=0}:bq),A)],true,0,_,_,_,ml,rfl,FT.same (FS.start z (by unfold az;simp only [g];rfl) (.inl g)) (fun e=>by have:=congrArg bq.running e;rw [z] at this;cases this) rfl rfl,y,hm,fW.refl _,U.p1.drop.p1.drop.p5.p5.p5.p5.p5⟩
  exact dr G
 -- pG gT C32 C52
theorem De{L:List (bq × eC)}{A:eC}(u:St w M Z w [As.map Key.val S.m ml,As.map Key.val S.q [],As.blk wb 86 (D.wc S.s rev ra rn rc),As.map Key.val D.m eL,As.gw 47 lf l,As.os RR.iq 126 6 al nl el (L++[(f,A)])]) (G:(S.FV prog aa x0).p Z w) (H:Rd RR.aD 4 Z w D.a1 D.n1 D.c1 x0.ab) (hm:aV aa x0.ab ml) (x:dy l lf eL) (P:aq aa) (Q:∀k,(valOf aa x0.ab k).size≤1000) (R:KR aa l) (T:L.length≤1000) {r:Rec}(I:f.running=false) (g:aB l f.key=some r) (y:r.av=rev):Calls prog 73 #[.pointer (some ⟨wb,0,none⟩),.slice al nl el,.func (.func 34) #[] #[]] w fun e w'=>∃(l':List Rec) (L':List (bq × eC)) (d:Bool) (z:Int) (a:Option Addr) (n c:Nat) (h:List (Key × Value)),e=.returned (.tuple #[.slice a n c,.bool d,.int .i64 z])∧FT aa (valOf aa x0.ab) ⟨rev,x0.ab,l⟩ L f A ⟨rev,x0.ab,l'⟩ L' [] z∧dy l' lf eL∧aV aa x0.ab h∧fW ml h∧St w M Z w' [As.map Key.val S.m h,As.map Key.val S.q [],As.blk wb 86 (D.wc S.s rev ra rn rc),As.map Key.val D.m eL,As.gw 47 lf l',As.os RR.iq 126 6 a n c L']:=by
 have J:=(As.gs u.g5).len;rw [List.length_append,List.length_singleton] at J
 have U:((L++[(f,A)]).map Prod.fst)=L.map Prod.fst++[f]:=by simp
 refine enter func73 rfl ntmps73 rfl<|?_;have aQ:=u;have st1:=aQ.fr H;have st2:=st1.fact (B:=As.fz (S.FV prog aa x0)) G (fun _ K=>K);refine gK ?_;obtain⟨V,C⟩:=Ow.addr (As.gs st2.g7) (bG L (f,A));refine ck ?_;refine WP .r ((PV.sub rfl rfl (by omega) (by omega)).cast (v':=.int .i64 (L.length:Int)) (congrArg (Value.int .i64) (by omega)))<|WP .r (PV.dV mM (i:=L.length) C rfl rfl (by omega))<|ck ?_;have W:=st2.bQ;refine WC.dS (m:=8) st2 mixed<|(iD) fT St.g4<|cm ?_;refine DP .r (fun _ b=>PV.wA ao (Ow.jD (As.gs b.2.g7) (by rw [List.length_append,List.length_singleton];omega) C (bG L (f,A))) rfl rfl)<|(cS)<|?_;rintro w1 ⟨X,o⟩ _;refine WP .r (PV.bH db fU ff (As.gm o.g5) (x.yes g) rfl rfl)<|fH ?_;have Y:=o.bQ;refine WC.dS (m:=12) o mixed<|cm ?_;refine DW.cq (t:=35) rfl (fun E=>?_) (fun E=>?_)
 ·
  refine cm ?_;refine DP .r (fun _ b=>V1 aO (bR.range ((As.sS b.2.g6).1 _ _ g).1) .r)<|ck ?_;refine DP .r (fun _ b=>PV.ld1 (j:=1) aO (bR.range (As.gb b.2.g4)) rfl rfl)<|(cS)<|?_;rintro w2 ⟨pI,F⟩ _;refine WP .r ((PV.OT rfl rfl).cast (v':=.bool true) (congrArg Value.bool (decide_eq_true y)))<|ck ?_;refine WC.oD rfl<|dd ?_;refine WP .r ((PV.sub rfl rfl (by omega) (by omega)).cast (v':=.int .i64 (L.length:Int)) (congrArg (Value.int .i64) (by omega)))<|WP .r (PV.mX mM (i:=L.length) (Ow.rd (As.gs F.g7) (by rw [List.length_append,List.length_singleton];omega)) rfl rfl (by omega))<|gK ?_;have N:=F.p7;have O:=St.Rq N;refine EX.et rfl (RS.tmp rfl<|RS.tmp rfl<|RS.tmp rfl<|RS.nil) rfl<|?_;exact⟨l,L,true,0,_,_,_,ml,rfl,FT.pop (FS.up I (aT.2 ⟨r,g,y⟩)),x,hm,fW.refl _,O.p1.drop.p1.drop.p5.p5.p5.p5.p5⟩
 ·
  exact dr E
 -- pG gT C32
theorem Df{L:List (bq × eC)}{A:eC}(C:St w M Z w [As.map Key.val S.m ml,As.map Key.val S.q [],As.blk wb 86 (D.wc S.s rev ra rn rc),As.map Key.val D.m eL,As.gw 47 lf l,As.os RR.iq 126 6 al nl el (L++[(f,A)])]) (O:(S.FV prog aa x0).p Z w) (P:Rd RR.aD 4 Z w D.a1 D.n1 D.c1 x0.ab) (hm:aV aa x0.ab ml) (E:dy l lf eL) (hR:aq aa) (hS:∀k,(valOf aa x0.ab k).size≤1000) (CE:KR aa l) (hL6:L.length≤1000) {r:Rec}(F:f.running=false) (b:aB l f.key=some r) (G:¬r.av=rev) (Q:r.bp=true):Calls prog 73 #[.pointer (some ⟨wb,0,none⟩),.slice al nl el,.func (.func 34) #[] #[]] w fun e w'=>∃(l':List Rec) (L':List (bq × eC)) (d:Bool) (H:Int) (a:Option Addr) (n c:Nat) (u:List (Key × Value)),e=.returned (.tuple #[.slice a n c,.bool d,.int .i64 H])∧FT aa (valOf aa x0.ab) ⟨rev,x0.ab,l⟩ L f A ⟨rev,x0.ab,l'⟩ L' [] H∧dy l' lf eL∧aV aa x0.ab u∧fW ml u∧St w M Z w' [As.map Key.val S.m u,As.map Key.val S.q [],As.blk wb 86 (D.wc S.s rev ra rn rc),As.map Key.val D.m eL,As.gw 47 lf l',As.os RR.iq 126 6 a n c L']:=by
 have R:=(As.gs C.g5).len;rw [List.length_append,List.length_singleton] at R
 have ZA:((L++[(f,A)]).map Prod.fst)=L.map Prod.fst++[f]:=by simp
 refine enter func73 rfl ntmps73 rfl<|?_;have aQ:=C;have st1:=aQ.fr P;have st2:=st1.fact (B:=As.fz (S.FV prog aa x0)) O (fun _ T=>T);refine gK ?_;obtain⟨gJ,o⟩:=Ow.addr (As.gs st2.g7) (bG L (f,A));refine ck ?_;refine WP .r ((PV.sub rfl rfl (by omega) (by omega)).cast (v':=.int .i64 (L.length:Int)) (congrArg (Value.int .i64) (by omega)))<|WP .r (PV.dV mM (i:=L.length) o rfl rfl (by omega))<|ck ?_;have U6:=st2.bQ;refine WC.dS (m:=8) st2 mixed<|(iD) fT St.g4<|cm ?_;refine DP .r (fun _ g=>PV.wA ao (Ow.jD (As.gs g.2.g7) (by rw [List.length_append,List.length_singleton];omega) o (bG L (f,A))) rfl rfl)<|(cS)<|?_;rintro w1 ⟨oz,y⟩ _;refine WP .r (PV.bH db fU ff (As.gm y.g5) (E.yes b) rfl rfl)<|fH ?_;have DU:=y.bQ;refine WC.dS (m:=12) y mixed<|cm ?_;refine DW.cq (t:=35) rfl (fun I=>?_) (fun I=>?_)
 ·
  refine cm ?_;refine DP .r (fun _ g=>V1 aO (bR.range ((As.sS g.2.g6).1 _ _ b).1) .r)<|ck ?_;refine DP .r (fun _ g=>PV.ld1 (j:=1) aO (bR.range (As.gb g.2.g4)) rfl rfl)<|(cS)<|?_;rintro w2 ⟨pI,z⟩ _;refine WP .r ((PV.OT rfl rfl).cast (v':=.bool false) (congrArg Value.bool (decide_eq_false G)))<|ck ?_;refine WC.fX rfl<|dd ?_;refine WL.cq (t:=55) rfl (fun J=>?_) (fun J=>?_)
  ·
   exact dr J
  refine(aZ) dA (bR.range ((As.sS z.g6).1 _ _ b).1)<|(aS) (fun K=>?_) fun K=>?_
  ·
   refine fH ?_;refine WL.go rfl (OX.AR (f:=2) Pn (As.gs z.g7) o (by omega) rfl rfl rfl ((({f with running:=true}:bq),A):bq × eC) (fun r h=>by rw [RR.ba h];rfl) fun w3 U V=>?_);have N:=z.p7.eU U V (fun x h=>.inl h);refine bO ?_;refine WL.go rfl (OX.AR (f:=3) G1 (As.gs N.g0) o (by omega) rfl rfl rfl ((({f with running:=true,at_:=0}:bq),A):bq × eC) (fun r h=>by rw [RR.ba h];rfl) fun w4 W X=>?_);have Y:=N.eU W X (fun x h=>.inl h);refine aW ?_;refine nx ?_;refine EX.et rfl (RS.tmp rfl<|RS.tmp rfl<|RS.tmp rfl<|RS.nil) rfl<|?_;exact⟨l,L++[(({f with running:=true,at_:=0}:bq),A)],true,0,_,_,_,ml,rfl,FT.same (FS.start F (by rw [Bool.eq_false_iff];intro h;obtain⟨q,h1,h2⟩:=aT.1 h;have h1:aB l f.key=some q:=h1;rw [b] at h1;cases h1;exact G h2) (.inr (by rw [show cz.ah ⟨rev,x0.ab,l⟩=l from rfl,aK b];exact Q))) (fun e=>by have:=congrArg bq.running e;rw [F] at this;cases this) rfl rfl,E,hm,fW.refl _,Y.p1.drop.p1.drop.p5.p5.p5.p5.p5⟩
  exact dr K
 ·
  exact dr I
 -- pG gT C32
set_option maxHeartbeats 4000000 in
theorem Dg{L:List (bq × eC)}{A:eC}(gp:St w M Z w [As.map Key.val S.m ml,As.map Key.val S.q [],As.blk wb 86 (D.wc S.s rev ra rn rc),As.map Key.val D.m eL,As.gw 47 lf l,As.os RR.iq 126 6 al nl el (L++[(f,A)])]) (hf:(S.FV prog aa x0).p Z w) (OH:Rd RR.aD 4 Z w D.a1 D.n1 D.c1 x0.ab) (hm:aV aa x0.ab ml) (b:dy l lf eL) (hR:aq aa) (hS:∀k,(valOf aa x0.ab k).size≤1000) (X:KR aa l) (hL6:L.length≤1000) {r:Rec}(U:f.running=false) (V:aB l f.key=some r) (hv:r.av<rev) (hd:r.bp=false) (h6:l.length≤4000) (Vb:∀r∈l,r.reads.length≤4000) (L5:0≤f.at_):Calls prog 73 #[.pointer (some ⟨wb,0,none⟩),.slice al nl el,.func (.func 34) #[] #[]] w fun e w'=>∃(l':List Rec) (L':List (bq × eC)) (d:Bool) (er:Int) (a:Option Addr) (n c:Nat) (mR:List (Key × Value)),e=.returned (.tuple #[.slice a n c,.bool d,.int .i64 er])∧FT aa (valOf aa x0.ab) ⟨rev,x0.ab,l⟩ L f A ⟨rev,x0.ab,l'⟩ L' [] er∧dy l' lf eL∧aV aa x0.ab mR∧fW ml mR∧St w M Z w' [As.map Key.val S.m mR,As.map Key.val S.q [],As.blk wb 86 (D.wc S.s rev ra rn rc),As.map Key.val D.m eL,As.gw 47 lf l',As.os RR.iq 126 6 a n c L']:=by
 have IJ:=(As.gs gp.g5).len;rw [List.length_append,List.length_singleton] at IJ
 have ZA:((L++[(f,A)]).map Prod.fst)=L.map Prod.fst++[f]:=by simp
 have ig:=GN (rev:=rev) V
 have LY:(aA l rev f.key).length≤4001:=by have:=ko l rev f.key;omega
 have hcb:=HI Vb LY
 have Hf:(bB l (aA l rev f.key)).length≤100000000:=by have:=hcb (aA l rev f.key).length;rw [List.take_of_length_le (Nat.le_refl _)] at this;exact this
 have Y:Live l rev f.key:=⟨r,V,hd,hv⟩
 have ru:cY f.key:=by have h1:=aL V;rw [← h1.2];exact(X r h1.1).1.cY
 refine enter func73 rfl ntmps73 rfl<|?_;have aQ:=gp;have st1:=aQ.fr OH;have st2:=st1.fact (B:=As.fz (S.FV prog aa x0)) hf (fun _ hx=>hx);refine gK ?_;obtain⟨gJ,E⟩:=Ow.addr (As.gs st2.g7) (bG L (f,A));refine ck ?_;refine WP .r ((PV.sub rfl rfl (by omega) (by omega)).cast (v':=.int .i64 (L.length:Int)) (congrArg (Value.int .i64) (by omega)))<|WP .r (PV.dV mM (i:=L.length) E rfl rfl (by omega))<|ck ?_;have U6:=st2.bQ;refine WC.dS (m:=8) st2 mixed<|(iD) fT St.g4<|cm ?_;refine DP .r (fun _ hC=>PV.wA ao (Ow.jD (As.gs hC.2.g7) (by rw [List.length_append,List.length_singleton];omega) E (bG L (f,A))) rfl rfl)<|(cS)<|?_;rintro w1 ⟨oz,ir⟩ _;refine WP .r (PV.bH db fU ff (As.gm ir.g5) (b.yes V) rfl rfl)<|fH ?_;have DU:=ir.bQ;refine WC.dS (m:=12) ir mixed<|cm ?_;refine DW.cq (t:=35) rfl (fun g35=>?_) (fun g35=>?_)
 ·
  refine cm ?_;refine DP .r (fun _ hC=>V1 aO (bR.range ((As.sS hC.2.g6).1 _ _ V).1) .r)<|ck ?_;refine DP .r (fun _ hC=>PV.ld1 (j:=1) aO (bR.range (As.gb hC.2.g4)) rfl rfl)<|(cS)<|?_;rintro w2 ⟨pI,hJ⟩ _;refine WP .r ((PV.OT rfl rfl).cast (v':=.bool false) (congrArg Value.bool (decide_eq_false (show ¬r.av=rev by omega))))<|ck ?_;refine WC.fX rfl<|dd ?_;refine WL.cq (t:=55) rfl (fun Qc=>?_) (fun Qc=>?_)
  ·
   exact dr Qc
  refine(aZ) dA (bR.range ((As.sS hJ.g6).1 _ _ V).1)<|(aS) (fun g52=>?_) fun g52=>?_
  ·
   exact dr g52
  refine(ia) ao (Ow.jD (As.gs hJ.g7) (by rw [List.length_append,List.length_singleton];omega) E (bG L (f,A)))<|?_;have iY:=hJ;refine(bY) Xw (xf (k:=f.key) iY.e0 (As.gb iY.g4) (As.gm iY.g5) b (As.sS iY.g6) X.acY h6 Vb) ?_;rintro _ w3 ⟨u1,O,u3,rfl,ky⟩;have hM:=St.lr iY ky;have OD:=((As.gs hM.g0)).len;refine eD ?_;have W:=hM;refine(bY) Xx (vW W.e0 (As.gb W.g5) (As.gm W.g6) b (As.sS W.g7) (Ow.rd (As.gs W.g0) (by omega)) ig hcb) ?_;rintro _ w4 ⟨o1,o2,o3,rfl,oy⟩;have R:=St.lr W oy;have hcn:=((As.gs R.g0)).len;refine(aZ) aO (Ow.jD (As.gs R.g9) (by rw [List.length_append,List.length_singleton];omega) E (bG L (f,A)))<|(aS) (fun Vc=>?_) fun Vc=>?_
  ·
   simp at Vc
   have Lm:(bB l (aA l rev f.key)).length≤f.at_.toNat:=by omega
   refine kU ?_;have iF:=R.p8.rH (B:=As.gw 47 lf (l.map (aY rev ((aA l rev f.key).take 0) false))) (by rw [u5]);refine WC.bm (σ:=Nat) (dn:=fun i=>[(0,.pointer (some ⟨wb,0,none⟩)),(1,.slice al nl el),(84,.slice u1 O u3),(85,.int .i64 (O:Int)),(86,.int .i64 (i:Int))]) (F:=fun i=>[As.gw 47 lf (l.map (aY rev ((aA l rev f.key).take i) false))]) (I:=fun i=>(i≤O)∧True) (μ:=fun i=>O - i) (0) (iF) Sub.t (⟨Nat.zero_le _,trivial⟩)<|?_;rintro i w5 z ⟨hi,_⟩;simp only [CA,NA] at z hi ⊢;refine(aS) (fun FU=>?_) fun FU=>?_
   ·
    simp at FU
    have J:i<(aA l rev f.key).length:=by omega
    refine dd ?_;obtain⟨akz,Ln⟩:=Ow.addr (As.gs z.g2) (ak J);refine nx ?_;refine WP .r (PV.dV ey Ln rfl rfl (by omega))<|(aX) ao (Ow.jD (As.gs z.g2) (by omega) Ln (ak J))<|(eT) z fun b14 w6 YN OI G=>?_;refine(cI) gR G fun w7 jW ka o=>?_;refine bO ?_;obtain⟨r1,O9⟩:=ig _ (List.getElem_mem J);obtain⟨r2,K,GL⟩:=u6 (rev:=rev) (g:=(aA l rev f.key).take i) (d:=false) ⟨r1,O9⟩;have IU:=(((As.sS o.g1)).1 _ _ K).2.2;have C:=o.fact (As.My (((((As.sS o.g1)).1 _ _ K).2.1))) (fun _ hx=>hx);have cW:=C.p2;have ed:=St.J1 cW K;refine WC.bM (m:=11) [] [] [0,1,2,3,4,5,6,7,8,9,10] [] ed (ai.k4 M0 M1 M2 M3<|ai.k4 M4 M5 M6 M7<|ai.k4 M8 M9 hP iJ<|ai.cons kB<|ai.nil) mixed (by kernel_rfl) (by kernel_rfl) rfl<|?_
    iterate 3 refine DG.a ?_
    refine(oo) fT SV.g10<|(kW) ao SV.g3<|?_;refine DQ .r (fun wx Zx Rx _ oA yw=>PV.bH db fU ff (As.gm (oA.sv yw).g11) (b.yes O9) rfl rfl)<|?_
    iterate 4 refine DG.a ?_
    refine DQ .r (fun wx Zx Rx _ oA yw=>PV.ld1 (j:=1) aO (bR.range (As.gb (oA.sv yw).g10)) rfl rfl)<|(jm)<|?_;intro w8 Qd P;simp only [CM,NM,CA,NA,hK.it] at P;refine bO ?_;refine WL.s1 P fun w9 _ H=>?_;refine WL.nil (EX.np ?_);have Q:=H.p1.p1;have dH:=St.GQ (r':={r2 with av:=rev}) (l':=l.map (aY rev ((aA l rev f.key).take (i+1)) false)) Q GL (As.gr Q.g2) IU (fun y=>by simpa using sT J false K y);have dI:=dH.p1.drop;refine fH ?_;refine ez (i+1) ⟨dI.p1.drop,⟨by omega,trivial⟩⟩
   simp at FU
   have IL:(aA l rev f.key).take i=(aA l rev f.key):=List.take_of_length_le (by omega);have G:=z.rH (B:=As.gw 47 lf (l.map (aY rev (aA l rev f.key) false))) (by rw [IL]);refine i7 ?_;refine WP .r ((PV.sub rfl rfl (by omega) (by omega)).cast (v':=.int .i64 (L.length:Int)) (congrArg (Value.int .i64) (by omega)))<|WP .r (PV.mX mM (i:=L.length) (Ow.rd (As.gs G.g9) (by rw [List.length_append,List.length_singleton];omega)) rfl rfl (by omega))<|eD ?_;have o:=G.p9;have C:=St.Rq o;refine EX.et rfl (RS.tmp rfl<|RS.tmp rfl<|RS.tmp rfl<|RS.nil) rfl<|?_;exact⟨l.map (aY rev (aA l rev f.key) false),L,true,0,_,_,_,ml,rfl,FT.pop (FS.mark U Y Lm),b.mark _ _ _,hm,fW.refl _,C.p2.drop.p2.drop.p2.drop.p2.drop.p1.p5.p5.p5.p5⟩
  simp at Vc
  obtain⟨ch,T⟩:∃ch,(bB l (aA l rev f.key))[f.at_.toNat]?=some ch:=⟨_,ak (by omega)⟩;obtain⟨Ih,ZB,_⟩:=dj.1 (List.mem_of_getElem? T);obtain⟨rm,hrm⟩:=ig _ Ih;rw [aK hrm] at ZB;have hkc:=(X rm (aL hrm).1).2.2 _ ZB;have zL:0≤(f,A).fst.at_∧(f,A).fst.at_≤100000000:=⟨L5,by show f.at_≤_;omega⟩;refine cm ?_;obtain⟨ZC,vX⟩:=Ow.addr (As.gs R.g0) T;refine(aZ) aO (Ow.jD (As.gs R.g9) (by rw [List.length_append,List.length_singleton];omega) E (bG L (f,A)))<|?_;refine WP .r (PV.D3 G0 (f.at_.toNat) vX rfl rfl (by show f.at_=_;omega) (by omega))<|(aX) zw (Ow.jD (As.gs R.g0) (by omega) vX T)<|(eT) R fun b15 w5 aeX aeY iF=>?_;refine(cI) Kx iF fun w6 ry mu z=>?_;refine(ia) ao z.b0<|nx ?_;refine WL.c1 (u:=.int .i64 (bH ⟨rev,x0.ab,l⟩ (L.map Prod.fst++[f]) [] ch.read)) (nO (aD:=x0.ab) (As.gb z.g7) (As.gm z.g8) b (As.sS z.g9) X (Ow.rd (As.gs z.g10) (by rw [List.length_append,List.length_singleton];omega)) hkc.cY) (by rw [ZA]) z fun w7 s7 G=>?_;refine(aS) (fun F3=>?_) fun F3=>?_
  ·
   have uX:bH ⟨rev,x0.ab,l⟩ (L.map Prod.fst++[f]) [] ch.read=3:=by simpa using F3
   refine kg ?_;refine EX.et rfl (RS.tmp rfl<|RS.tmp rfl<|RS.tmp rfl<|RS.nil) rfl<|?_;exact⟨l,(L++[(f,A)]),false,43,_,_,_,ml,rfl,FT.err (FS.MT ch U Y T uX) (by decide),b,hm,fW.refl _,G.drop.drop.drop.drop.drop⟩
  have uX:bH ⟨rev,x0.ab,l⟩ (L.map Prod.fst++[f]) [] ch.read≠3:=by simpa using F3
  refine(aS) (fun ZD=>?_) fun ZD=>?_
  ·
   exact absurd (by simpa using ZD) (ya (x:=⟨rev,x0.ab,l⟩) (l:=(L.map Prod.fst++[f])) (k:=ch.read))
  skip
  refine(aS) (fun TY=>?_) fun TY=>?_
  ·
   have DO:bH ⟨rev,x0.ab,l⟩ (L.map Prod.fst++[f]) [] ch.read=1:=by simpa using TY
   refine(ia) ao G.b0<|?_;have o:=G.kD;refine(bY) Sq (nP (k:=ch.read) o.e1 (by rw [List.length_append,List.length_singleton];omega)) ?_;rintro _ w8 ⟨p1,p2,p3,rfl,kG⟩;have C:=St.lr o kG;refine gK ?_;refine EX.et rfl (RS.tmp rfl<|RS.tmp rfl<|RS.tmp rfl<|RS.nil) rfl<|?_;exact⟨l,_,true,0,_,_,_,ml,rfl,FT.push (FS.uW ch U Y T DO),b,hm,fW.refl _,C.p1.drop.p1.drop.p1.drop.p1.drop.p1.drop.p5.p5.p5.p5.p5⟩
  have DO:bH ⟨rev,x0.ab,l⟩ (L.map Prod.fst++[f]) [] ch.read≠1:=by simpa using TY
  refine(aX) zw G.b0<|?_;have o:=G.p9.p9.p9.p9.p9;refine(bY) Xy (Ai (c:=ch) o.e5 (As.gf o.g8) (As.gr o.g9) hm b hR hS hkc X hrm) ?_;rintro _ w8 ⟨iR,rfl,Il,tK,kG⟩;have C:=St.lr o kG;refine(aS) (fun TZ=>?_) fun TZ=>?_
  ·
   have hdf:AX (valOf aa x0.ab) ⟨rev,x0.ab,l⟩ ch=false:=by simpa using TZ
   refine(aZ) aO (Ow.jD (As.gs C.g10) (by rw [List.length_append,List.length_singleton];omega) E (bG L (f,A)))<|cm ?_;refine WL.go rfl (OX.AR (f:=3) G1 (As.gs C.g10) E (by omega) rfl rfl rfl ((({f with at_:=f.at_+1}:bq),A):bq × eC) (fun r h=>by rw [RR.ba h];rfl) fun w9 s40 T0=>?_);have cW:=C.kD.eU s40 T0 (fun x h=>.inl h);refine aW ?_;refine EX.et rfl (RS.tmp rfl<|RS.tmp rfl<|RS.tmp rfl<|RS.nil) rfl<|?_;exact⟨l,L++[(({f with at_:=f.at_+1}:bq),A)],true,0,_,_,_,iR,rfl,FT.same (FS.pass ch U Y T DO uX (HO hdf)) (fun e=>by have:=congrArg bq.at_ e;simp at this;omega) rfl rfl,b,Il,tK,cW.p6.drop.p6.drop.p6.drop.p6.drop.p6.drop.p5.p5.p5.p5.p5⟩
  have hdf:AX (valOf aa x0.ab) ⟨rev,x0.ab,l⟩ ch=true:=by simpa using TZ
  refine(ia) ao (Ow.jD (As.gs C.g10) (by rw [List.length_append,List.length_singleton];omega) E (bG L (f,A)))<|?_;refine WL.c1 (u:=.bool (ax f.key)) (fF (k:=f.key) ru) (by rw [B5 ru]) C fun w9 s9 cW=>?_;refine bO ?_;have ed:=cW.p4;refine WC.jx (σ:=(List Rec)) [_] (fun N=>[(1,.slice al nl el),(9,.pointer (some ⟨gJ,0+L.length*6,none⟩))]) (fun N=>[As.gw 47 lf N]) (fun N=>(N=if ax f.key=true then l.map (aY rev (aA l rev f.key) true) else l)∧True) ed ?_ ?_
  ·
   refine(aS) (fun T1=>?_) fun T1=>?_
   ·
    refine gK ?_;have P:=ed.rH (B:=As.gw 47 lf (l.map (aY rev ((aA l rev f.key).take 0) true))) (by rw [u5]);refine WC.bm (σ:=Nat) (dn:=fun i=>[(0,.pointer (some ⟨wb,0,none⟩)),(1,.slice al nl el),(9,.pointer (some ⟨gJ,0+L.length*6,none⟩)),(151,.slice u1 O u3),(152,.int .i64 (O:Int)),(153,.int .i64 (i:Int))]) (F:=fun i=>[As.gw 47 lf (l.map (aY rev ((aA l rev f.key).take i) true))]) (I:=fun i=>(i≤O)∧True) (μ:=fun i=>O - i) (0) (P) Sub.t (⟨Nat.zero_le _,trivial⟩)<|?_;rintro i iP H ⟨hi,_⟩;simp only [CA,NA] at H hi ⊢;refine(aS) (fun T2=>?_) fun T2=>?_
    ·
     simp at T2
     have J:i<(aA l rev f.key).length:=by omega
     refine dd ?_;obtain⟨agr,G9⟩:=Ow.addr (As.gs H.g7) (ak J);refine nx ?_;refine WP .r (PV.dV ey G9 rfl rfl (by omega))<|(aX) ao (Ow.jD (As.gs H.g7) (by omega) G9 (ak J))<|(eT) H fun Tl iW Ox K7 Q=>?_;refine(cI) gR Q fun lB zH tR dH=>?_;refine bO ?_;obtain⟨r1,O9⟩:=ig _ (List.getElem_mem J);obtain⟨r2,K,GL⟩:=u6 (rev:=rev) (g:=(aA l rev f.key).take i) (d:=true) ⟨r1,O9⟩;have IU:=(((As.sS dH.g1)).1 _ _ K).2.2;have dI:=dH.fact (As.My (((((As.sS dH.g1)).1 _ _ K).2.1))) (fun _ hx=>hx);have fb:=dI.p2;have dN:=St.J1 fb K;refine WC.bM (m:=5) [] [] [0,1,2,3,4] [] dN (ai.k4 M0 M1 M2 M3<|ai.k4 M4 M5 M6 M7<|ai.k4 M8 M9 hP iJ<|ai.cons kB<|ai.cons oj<|ai.nil) mixed (by kernel_rfl) (by kernel_rfl) rfl<|?_
     iterate 3 refine DG.a ?_
     refine(oo) fT SV.g6<|(kW) ao SV.g3<|(jm)<|?_;intro oh akB eN;simp only [CM,NM,CA,NA,hK.it] at eN;refine WP .r (PV.bH db fU ff (As.gm eN.g7) (b.yes O9) rfl rfl)<|bO ?_;refine WL.s1 eN fun sg _ fh=>?_;refine WL.nil (EX.np ?_);have dQ:=fh.p1.p1;have eZ:=St.GQ (r':={r2 with bp:=true}) (l':=l.map (aY rev ((aA l rev f.key).take (i+1)) true)) dQ GL (As.gr dQ.g2) IU (fun y=>by simpa using sT J true K y);have dB:=eZ.p1.drop;refine fH ?_;refine ez (i+1) ⟨dB.p1.drop,⟨by omega,trivial⟩⟩
    simp at T2
    have IL:(aA l rev f.key).take i=(aA l rev f.key):=List.take_of_length_le (by omega);have Q:=H.rH (B:=As.gw 47 lf (l.map (aY rev (aA l rev f.key) true))) (by rw [IL]);refine ck ?_;exact mQ (l.map (aY rev (aA l rev f.key) true)) ⟨Q,⟨by rw [if_pos (by simpa using T1)],trivial⟩⟩
   refine nx ?_;exact mQ (l) ⟨ed,⟨by rw [if_neg (by simpa using T1)],trivial⟩⟩
  rintro N iP P ⟨Vd,_⟩;simp only [CA,NA] at P Vd ⊢;refine eD ?_;refine WL.go rfl (OX.AR (f:=2) Pn (As.gs P.g10) E (by omega) rfl rfl rfl ((({f with running:=true}:bq),A):bq × eC) (fun r h=>by rw [RR.ba h];rfl) fun iW T3 F4=>?_);have H:=P.kD.eU T3 F4 (fun x h=>.inl h);refine bO ?_;refine WL.go rfl (OX.AR (f:=3) G1 (As.gs H.g0) E (by omega) rfl rfl rfl ((({f with running:=true,at_:=0}:bq),A):bq × eC) (fun r h=>by rw [RR.ba h];rfl) fun lB Ix F5=>?_);have Q:=H.eU Ix F5 (fun x h=>.inl h);refine kg ?_
  have wN:(if ax f.key=true then cL ⟨rev,x0.ab,l⟩ (aA l rev f.key) true else ⟨rev,x0.ab,l⟩)=⟨rev,x0.ab,N⟩:=by rw [Vd];split <;> rfl
  have pJ:dy N lf eL:=by rw [Vd];split;exact b.mark _ _ _;exact b
  have QK:=FS.fail (aa:=aa) (p:=L.map Prod.fst) ch U Y T DO uX (J9 hdf);rw [show(if ax f.key=true then cL ⟨rev,x0.ab,l⟩ (aA (cz.ah ⟨rev,x0.ab,l⟩) (cz.ad ⟨rev,x0.ab,l⟩) f.key) true else ⟨rev,x0.ab,l⟩)=⟨rev,x0.ab,N⟩ from wN] at QK;refine EX.et rfl (RS.tmp rfl<|RS.tmp rfl<|RS.tmp rfl<|RS.nil) rfl<|?_;exact⟨N,L++[(({f with running:=true,at_:=0}:bq),A)],true,0,_,_,_,iR,rfl,FT.same QK (fun e=>by have:=congrArg bq.running e;rw [U] at this;cases this) rfl rfl,pJ,Il,tK,Q.p6.drop.p6.drop.p6.drop.p6.drop.p6.drop.p1.p5.p5.p5.p5⟩
 ·
  exact dr g35
 -- pG gT C32
theorem Aj{L:List (bq × eC)}{A:eC}(g:St w M Z w [As.map Key.val S.m ml,As.map Key.val S.q [],As.blk wb 86 (D.wc S.s rev ra rn rc),As.map Key.val D.m eL,As.gw 47 lf l,As.os RR.iq 126 6 al nl el (L++[(f,A)])]) (h:(S.FV prog aa x0).p Z w) (i:Rd RR.aD 4 Z w D.a1 D.n1 D.c1 x0.ab) (hm:aV aa x0.ab ml) (j:dy l lf eL) (o:aq aa) (t:∀k,(valOf aa x0.ab k).size≤1000) (u:KR aa l) (x:L.length≤1000) (y:f.running=false) (F:l.length≤4000) (G:∀r∈l,r.reads.length≤4000) (H:∀r∈l,r.av≤rev) (I:0≤f.at_):Calls prog 73 #[.pointer (some ⟨wb,0,none⟩),.slice al nl el,.func (.func 34) #[] #[]] w fun e w'=>∃(l':List Rec) (L':List (bq × eC)) (d:Bool) (B:Int) (a:Option Addr) (n c:Nat) (z:List (Key × Value)),e=.returned (.tuple #[.slice a n c,.bool d,.int .i64 B])∧FT aa (valOf aa x0.ab) ⟨rev,x0.ab,l⟩ L f A ⟨rev,x0.ab,l'⟩ L' [] B∧dy l' lf eL∧aV aa x0.ab z∧fW ml z∧St w M Z w' [As.map Key.val S.m z,As.map Key.val S.q [],As.blk wb 86 (D.wc S.s rev ra rn rc),As.map Key.val D.m eL,As.gw 47 lf l',As.os RR.iq 126 6 a n c L']:=by
 cases b:aB l f.key with
 | none=>exact Dd g h i hm j o t u x y b
 | some r=>
  by_cases C:r.av=rev
  ·
   exact De g h i hm j o t u x y b C
  cases E:r.bp with
  | true=>exact Df g h i hm j o t u x y b C E
  | false=>
   have:=H r (aL b).1
   exact Dg g h i hm j o t u x y b (by omega) E F G I
end Go.Rc

