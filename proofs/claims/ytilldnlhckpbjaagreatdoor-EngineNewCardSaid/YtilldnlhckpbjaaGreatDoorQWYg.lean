/- Walks over the program, part WYg. Conditions: as each theorem says. -/
import Derived.Test.YtilldnlhckpbjaaGreatDoorQFacts
import Derived.Test.YtilldnlhckpbjaaGreatDoorQWZr
import Derived.Test.YtilldnlhckpbjaaGreatDoorQWS
import Derived.Test.YtilldnlhckpbjaaGreatDoorQBg
set_option linter.all false
namespace Go.Rc
open Go Go.Proofs Go.Proofs.Tryz
variable {f:bZ}{cap:Value}{a ra al:Option Addr}{n c v rn rc wb nl el:Nat}{w:World}{Z M:Nat→Prop}{k:Key}{D:WD}{rev:Int}{aD:List bW}{aa:List aG}{ml dq:List (Key × Value)}{l:List Rec}{lf:Key→RL}{x0:cB}{S:SD}{bG:List Key}{value:ByteArray}
set_option maxHeartbeats 400000
theorem tf{l:List (bZ × fo)}{p:bZ × fo→Bool}{f:FuncId}(m:CF prog f) (hl:Rd RR.iN 6 Z w a n c l) (o:∀w1,aQ [] w w1→∀x∈l,Calls prog f #[.agg (bZ.xu x).toArray,cap] w1 fun e w'=>e=.returned (.bool (p x))∧aQ [] w1 w'):Calls prog 154 #[.slice a n c,.func (.func f) #[] #[cap]] w fun e w'=>∃j:Int,e=.returned (.int .i64 j)∧qO l p j∧aQ [] w w':=by
 have hlen:=hl.len;have hle:=hl.le;refine enter func154 rfl ntmps154 rfl<|?_;have aO:=St.s0 w;refine aT ?_;refine bM ?_;refine WC.bj (σ:=Nat) (db:=fun i=>[(0,.slice a n c),(1,.func (.func f) #[] #[cap]),(7,.int .i64 (n:Int)),(8,.int .i64 (i:Int))]) (F:=fun i=>[]) (I:=fun i=>(i≤n)∧(∀j x,j<i→l[j]?=some x→p x=false)∧True) (μ:=fun i=>n - i) (0) (aO) Sub.t (⟨by omega,fun j x h=>by omega,trivial⟩)<|?_;rintro i w1 st1 ⟨hi,b,_⟩;simp only [CA,NA] at st1 hi b ⊢;refine(aX) (fun g9=>?_) fun g9=>?_
 ·
  simp at g9
  have d:i<l.length:=by omega
  refine iM ?_;obtain⟨A,B,C,q,E,g,s,G⟩:=Rd.at hl d;have g:=RR.bt g;subst g;refine cw ?_;refine WP .r (PV.dR rh q rfl rfl (by omega))<|(bP) Eo (aV s (St.cg st1) (by simp))<|?_;refine WL.go rfl (OX.kG m rfl rfl rfl ((Calls.cap (o _ (St.cg st1) l[i] (List.getElem_mem d))).mono ?_));rintro _ w2 ⟨rfl,s2⟩;refine⟨_,rfl,?_⟩;have st2:=st1.step s2;refine(aX) (fun g16=>?_) fun g16=>?_
  ·
   refine(bB) ?_;exact⟨_,rfl,.inl ⟨i,_,ah d,g16,b,rfl⟩,(St.cg st2)⟩
  have g16:p l[i]=false:=by simpa using g16
  refine fb ?_;refine fx (i+1) ⟨st2,⟨by omega,cH d b (by simpa using g16),trivial⟩⟩
 simp at g9
 have u:∀x∈l,p x=false:=fun x y=>by obtain⟨j,z,rfl⟩:=List.getElem_of_mem y;exact b j _ (by omega) (ah z)
 refine(bB) ?_;exact⟨_,rfl,.inr ⟨u,rfl⟩,(St.cg st1)⟩
theorem oG{l:List (bZ × fo)}{p:bZ × fo→Bool}{f:FuncId}(b:CF prog f) (hl:Rd RR.iN 6 Z w a n c l) (d:∀w1,aQ [] w w1→∀x∈l,Calls prog f #[.agg (bZ.xu x).toArray,cap] w1 fun e w'=>e=.returned (.bool (p x))∧aQ [] w1 w'):CR prog 118 #[.slice a n c,.func (.func f) #[] #[cap]] w (.bool (l.any p)):=by
 refine enter func118 rfl ntmps118 rfl<|?_;have aO:=St.s0 w;refine(cJ) Qe (tf (w:=w) b (hl.ext (St.cg aO)) (fun w1 h1=>d w1 (aQ.trans (St.cg aO) h1))) ?_;rintro _ w1 ⟨j,rfl,g,s1⟩;have st1:=aO.step s1;have h:=g.any;refine(bB) ?_;exact⟨by rw [h],(St.cg st1)⟩
theorem vL{x:bZ × fo}{pb:Nat}(b:bJ w pb 43 k.cells):CR prog 119 #[.agg (bZ.xu x).toArray,.pointer (some ⟨pb,0,none⟩)] w (.bool (decide (x.1.key=k))):=by
 refine enter func119 rfl ntmps119 rfl<|?_;have aO:=St.s0 w;refine(dx) aO fun b2 w1 d e st1=>?_;refine(ko) ak st1.b0<|(bP) ak (bJ.range (b.ext (St.cg st1)))<|(bB) ?_;exact⟨rfl,(St.cg st1)⟩
theorem vM :CR prog 42 #[k.val] w (.bool false):=by
 refine enter func42 rfl ntmps42 rfl<|?_;have aO:=St.s0 w;refine(dx) aO fun b1 w1 b d st1=>?_;refine(bB) ?_;exact⟨rfl,(St.cg st1)⟩
theorem k8{L:List (bZ × fo)}{A:Nat→Prop}(g:bJ w wb 95 (D.wc v rev ra rn rc)) (hm:KM Key.val w D.m ml) (h:cQ l lf ml) (i:(As.eR 50 lf l).ok Z w) (j:KR aa l) (hl:Rd RR.iN 6 A w al nl el L) (e:cx k):CR prog 76 #[.pointer (some ⟨wb,0,none⟩),.slice al nl el,k.val,.func (.func 42) #[] #[]] w (.int .i64 (bF ⟨rev,aD,l⟩ (L.map Prod.fst) [] k)):=by
 refine enter func76 rfl ntmps76 rfl<|?_;have aO:=St.s0 w;refine(dx) aO fun o w1 y z st1=>?_;refine fj ?_;refine WP .r (PV.func (us:=[]) (vs:=[.pointer (some ⟨o,0,none⟩)]) rfl rfl)<|?_;refine WL.c1 (u:=.bool (fe (L.map Prod.fst) k)) (oG (p:=fun x=>decide (x.1.key=k)) PO (hl.ext (St.cg st1)) (fun w1 h1 x B=>vL (bJ.ext (As.gb st1.g0) h1))) (by rw [GR]) st1 fun w2 s2 st2=>?_;refine fj ?_;refine WC.eF (t:=13) (v:=.bool (fe (L.map Prod.fst) k && !ax k)) st2 ?_<|?_
 ·
  refine(cO) (fun g15=>?_) (fun g15=>?_)
  ·
   refine(bP) ak st2.b0<|?_;refine WL.c1 (u:=.bool (ax k)) (dY (k:=k) e) (by rw [xA e]) st2 fun w3 C b=>?_;exact(cp) (tG g15) (b)
  exact(cp) (tG g15) (st2)
 intro w3 b;refine(aX) (fun g13=>?_) fun g13=>?_
 ·
  refine(bB) ?_;exact⟨by rw [D4 g13],(St.cg b)⟩
 ·
  have g13:(fe (L.map Prod.fst) k && !ax k)=false:=by simpa using g13
  refine nx ?_;refine WC.eF (t:=20) (v:=.bool (fe (L.map Prod.fst) k || (aw k || az ⟨rev,aD,l⟩ k))) b ?_<|?_
  ·
   refine(cO) (fun g22=>?_) (fun g22=>?_)
   ·
    exact(cp) (tG g22) (b)
   refine(bP) ak b.b0<|(eY) (Av (aD:=aD) (g.ext (St.cg b)) (hm.ext (St.cg b)) h (As.Uf i (St.cg b)) j) b fun w4 E d=>?_;exact(cp) (tG g22) (d)
  intro w4 d;refine(aX) (fun g20=>?_) fun g20=>?_
  ·
   refine(bB) ?_;exact⟨by rw [D5 g13 g20],(St.cg d)⟩
  have g20:(fe (L.map Prod.fst) k || (aw k || az ⟨rev,aD,l⟩ k))=false:=by simpa using g20
  refine(bP) ak d.b0<|?_;refine WL.go rfl (OX.kG U9 rfl rfl rfl ((Calls.Ol (vM (k:=k))).mono ?_));rintro _ w5 ⟨rfl,q⟩;refine⟨_,rfl,?_⟩;have s:=d.step q;refine cw ?_;refine WC.lP rfl<|(bB) ?_;exact⟨by rw [D6 g13 g20],(St.cg s)⟩
 -- F G H
theorem k9{L:List (bZ × fo)}(b:St w M Z w [As.os RR.iN 131 6 al nl el L]) (i:L.length≤100000):Calls prog 77 #[.slice al nl el,k.val] w fun e w'=>∃(a:Option Addr) (n c:Nat),e=.returned (.slice a n c)∧St w M Z w' [As.os RR.iN 131 6 a n c (L++[((⟨k,false,0,[],[]⟩:bZ),(⟨none,0,0,none,0,0⟩:fo))])]:=by
 have j:=(As.gs b.g0).len;refine enter func77 rfl ntmps77 rfl<|?_;have aO:=b;refine(dx) aO fun b3 w1 m o st1=>?_;refine(bP) ak st1.b0<|?_;refine WP .r (PV.br (us:=((⟨k,false,0,[],[]⟩:bZ).row none 0 0 none 0 0)) O8 rfl rfl rfl)<|?_;refine WL.go rfl (OX.aS (us:=(bZ.xu ((⟨k,false,0,[],[]⟩:bZ),(⟨none,0,0,none,0,0⟩:fo)))) K2 rfl rfl rfl rfl fun p w2 d g=>?_);have st2:=st1.df d g;refine WL.ap rfl rfl st2.p2 (SR.dr (A:=fun _=>True) (x:=((⟨k,false,0,[],[]⟩:bZ),(⟨none,0,0,none,0,0⟩:fo))) (As.gb st2.g0) trivial rfl (bZ.one _ _ _ _ _ _ _) rfl) fun a9 q w3 s t h=>?_;refine(bB) ?_;exact⟨_,_,_,rfl,h.p1.drop.p1.drop⟩
theorem yn(h:St w M Z w []) (i:bJ w wb 95 (D.wc v rev ra rn rc)) (hm:KM Key.val w D.m ml) (j:cQ l lf ml) (o:(As.eR 50 lf l).ok Z w) (p:KR aa l) (q:cx k):Calls prog 41 #[.pointer (some ⟨wb,0,none⟩),k.val,.func (.func 42) #[] #[]] w fun e w'=>∃(a:Option Addr) (n c:Nat),e=.returned (.slice a n c)∧St w M Z w' [As.os RR.iN 131 6 a n c (if da ⟨rev,aD,l⟩ [] k=true then [((⟨k,false,0,[],[]⟩:bZ),(⟨none,0,0,none,0,0⟩:fo))] else [])]:=by
 refine enter func41 rfl ntmps41 rfl<|?_;have aO:=St.rb h;have st1:=aO.fV RR.iN 131 6;refine(dx) st1 fun b4 w1 z B st2=>?_;refine(bP) ak st2.b0<|nx ?_;refine WL.c1 (u:=.int .i64 (if da ⟨rev,aD,l⟩ [] k=true then 1 else 0)) (k8 (aD:=aD) (L:=[]) (A:=fun _=>True) (i.ext (St.cg st2)) (hm.ext (St.cg st2)) j (As.Uf o (St.cg st2)) p (Rd.nil _ _ _ _) q) (by rw [show bF ⟨rev,aD,l⟩ (List.map Prod.fst ([]:List (bZ × fo))) [] k=_ from Cj]) st2 fun w2 s2 b=>?_;refine(aX) (fun g11=>?_) fun g11=>?_
 ·
  have d:da ⟨rev,aD,l⟩ [] k=true:=by simpa using g11
  refine(bP) ak b.b0<|?_;have g:=b.p1;refine(cJ) Ln (k9 (k:=k) g.e1 (by simp)) ?_;rintro _ w3 ⟨r,s,t,rfl,x⟩;have y:=St.lr g x;refine(bB) ?_;exact⟨r,s,t,rfl,by rw [if_pos d];exact(St.wk y.p1.drop)⟩
 have d:¬da ⟨rev,aD,l⟩ [] k=true:=by simpa using g11
 refine(bB) ?_;exact⟨none,0,0,rfl,by rw [if_neg d];exact(St.wk b.drop)⟩
theorem yo{x:cB}{a1 a2:Option Addr}{n1 e1 n2 e2:Nat}(hi:Rd RR.aD 4 Z w a1 n1 e1 x.ab):CR prog 59 #[.agg (x.row a1 n1 e1 a2 n2 e2).toArray,k.val] w (.string (bf x.ab k).value):=by
 refine enter func59 rfl ntmps59 rfl<|?_;have aO:=St.s0 w;refine(dx) aO fun b2 w1 e g st1=>?_;refine(dx) st1 fun b3 w2 h i st2=>?_;refine(bP) cc st2.b1<|(bP) ak st2.b0<|(cJ) EN (j1 (k:=k) (hi.ext (St.cg st2))) ?_;rintro _ w3 ⟨y,rfl,hy,_,b⟩;have d:=st2.step b;refine WP .r (PV.uK (fs:=[_,_,_]) (f:=1) (off:=2) (T:=80) underlying80 rfl rfl (show ∀w,(isAgg 9).run _ w=.ok false w from isAgg9) rfl rfl)<|(bB) ?_;exact⟨by rw [← hy],(St.cg d)⟩
theorem yp(j:St w M Z w [As.map Key.val S.m ml,As.map Key.val S.q [],As.blk wb 95 (D.wc S.s rev ra rn rc),As.map Key.val D.m dq,As.eR 50 lf l]) (o:(S.FV prog aa x0).p Z w) (t:Rd RR.aD 4 Z w D.a1 D.n1 D.c1 x0.ab) (hm:aJ aa x0.ab ml) (A:cQ l lf dq) (C:ao aa) (E:∀k,(valOf aa x0.ab k).size≤1000) (dw:aw k=true):Calls prog 123 #[.pointer (some ⟨wb,0,none⟩),k.val] w fun e w'=>∃b,e=.returned (.string (cS (valOf aa x0.ab) ⟨rev,x0.ab,l⟩ k))∧aJ aa x0.ab b∧eE ml b∧St w M Z w' [As.map Key.val S.m b,As.map Key.val S.q [],As.blk wb 95 (D.wc S.s rev ra rn rc),As.map Key.val D.m dq,As.eR 50 lf l]:=by
 refine enter func123 rfl ntmps123 rfl<|?_;have aO:=j;have st1:=aO.fr t;have st2:=st1.fact (B:=As.fz (S.FV prog aa x0)) o (fun _ y=>y);refine(dx) st2 fun b3 w1 F G g=>?_;refine cw ?_;have H:=g.bL;refine WC.dS (m:=5) g mixed<|(gX) ey St.g5<|(gy) ak St.g0<|(cM)<|?_;rintro w2 ⟨I,d⟩ _;refine WP .r (PV.look cE eA dF (As.gm d.g6) rfl rfl)<|(bP) ak d.b0<|?_;refine WL.c1 (u:=.bool true) (bX (k:=k)) (by rw [dw]) d fun w3 J h=>?_;refine cv ?_;refine WC.lP rfl<|nx ?_;have K:=h.bL;refine WC.dS (m:=5) h mixed<|(y9) cc St.g5<|(gy) ak St.g0<|(cM)<|?_;rintro w4 ⟨L,i⟩ _;refine(eY) (yo (x:=⟨rev,x0.ab,l⟩) (k:=k) (a2:=D.a2) (n2:=D.n2) (e2:=D.c2) (As.gr i.g2)) i fun w5 N z=>?_;refine(bB) ?_;exact⟨ml,by rw [Ko dw],hm,eE.refl _,z.drop.drop.drop⟩
theorem yq(x:St w M Z w [As.map Key.val S.m ml,As.map Key.val S.q [],As.blk wb 95 (D.wc S.s rev ra rn rc),As.map Key.val D.m dq,As.eR 50 lf l]) (y:(S.FV prog aa x0).p Z w) (z:Rd RR.aD 4 Z w D.a1 D.n1 D.c1 x0.ab) (hm:aJ aa x0.ab ml) (K:cQ l lf dq) (A:ao aa) (C:∀k,(valOf aa x0.ab k).size≤1000) (dw:aw k=false) (h:cx k) (i:ax k=true) (hk:dU aa k):Calls prog 123 #[.pointer (some ⟨wb,0,none⟩),k.val] w fun e w'=>∃b,e=.returned (.string (cS (valOf aa x0.ab) ⟨rev,x0.ab,l⟩ k))∧aJ aa x0.ab b∧eE ml b∧St w M Z w' [As.map Key.val S.m b,As.map Key.val S.q [],As.blk wb 95 (D.wc S.s rev ra rn rc),As.map Key.val D.m dq,As.eR 50 lf l]:=by
 refine enter func123 rfl ntmps123 rfl<|?_;have aO:=x;have st1:=aO.fr z;have st2:=st1.fact (B:=As.fz (S.FV prog aa x0)) y (fun _ E=>E);refine(dx) st2 fun b3 w1 L N j=>?_;refine cw ?_;have O:=j.bL;refine WC.dS (m:=5) j mixed<|(gX) ey St.g5<|(gy) ak St.g0<|(cM)<|?_;rintro w2 ⟨P,d⟩ _;refine WP .r (PV.look cE eA dF (As.gm d.g6) rfl rfl)<|(bP) ak d.b0<|?_;refine WL.c1 (u:=.bool false) (bX (k:=k)) (by rw [dw]) d fun w3 Q o=>?_;refine cv ?_;refine WC.ef rfl<|(bP) ak o.b0<|?_;refine WL.c1 (u:=.bool true) (dY (k:=k) h) (by rw [(xA h).symm.trans i]) o fun w4 R F=>?_;refine cv ?_;refine WC.lP rfl<|nx ?_;refine WC.cu (m:=5) [] [] [0,1,2,3,4] [] F (av.k4 M0 M1 M2 M3<|av.k4 M4 M5 M6 M7<|av.nil) mixed (by kernel_rfl) (by kernel_rfl) rfl<|?_
 iterate 3 refine DG.a ?_
 refine(yM) ud SV.g5<|(mQ) ak SV.g0<|(ly)<|?_;intro w5 T t;simp only [CM,NM,CA,NA,iK.it] at t;have g:=t.p4.p4;refine(cJ) Br (Fq A C hk _ _ _ _ _ g.e2 (As.gf g.g3) hm (fun _=>jz.nil _)) ?_;rintro _ w6 ⟨dj,rfl,G,H,I⟩;have J:=St.lr g I;refine nx ?_;refine WL.nil (EX.np ?_);refine(bB) ?_;exact⟨dj,by rw [GS i],G,H,J.p2.drop.p2.drop.p2.drop⟩
theorem yr(y:St w M Z w [As.map Key.val S.m ml,As.map Key.val S.q [],As.blk wb 95 (D.wc S.s rev ra rn rc),As.map Key.val D.m dq,As.eR 50 lf l]) (z:(S.FV prog aa x0).p Z w) (A:Rd RR.aD 4 Z w D.a1 D.n1 D.c1 x0.ab) (hm:aJ aa x0.ab ml) (C:cQ l lf dq) (G:ao aa) (H:∀k,(valOf aa x0.ab k).size≤1000) {r:Rec}(dw:aw k=false) (h:cx k) (i:ax k=false) (b:ay l k=some r) (E:r.aq=rev):Calls prog 123 #[.pointer (some ⟨wb,0,none⟩),k.val] w fun e w'=>∃d,e=.returned (.string (cS (valOf aa x0.ab) ⟨rev,x0.ab,l⟩ k))∧aJ aa x0.ab d∧eE ml d∧St w M Z w' [As.map Key.val S.m d,As.map Key.val S.q [],As.blk wb 95 (D.wc S.s rev ra rn rc),As.map Key.val D.m dq,As.eR 50 lf l]:=by
 refine enter func123 rfl ntmps123 rfl<|?_;have aO:=y;have st1:=aO.fr A;have st2:=st1.fact (B:=As.fz (S.FV prog aa x0)) z (fun _ F=>F);refine(dx) st2 fun b3 w1 I J j=>?_;refine cw ?_;have K:=j.bL;refine WC.dS (m:=5) j mixed<|(gX) ey St.g5<|(gy) ak St.g0<|(cM)<|?_;rintro w2 ⟨L,g⟩ _;refine WP .r (PV.bF cE eA dF (As.gm g.g6) (C.yes b) rfl rfl)<|(bP) ak g.b0<|?_;refine WL.c1 (u:=.bool false) (bX (k:=k)) (by rw [dw]) g fun w3 N o=>?_;refine cv ?_;refine WC.ef rfl<|(bP) ak o.b0<|?_;refine WL.c1 (u:=.bool false) (dY (k:=k) h) (by rw [(xA h).symm.trans i]) o fun w4 O t=>?_;refine cv ?_;refine WC.ef rfl<|(aX) (fun x=>?_) fun x=>?_
 ·
  exact cL x
 refine(bp) ff (bJ.range ((As.o7 t.g7).1 _ _ b).1)<|(bB) ?_;exact⟨ml,by rw [GU dw i b E],hm,eE.refl _,t.drop.drop.drop⟩
theorem Aw{L:List bZ}(b:St w M Z w [As.map Key.val S.m ml,As.map Key.val S.q [],As.blk wb 95 (D.wc S.s rev ra rn rc),As.map Key.val D.m dq,As.eR 50 lf l]) (d:(S.FV prog aa x0).p Z w) (g:Rd RR.aD 4 Z w D.a1 D.n1 D.c1 x0.ab) (hm:aJ aa x0.ab ml) (i:cQ l lf dq) (j:ao aa) (o:∀k,(valOf aa x0.ab k).size≤1000) (hk:dU aa k) (x:ew L ⟨rev,x0.ab,l⟩ k):Calls prog 123 #[.pointer (some ⟨wb,0,none⟩),k.val] w fun e w'=>∃t,e=.returned (.string (cS (valOf aa x0.ab) ⟨rev,x0.ab,l⟩ k))∧aJ aa x0.ab t∧eE ml t∧St w M Z w' [As.map Key.val S.m t,As.map Key.val S.q [],As.blk wb 95 (D.wc S.s rev ra rn rc),As.map Key.val D.m dq,As.eR 50 lf l]:=by
 cases dw:aw k with
 | true=>exact yp b d g hm i j o dw
 | false=>
  cases u:ax k with
  | true=>exact yq b d g hm i j o dw hk.cx u hk
  | false=>
   have hu:az ⟨rev,x0.ab,l⟩ k=true:=by
    rcases x with h | ⟨_,h⟩ | h
    ·
     rw [dw] at h;cases h
    ·
     rw [u] at h;cases h
    exact h
   obtain⟨r,y,z⟩:=aL.1 hu;exact yr b d g hm i j o dw hk.cx u y z
set_option maxHeartbeats 400000
theorem lg{xs:List Key}(i:St w M Z w []) (hl:Rd RR.key 2 (fun x=>Z x∨x∈bA a) w a n c xs) (m:∀x∈bA a,x<w.heap.size) (o:xs.length≤1000000):Calls prog 84 #[.slice a n c] w fun e w'=>∃b d g,e=.returned (.slice b d g)∧St w M Z w' [As.os RR.key 43 2 b d g xs]:=by
 have p:St w M (fun x=>Z x∨x∈bA a) w []:=⟨i.cq,fun x q=>q.elim (i.jC x) (m x),by simp,by simp,.nil,by simp⟩;refine(gL p hl o).mono<|?_;rintro e w' ⟨b,d,g,rfl,j⟩;exact⟨b,d,g,rfl,j.Uh (fun _ h=>.inl h) (Ow.z (As.gs j.g0))⟩
theorem yt{A:fo}(y:St w M Z w [As.blk wb 95 (D.wc v rev ra rn rc),As.map Key.val D.m dq,As.eR 50 lf l,As.os RR.key 43 2 ra rn rc bG,As.os RR.key 43 2 A.a A.n A.c f.reads]) (U:cQ l lf dq) (V:f.reads.length≤4000) (hr:bG.length≤100000) (I:ay l f.key=none) (Tj:dq.length<4000):Calls prog 122 #[.pointer (some ⟨wb,0,none⟩),.agg (bZ.xu (f,A)).toArray,.string value] w fun e w'=>∃(q:RL) (a:Option Addr) (n c:Nat) (Z':Nat→Prop),e=.returned (.int .i64 0)∧fE w.heap.size Z Z'∧St w M Z' w' [As.blk wb 95 (D.wc v rev a n c),As.map Key.val D.m (cF dq f.key (.pointer (some ⟨q.b,0,none⟩))),As.eR 50 (sF lf f.key q) (eJ l (bY ⟨rev,aD,l⟩ f.key value f.reads)),As.os RR.key 43 2 a n c (bG++[f.key]),As.os RR.key 43 2 A.a A.n A.c f.reads]:=by
 have Bf:=(As.gs y.g3).len;have W:=(As.gs y.g4).len;refine enter func122 rfl ntmps122 rfl<|?_;have aO:=y;refine(dx) aO fun b4 w1 CX H0 st1=>?_;refine cw ?_;have QM:=st1.bL;refine WC.dS (m:=6) st1 mixed<|(gX) ey St.g1<|(y9) ak St.g0<|(cM)<|?_;rintro w2 ⟨xX,st2⟩ _;refine WP .r (PV.j6 cE eA dF (As.gm st2.g2) (U.no I) rfl rfl)<|lW ?_;refine WL.ct (t:=19) rfl (fun g19=>?_) (fun g19=>?_)
 ·
  refine(bp) ey st2.b1<|?_;refine WP .r (PV.TN eA (As.gm st2.g2) rfl)<|(aX) (fun J=>?_) fun J=>?_
  ·
   exact absurd J (by simp;omega)
  skip
  refine gW ?_;refine WP .r (PV.ld1 (j:=1) aP st2.b1 rfl rfl)<|cw ?_;refine WC.cu (m:=14) [] [5] [3,4,5,0,1,2,6,7,8,9,10,11,12,13] [(13,.blk 50 [.int .i64 0,.string ⟨#[]⟩,.string ⟨#[]⟩,.slice none 0 0,.int .i64 0,.int .i64 0,.int .i64 0,.bool false])] st2 (av.k4 M0 M1 M2 M3<|av.cons M4<|av.cons M5<|av.nil) mixed (by kernel_rfl) (by kernel_rfl) rfl<|(yM) fG SV.g0<|(gK) (fun w3 My Ax K mg=>?_);simp only [CA,NA] at K;have d:=K;refine OX.call EM rfl rfl ((lg d.e0 (Ow.rd (As.gs d.g5) (by omega)) (OR.lt (As.gs d.g5)) (by omega)).mono ?_);rintro _ w4 ⟨g,o,p,rfl,z⟩;have X:=St.lr d z;have Y:=St.gV z;have Mz:=d.size;have jr:=X.eX (by omega);have Xx:=(fE.refl w.heap.size Z).trans (fE.wt (F:=fun x=>x∈bA g) Y) Mz;refine⟨_,rfl,z.cq.size,_,rfl,_,_,_,jr,aC.k4<|aC.k2<|aC.cons<|aC.nil,av.k4 M1 M2 M3 M4<|av.cons M5<|av.cons M6<|av.nil,?_⟩;refine(AR) ak SV.g0<|?_
  iterate 4 refine DG.a ?_
  refine(yM) fG SV.g0<|?_;refine DG.a<|?_;refine DQ .r (fun C E G _ h uq=>PV.add rfl rfl (by show _≤(1:Int)+(A.n:Int);omega) (by show(1:Int)+(A.n:Int)≤_;omega))<|DQ .r (fun C E G _ h uq=>PV.br (us:=[.int .i64 f.key.kind,.string f.key.text,.string value,.slice g o p,.int .i64 rev,.int .i64 rev,.int .i64 (1+(A.n:Int)),.bool false]) K7 rfl rfl rfl)<|?_;refine DG.side (s:=.blk 50 [.int .i64 0,.string ⟨#[]⟩,.string ⟨#[]⟩,.slice none 0 0,.int .i64 0,.int .i64 0,.int .i64 0,.bool false]) rfl rfl rfl rfl rfl rfl (fun C E G su h=>OX.alloc EE rfl fun b wy i hb=>⟨i.ext.size,_,rfl,⟨b,rfl⟩,h.df i hb⟩)<|?_;rintro _ ⟨H,rfl⟩;refine(ly) ?_;intro w5 FD L;simp only [CM,NM,CA,NA,iK.it] at L;refine(dZ) mF L fun w6 nT rH im=>?_;refine WL.nil (EX.np ?_);have N:=im.sr (B:=As.blk H 50 ((bY ⟨rev,aD,l⟩ f.key value f.reads).row g o p)) (by rw [D7 I];simp only [Rec.row,W]);refine fb ?_;refine WL.ct (t:=47) rfl (fun O=>?_) (fun O=>?_)
  ·
   exact cL O
  refine lW ?_;refine WC.ef rfl<|cv ?_;have QK:=N.bL;refine WC.dS (m:=6) N mixed<|(gX) ey St.g3<|(y9) ak St.g2<|(cM)<|?_;rintro w7 ⟨Ae,P⟩ _;refine WL.go rfl (OX.put cE eA (As.gm P.g4) rfl rfl rfl fun w8 vm rK=>?_);have eC:=P.p4.iu vm rK;refine cv ?_;refine WC.cu (m:=9) [] [8] [1,2,3,4,5,6,7,8,0] [(7,.sl 43 1 f.key.cells)] eC (av.k4 M0 M1 M2 M3<|av.cons M4<|av.cons M5<|av.cons M7<|av.nil) mixed (by kernel_rfl) (by kernel_rfl) rfl<|?_
  iterate 3 refine DG.a ?_
  refine(yM) fG SV.g4<|(AR) ak SV.g3<|?_;refine DG.side (s:=.sl 43 1 f.key.cells) rfl rfl rfl rfl rfl rfl (fun C E G su h=>OX.aS (us:=f.key.cells) du rfl rfl rfl rfl fun b wy i hb=>⟨i.ext.size,_,rfl,⟨b,rfl⟩,h.df i hb⟩)<|?_;rintro _ ⟨Xy,rfl⟩;refine(gK) (fun w9 R8x Xz u FE=>?_);simp only [CA,NA] at u;refine OX.mX nG rfl rfl rfl (As.gs u.g6) (SR.dr (A:=fun _=>True) (x:=f.key) (show bJ _ Xy _ _ from u.ok _ (.tail _ (.tail _ (.tail _ (.tail _ (.tail _ (.tail _ (.tail _ (.tail _ (FE _ (.head _))))))))))) trivial rfl (by simp [Key.cells,Value.oneCell']) rfl) (by omega) (by omega) (Nat.zero_le _) fun a74 XA lI MA Q MB XB=>?_;have dG:=u.p6.gN Q MA MB;refine⟨Q.size,_,rfl,_,_,_,dG,aC.k4<|aC.k4<|aC.nil,av.k4 M1 M2 M3 M4<|av.cons M5<|av.cons M6<|av.cons M7<|av.nil,?_⟩;refine(ly) ?_;intro mH HZ R;simp only [CM,NM,CA,NA,iK.it] at R;refine bM ?_;refine WL.s1 R.p6 fun pS _ dQ=>?_;refine WL.nil (EX.np ?_);refine fb ?_;have T:=dQ.p7.p5;have e4:=St.uU (q:=⟨H,g,o,p⟩) (r:=(bY ⟨rev,aD,l⟩ f.key value f.reads)) (l':=eJ l (bY ⟨rev,aD,l⟩ f.key value f.reads)) T (As.gr T.g6) V (ck l (bY ⟨rev,aD,l⟩ f.key value f.reads));refine(bB) ?_;exact⟨⟨H,g,o,p⟩,_,_,_,_,rfl,Xx,e4.p2.drop.p4.drop.p4.drop.p3.p2⟩
 exact cL g19
theorem yu{A:fo}(G:St w M Z w [As.blk wb 95 (D.wc v rev ra rn rc),As.map Key.val D.m dq,As.eR 50 lf l,As.os RR.key 43 2 ra rn rc bG,As.os RR.key 43 2 A.a A.n A.c f.reads]) (Y:cQ l lf dq) (h4:f.reads.length≤4000) (hr:bG.length≤100000) {r:Rec}(y:ay l f.key=some r):Calls prog 122 #[.pointer (some ⟨wb,0,none⟩),.agg (bZ.xu (f,A)).toArray,.string value] w fun e w'=>∃(q:RL) (a:Option Addr) (n c:Nat) (Z':Nat→Prop),e=.returned (.int .i64 0)∧fE w.heap.size Z Z'∧St w M Z' w' [As.blk wb 95 (D.wc v rev a n c),As.map Key.val D.m (cF dq f.key (.pointer (some ⟨q.b,0,none⟩))),As.eR 50 (sF lf f.key q) (eJ l (bY ⟨rev,aD,l⟩ f.key value f.reads)),As.os RR.key 43 2 a n c (bG++[f.key]),As.os RR.key 43 2 A.a A.n A.c f.reads]:=by
 have Bf:=(As.gs G.g3).len;have hAn:=(As.gs G.g4).len;refine enter func122 rfl ntmps122 rfl<|?_;have aO:=G;refine(dx) aO fun b4 w1 CX H0 st1=>?_;refine cw ?_;have QM:=st1.bL;refine WC.dS (m:=6) st1 mixed<|(gX) ey St.g1<|(y9) ak St.g0<|(cM)<|?_;rintro w2 ⟨xX,st2⟩ _;refine WP .r (PV.bF cE eA dF (As.gm st2.g2) (Y.yes y) rfl rfl)<|lW ?_;refine WL.ct (t:=19) rfl (fun g19=>?_) (fun g19=>?_)
 ·
  exact cL g19
 refine lW ?_;refine WC.ef rfl<|gW ?_;refine WP .r (PV.ld1 (j:=1) aP st2.b1 rfl rfl)<|cw ?_;refine WC.cu (m:=14) [] [5] [3,4,5,0,1,2,6,7,8,9,10,11,12,13] [(13,.blk 50 [.int .i64 0,.string ⟨#[]⟩,.string ⟨#[]⟩,.slice none 0 0,.int .i64 0,.int .i64 0,.int .i64 0,.bool false])] st2 (av.k4 M0 M1 M2 M3<|av.cons M4<|av.cons M5<|av.nil) mixed (by kernel_rfl) (by kernel_rfl) rfl<|(yM) fG SV.g0<|(gK) (fun w3 My Ax P mg=>?_);simp only [CA,NA] at P;have g:=P;refine OX.call EM rfl rfl ((lg g.e0 (Ow.rd (As.gs g.g5) (by omega)) (OR.lt (As.gs g.g5)) (by omega)).mono ?_);rintro _ w4 ⟨d,h,i,rfl,H⟩;have ki:=St.lr g H;have hgc:=St.gV H;have Mz:=g.size;have jr:=ki.eX (by omega);have Xx:=(fE.refl w.heap.size Z).trans (fE.wt (F:=fun x=>x∈bA d) hgc) Mz;refine⟨_,rfl,H.cq.size,_,rfl,_,_,_,jr,aC.k4<|aC.k2<|aC.cons<|aC.nil,av.k4 M1 M2 M3 M4<|av.cons M5<|av.cons M6<|av.nil,?_⟩;refine(AR) ak SV.g0<|?_
 iterate 4 refine DG.a ?_
 refine(yM) fG SV.g0<|?_;refine DG.a<|?_;refine DQ .r (fun I J K _ o uq=>PV.add rfl rfl (by show _≤(1:Int)+(A.n:Int);omega) (by show(1:Int)+(A.n:Int)≤_;omega))<|DQ .r (fun I J K _ o uq=>PV.br (us:=[.int .i64 f.key.kind,.string f.key.text,.string value,.slice d h i,.int .i64 rev,.int .i64 rev,.int .i64 (1+(A.n:Int)),.bool false]) K7 rfl rfl rfl)<|?_;refine DG.side (s:=.blk 50 [.int .i64 0,.string ⟨#[]⟩,.string ⟨#[]⟩,.slice none 0 0,.int .i64 0,.int .i64 0,.int .i64 0,.bool false]) rfl rfl rfl rfl rfl rfl (fun I J K su o=>OX.alloc EE rfl fun b wy p hb=>⟨p.ext.size,_,rfl,⟨b,rfl⟩,o.df p hb⟩)<|?_;rintro _ ⟨u,rfl⟩;refine(ly) ?_;intro w5 FD Q;simp only [CM,NM,CA,NA,iK.it] at Q;refine(dZ) mF Q fun w6 nT rH L=>?_;refine WL.nil (EX.np ?_);refine cv ?_;refine WC.eF (t:=54) (v:=.bool (decide (r.value=value))) L ?_<|?_
 ·
  refine cw ?_;refine WL.ct (t:=47) rfl (fun N=>?_) (fun N=>?_)
  ·
   refine(bp) ff (bJ.range ((As.o7 L.g5).1 _ _ y).1)<|?_;exact(cp) (tG N) (L)
  exact cL N
 intro w7 jZ;refine nx ?_;have z:=jZ;refine WC.iU (σ:=Int) [_] (fun ch=>[(0,.pointer (some ⟨wb,0,none⟩)),(4,.pointer (some ⟨b4,0,none⟩)),(9,.pointer (some ⟨u,0,none⟩))]) (fun ch=>[As.blk u 50 [.int .i64 f.key.kind,.string f.key.text,.string value,.slice d h i,.int .i64 ch,.int .i64 rev,.int .i64 (1+(A.n:Int)),.bool false]]) (fun ch=>(ch=if r.value=value then r.changed else rev)∧True) z ?_ ?_
 ·
  refine(aX) (fun O=>?_) fun O=>?_
  ·
   refine(bp) aP (bJ.range ((As.o7 z.g5).1 _ _ y).1)<|nx ?_;refine WL.s1 z fun w8 _ C=>?_;refine nx ?_;exact nj (r.changed) ⟨C,⟨by rw [if_pos (by simpa using O)],trivial⟩⟩
  refine nx ?_;exact nj (rev) ⟨z,⟨by rw [if_neg (by simpa using O)],trivial⟩⟩
 rintro ch w8 C ⟨R,_⟩;simp only [CA,NA] at C R ⊢;refine bM ?_;have T:=C.sr (B:=As.blk u 50 ((bY ⟨rev,aD,l⟩ f.key value f.reads).row d h i)) (by rw [D8 y,R];simp only [Rec.row,hAn]);have QK:=T.bL;refine WC.dS (m:=6) T mixed<|(gX) ey St.g3<|(y9) ak St.g2<|(cM)<|?_;rintro w9 ⟨Ae,U⟩ _;refine WL.go rfl (OX.put cE eA (As.gm U.g4) rfl rfl rfl fun lI vm rK=>?_);have dX:=U.p4.iu vm rK;refine cv ?_;refine WC.cu (m:=9) [] [8] [1,2,3,4,5,6,7,8,0] [(7,.sl 43 1 f.key.cells)] dX (av.k4 M0 M1 M2 M3<|av.cons M4<|av.cons M5<|av.cons M7<|av.nil) mixed (by kernel_rfl) (by kernel_rfl) rfl<|?_
 iterate 3 refine DG.a ?_
 refine(yM) fG SV.g4<|(AR) ak SV.g3<|?_;refine DG.side (s:=.sl 43 1 f.key.cells) rfl rfl rfl rfl rfl rfl (fun I J K su o=>OX.aS (us:=f.key.cells) du rfl rfl rfl rfl fun b wy p hb=>⟨p.ext.size,_,rfl,⟨b,rfl⟩,o.df p hb⟩)<|?_;rintro _ ⟨Xy,rfl⟩;refine(gK) (fun mH R8x Xz E FE=>?_);simp only [CA,NA] at E;refine OX.mX nG rfl rfl rfl (As.gs E.g6) (SR.dr (A:=fun _=>True) (x:=f.key) (show bJ _ Xy _ _ from E.ok _ (.tail _ (.tail _ (.tail _ (.tail _ (.tail _ (.tail _ (.tail _ (.tail _ (FE _ (.head _))))))))))) trivial rfl (by simp [Key.cells,Value.oneCell']) rfl) (by omega) (by omega) (Nat.zero_le _) fun a74 XA pS MA V MB XB=>?_;have gI:=E.p6.gN V MA MB;refine⟨V.size,_,rfl,_,_,_,gI,aC.k4<|aC.k4<|aC.nil,av.k4 M1 M2 M3 M4<|av.cons M5<|av.cons M6<|av.cons M7<|av.nil,?_⟩;refine(ly) ?_;intro rO HZ W;simp only [CM,NM,CA,NA,iK.it] at W;refine bM ?_;refine WL.s1 W.p6 fun x2 _ fh=>?_;refine WL.nil (EX.np ?_);refine fb ?_;have X:=fh.p7.p5;have eU:=St.uU (q:=⟨u,d,h,i⟩) (r:=(bY ⟨rev,aD,l⟩ f.key value f.reads)) (l':=eJ l (bY ⟨rev,aD,l⟩ f.key value f.reads)) X (As.gr X.g6) h4 (ck l (bY ⟨rev,aD,l⟩ f.key value f.reads));refine(bB) ?_;exact⟨⟨u,d,h,i⟩,_,_,_,_,rfl,Xx,eU.p2.drop.p4.drop.p4.drop.p3.p2⟩
set_option maxHeartbeats 400000
theorem yv{L:List (bZ × fo)}{A:fo}(u:St w M Z w [As.map Key.val S.m ml,As.map Key.val S.q [],As.blk wb 95 (D.wc S.s rev ra rn rc),As.map Key.val D.m dq,As.eR 50 lf l,As.os RR.iN 131 6 al nl el (L++[(f,A)])]) (H:(S.FV prog aa x0).p Z w) (I:Rd RR.aD 4 Z w D.a1 D.n1 D.c1 x0.ab) (hm:aJ aa x0.ab ml) (y:cQ l lf dq) (U:ao aa) (V:∀k,(valOf aa x0.ab k).size≤1000) (W:KR aa l) (X:L.length≤1000) (z:f.running=false) (d:ay l f.key=none):Calls prog 79 #[.pointer (some ⟨wb,0,none⟩),.slice al nl el,.func (.func 42) #[] #[]] w fun e w'=>∃(l':List Rec) (L':List (bZ × fo)) (g:Int) (a:Option Addr) (n c:Nat) (j:List (Key × Value)),e=.returned (.tuple #[.slice a n c,.bool (decide (g=0)),.int .i64 g])∧FT aa (valOf aa x0.ab) ⟨rev,x0.ab,l⟩ L f A ⟨rev,x0.ab,l'⟩ L' [] g∧cQ l' lf dq∧aJ aa x0.ab j∧eE ml j∧St w M Z w' [As.map Key.val S.m j,As.map Key.val S.q [],As.blk wb 95 (D.wc S.s rev ra rn rc),As.map Key.val D.m dq,As.eR 50 lf l',As.os RR.iN 131 6 a n c L']:=by
 have J:=(As.gs u.g5).len;rw [List.length_append,List.length_singleton] at J
 have Y:((L++[(f,A)]).map Prod.fst)=L.map Prod.fst++[f]:=by simp
 refine enter func79 rfl ntmps79 rfl<|?_;have aO:=u;have st1:=aO.fr I;have st2:=st1.fact (B:=As.fz (S.FV prog aa x0)) H (fun _ K=>K);refine gW ?_;obtain⟨jj,b⟩:=Ow.addr (As.gs st2.g7) (cD L (f,A));refine cw ?_;refine WP .r ((PV.sub rfl rfl (by omega) (by omega)).cast (v':=.int .i64 (L.length:Int)) (congrArg (Value.int .i64) (by omega)))<|WP .r (PV.dR rh (i:=L.length) b rfl rfl (by omega))<|cw ?_;have Wz:=st2.bL;refine WC.dS (m:=8) st2 mixed<|(gX) ey St.g4<|cv ?_;refine DP .r (fun _ N=>PV.wK ak (Ow.kl (As.gs N.2.g7) (by rw [List.length_append,List.length_singleton];omega) b (cD L (f,A))) rfl rfl)<|(cM)<|?_;rintro w1 ⟨sS,o⟩ _;refine WP .r (PV.j6 cE eA dF (As.gm o.g5) (y.no d) rfl rfl)<|fj ?_;have CZ:=o.bL;refine WC.dS (m:=12) o mixed<|cv ?_;refine DW.ct (t:=35) rfl (fun C=>?_) (fun C=>?_)
 ·
  exact cL C
 ·
  refine(cM) ?_;rintro w2 ⟨xV,E⟩ _;refine dp ?_;refine WC.ef rfl<|dp ?_;refine WL.ct (t:=55) rfl (fun F=>?_) (fun F=>?_)
  ·
   refine gW ?_;refine WC.lP rfl<|fj ?_;refine WL.go rfl (OX.GC (f:=2) S1 (As.gs E.g7) b (by omega) rfl rfl rfl ((({f with running:=true}:bZ),A):bZ × fo) (fun r h=>by rw [RR.bt h];rfl) fun w3 O P=>?_);have G:=E.p7.gN O P (fun x h=>.inl h);refine bM ?_;refine WL.go rfl (OX.GC (f:=3) IW (As.gs G.g0) b (by omega) rfl rfl rfl ((({f with running:=true,at_:=0}:bZ),A):bZ × fo) (fun r h=>by rw [RR.bt h];rfl) fun w4 Q R=>?_);have T:=G.gN Q R (fun x h=>.inl h);refine aT ?_;refine nx ?_;refine EX.jd rfl (RS.tmp rfl<|RS.tmp rfl<|RS.tmp rfl<|RS.nil) rfl<|?_;exact⟨l,L++[(({f with running:=true,at_:=0}:bZ),A)],0,_,_,_,ml,rfl,FT.same (FS.start z (by unfold az;simp only [d];rfl) (.inl d)) (fun e=>by have:=congrArg bZ.running e;rw [z] at this;cases this) rfl rfl,y,hm,eE.refl _,T.p1.drop.p1.drop.p5.p5.p5.p5.p5⟩
  exact cL F
 -- kX eH XC C52
theorem yw{L:List (bZ × fo)}{A:fo}(u:St w M Z w [As.map Key.val S.m ml,As.map Key.val S.q [],As.blk wb 95 (D.wc S.s rev ra rn rc),As.map Key.val D.m dq,As.eR 50 lf l,As.os RR.iN 131 6 al nl el (L++[(f,A)])]) (F:(S.FV prog aa x0).p Z w) (G:Rd RR.aD 4 Z w D.a1 D.n1 D.c1 x0.ab) (hm:aJ aa x0.ab ml) (x:cQ l lf dq) (O:ao aa) (P:∀k,(valOf aa x0.ab k).size≤1000) (Q:KR aa l) (R:L.length≤1000) {r:Rec}(H:f.running=false) (d:ay l f.key=some r) (y:r.aq=rev):Calls prog 79 #[.pointer (some ⟨wb,0,none⟩),.slice al nl el,.func (.func 42) #[] #[]] w fun e w'=>∃(l':List Rec) (L':List (bZ × fo)) (g:Int) (a:Option Addr) (n c:Nat) (h:List (Key × Value)),e=.returned (.tuple #[.slice a n c,.bool (decide (g=0)),.int .i64 g])∧FT aa (valOf aa x0.ab) ⟨rev,x0.ab,l⟩ L f A ⟨rev,x0.ab,l'⟩ L' [] g∧cQ l' lf dq∧aJ aa x0.ab h∧eE ml h∧St w M Z w' [As.map Key.val S.m h,As.map Key.val S.q [],As.blk wb 95 (D.wc S.s rev ra rn rc),As.map Key.val D.m dq,As.eR 50 lf l',As.os RR.iN 131 6 a n c L']:=by
 have I:=(As.gs u.g5).len;rw [List.length_append,List.length_singleton] at I
 have T:((L++[(f,A)]).map Prod.fst)=L.map Prod.fst++[f]:=by simp
 refine enter func79 rfl ntmps79 rfl<|?_;have aO:=u;have st1:=aO.fr G;have st2:=st1.fact (B:=As.fz (S.FV prog aa x0)) F (fun _ J=>J);refine gW ?_;obtain⟨U,z⟩:=Ow.addr (As.gs st2.g7) (cD L (f,A));refine cw ?_;refine WP .r ((PV.sub rfl rfl (by omega) (by omega)).cast (v':=.int .i64 (L.length:Int)) (congrArg (Value.int .i64) (by omega)))<|WP .r (PV.dR rh (i:=L.length) z rfl rfl (by omega))<|cw ?_;have V:=st2.bL;refine WC.dS (m:=8) st2 mixed<|(gX) ey St.g4<|cv ?_;refine DP .r (fun _ b=>PV.wK ak (Ow.kl (As.gs b.2.g7) (by rw [List.length_append,List.length_singleton];omega) z (cD L (f,A))) rfl rfl)<|(cM)<|?_;rintro w1 ⟨W,o⟩ _;refine WP .r (PV.bF cE eA dF (As.gm o.g5) (x.yes d) rfl rfl)<|fj ?_;have X:=o.bL;refine WC.dS (m:=12) o mixed<|cv ?_;refine DW.ct (t:=35) rfl (fun C=>?_) (fun C=>?_)
 ·
  refine cv ?_;refine DP .r (fun _ b=>V1 aP (bJ.range ((As.o7 b.2.g6).1 _ _ d).1) .r)<|cw ?_;refine DP .r (fun _ b=>PV.ld1 (j:=1) aP (bJ.range (As.gb b.2.g4)) rfl rfl)<|(cM)<|?_;rintro w2 ⟨Y,E⟩ _;refine WP .r ((PV.Im rfl rfl).cast (v':=.bool true) (congrArg Value.bool (decide_eq_true y)))<|cw ?_;refine WC.lP rfl<|dp ?_;refine WP .r ((PV.sub rfl rfl (by omega) (by omega)).cast (v':=.int .i64 (L.length:Int)) (congrArg (Value.int .i64) (by omega)))<|WP .r (PV.nX rh (i:=L.length) (Ow.rd (As.gs E.g7) (by rw [List.length_append,List.length_singleton];omega)) rfl rfl (by omega))<|gW ?_;have K:=E.p7;have N:=St.Kn K;refine EX.jd rfl (RS.tmp rfl<|RS.tmp rfl<|RS.tmp rfl<|RS.nil) rfl<|?_;exact⟨l,L,0,_,_,_,ml,rfl,FT.pop (FS.up H (aL.2 ⟨r,d,y⟩)),x,hm,eE.refl _,N.p1.drop.p1.drop.p5.p5.p5.p5.p5⟩
 ·
  exact cL C
 -- kX eH XC
theorem yx{L:List (bZ × fo)}{A:fo}(C:St w M Z w [As.map Key.val S.m ml,As.map Key.val S.q [],As.blk wb 95 (D.wc S.s rev ra rn rc),As.map Key.val D.m dq,As.eR 50 lf l,As.os RR.iN 131 6 al nl el (L++[(f,A)])]) (N:(S.FV prog aa x0).p Z w) (O:Rd RR.aD 4 Z w D.a1 D.n1 D.c1 x0.ab) (hm:aJ aa x0.ab ml) (E:cQ l lf dq) (hR:ao aa) (hS:∀k,(valOf aa x0.ab k).size≤1000) (Fe:KR aa l) (hL6:L.length≤1000) {r:Rec}(F:f.running=false) (b:ay l f.key=some r) (G:¬r.aq=rev) (P:r.bV=true):Calls prog 79 #[.pointer (some ⟨wb,0,none⟩),.slice al nl el,.func (.func 42) #[] #[]] w fun e w'=>∃(l':List Rec) (L':List (bZ × fo)) (o:Int) (a:Option Addr) (n c:Nat) (u:List (Key × Value)),e=.returned (.tuple #[.slice a n c,.bool (decide (o=0)),.int .i64 o])∧FT aa (valOf aa x0.ab) ⟨rev,x0.ab,l⟩ L f A ⟨rev,x0.ab,l'⟩ L' [] o∧cQ l' lf dq∧aJ aa x0.ab u∧eE ml u∧St w M Z w' [As.map Key.val S.m u,As.map Key.val S.q [],As.blk wb 95 (D.wc S.s rev ra rn rc),As.map Key.val D.m dq,As.eR 50 lf l',As.os RR.iN 131 6 a n c L']:=by
 have Q:=(As.gs C.g5).len;rw [List.length_append,List.length_singleton] at Q
 have Tk:((L++[(f,A)]).map Prod.fst)=L.map Prod.fst++[f]:=by simp
 refine enter func79 rfl ntmps79 rfl<|?_;have aO:=C;have st1:=aO.fr O;have st2:=st1.fact (B:=As.fz (S.FV prog aa x0)) N (fun _ R=>R);refine gW ?_;obtain⟨jj,g⟩:=Ow.addr (As.gs st2.g7) (cD L (f,A));refine cw ?_;refine WP .r ((PV.sub rfl rfl (by omega) (by omega)).cast (v':=.int .i64 (L.length:Int)) (congrArg (Value.int .i64) (by omega)))<|WP .r (PV.dR rh (i:=L.length) g rfl rfl (by omega))<|cw ?_;have Wz:=st2.bL;refine WC.dS (m:=8) st2 mixed<|(gX) ey St.g4<|cv ?_;refine DP .r (fun _ d=>PV.wK ak (Ow.kl (As.gs d.2.g7) (by rw [List.length_append,List.length_singleton];omega) g (cD L (f,A))) rfl rfl)<|(cM)<|?_;rintro w1 ⟨sS,y⟩ _;refine WP .r (PV.bF cE eA dF (As.gm y.g5) (E.yes b) rfl rfl)<|fj ?_;have CZ:=y.bL;refine WC.dS (m:=12) y mixed<|cv ?_;refine DW.ct (t:=35) rfl (fun H=>?_) (fun H=>?_)
 ·
  refine cv ?_;refine DP .r (fun _ d=>V1 aP (bJ.range ((As.o7 d.2.g6).1 _ _ b).1) .r)<|cw ?_;refine DP .r (fun _ d=>PV.ld1 (j:=1) aP (bJ.range (As.gb d.2.g4)) rfl rfl)<|(cM)<|?_;rintro w2 ⟨xV,z⟩ _;refine WP .r ((PV.Im rfl rfl).cast (v':=.bool false) (congrArg Value.bool (decide_eq_false G)))<|cw ?_;refine WC.ef rfl<|dp ?_;refine WL.ct (t:=55) rfl (fun I=>?_) (fun I=>?_)
  ·
   exact cL I
  refine(bp) dd (bJ.range ((As.o7 z.g6).1 _ _ b).1)<|(aX) (fun J=>?_) fun J=>?_
  ·
   refine fj ?_;refine WL.go rfl (OX.GC (f:=2) S1 (As.gs z.g7) g (by omega) rfl rfl rfl ((({f with running:=true}:bZ),A):bZ × fo) (fun r h=>by rw [RR.bt h];rfl) fun w3 T U=>?_);have K:=z.p7.gN T U (fun x h=>.inl h);refine bM ?_;refine WL.go rfl (OX.GC (f:=3) IW (As.gs K.g0) g (by omega) rfl rfl rfl ((({f with running:=true,at_:=0}:bZ),A):bZ × fo) (fun r h=>by rw [RR.bt h];rfl) fun w4 V W=>?_);have X:=K.gN V W (fun x h=>.inl h);refine aT ?_;refine nx ?_;refine EX.jd rfl (RS.tmp rfl<|RS.tmp rfl<|RS.tmp rfl<|RS.nil) rfl<|?_;exact⟨l,L++[(({f with running:=true,at_:=0}:bZ),A)],0,_,_,_,ml,rfl,FT.same (FS.start F (by rw [Bool.eq_false_iff];intro h;obtain⟨q,h1,Y⟩:=aL.1 h;have h1:ay l f.key=some q:=h1;rw [b] at h1;cases h1;exact G Y) (.inr (by rw [show cB.ai ⟨rev,x0.ab,l⟩=l from rfl,aK b];exact P))) (fun e=>by have:=congrArg bZ.running e;rw [F] at this;cases this) rfl rfl,E,hm,eE.refl _,X.p1.drop.p1.drop.p5.p5.p5.p5.p5⟩
  exact cL J
 ·
  exact cL H
 -- kX eH XC
set_option maxHeartbeats 4000000 in
theorem yy{L:List (bZ × fo)}{A:fo}(gJ:St w M Z w [As.map Key.val S.m ml,As.map Key.val S.q [],As.blk wb 95 (D.wc S.s rev ra rn rc),As.map Key.val D.m dq,As.eR 50 lf l,As.os RR.iN 131 6 al nl el (L++[(f,A)])]) (hf:(S.FV prog aa x0).p Z w) (Ie:Rd RR.aD 4 Z w D.a1 D.n1 D.c1 x0.ab) (hm:aJ aa x0.ab ml) (b:cQ l lf dq) (hR:ao aa) (hS:∀k,(valOf aa x0.ab k).size≤1000) (X:KR aa l) (hL6:L.length≤1000) {r:Rec}(U:f.running=false) (V:ay l f.key=some r) (hv:r.aq<rev) (hd:r.bV=false) (h6:l.length≤4000) (NB:∀r∈l,r.reads.length≤4000) (F2:0≤f.at_):Calls prog 79 #[.pointer (some ⟨wb,0,none⟩),.slice al nl el,.func (.func 42) #[] #[]] w fun e w'=>∃(l':List Rec) (L':List (bZ × fo)) (er:Int) (a:Option Addr) (n c:Nat) (jP:List (Key × Value)),e=.returned (.tuple #[.slice a n c,.bool (decide (er=0)),.int .i64 er])∧FT aa (valOf aa x0.ab) ⟨rev,x0.ab,l⟩ L f A ⟨rev,x0.ab,l'⟩ L' [] er∧cQ l' lf dq∧aJ aa x0.ab jP∧eE ml jP∧St w M Z w' [As.map Key.val S.m jP,As.map Key.val S.q [],As.blk wb 95 (D.wc S.s rev ra rn rc),As.map Key.val D.m dq,As.eR 50 lf l',As.os RR.iN 131 6 a n c L']:=by
 have Rv:=(As.gs gJ.g5).len;rw [List.length_append,List.length_singleton] at Rv
 have Tk:((L++[(f,A)]).map Prod.fst)=L.map Prod.fst++[f]:=by simp
 have lL:=Bj (rev:=rev) V
 have hgl:(aB l rev f.key).length≤4001:=by have:=qK l rev f.key;omega
 have Ww:=Ce NB hgl
 have hcl:(cj l (aB l rev f.key)).length≤100000000:=by have:=Ww (aB l rev f.key).length;rw [List.take_of_length_le (Nat.le_refl _)] at this;exact this
 have Y:Live l rev f.key:=⟨r,V,hd,hv⟩
 have vl:cx f.key:=by have h1:=aH V;rw [← h1.2];exact(X r h1.1).1.cx
 refine enter func79 rfl ntmps79 rfl<|?_;have aO:=gJ;have st1:=aO.fr Ie;have st2:=st1.fact (B:=As.fz (S.FV prog aa x0)) hf (fun _ hx=>hx);refine gW ?_;obtain⟨jj,E⟩:=Ow.addr (As.gs st2.g7) (cD L (f,A));refine cw ?_;refine WP .r ((PV.sub rfl rfl (by omega) (by omega)).cast (v':=.int .i64 (L.length:Int)) (congrArg (Value.int .i64) (by omega)))<|WP .r (PV.dR rh (i:=L.length) E rfl rfl (by omega))<|cw ?_;have Wz:=st2.bL;refine WC.dS (m:=8) st2 mixed<|(gX) ey St.g4<|cv ?_;refine DP .r (fun _ hC=>PV.wK ak (Ow.kl (As.gs hC.2.g7) (by rw [List.length_append,List.length_singleton];omega) E (cD L (f,A))) rfl rfl)<|(cM)<|?_;rintro w1 ⟨sS,lN⟩ _;refine WP .r (PV.bF cE eA dF (As.gm lN.g5) (b.yes V) rfl rfl)<|fj ?_;have CZ:=lN.bL;refine WC.dS (m:=12) lN mixed<|cv ?_;refine DW.ct (t:=35) rfl (fun g35=>?_) (fun g35=>?_)
 ·
  refine cv ?_;refine DP .r (fun _ hC=>V1 aP (bJ.range ((As.o7 hC.2.g6).1 _ _ V).1) .r)<|cw ?_;refine DP .r (fun _ hC=>PV.ld1 (j:=1) aP (bJ.range (As.gb hC.2.g4)) rfl rfl)<|(cM)<|?_;rintro w2 ⟨xV,jl⟩ _;refine WP .r ((PV.Im rfl rfl).cast (v':=.bool false) (congrArg Value.bool (decide_eq_false (show ¬r.aq=rev by omega))))<|cw ?_;refine WC.ef rfl<|dp ?_;refine WL.ct (t:=55) rfl (fun Rw=>?_) (fun Rw=>?_)
  ·
   exact cL Rw
  refine(bp) dd (bJ.range ((As.o7 jl.g6).1 _ _ V).1)<|(aX) (fun g52=>?_) fun g52=>?_
  ·
   exact cL g52
  refine(ko) ak (Ow.kl (As.gs jl.g7) (by rw [List.length_append,List.length_singleton];omega) E (cD L (f,A)))<|?_;have ki:=jl;refine(cJ) VF (tg (k:=f.key) ki.e0 (As.gb ki.g4) (As.gm ki.g5) b (As.o7 ki.g6) X.Ul h6 NB) ?_;rintro _ w3 ⟨u1,O,u3,rfl,vJ⟩;have jr:=St.lr ki vJ;have hgn:=((As.gs jr.g0)).len;refine fb ?_;have W:=jr;refine(cJ) VE (r9 W.e0 (As.gb W.g5) (As.gm W.g6) b (As.o7 W.g7) (Ow.rd (As.gs W.g0) (by omega)) lL Ww) ?_;rintro _ w4 ⟨o1,o2,o3,rfl,sa⟩;have R:=St.lr W sa;have hcn:=((As.gs R.g0)).len;refine(bp) aP (Ow.kl (As.gs R.g9) (by rw [List.length_append,List.length_singleton];omega) E (cD L (f,A)))<|(aX) (fun NC=>?_) fun NC=>?_
  ·
   simp at NC
   have Ry:(cj l (aB l rev f.key)).length≤f.at_.toNat:=by omega
   refine lW ?_;have jZ:=R.p8.sr (B:=As.eR 50 lf (l.map (aY rev ((aB l rev f.key).take 0) false))) (by rw [q5]);refine WC.bj (σ:=Nat) (db:=fun i=>[(0,.pointer (some ⟨wb,0,none⟩)),(1,.slice al nl el),(84,.slice u1 O u3),(85,.int .i64 (O:Int)),(86,.int .i64 (i:Int))]) (F:=fun i=>[As.eR 50 lf (l.map (aY rev ((aB l rev f.key).take i) false))]) (I:=fun i=>(i≤O)∧True) (μ:=fun i=>O - i) (0) (jZ) Sub.t (⟨Nat.zero_le _,trivial⟩)<|?_;rintro i w5 z ⟨hi,_⟩;simp only [CA,NA] at z hi ⊢;refine(aX) (fun H5=>?_) fun H5=>?_
   ·
    simp at H5
    have J:i<(aB l rev f.key).length:=by omega
    refine dp ?_;obtain⟨abH,FH⟩:=Ow.addr (As.gs z.g2) (ah J);refine nx ?_;refine WP .r (PV.dR ez FH rfl rfl (by omega))<|(bP) ak (Ow.kl (As.gs z.g2) (by omega) FH (ah J))<|(gx) z fun b14 w6 Rz Ft G=>?_;refine(dZ) gk G fun w7 nT rH o=>?_;refine bM ?_;obtain⟨r1,FY⟩:=lL _ (List.getElem_mem J);obtain⟨r2,K,CV⟩:=q6 (rev:=rev) (g:=(aB l rev f.key).take i) (d:=false) ⟨r1,FY⟩;have Ig:=(((As.o7 o.g1)).1 _ _ K).2.2;have C:=o.fact (As.Gj (((((As.o7 o.g1)).1 _ _ K).2.1))) (fun _ hx=>hx);have dX:=C.p2;have dQ:=St.D1 dX K;refine WC.cu (m:=11) [] [] [0,1,2,3,4,5,6,7,8,9,10] [] dQ (av.k4 M0 M1 M2 M3<|av.k4 M4 M5 M6 M7<|av.k4 M8 M9 nU pV<|av.cons sk<|av.nil) mixed (by kernel_rfl) (by kernel_rfl) rfl<|?_
    iterate 3 refine DG.a ?_
    refine(yM) ey SV.g10<|(mQ) ak SV.g3<|?_;refine DQ .r (fun wx Zx Rx _ mM uq=>PV.bF cE eA dF (As.gm (mM.sv uq).g11) (b.yes FY) rfl rfl)<|?_
    iterate 4 refine DG.a ?_
    refine DQ .r (fun wx Zx Rx _ mM uq=>PV.ld1 (j:=1) aP (bJ.range (As.gb (mM.sv uq).g10)) rfl rfl)<|(ly)<|?_;intro w8 Rl P;simp only [CM,NM,CA,NA,iK.it] at P;refine bM ?_;refine WL.s1 P fun w9 _ H=>?_;refine WL.nil (EX.np ?_);have Q:=H.p1.p1;have eD:=St.Bl (r':={r2 with aq:=rev}) (l':=l.map (aY rev ((aB l rev f.key).take (i+1)) false)) Q CV (As.gr Q.g2) Ig (fun y=>by simpa using o8 J false K y);have eU:=eD.p1.drop;refine fj ?_;refine fx (i+1) ⟨eU.p1.drop,⟨by omega,trivial⟩⟩
   simp at H5
   have Nn:(aB l rev f.key).take i=(aB l rev f.key):=List.take_of_length_le (by omega);have G:=z.sr (B:=As.eR 50 lf (l.map (aY rev (aB l rev f.key) false))) (by rw [Nn]);refine kL ?_;refine WP .r ((PV.sub rfl rfl (by omega) (by omega)).cast (v':=.int .i64 (L.length:Int)) (congrArg (Value.int .i64) (by omega)))<|WP .r (PV.nX rh (i:=L.length) (Ow.rd (As.gs G.g9) (by rw [List.length_append,List.length_singleton];omega)) rfl rfl (by omega))<|fb ?_;have o:=G.p9;have C:=St.Kn o;refine EX.jd rfl (RS.tmp rfl<|RS.tmp rfl<|RS.tmp rfl<|RS.nil) rfl<|?_;exact⟨l.map (aY rev (aB l rev f.key) false),L,0,_,_,_,ml,rfl,FT.pop (FS.mark U Y Ry),b.mark _ _ _,hm,eE.refl _,C.p2.drop.p2.drop.p2.drop.p2.drop.p1.p5.p5.p5.p5⟩
  simp at NC
  obtain⟨ch,T⟩:∃ch,(cj l (aB l rev f.key))[f.at_.toNat]?=some ch:=⟨_,ah (by omega)⟩;obtain⟨CE,RA,_⟩:=dO.1 (List.mem_of_getElem? T);obtain⟨rm,ND⟩:=lL _ CE;rw [aK ND] at RA;have hkc:=(X rm (aH ND).1).2.2 _ RA;have xY:0≤(f,A).fst.at_∧(f,A).fst.at_≤100000000:=⟨F2,by show f.at_≤_;omega⟩;refine cv ?_;obtain⟨XD,Bv⟩:=Ow.addr (As.gs R.g0) T;refine(bp) aP (Ow.kl (As.gs R.g9) (by rw [List.length_append,List.length_singleton];omega) E (cD L (f,A)))<|?_;refine WP .r (PV.BD IU (f.at_.toNat) Bv rfl rfl (by show f.at_=_;omega) (by omega))<|(bP) Ep (Ow.kl (As.gs R.g0) (by omega) Bv T)<|(gx) R fun b15 w5 Wj Wk jZ=>?_;refine(dZ) Pf jZ fun w6 Bt wu z=>?_;refine(ko) ak z.b0<|nx ?_;refine WL.c1 (u:=.int .i64 (bF ⟨rev,x0.ab,l⟩ (L.map Prod.fst++[f]) [] ch.read)) (k8 (aD:=x0.ab) (As.gb z.g7) (As.gm z.g8) b (As.o7 z.g9) X (Ow.rd (As.gs z.g10) (by rw [List.length_append,List.length_singleton];omega)) hkc.cx) (by rw [Tk]) z fun w7 s7 G=>?_;refine(aX) (fun MC=>?_) fun MC=>?_
  ·
   have Cd:bF ⟨rev,x0.ab,l⟩ (L.map Prod.fst++[f]) [] ch.read=3:=by simpa using MC
   refine iM ?_;refine EX.jd rfl (RS.tmp rfl<|RS.tmp rfl<|RS.tmp rfl<|RS.nil) rfl<|?_;exact⟨l,(L++[(f,A)]),43,_,_,_,ml,rfl,FT.err (FS.Kb ch U Y T Cd) (by decide),b,hm,eE.refl _,G.drop.drop.drop.drop.drop⟩
  have Cd:bF ⟨rev,x0.ab,l⟩ (L.map Prod.fst++[f]) [] ch.read≠3:=by simpa using MC
  refine(aX) (fun RB=>?_) fun RB=>?_
  ·
   exact absurd (by simpa using RB) (tW (x:=⟨rev,x0.ab,l⟩) (l:=(L.map Prod.fst++[f])) (k:=ch.read))
  skip
  refine(aX) (fun MD=>?_) fun MD=>?_
  ·
   have FX:bF ⟨rev,x0.ab,l⟩ (L.map Prod.fst++[f]) [] ch.read=1:=by simpa using MD
   refine(ko) ak G.b0<|?_;have o:=G.qq;refine(cJ) Ln (k9 (k:=ch.read) o.e1 (by rw [List.length_append,List.length_singleton];omega)) ?_;rintro _ w8 ⟨p1,p2,p3,rfl,j0⟩;have C:=St.lr o j0;refine gW ?_;refine EX.jd rfl (RS.tmp rfl<|RS.tmp rfl<|RS.tmp rfl<|RS.nil) rfl<|?_;exact⟨l,_,0,_,_,_,ml,rfl,FT.push (FS.o0 ch U Y T FX),b,hm,eE.refl _,C.p1.drop.p1.drop.p1.drop.p1.drop.p1.drop.p5.p5.p5.p5.p5⟩
  have FX:bF ⟨rev,x0.ab,l⟩ (L.map Prod.fst++[f]) [] ch.read≠1:=by simpa using MD
  refine(bP) Ep G.b0<|?_;have o:=G.p9.p9.p9.p9.p9;refine(cJ) VG (vN (c:=ch) o.e5 (As.gf o.g8) (As.gr o.g9) hm b hR hS hkc X ND) ?_;rintro _ w8 ⟨gp,rfl,CK,pR,j0⟩;have C:=St.lr o j0;refine(aX) (fun ME=>?_) fun ME=>?_
  ·
   have XE:DV (valOf aa x0.ab) ⟨rev,x0.ab,l⟩ ch=false:=by simpa using ME
   refine(bp) aP (Ow.kl (As.gs C.g10) (by rw [List.length_append,List.length_singleton];omega) E (cD L (f,A)))<|cv ?_;refine WL.go rfl (OX.GC (f:=3) IW (As.gs C.g10) E (by omega) rfl rfl rfl ((({f with at_:=f.at_+1}:bZ),A):bZ × fo) (fun r h=>by rw [RR.bt h];rfl) fun w9 s40 XF=>?_);have dX:=C.qq.gN s40 XF (fun x h=>.inl h);refine aT ?_;refine EX.jd rfl (RS.tmp rfl<|RS.tmp rfl<|RS.tmp rfl<|RS.nil) rfl<|?_;exact⟨l,L++[(({f with at_:=f.at_+1}:bZ),A)],0,_,_,_,gp,rfl,FT.same (FS.pass ch U Y T FX Cd (Ck XE)) (fun e=>by have:=congrArg bZ.at_ e;simp at this;omega) rfl rfl,b,CK,pR,dX.p6.drop.p6.drop.p6.drop.p6.drop.p6.drop.p5.p5.p5.p5.p5⟩
  have XE:DV (valOf aa x0.ab) ⟨rev,x0.ab,l⟩ ch=true:=by simpa using ME
  refine(ko) ak (Ow.kl (As.gs C.g10) (by rw [List.length_append,List.length_singleton];omega) E (cD L (f,A)))<|?_;refine WL.c1 (u:=.bool (ax f.key)) (dY (k:=f.key) vl) (by rw [xA vl]) C fun w9 s9 dX=>?_;refine bM ?_;have dQ:=dX.p4;refine WC.iU (σ:=(List Rec)) [_] (fun N=>[(1,.slice al nl el),(9,.pointer (some ⟨jj,0+L.length*6,none⟩))]) (fun N=>[As.eR 50 lf N]) (fun N=>(N=if ax f.key=true then l.map (aY rev (aB l rev f.key) true) else l)∧True) dQ ?_ ?_
  ·
   refine(aX) (fun MF=>?_) fun MF=>?_
   ·
    refine gW ?_;have P:=dQ.sr (B:=As.eR 50 lf (l.map (aY rev ((aB l rev f.key).take 0) true))) (by rw [q5]);refine WC.bj (σ:=Nat) (db:=fun i=>[(0,.pointer (some ⟨wb,0,none⟩)),(1,.slice al nl el),(9,.pointer (some ⟨jj,0+L.length*6,none⟩)),(151,.slice u1 O u3),(152,.int .i64 (O:Int)),(153,.int .i64 (i:Int))]) (F:=fun i=>[As.eR 50 lf (l.map (aY rev ((aB l rev f.key).take i) true))]) (I:=fun i=>(i≤O)∧True) (μ:=fun i=>O - i) (0) (P) Sub.t (⟨Nat.zero_le _,trivial⟩)<|?_;rintro i lI H ⟨hi,_⟩;simp only [CA,NA] at H hi ⊢;refine(aX) (fun MG=>?_) fun MG=>?_
    ·
     simp at MG
     have J:i<(aB l rev f.key).length:=by omega
     refine dp ?_;obtain⟨XG,Bw⟩:=Ow.addr (As.gs H.g7) (ah J);refine nx ?_;refine WP .r (PV.dR ez Bw rfl rfl (by omega))<|(bP) ak (Ow.kl (As.gs H.g7) (by omega) Bw (ah J))<|(gx) H fun XH mH XI MH Q=>?_;refine(dZ) gk Q fun pS LS BR eD=>?_;refine bM ?_;obtain⟨r1,FY⟩:=lL _ (List.getElem_mem J);obtain⟨r2,K,CV⟩:=q6 (rev:=rev) (g:=(aB l rev f.key).take i) (d:=true) ⟨r1,FY⟩;have Ig:=(((As.o7 eD.g1)).1 _ _ K).2.2;have eU:=eD.fact (As.Gj (((((As.o7 eD.g1)).1 _ _ K).2.1))) (fun _ hx=>hx);have gY:=eU.p2;have gn:=St.D1 gY K;refine WC.cu (m:=5) [] [] [0,1,2,3,4] [] gn (av.k4 M0 M1 M2 M3<|av.k4 M4 M5 M6 M7<|av.k4 M8 M9 nU pV<|av.cons sk<|av.cons yR<|av.nil) mixed (by kernel_rfl) (by kernel_rfl) rfl<|?_
     iterate 3 refine DG.a ?_
     refine(yM) ey SV.g6<|(mQ) ak SV.g3<|(ly)<|?_;intro rO abK gw;simp only [CM,NM,CA,NA,iK.it] at gw;refine WP .r (PV.bF cE eA dF (As.gm gw.g7) (b.yes FY) rfl rfl)<|bM ?_;refine WL.s1 gw fun x2 _ ic=>?_;refine WL.nil (EX.np ?_);have eb:=ic.p1.p1;have e7:=St.Bl (r':={r2 with bV:=true}) (l':=l.map (aY rev ((aB l rev f.key).take (i+1)) true)) eb CV (As.gr eb.g2) Ig (fun y=>by simpa using o8 J true K y);have gS:=e7.p1.drop;refine fj ?_;refine fx (i+1) ⟨gS.p1.drop,⟨by omega,trivial⟩⟩
    simp at MG
    have Nn:(aB l rev f.key).take i=(aB l rev f.key):=List.take_of_length_le (by omega);have Q:=H.sr (B:=As.eR 50 lf (l.map (aY rev (aB l rev f.key) true))) (by rw [Nn]);refine cw ?_;exact nj (l.map (aY rev (aB l rev f.key) true)) ⟨Q,⟨by rw [if_pos (by simpa using MF)],trivial⟩⟩
   refine nx ?_;exact nj (l) ⟨dQ,⟨by rw [if_neg (by simpa using MF)],trivial⟩⟩
  rintro N lI P ⟨XJ,_⟩;simp only [CA,NA] at P XJ ⊢;refine fb ?_;refine WL.go rfl (OX.GC (f:=2) S1 (As.gs P.g10) E (by omega) rfl rfl rfl ((({f with running:=true}:bZ),A):bZ × fo) (fun r h=>by rw [RR.bt h];rfl) fun mH s26 XK=>?_);have H:=P.qq.gN s26 XK (fun x h=>.inl h);refine bM ?_;refine WL.go rfl (OX.GC (f:=3) IW (As.gs H.g0) E (by omega) rfl rfl rfl ((({f with running:=true,at_:=0}:bZ),A):bZ × fo) (fun r h=>by rw [RR.bt h];rfl) fun pS Ml XL=>?_);have Q:=H.gN Ml XL (fun x h=>.inl h);refine iM ?_
  have CC:(if ax f.key=true then eG ⟨rev,x0.ab,l⟩ (aB l rev f.key) true else ⟨rev,x0.ab,l⟩)=⟨rev,x0.ab,N⟩:=by rw [XJ];split <;> rfl
  have mJ:cQ N lf dq:=by rw [XJ];split;exact b.mark _ _ _;exact b
  have JO:=FS.fail (aa:=aa) (p:=L.map Prod.fst) ch U Y T FX Cd (D9 XE);rw [show(if ax f.key=true then eG ⟨rev,x0.ab,l⟩ (aB (cB.ai ⟨rev,x0.ab,l⟩) (cB.ad ⟨rev,x0.ab,l⟩) f.key) true else ⟨rev,x0.ab,l⟩)=⟨rev,x0.ab,N⟩ from CC] at JO;refine EX.jd rfl (RS.tmp rfl<|RS.tmp rfl<|RS.tmp rfl<|RS.nil) rfl<|?_;exact⟨N,L++[(({f with running:=true,at_:=0}:bZ),A)],0,_,_,_,gp,rfl,FT.same JO (fun e=>by have:=congrArg bZ.running e;rw [U] at this;cases this) rfl rfl,mJ,CK,pR,Q.p6.drop.p6.drop.p6.drop.p6.drop.p6.drop.p1.p5.p5.p5.p5⟩
 ·
  exact cL g35
 -- kX eH XC
theorem vO{L:List (bZ × fo)}{A:fo}(d:St w M Z w [As.map Key.val S.m ml,As.map Key.val S.q [],As.blk wb 95 (D.wc S.s rev ra rn rc),As.map Key.val D.m dq,As.eR 50 lf l,As.os RR.iN 131 6 al nl el (L++[(f,A)])]) (g:(S.FV prog aa x0).p Z w) (h:Rd RR.aD 4 Z w D.a1 D.n1 D.c1 x0.ab) (hm:aJ aa x0.ab ml) (i:cQ l lf dq) (j:ao aa) (o:∀k,(valOf aa x0.ab k).size≤1000) (t:KR aa l) (u:L.length≤1000) (x:f.running=false) (E:l.length≤4000) (F:∀r∈l,r.reads.length≤4000) (G:∀r∈l,r.aq≤rev) (H:0≤f.at_):Calls prog 79 #[.pointer (some ⟨wb,0,none⟩),.slice al nl el,.func (.func 42) #[] #[]] w fun e w'=>∃(l':List Rec) (L':List (bZ × fo)) (y:Int) (a:Option Addr) (n c:Nat) (z:List (Key × Value)),e=.returned (.tuple #[.slice a n c,.bool (decide (y=0)),.int .i64 y])∧FT aa (valOf aa x0.ab) ⟨rev,x0.ab,l⟩ L f A ⟨rev,x0.ab,l'⟩ L' [] y∧cQ l' lf dq∧aJ aa x0.ab z∧eE ml z∧St w M Z w' [As.map Key.val S.m z,As.map Key.val S.q [],As.blk wb 95 (D.wc S.s rev ra rn rc),As.map Key.val D.m dq,As.eR 50 lf l',As.os RR.iN 131 6 a n c L']:=by
 cases b:ay l f.key with
 | none=>exact yv d g h hm i j o t u x b
 | some r=>
  by_cases B:r.aq=rev
  ·
   exact yw d g h hm i j o t u x b B
  cases C:r.bV with
  | true=>exact yx d g h hm i j o t u x b B C
  | false=>
   have:=G r (aH b).1
   exact yy d g h hm i j o t u x b (by omega) C E F H
end Go.Rc

