/- Walks over the program, part WYg. Conditions: as each theorem says. -/
import Derived.Test.YtfamnpoplgkkcaaGreatDoorKFacts
import Derived.Test.YtfamnpoplgkkcaaGreatDoorKWZr
import Derived.Test.YtfamnpoplgkkcaaGreatDoorKWO
import Derived.Test.YtfamnpoplgkkcaaGreatDoorKBg
set_option linter.all false
namespace Go.Rc
open Go Go.Proofs Go.Proofs.Tryz
variable {f:bT}{cap:Value}{a ra al:Option Addr}{n c v rn rc wb nl el:Nat}{w:World}{Z M:Nat→Prop}{k:Key}{D:WD}{rev:Int}{aC:List bG}{aa:List aF}{ml cS:List (Key × Value)}{l:List Rec}{lf:Key→RL}{x0:bZ}{S:SD}{bO:List Key}{value:ByteArray}
set_option maxHeartbeats 400000
theorem qX{l:List (bT × ek)}{p:bT × ek→Bool}{f:FuncId}(m:CF prog f) (hl:Rd RR.gU 6 Z w a n c l) (o:∀w1,aQ [] w w1→∀x∈l,Calls prog f #[.agg (bT.ve x).toArray,cap] w1 fun e w'=>e=.returned (.bool (p x))∧aQ [] w1 w'):Calls prog 153 #[.slice a n c,.func (.func f) #[] #[cap]] w fun e w'=>∃j:Int,e=.returned (.int .i64 j)∧pn l p j∧aQ [] w w':=by
 have hlen:=hl.len;have hle:=hl.le;refine enter func153 rfl ntmps153 rfl<|?_;have aM:=St.s0 w;refine ba ?_;refine cm ?_;refine WC.bq (σ:=Nat) (cX:=fun i=>[(0,.slice a n c),(1,.func (.func f) #[] #[cap]),(7,.int .i64 (n:Int)),(8,.int .i64 (i:Int))]) (F:=fun i=>[]) (I:=fun i=>(i≤n)∧(∀j x,j<i→l[j]?=some x→p x=false)∧True) (μ:=fun i=>n - i) (0) (aM) Sub.t (⟨by omega,fun j x h=>by omega,trivial⟩)<|?_;rintro i w1 st1 ⟨hi,b,_⟩;simp only [CA,NA] at st1 hi b ⊢;refine(bl) (fun g9=>?_) fun g9=>?_
 ·
  simp at g9
  have d:i<l.length:=by omega
  refine hY ?_;obtain⟨A,B,C,q,E,g,s,G⟩:=Rd.at hl d;have g:=RR.bp g;subst g;refine cv ?_;refine WP .r (PV.ef pL q rfl rfl (by omega))<|(bS) Ct (aS s (St.cg st1) (by simp))<|?_;refine WL.go rfl (OX.jz m rfl rfl rfl ((Calls.cap (o _ (St.cg st1) l[i] (List.getElem_mem d))).mono ?_));rintro _ w2 ⟨rfl,s2⟩;refine⟨_,rfl,?_⟩;have st2:=st1.step s2;refine(bl) (fun g16=>?_) fun g16=>?_
  ·
   refine(bJ) ?_;exact⟨_,rfl,.inl ⟨i,_,ah d,g16,b,rfl⟩,(St.cg st2)⟩
  have g16:p l[i]=false:=by simpa using g16
  refine eE ?_;refine fJ (i+1) ⟨st2,⟨by omega,cL d b (by simpa using g16),trivial⟩⟩
 simp at g9
 have u:∀x∈l,p x=false:=fun x y=>by obtain⟨j,z,rfl⟩:=List.getElem_of_mem y;exact b j _ (by omega) (ah z)
 refine(bJ) ?_;exact⟨_,rfl,.inr ⟨u,rfl⟩,(St.cg st1)⟩
theorem nk{l:List (bT × ek)}{p:bT × ek→Bool}{f:FuncId}(b:CF prog f) (hl:Rd RR.gU 6 Z w a n c l) (d:∀w1,aQ [] w w1→∀x∈l,Calls prog f #[.agg (bT.ve x).toArray,cap] w1 fun e w'=>e=.returned (.bool (p x))∧aQ [] w1 w'):CR prog 115 #[.slice a n c,.func (.func f) #[] #[cap]] w (.bool (l.any p)):=by
 refine enter func115 rfl ntmps115 rfl<|?_;have aM:=St.s0 w;refine(c6) NI (qX (w:=w) b (hl.ext (St.cg aM)) (fun w1 h1=>d w1 (aQ.trans (St.cg aM) h1))) ?_;rintro _ w1 ⟨j,rfl,g,s1⟩;have st1:=aM.step s1;have h:=g.any;refine(bJ) ?_;exact⟨by rw [h],(St.cg st1)⟩
theorem tK{x:bT × ek}{pb:Nat}(b:bC w pb 41 k.cells):CR prog 116 #[.agg (bT.ve x).toArray,.pointer (some ⟨pb,0,none⟩)] w (.bool (decide (x.1.key=k))):=by
 refine enter func116 rfl ntmps116 rfl<|?_;have aM:=St.s0 w;refine(dt) aM fun b2 w1 d e st1=>?_;refine(lj) aq st1.b0<|(bS) aq (bC.range (b.ext (St.cg st1)))<|(bJ) ?_;exact⟨rfl,(St.cg st1)⟩
theorem tL :CR prog 34 #[k.val] w (.bool false):=by
 refine enter func34 rfl ntmps34 rfl<|?_;have aM:=St.s0 w;refine(dt) aM fun b1 w1 b d st1=>?_;refine(bJ) ?_;exact⟨rfl,(St.cg st1)⟩
theorem jX{L:List (bT × ek)}{A:Nat→Prop}(g:bC w wb 86 (D.wc v rev ra rn rc)) (hm:KM Key.val w D.m ml) (h:cy l lf ml) (i:(As.dR 47 lf l).ok Z w) (j:KR aa l) (hl:Rd RR.gU 6 A w al nl el L) (e:cn k):CR prog 70 #[.pointer (some ⟨wb,0,none⟩),.slice al nl el,k.val,.func (.func 34) #[] #[]] w (.int .i64 (bD ⟨rev,aC,l⟩ (L.map Prod.fst) [] k)):=by
 refine enter func70 rfl ntmps70 rfl<|?_;have aM:=St.s0 w;refine(dt) aM fun o w1 y z st1=>?_;refine fE ?_;refine WP .r (PV.func (us:=[]) (vs:=[.pointer (some ⟨o,0,none⟩)]) rfl rfl)<|?_;refine WL.c1 (u:=.bool (eb (L.map Prod.fst) k)) (nk (p:=fun x=>decide (x.1.key=k)) Ni (hl.ext (St.cg st1)) (fun w1 h1 x B=>tK (bC.ext (As.gb st1.g0) h1))) (by rw [Ex]) st1 fun w2 s2 st2=>?_;refine fE ?_;refine WC.eC (t:=13) (v:=.bool (eb (L.map Prod.fst) k && !aw k)) st2 ?_<|?_
 ·
  refine(c7) (fun g15=>?_) (fun g15=>?_)
  ·
   refine(bS) aq st2.b0<|?_;refine WL.c1 (u:=.bool (aw k)) (dq (k:=k) e) (by rw [vl e]) st2 fun w3 C b=>?_;exact(cP) (tG g15) (b)
  exact(cP) (tG g15) (st2)
 intro w3 b;refine(bl) (fun g13=>?_) fun g13=>?_
 ·
  refine(bJ) ?_;exact⟨by rw [B7 g13],(St.cg b)⟩
 ·
  have g13:(eb (L.map Prod.fst) k && !aw k)=false:=by simpa using g13
  refine nx ?_;refine WC.eC (t:=20) (v:=.bool (eb (L.map Prod.fst) k || (ax k || aA ⟨rev,aC,l⟩ k))) b ?_<|?_
  ·
   refine(c7) (fun g22=>?_) (fun g22=>?_)
   ·
    exact(cP) (tG g22) (b)
   refine(bS) aq b.b0<|(eO) (yo (aC:=aC) (g.ext (St.cg b)) (hm.ext (St.cg b)) h (As.Sd i (St.cg b)) j) b fun w4 E d=>?_;exact(cP) (tG g22) (d)
  intro w4 d;refine(bl) (fun g20=>?_) fun g20=>?_
  ·
   refine(bJ) ?_;exact⟨by rw [B8 g13 g20],(St.cg d)⟩
  have g20:(eb (L.map Prod.fst) k || (ax k || aA ⟨rev,aC,l⟩ k))=false:=by simpa using g20
  refine(bS) aq d.b0<|?_;refine WL.go rfl (OX.jz S8 rfl rfl rfl ((Calls.LL (tL (k:=k))).mono ?_));rintro _ w5 ⟨rfl,q⟩;refine⟨_,rfl,?_⟩;have s:=d.step q;refine cv ?_;refine WC.ki rfl<|(bJ) ?_;exact⟨by rw [B9 g13 g20],(St.cg s)⟩
 -- F G H
theorem jY{L:List (bT × ek)}(b:St w M Z w [As.os RR.gU 126 6 al nl el L]) (i:L.length≤100000):Calls prog 71 #[.slice al nl el,k.val] w fun e w'=>∃(a:Option Addr) (n c:Nat),e=.returned (.slice a n c)∧St w M Z w' [As.os RR.gU 126 6 a n c (L++[((⟨k,false,0,[],[]⟩:bT),(⟨none,0,0,none,0,0⟩:ek))])]:=by
 have j:=(As.gs b.g0).len;refine enter func71 rfl ntmps71 rfl<|?_;have aM:=b;refine(dt) aM fun b3 w1 m o st1=>?_;refine(bS) aq st1.b0<|?_;refine WP .r (PV.bA (us:=((⟨k,false,0,[],[]⟩:bT).row none 0 0 none 0 0)) My rfl rfl rfl)<|?_;refine WL.go rfl (OX.bf (us:=(bT.ve ((⟨k,false,0,[],[]⟩:bT),(⟨none,0,0,none,0,0⟩:ek)))) IL rfl rfl rfl rfl fun p w2 d g=>?_);have st2:=st1.dG d g;refine WL.ap rfl rfl st2.p2 (SR.dU (A:=fun _=>True) (x:=((⟨k,false,0,[],[]⟩:bT),(⟨none,0,0,none,0,0⟩:ek))) (As.gb st2.g0) trivial rfl (bT.one _ _ _ _ _ _ _) rfl) fun a9 q w3 s t h=>?_;refine(bJ) ?_;exact⟨_,_,_,rfl,h.p1.drop.p1.drop⟩
theorem we(h:St w M Z w []) (i:bC w wb 86 (D.wc v rev ra rn rc)) (hm:KM Key.val w D.m ml) (j:cy l lf ml) (o:(As.dR 47 lf l).ok Z w) (p:KR aa l) (q:cn k):Calls prog 33 #[.pointer (some ⟨wb,0,none⟩),k.val,.func (.func 34) #[] #[]] w fun e w'=>∃(a:Option Addr) (n c:Nat),e=.returned (.slice a n c)∧St w M Z w' [As.os RR.gU 126 6 a n c (if cG ⟨rev,aC,l⟩ [] k=true then [((⟨k,false,0,[],[]⟩:bT),(⟨none,0,0,none,0,0⟩:ek))] else [])]:=by
 refine enter func33 rfl ntmps33 rfl<|?_;have aM:=St.rb h;have st1:=aM.gx RR.gU 126 6;refine(dt) st1 fun b4 w1 z B st2=>?_;refine(bS) aq st2.b0<|nx ?_;refine WL.c1 (u:=.int .i64 (if cG ⟨rev,aC,l⟩ [] k=true then 1 else 0)) (jX (aC:=aC) (L:=[]) (A:=fun _=>True) (i.ext (St.cg st2)) (hm.ext (St.cg st2)) j (As.Sd o (St.cg st2)) p (Rd.nil _ _ _ _) q) (by rw [show bD ⟨rev,aC,l⟩ (List.map Prod.fst ([]:List (bT × ek))) [] k=_ from zV]) st2 fun w2 s2 b=>?_;refine(bl) (fun g11=>?_) fun g11=>?_
 ·
  have d:cG ⟨rev,aC,l⟩ [] k=true:=by simpa using g11
  refine(bS) aq b.b0<|?_;have g:=b.p1;refine(c6) Jb (jY (k:=k) g.e1 (by simp)) ?_;rintro _ w3 ⟨r,s,t,rfl,x⟩;have y:=St.lr g x;refine(bJ) ?_;exact⟨r,s,t,rfl,by rw [if_pos d];exact(St.wk y.p1.drop)⟩
 have d:¬cG ⟨rev,aC,l⟩ [] k=true:=by simpa using g11
 refine(bJ) ?_;exact⟨none,0,0,rfl,by rw [if_neg d];exact(St.wk b.drop)⟩
theorem wg{x:bZ}{a1 a2:Option Addr}{n1 e1 n2 e2:Nat}(hi:Rd RR.aC 4 Z w a1 n1 e1 x.ab):CR prog 43 #[.agg (x.row a1 n1 e1 a2 n2 e2).toArray,k.val] w (.string (aL x.ab k).value):=by
 refine enter func43 rfl ntmps43 rfl<|?_;have aM:=St.s0 w;refine(dt) aM fun b2 w1 g h st1=>?_;refine(dt) st1 fun b3 w2 i j st2=>?_;refine(bS) cq st2.b1<|(bS) aq st2.b0<|(c6) Jd (je (k:=k) (hi.ext (St.cg st2))) ?_;rintro _ w3 ⟨y,rfl,b,_,d⟩;have e:=st2.step d;refine WP .r (PV.sM (fs:=[_,_,_]) (f:=1) (off:=2) (T:=88) underlying88 rfl rfl (show ∀w,(isAgg 9).run _ w=.ok false w from isAgg9) rfl rfl)<|(bJ) ?_;exact⟨by rw [← b],(St.cg e)⟩
theorem wi(j:St w M Z w [As.map Key.val S.m ml,As.map Key.val S.q [],As.blk wb 86 (D.wc S.s rev ra rn rc),As.map Key.val D.m cS,As.dR 47 lf l]) (o:(S.FV prog aa x0).p Z w) (t:Rd RR.aC 4 Z w D.a1 D.n1 D.c1 x0.ab) (hm:aR aa x0.ab ml) (A:cy l lf cS) (C:ao aa) (E:∀k,(valOf aa x0.ab k).size≤1000) (dF:ax k=true):Calls prog 121 #[.pointer (some ⟨wb,0,none⟩),k.val] w fun e w'=>∃b,e=.returned (.string (cB (valOf aa x0.ab) ⟨rev,x0.ab,l⟩ k))∧aR aa x0.ab b∧eP ml b∧St w M Z w' [As.map Key.val S.m b,As.map Key.val S.q [],As.blk wb 86 (D.wc S.s rev ra rn rc),As.map Key.val D.m cS,As.dR 47 lf l]:=by
 refine enter func121 rfl ntmps121 rfl<|?_;have aM:=j;have st1:=aM.fr t;have st2:=st1.fact (B:=As.fz (S.FV prog aa x0)) o (fun _ y=>y);refine(dt) st2 fun b3 w1 F G g=>?_;refine cv ?_;have H:=g.cu;refine WC.dS (m:=5) g mixed<|(kf) dD St.g5<|(iN) aq St.g0<|(da)<|?_;rintro w2 ⟨I,d⟩ _;refine WP .r (PV.look cV dE db (As.gm d.g6) rfl rfl)<|(bS) aq d.b0<|?_;refine WL.c1 (u:=.bool true) (bM (k:=k)) (by rw [dF]) d fun w3 J h=>?_;refine cM ?_;refine WC.ki rfl<|nx ?_;have K:=h.cu;refine WC.dS (m:=5) h mixed<|(Bo) cq St.g5<|(iN) aq St.g0<|(da)<|?_;rintro w4 ⟨L,i⟩ _;refine(eO) (wg (x:=⟨rev,x0.ab,l⟩) (k:=k) (a2:=D.a2) (n2:=D.n2) (e2:=D.c2) (As.gr i.g2)) i fun w5 N z=>?_;refine(bJ) ?_;exact⟨ml,by rw [H9 dF],hm,eP.refl _,z.drop.drop.drop⟩
theorem wm(x:St w M Z w [As.map Key.val S.m ml,As.map Key.val S.q [],As.blk wb 86 (D.wc S.s rev ra rn rc),As.map Key.val D.m cS,As.dR 47 lf l]) (y:(S.FV prog aa x0).p Z w) (z:Rd RR.aC 4 Z w D.a1 D.n1 D.c1 x0.ab) (hm:aR aa x0.ab ml) (K:cy l lf cS) (A:ao aa) (C:∀k,(valOf aa x0.ab k).size≤1000) (dF:ax k=false) (h:cn k) (i:aw k=true) (hk:eV aa k):Calls prog 121 #[.pointer (some ⟨wb,0,none⟩),k.val] w fun e w'=>∃b,e=.returned (.string (cB (valOf aa x0.ab) ⟨rev,x0.ab,l⟩ k))∧aR aa x0.ab b∧eP ml b∧St w M Z w' [As.map Key.val S.m b,As.map Key.val S.q [],As.blk wb 86 (D.wc S.s rev ra rn rc),As.map Key.val D.m cS,As.dR 47 lf l]:=by
 refine enter func121 rfl ntmps121 rfl<|?_;have aM:=x;have st1:=aM.fr z;have st2:=st1.fact (B:=As.fz (S.FV prog aa x0)) y (fun _ E=>E);refine(dt) st2 fun b3 w1 L N j=>?_;refine cv ?_;have O:=j.cu;refine WC.dS (m:=5) j mixed<|(kf) dD St.g5<|(iN) aq St.g0<|(da)<|?_;rintro w2 ⟨P,d⟩ _;refine WP .r (PV.look cV dE db (As.gm d.g6) rfl rfl)<|(bS) aq d.b0<|?_;refine WL.c1 (u:=.bool false) (bM (k:=k)) (by rw [dF]) d fun w3 Q o=>?_;refine cM ?_;refine WC.dw rfl<|(bS) aq o.b0<|?_;refine WL.c1 (u:=.bool true) (dq (k:=k) h) (by rw [(vl h).symm.trans i]) o fun w4 R F=>?_;refine cM ?_;refine WC.ki rfl<|nx ?_;refine WC.cz (m:=5) [] [] [0,1,2,3,4] [] F (av.k4 M0 M1 M2 M3<|av.k4 M4 M5 M6 M7<|av.nil) mixed (by kernel_rfl) (by kernel_rfl) rfl<|?_
 iterate 3 refine DG.a ?_
 refine(wW) sf SV.g5<|(qu) aq SV.g0<|(lJ)<|?_;intro w5 T t;simp only [CM,NM,CA,NA,iv.it] at t;have g:=t.p4.p4;refine(c6) y7 (De A C hk _ _ _ _ _ g.e2 (As.gf g.g3) hm (fun _=>iE.nil _)) ?_;rintro _ w6 ⟨dW,rfl,G,H,I⟩;have J:=St.lr g I;refine nx ?_;refine WL.nil (EX.np ?_);refine(bJ) ?_;exact⟨dW,by rw [Ey i],G,H,J.p2.drop.p2.drop.p2.drop⟩
theorem wo(y:St w M Z w [As.map Key.val S.m ml,As.map Key.val S.q [],As.blk wb 86 (D.wc S.s rev ra rn rc),As.map Key.val D.m cS,As.dR 47 lf l]) (z:(S.FV prog aa x0).p Z w) (A:Rd RR.aC 4 Z w D.a1 D.n1 D.c1 x0.ab) (hm:aR aa x0.ab ml) (C:cy l lf cS) (G:ao aa) (H:∀k,(valOf aa x0.ab k).size≤1000) {r:Rec}(dF:ax k=false) (h:cn k) (i:aw k=false) (b:ay l k=some r) (E:r.ak=rev):Calls prog 121 #[.pointer (some ⟨wb,0,none⟩),k.val] w fun e w'=>∃d,e=.returned (.string (cB (valOf aa x0.ab) ⟨rev,x0.ab,l⟩ k))∧aR aa x0.ab d∧eP ml d∧St w M Z w' [As.map Key.val S.m d,As.map Key.val S.q [],As.blk wb 86 (D.wc S.s rev ra rn rc),As.map Key.val D.m cS,As.dR 47 lf l]:=by
 refine enter func121 rfl ntmps121 rfl<|?_;have aM:=y;have st1:=aM.fr A;have st2:=st1.fact (B:=As.fz (S.FV prog aa x0)) z (fun _ F=>F);refine(dt) st2 fun b3 w1 I J j=>?_;refine cv ?_;have K:=j.cu;refine WC.dS (m:=5) j mixed<|(kf) dD St.g5<|(iN) aq St.g0<|(da)<|?_;rintro w2 ⟨L,g⟩ _;refine WP .r (PV.bD cV dE db (As.gm g.g6) (C.yes b) rfl rfl)<|(bS) aq g.b0<|?_;refine WL.c1 (u:=.bool false) (bM (k:=k)) (by rw [dF]) g fun w3 N o=>?_;refine cM ?_;refine WC.dw rfl<|(bS) aq o.b0<|?_;refine WL.c1 (u:=.bool false) (dq (k:=k) h) (by rw [(vl h).symm.trans i]) o fun w4 O t=>?_;refine cM ?_;refine WC.dw rfl<|(bl) (fun x=>?_) fun x=>?_
 ·
  exact cI x
 refine(bF) e4 (bC.range ((As.nJ t.g7).1 _ _ b).1)<|(bJ) ?_;exact⟨ml,by rw [Ez dF i b E],hm,eP.refl _,t.drop.drop.drop⟩
theorem yp{L:List bT}(b:St w M Z w [As.map Key.val S.m ml,As.map Key.val S.q [],As.blk wb 86 (D.wc S.s rev ra rn rc),As.map Key.val D.m cS,As.dR 47 lf l]) (d:(S.FV prog aa x0).p Z w) (g:Rd RR.aC 4 Z w D.a1 D.n1 D.c1 x0.ab) (hm:aR aa x0.ab ml) (i:cy l lf cS) (j:ao aa) (o:∀k,(valOf aa x0.ab k).size≤1000) (hk:eV aa k) (x:dC L ⟨rev,x0.ab,l⟩ k):Calls prog 121 #[.pointer (some ⟨wb,0,none⟩),k.val] w fun e w'=>∃t,e=.returned (.string (cB (valOf aa x0.ab) ⟨rev,x0.ab,l⟩ k))∧aR aa x0.ab t∧eP ml t∧St w M Z w' [As.map Key.val S.m t,As.map Key.val S.q [],As.blk wb 86 (D.wc S.s rev ra rn rc),As.map Key.val D.m cS,As.dR 47 lf l]:=by
 cases dF:ax k with
 | true=>exact wi b d g hm i j o dF
 | false=>
  cases u:aw k with
  | true=>exact wm b d g hm i j o dF hk.cn u hk
  | false=>
   have hu:aA ⟨rev,x0.ab,l⟩ k=true:=by
    rcases x with h | ⟨_,h⟩ | h
    ·
     rw [dF] at h;cases h
    ·
     rw [u] at h;cases h
    exact h
   obtain⟨r,y,z⟩:=aN.1 hu;exact wo b d g hm i j o dF hk.cn u y z
set_option maxHeartbeats 400000
theorem jZ{xs:List Key}(i:St w M Z w []) (hl:Rd RR.key 2 (fun x=>Z x∨x∈bN a) w a n c xs) (m:∀x∈bN a,x<w.heap.size) (o:xs.length≤1000000):Calls prog 78 #[.slice a n c] w fun e w'=>∃b d g,e=.returned (.slice b d g)∧St w M Z w' [As.os RR.key 41 2 b d g xs]:=by
 have p:St w M (fun x=>Z x∨x∈bN a) w []:=⟨i.cH,fun x q=>q.elim (i.kc x) (m x),by simp,by simp,.nil,by simp⟩;refine(fU p hl o).mono<|?_;rintro e w' ⟨b,d,g,rfl,j⟩;exact⟨b,d,g,rfl,j.Sf (fun _ h=>.inl h) (Ow.z (As.gs j.g0))⟩
theorem wt{A:ek}(y:St w M Z w [As.blk wb 86 (D.wc v rev ra rn rc),As.map Key.val D.m cS,As.dR 47 lf l,As.os RR.key 41 2 ra rn rc bO,As.os RR.key 41 2 A.a A.n A.c f.reads]) (U:cy l lf cS) (V:f.reads.length≤4000) (hr:bO.length≤100000) (I:ay l f.key=none) (Q0:cS.length<4000):Calls prog 120 #[.pointer (some ⟨wb,0,none⟩),.agg (bT.ve (f,A)).toArray,.string value] w fun e w'=>∃(q:RL) (a:Option Addr) (n c:Nat) (Z':Nat→Prop),e=.returned (.int .i64 0)∧eI w.heap.size Z Z'∧St w M Z' w' [As.blk wb 86 (D.wc v rev a n c),As.map Key.val D.m (cw cS f.key (.pointer (some ⟨q.b,0,none⟩))),As.dR 47 (qI lf f.key q) (ez l (cc ⟨rev,aC,l⟩ f.key value f.reads)),As.os RR.key 41 2 a n c (bO++[f.key]),As.os RR.key 41 2 A.a A.n A.c f.reads]:=by
 have zN:=(As.gs y.g3).len;have W:=(As.gs y.g4).len;refine enter func120 rfl ntmps120 rfl<|?_;have aM:=y;refine(dt) aM fun b4 w1 FK FL st1=>?_;refine cv ?_;have hN1:=st1.cu;refine WC.dS (m:=6) st1 mixed<|(kf) dD St.g1<|(Bo) aq St.g0<|(da)<|?_;rintro w2 ⟨yl,st2⟩ _;refine WP .r (PV.jD cV dE db (As.gm st2.g2) (U.no I) rfl rfl)<|oa ?_;refine WL.bX (t:=19) rfl (fun g19=>?_) (fun g19=>?_)
 ·
  refine(bF) dD st2.b1<|?_;refine WP .r (PV.RM dE (As.gm st2.g2) rfl)<|(bl) (fun J=>?_) fun J=>?_
  ·
   exact absurd J (by simp;omega)
  skip
  refine ho ?_;refine WP .r (PV.ld1 (j:=1) aT st2.b1 rfl rfl)<|cv ?_;refine WC.cz (m:=14) [] [5] [3,4,5,0,1,2,6,7,8,9,10,11,12,13] [(13,.blk 47 [.int .i64 0,.string ⟨#[]⟩,.string ⟨#[]⟩,.slice none 0 0,.int .i64 0,.int .i64 0,.int .i64 0,.bool false])] st2 (av.k4 M0 M1 M2 M3<|av.cons M4<|av.cons M5<|av.nil) mixed (by kernel_rfl) (by kernel_rfl) rfl<|(wW) eD SV.g0<|(gR) (fun w3 KX Ax K mh=>?_);simp only [CA,NA] at K;have d:=K;refine OX.call CN rfl rfl ((jZ d.e0 (Ow.rd (As.gs d.g5) (by omega)) (OR.lt (As.gs d.g5)) (by omega)).mono ?_);rintro _ w4 ⟨g,o,p,rfl,z⟩;have X:=St.lr d z;have Y:=St.gg z;have JT:=d.size;have jt:=X.dM (by omega);have UP:=(eI.refl w.heap.size Z).trans (eI.uS (F:=fun x=>x∈bN g) Y) JT;refine⟨_,rfl,z.cH.size,_,rfl,_,_,_,jt,aG.k4<|aG.k2<|aG.cons<|aG.nil,av.k4 M1 M2 M3 M4<|av.cons M5<|av.cons M6<|av.nil,?_⟩;refine(AF) aq SV.g0<|?_
  iterate 4 refine DG.a ?_
  refine(wW) eD SV.g0<|?_;refine DG.a<|?_;refine DQ .r (fun C E G _ h sn=>PV.add rfl rfl (by show _≤(1:Int)+(A.n:Int);omega) (by show(1:Int)+(A.n:Int)≤_;omega))<|DQ .r (fun C E G _ h sn=>PV.bA (us:=[.int .i64 f.key.kind,.string f.key.text,.string value,.slice g o p,.int .i64 rev,.int .i64 rev,.int .i64 (1+(A.n:Int)),.bool false]) IV rfl rfl rfl)<|?_;refine DG.side (s:=.blk 47 [.int .i64 0,.string ⟨#[]⟩,.string ⟨#[]⟩,.slice none 0 0,.int .i64 0,.int .i64 0,.int .i64 0,.bool false]) rfl rfl rfl rfl rfl rfl (fun C E G ux h=>OX.alloc CH rfl fun b wy i hb=>⟨i.ext.size,_,rfl,⟨b,rfl⟩,h.dG i hb⟩)<|?_;rintro _ ⟨H,rfl⟩;refine(lJ) ?_;intro w5 F0 L;simp only [CM,NM,CA,NA,iv.it] at L;refine(dH) iK L fun w6 oB qx kF=>?_;refine WL.nil (EX.np ?_);have N:=kF.rE (B:=As.blk H 47 ((cc ⟨rev,aC,l⟩ f.key value f.reads).row g o p)) (by rw [Ca I];simp only [Rec.row,W]);refine eE ?_;refine WL.bX (t:=47) rfl (fun O=>?_) (fun O=>?_)
  ·
   exact cI O
  refine oa ?_;refine WC.dw rfl<|cM ?_;have Yj:=N.cu;refine WC.dS (m:=6) N mixed<|(kf) dD St.g3<|(Bo) aq St.g2<|(da)<|?_;rintro w7 ⟨JF,P⟩ _;refine WL.go rfl (OX.put cV dE (As.gm P.g4) rfl rfl rfl fun w8 Df yn=>?_);have e7:=P.p4.kM Df yn;refine cM ?_;refine WC.cz (m:=9) [] [8] [1,2,3,4,5,6,7,8,0] [(7,.sl 41 1 f.key.cells)] e7 (av.k4 M0 M1 M2 M3<|av.cons M4<|av.cons M5<|av.cons M7<|av.nil) mixed (by kernel_rfl) (by kernel_rfl) rfl<|?_
  iterate 3 refine DG.a ?_
  refine(wW) eD SV.g4<|(AF) aq SV.g3<|?_;refine DG.side (s:=.sl 41 1 f.key.cells) rfl rfl rfl rfl rfl rfl (fun C E G ux h=>OX.bf (us:=f.key.cells) ey rfl rfl rfl rfl fun b wy i hb=>⟨i.ext.size,_,rfl,⟨b,rfl⟩,h.dG i hb⟩)<|?_;rintro _ ⟨OP,rfl⟩;refine(gR) (fun w9 R8x UQ u Dg=>?_);simp only [CA,NA] at u;refine OX.oL qJ rfl rfl rfl (As.gs u.g6) (SR.dU (A:=fun _=>True) (x:=f.key) (show bC _ OP _ _ from u.ok _ (.tail _ (.tail _ (.tail _ (.tail _ (.tail _ (.tail _ (.tail _ (.tail _ (Dg _ (.head _))))))))))) trivial rfl (by simp [Key.cells,Value.oneCell']) rfl) (by omega) (by omega) (Nat.zero_le _) fun a74 UR oC JU Q JV US=>?_;have gk:=u.p6.gK Q JU JV;refine⟨Q.size,_,rfl,_,_,_,gk,aG.k4<|aG.k4<|aG.nil,av.k4 M1 M2 M3 M4<|av.cons M5<|av.cons M6<|av.cons M7<|av.nil,?_⟩;refine(lJ) ?_;intro qy JW R;simp only [CM,NM,CA,NA,iv.it] at R;refine cm ?_;refine WL.s1 R.p6 fun uy _ ee=>?_;refine WL.nil (EX.np ?_);refine eE ?_;have T:=ee.p7.p5;have fx:=St.tb (q:=⟨H,g,o,p⟩) (r:=(cc ⟨rev,aC,l⟩ f.key value f.reads)) (l':=ez l (cc ⟨rev,aC,l⟩ f.key value f.reads)) T (As.gr T.g6) V (cD l (cc ⟨rev,aC,l⟩ f.key value f.reads));refine(bJ) ?_;exact⟨⟨H,g,o,p⟩,_,_,_,_,rfl,UP,fx.p2.drop.p4.drop.p4.drop.p3.p2⟩
 exact cI g19
theorem wu{A:ek}(G:St w M Z w [As.blk wb 86 (D.wc v rev ra rn rc),As.map Key.val D.m cS,As.dR 47 lf l,As.os RR.key 41 2 ra rn rc bO,As.os RR.key 41 2 A.a A.n A.c f.reads]) (Y:cy l lf cS) (h4:f.reads.length≤4000) (hr:bO.length≤100000) {r:Rec}(y:ay l f.key=some r):Calls prog 120 #[.pointer (some ⟨wb,0,none⟩),.agg (bT.ve (f,A)).toArray,.string value] w fun e w'=>∃(q:RL) (a:Option Addr) (n c:Nat) (Z':Nat→Prop),e=.returned (.int .i64 0)∧eI w.heap.size Z Z'∧St w M Z' w' [As.blk wb 86 (D.wc v rev a n c),As.map Key.val D.m (cw cS f.key (.pointer (some ⟨q.b,0,none⟩))),As.dR 47 (qI lf f.key q) (ez l (cc ⟨rev,aC,l⟩ f.key value f.reads)),As.os RR.key 41 2 a n c (bO++[f.key]),As.os RR.key 41 2 A.a A.n A.c f.reads]:=by
 have zN:=(As.gs G.g3).len;have hAn:=(As.gs G.g4).len;refine enter func120 rfl ntmps120 rfl<|?_;have aM:=G;refine(dt) aM fun b4 w1 FK FL st1=>?_;refine cv ?_;have hN1:=st1.cu;refine WC.dS (m:=6) st1 mixed<|(kf) dD St.g1<|(Bo) aq St.g0<|(da)<|?_;rintro w2 ⟨yl,st2⟩ _;refine WP .r (PV.bD cV dE db (As.gm st2.g2) (Y.yes y) rfl rfl)<|oa ?_;refine WL.bX (t:=19) rfl (fun g19=>?_) (fun g19=>?_)
 ·
  exact cI g19
 refine oa ?_;refine WC.dw rfl<|ho ?_;refine WP .r (PV.ld1 (j:=1) aT st2.b1 rfl rfl)<|cv ?_;refine WC.cz (m:=14) [] [5] [3,4,5,0,1,2,6,7,8,9,10,11,12,13] [(13,.blk 47 [.int .i64 0,.string ⟨#[]⟩,.string ⟨#[]⟩,.slice none 0 0,.int .i64 0,.int .i64 0,.int .i64 0,.bool false])] st2 (av.k4 M0 M1 M2 M3<|av.cons M4<|av.cons M5<|av.nil) mixed (by kernel_rfl) (by kernel_rfl) rfl<|(wW) eD SV.g0<|(gR) (fun w3 KX Ax P mh=>?_);simp only [CA,NA] at P;have g:=P;refine OX.call CN rfl rfl ((jZ g.e0 (Ow.rd (As.gs g.g5) (by omega)) (OR.lt (As.gs g.g5)) (by omega)).mono ?_);rintro _ w4 ⟨d,h,i,rfl,H⟩;have mf:=St.lr g H;have hgc:=St.gg H;have JT:=g.size;have jt:=mf.dM (by omega);have UP:=(eI.refl w.heap.size Z).trans (eI.uS (F:=fun x=>x∈bN d) hgc) JT;refine⟨_,rfl,H.cH.size,_,rfl,_,_,_,jt,aG.k4<|aG.k2<|aG.cons<|aG.nil,av.k4 M1 M2 M3 M4<|av.cons M5<|av.cons M6<|av.nil,?_⟩;refine(AF) aq SV.g0<|?_
 iterate 4 refine DG.a ?_
 refine(wW) eD SV.g0<|?_;refine DG.a<|?_;refine DQ .r (fun I J K _ o sn=>PV.add rfl rfl (by show _≤(1:Int)+(A.n:Int);omega) (by show(1:Int)+(A.n:Int)≤_;omega))<|DQ .r (fun I J K _ o sn=>PV.bA (us:=[.int .i64 f.key.kind,.string f.key.text,.string value,.slice d h i,.int .i64 rev,.int .i64 rev,.int .i64 (1+(A.n:Int)),.bool false]) IV rfl rfl rfl)<|?_;refine DG.side (s:=.blk 47 [.int .i64 0,.string ⟨#[]⟩,.string ⟨#[]⟩,.slice none 0 0,.int .i64 0,.int .i64 0,.int .i64 0,.bool false]) rfl rfl rfl rfl rfl rfl (fun I J K ux o=>OX.alloc CH rfl fun b wy p hb=>⟨p.ext.size,_,rfl,⟨b,rfl⟩,o.dG p hb⟩)<|?_;rintro _ ⟨u,rfl⟩;refine(lJ) ?_;intro w5 F0 Q;simp only [CM,NM,CA,NA,iv.it] at Q;refine(dH) iK Q fun w6 oB qx L=>?_;refine WL.nil (EX.np ?_);refine cM ?_;refine WC.eC (t:=54) (v:=.bool (decide (r.value=value))) L ?_<|?_
 ·
  refine cv ?_;refine WL.bX (t:=47) rfl (fun N=>?_) (fun N=>?_)
  ·
   refine(bF) e4 (bC.range ((As.nJ L.g5).1 _ _ y).1)<|?_;exact(cP) (tG N) (L)
  exact cI N
 intro w7 oo;refine nx ?_;have z:=oo;refine WC.hI (σ:=Int) [_] (fun ch=>[(0,.pointer (some ⟨wb,0,none⟩)),(4,.pointer (some ⟨b4,0,none⟩)),(9,.pointer (some ⟨u,0,none⟩))]) (fun ch=>[As.blk u 47 [.int .i64 f.key.kind,.string f.key.text,.string value,.slice d h i,.int .i64 ch,.int .i64 rev,.int .i64 (1+(A.n:Int)),.bool false]]) (fun ch=>(ch=if r.value=value then r.changed else rev)∧True) z ?_ ?_
 ·
  refine(bl) (fun O=>?_) fun O=>?_
  ·
   refine(bF) aT (bC.range ((As.nJ z.g5).1 _ _ y).1)<|nx ?_;refine WL.s1 z fun w8 _ C=>?_;refine nx ?_;exact lK (r.changed) ⟨C,⟨by rw [if_pos (by simpa using O)],trivial⟩⟩
  refine nx ?_;exact lK (rev) ⟨z,⟨by rw [if_neg (by simpa using O)],trivial⟩⟩
 rintro ch w8 C ⟨R,_⟩;simp only [CA,NA] at C R ⊢;refine cm ?_;have T:=C.rE (B:=As.blk u 47 ((cc ⟨rev,aC,l⟩ f.key value f.reads).row d h i)) (by rw [Cb y,R];simp only [Rec.row,hAn]);have Yj:=T.cu;refine WC.dS (m:=6) T mixed<|(kf) dD St.g3<|(Bo) aq St.g2<|(da)<|?_;rintro w9 ⟨JF,U⟩ _;refine WL.go rfl (OX.put cV dE (As.gm U.g4) rfl rfl rfl fun oC Df yn=>?_);have gi:=U.p4.kM Df yn;refine cM ?_;refine WC.cz (m:=9) [] [8] [1,2,3,4,5,6,7,8,0] [(7,.sl 41 1 f.key.cells)] gi (av.k4 M0 M1 M2 M3<|av.cons M4<|av.cons M5<|av.cons M7<|av.nil) mixed (by kernel_rfl) (by kernel_rfl) rfl<|?_
 iterate 3 refine DG.a ?_
 refine(wW) eD SV.g4<|(AF) aq SV.g3<|?_;refine DG.side (s:=.sl 41 1 f.key.cells) rfl rfl rfl rfl rfl rfl (fun I J K ux o=>OX.bf (us:=f.key.cells) ey rfl rfl rfl rfl fun b wy p hb=>⟨p.ext.size,_,rfl,⟨b,rfl⟩,o.dG p hb⟩)<|?_;rintro _ ⟨OP,rfl⟩;refine(gR) (fun qy R8x UQ E Dg=>?_);simp only [CA,NA] at E;refine OX.oL qJ rfl rfl rfl (As.gs E.g6) (SR.dU (A:=fun _=>True) (x:=f.key) (show bC _ OP _ _ from E.ok _ (.tail _ (.tail _ (.tail _ (.tail _ (.tail _ (.tail _ (.tail _ (.tail _ (Dg _ (.head _))))))))))) trivial rfl (by simp [Key.cells,Value.oneCell']) rfl) (by omega) (by omega) (Nat.zero_le _) fun a74 UR uy JU V JV US=>?_;have gB:=E.p6.gK V JU JV;refine⟨V.size,_,rfl,_,_,_,gB,aG.k4<|aG.k4<|aG.nil,av.k4 M1 M2 M3 M4<|av.cons M5<|av.cons M6<|av.cons M7<|av.nil,?_⟩;refine(lJ) ?_;intro wY JW W;simp only [CM,NM,CA,NA,iv.it] at W;refine cm ?_;refine WL.s1 W.p6 fun C6 _ eG=>?_;refine WL.nil (EX.np ?_);refine eE ?_;have X:=eG.p7.p5;have gQ:=St.tb (q:=⟨u,d,h,i⟩) (r:=(cc ⟨rev,aC,l⟩ f.key value f.reads)) (l':=ez l (cc ⟨rev,aC,l⟩ f.key value f.reads)) X (As.gr X.g6) h4 (cD l (cc ⟨rev,aC,l⟩ f.key value f.reads));refine(bJ) ?_;exact⟨⟨u,d,h,i⟩,_,_,_,_,rfl,UP,gQ.p2.drop.p4.drop.p4.drop.p3.p2⟩
set_option maxHeartbeats 400000
theorem wv{L:List (bT × ek)}{A:ek}(u:St w M Z w [As.map Key.val S.m ml,As.map Key.val S.q [],As.blk wb 86 (D.wc S.s rev ra rn rc),As.map Key.val D.m cS,As.dR 47 lf l,As.os RR.gU 126 6 al nl el (L++[(f,A)])]) (I:(S.FV prog aa x0).p Z w) (J:Rd RR.aC 4 Z w D.a1 D.n1 D.c1 x0.ab) (hm:aR aa x0.ab ml) (y:cy l lf cS) (V:ao aa) (W:∀k,(valOf aa x0.ab k).size≤1000) (X:KR aa l) (Y:L.length≤1000) (z:f.running=false) (g:ay l f.key=none):Calls prog 73 #[.pointer (some ⟨wb,0,none⟩),.slice al nl el,.func (.func 34) #[] #[]] w fun e w'=>∃(l':List Rec) (L':List (bT × ek)) (d:Bool) (C:Int) (a:Option Addr) (n c:Nat) (j:List (Key × Value)),e=.returned (.tuple #[.slice a n c,.bool d,.int .i64 C])∧FT aa (valOf aa x0.ab) ⟨rev,x0.ab,l⟩ L f A ⟨rev,x0.ab,l'⟩ L' [] C∧cy l' lf cS∧aR aa x0.ab j∧eP ml j∧St w M Z w' [As.map Key.val S.m j,As.map Key.val S.q [],As.blk wb 86 (D.wc S.s rev ra rn rc),As.map Key.val D.m cS,As.dR 47 lf l',As.os RR.gU 126 6 a n c L']:=by
 have K:=(As.gs u.g5).len;rw [List.length_append,List.length_singleton] at K
 have OQ:((L++[(f,A)]).map Prod.fst)=L.map Prod.fst++[f]:=by simp
 refine enter func73 rfl ntmps73 rfl<|?_;have aM:=u;have st1:=aM.fr J;have st2:=st1.fact (B:=As.fz (S.FV prog aa x0)) I (fun _ N=>N);refine ho ?_;obtain⟨jq,b⟩:=Ow.addr (As.gs st2.g7) (ck L (f,A));refine cv ?_;refine WP .r ((PV.sub rfl rfl (by omega) (by omega)).cast (v':=.int .i64 (L.length:Int)) (congrArg (Value.int .i64) (by omega)))<|WP .r (PV.ef pL (i:=L.length) b rfl rfl (by omega))<|cv ?_;have TY:=st2.cu;refine WC.dS (m:=8) st2 mixed<|(kf) dD St.g4<|cM ?_;refine DP .r (fun _ O=>PV.uD aq (Ow.n5 (As.gs O.2.g7) (by rw [List.length_append,List.length_singleton];omega) b (ck L (f,A))) rfl rfl)<|(da)<|?_;rintro w1 ⟨qR,o⟩ _;refine WP .r (PV.jD cV dE db (As.gm o.g5) (y.no g) rfl rfl)<|fE ?_;have C2:=o.cu;refine WC.dS (m:=12) o mixed<|cM ?_;refine DW.bX (t:=35) rfl (fun E=>?_) (fun E=>?_)
 ·
  exact cI E
 ·
  refine(da) ?_;rintro w2 ⟨vY,F⟩ _;refine dz ?_;refine WC.dw rfl<|dz ?_;refine WL.bX (t:=55) rfl (fun G=>?_) (fun G=>?_)
  ·
   refine ho ?_;refine WC.ki rfl<|fE ?_;refine WL.go rfl (OX.Ei (f:=2) QN (As.gs F.g7) b (by omega) rfl rfl rfl ((({f with running:=true}:bT),A):bT × ek) (fun r h=>by rw [RR.bp h];rfl) fun w3 P Q=>?_);have H:=F.p7.gK P Q (fun x h=>.inl h);refine cm ?_;refine WL.go rfl (OX.Ei (f:=3) GF (As.gs H.g0) b (by omega) rfl rfl rfl ((({f with running:=true,at_:=0}:bT),A):bT × ek) (fun r h=>by rw [RR.bp h];rfl) fun w4 R T=>?_);have U:=H.gK R T (fun x h=>.inl h);refine ba ?_;refine nx ?_;refine EX.gJ rfl (RS.tmp rfl<|RS.tmp rfl<|RS.tmp rfl<|RS.nil) rfl<|?_;exact⟨l,L++[(({f with running:=true,at_:=0}:bT),A)],true,0,_,_,_,ml,rfl,FT.same (FS.start z (by unfold aA;simp only [g];rfl) (.inl g)) (fun e=>by have:=congrArg bT.running e;rw [z] at this;cases this) rfl rfl,y,hm,eP.refl _,U.p1.drop.p1.drop.p5.p5.p5.p5.p5⟩
  exact cI G
 -- jU dK UT C52
theorem wA{L:List (bT × ek)}{A:ek}(u:St w M Z w [As.map Key.val S.m ml,As.map Key.val S.q [],As.blk wb 86 (D.wc S.s rev ra rn rc),As.map Key.val D.m cS,As.dR 47 lf l,As.os RR.gU 126 6 al nl el (L++[(f,A)])]) (G:(S.FV prog aa x0).p Z w) (H:Rd RR.aC 4 Z w D.a1 D.n1 D.c1 x0.ab) (hm:aR aa x0.ab ml) (x:cy l lf cS) (P:ao aa) (Q:∀k,(valOf aa x0.ab k).size≤1000) (R:KR aa l) (T:L.length≤1000) {r:Rec}(I:f.running=false) (g:ay l f.key=some r) (y:r.ak=rev):Calls prog 73 #[.pointer (some ⟨wb,0,none⟩),.slice al nl el,.func (.func 34) #[] #[]] w fun e w'=>∃(l':List Rec) (L':List (bT × ek)) (d:Bool) (z:Int) (a:Option Addr) (n c:Nat) (h:List (Key × Value)),e=.returned (.tuple #[.slice a n c,.bool d,.int .i64 z])∧FT aa (valOf aa x0.ab) ⟨rev,x0.ab,l⟩ L f A ⟨rev,x0.ab,l'⟩ L' [] z∧cy l' lf cS∧aR aa x0.ab h∧eP ml h∧St w M Z w' [As.map Key.val S.m h,As.map Key.val S.q [],As.blk wb 86 (D.wc S.s rev ra rn rc),As.map Key.val D.m cS,As.dR 47 lf l',As.os RR.gU 126 6 a n c L']:=by
 have J:=(As.gs u.g5).len;rw [List.length_append,List.length_singleton] at J
 have U:((L++[(f,A)]).map Prod.fst)=L.map Prod.fst++[f]:=by simp
 refine enter func73 rfl ntmps73 rfl<|?_;have aM:=u;have st1:=aM.fr H;have st2:=st1.fact (B:=As.fz (S.FV prog aa x0)) G (fun _ K=>K);refine ho ?_;obtain⟨V,C⟩:=Ow.addr (As.gs st2.g7) (ck L (f,A));refine cv ?_;refine WP .r ((PV.sub rfl rfl (by omega) (by omega)).cast (v':=.int .i64 (L.length:Int)) (congrArg (Value.int .i64) (by omega)))<|WP .r (PV.ef pL (i:=L.length) C rfl rfl (by omega))<|cv ?_;have W:=st2.cu;refine WC.dS (m:=8) st2 mixed<|(kf) dD St.g4<|cM ?_;refine DP .r (fun _ b=>PV.uD aq (Ow.n5 (As.gs b.2.g7) (by rw [List.length_append,List.length_singleton];omega) C (ck L (f,A))) rfl rfl)<|(da)<|?_;rintro w1 ⟨X,o⟩ _;refine WP .r (PV.bD cV dE db (As.gm o.g5) (x.yes g) rfl rfl)<|fE ?_;have Y:=o.cu;refine WC.dS (m:=12) o mixed<|cM ?_;refine DW.bX (t:=35) rfl (fun E=>?_) (fun E=>?_)
 ·
  refine cM ?_;refine DP .r (fun _ b=>V1 aT (bC.range ((As.nJ b.2.g6).1 _ _ g).1) .r)<|cv ?_;refine DP .r (fun _ b=>PV.ld1 (j:=1) aT (bC.range (As.gb b.2.g4)) rfl rfl)<|(da)<|?_;rintro w2 ⟨vY,F⟩ _;refine WP .r ((PV.Gf rfl rfl).cast (v':=.bool true) (congrArg Value.bool (decide_eq_true y)))<|cv ?_;refine WC.ki rfl<|dz ?_;refine WP .r ((PV.sub rfl rfl (by omega) (by omega)).cast (v':=.int .i64 (L.length:Int)) (congrArg (Value.int .i64) (by omega)))<|WP .r (PV.sB pL (i:=L.length) (Ow.rd (As.gs F.g7) (by rw [List.length_append,List.length_singleton];omega)) rfl rfl (by omega))<|ho ?_;have N:=F.p7;have O:=St.H8 N;refine EX.gJ rfl (RS.tmp rfl<|RS.tmp rfl<|RS.tmp rfl<|RS.nil) rfl<|?_;exact⟨l,L,true,0,_,_,_,ml,rfl,FT.pop (FS.up I (aN.2 ⟨r,g,y⟩)),x,hm,eP.refl _,O.p1.drop.p1.drop.p5.p5.p5.p5.p5⟩
 ·
  exact cI E
 -- jU dK UT
theorem wB{L:List (bT × ek)}{A:ek}(C:St w M Z w [As.map Key.val S.m ml,As.map Key.val S.q [],As.blk wb 86 (D.wc S.s rev ra rn rc),As.map Key.val D.m cS,As.dR 47 lf l,As.os RR.gU 126 6 al nl el (L++[(f,A)])]) (O:(S.FV prog aa x0).p Z w) (P:Rd RR.aC 4 Z w D.a1 D.n1 D.c1 x0.ab) (hm:aR aa x0.ab ml) (E:cy l lf cS) (hR:ao aa) (hS:∀k,(valOf aa x0.ab k).size≤1000) (QT:KR aa l) (YE:L.length≤1000) {r:Rec}(F:f.running=false) (b:ay l f.key=some r) (G:¬r.ak=rev) (Q:r.bU=true):Calls prog 73 #[.pointer (some ⟨wb,0,none⟩),.slice al nl el,.func (.func 34) #[] #[]] w fun e w'=>∃(l':List Rec) (L':List (bT × ek)) (d:Bool) (H:Int) (a:Option Addr) (n c:Nat) (u:List (Key × Value)),e=.returned (.tuple #[.slice a n c,.bool d,.int .i64 H])∧FT aa (valOf aa x0.ab) ⟨rev,x0.ab,l⟩ L f A ⟨rev,x0.ab,l'⟩ L' [] H∧cy l' lf cS∧aR aa x0.ab u∧eP ml u∧St w M Z w' [As.map Key.val S.m u,As.map Key.val S.q [],As.blk wb 86 (D.wc S.s rev ra rn rc),As.map Key.val D.m cS,As.dR 47 lf l',As.os RR.gU 126 6 a n c L']:=by
 have R:=(As.gs C.g5).len;rw [List.length_append,List.length_singleton] at R
 have OQ:((L++[(f,A)]).map Prod.fst)=L.map Prod.fst++[f]:=by simp
 refine enter func73 rfl ntmps73 rfl<|?_;have aM:=C;have st1:=aM.fr P;have st2:=st1.fact (B:=As.fz (S.FV prog aa x0)) O (fun _ T=>T);refine ho ?_;obtain⟨jq,o⟩:=Ow.addr (As.gs st2.g7) (ck L (f,A));refine cv ?_;refine WP .r ((PV.sub rfl rfl (by omega) (by omega)).cast (v':=.int .i64 (L.length:Int)) (congrArg (Value.int .i64) (by omega)))<|WP .r (PV.ef pL (i:=L.length) o rfl rfl (by omega))<|cv ?_;have TY:=st2.cu;refine WC.dS (m:=8) st2 mixed<|(kf) dD St.g4<|cM ?_;refine DP .r (fun _ g=>PV.uD aq (Ow.n5 (As.gs g.2.g7) (by rw [List.length_append,List.length_singleton];omega) o (ck L (f,A))) rfl rfl)<|(da)<|?_;rintro w1 ⟨qR,y⟩ _;refine WP .r (PV.bD cV dE db (As.gm y.g5) (E.yes b) rfl rfl)<|fE ?_;have C2:=y.cu;refine WC.dS (m:=12) y mixed<|cM ?_;refine DW.bX (t:=35) rfl (fun I=>?_) (fun I=>?_)
 ·
  refine cM ?_;refine DP .r (fun _ g=>V1 aT (bC.range ((As.nJ g.2.g6).1 _ _ b).1) .r)<|cv ?_;refine DP .r (fun _ g=>PV.ld1 (j:=1) aT (bC.range (As.gb g.2.g4)) rfl rfl)<|(da)<|?_;rintro w2 ⟨vY,z⟩ _;refine WP .r ((PV.Gf rfl rfl).cast (v':=.bool false) (congrArg Value.bool (decide_eq_false G)))<|cv ?_;refine WC.dw rfl<|dz ?_;refine WL.bX (t:=55) rfl (fun J=>?_) (fun J=>?_)
  ·
   exact cI J
  refine(bF) ed (bC.range ((As.nJ z.g6).1 _ _ b).1)<|(bl) (fun K=>?_) fun K=>?_
  ·
   refine fE ?_;refine WL.go rfl (OX.Ei (f:=2) QN (As.gs z.g7) o (by omega) rfl rfl rfl ((({f with running:=true}:bT),A):bT × ek) (fun r h=>by rw [RR.bp h];rfl) fun w3 U V=>?_);have N:=z.p7.gK U V (fun x h=>.inl h);refine cm ?_;refine WL.go rfl (OX.Ei (f:=3) GF (As.gs N.g0) o (by omega) rfl rfl rfl ((({f with running:=true,at_:=0}:bT),A):bT × ek) (fun r h=>by rw [RR.bp h];rfl) fun w4 W X=>?_);have Y:=N.gK W X (fun x h=>.inl h);refine ba ?_;refine nx ?_;refine EX.gJ rfl (RS.tmp rfl<|RS.tmp rfl<|RS.tmp rfl<|RS.nil) rfl<|?_;exact⟨l,L++[(({f with running:=true,at_:=0}:bT),A)],true,0,_,_,_,ml,rfl,FT.same (FS.start F (by rw [Bool.eq_false_iff];intro h;obtain⟨q,h1,h2⟩:=aN.1 h;have h1:ay l f.key=some q:=h1;rw [b] at h1;cases h1;exact G h2) (.inr (by rw [show bZ.ai ⟨rev,x0.ab,l⟩=l from rfl,aJ b];exact Q))) (fun e=>by have:=congrArg bT.running e;rw [F] at this;cases this) rfl rfl,E,hm,eP.refl _,Y.p1.drop.p1.drop.p5.p5.p5.p5.p5⟩
  exact cI K
 ·
  exact cI I
 -- jU dK UT
set_option maxHeartbeats 4000000 in
theorem wC{L:List (bT × ek)}{A:ek}(gV:St w M Z w [As.map Key.val S.m ml,As.map Key.val S.q [],As.blk wb 86 (D.wc S.s rev ra rn rc),As.map Key.val D.m cS,As.dR 47 lf l,As.os RR.gU 126 6 al nl el (L++[(f,A)])]) (hf:(S.FV prog aa x0).p Z w) (F1:Rd RR.aC 4 Z w D.a1 D.n1 D.c1 x0.ab) (hm:aR aa x0.ab ml) (b:cy l lf cS) (hR:ao aa) (hS:∀k,(valOf aa x0.ab k).size≤1000) (X:KR aa l) (YE:L.length≤1000) {r:Rec}(U:f.running=false) (V:ay l f.key=some r) (hv:r.ak<rev) (hd:r.bU=false) (h6:l.length≤4000) (KY:∀r∈l,r.reads.length≤4000) (KQ:0≤f.at_):Calls prog 73 #[.pointer (some ⟨wb,0,none⟩),.slice al nl el,.func (.func 34) #[] #[]] w fun e w'=>∃(l':List Rec) (L':List (bT × ek)) (d:Bool) (er:Int) (a:Option Addr) (n c:Nat) (qv:List (Key × Value)),e=.returned (.tuple #[.slice a n c,.bool d,.int .i64 er])∧FT aa (valOf aa x0.ab) ⟨rev,x0.ab,l⟩ L f A ⟨rev,x0.ab,l'⟩ L' [] er∧cy l' lf cS∧aR aa x0.ab qv∧eP ml qv∧St w M Z w' [As.map Key.val S.m qv,As.map Key.val S.q [],As.blk wb 86 (D.wc S.s rev ra rn rc),As.map Key.val D.m cS,As.dR 47 lf l',As.os RR.gU 126 6 a n c L']:=by
 have OS:=(As.gs gV.g5).len;rw [List.length_append,List.length_singleton] at OS
 have OQ:((L++[(f,A)]).map Prod.fst)=L.map Prod.fst++[f]:=by simp
 have lH:=yV (rev:=rev) V
 have XU:(aB l rev f.key).length≤4001:=by have:=pf l rev f.key;omega
 have TX:=zQ KY XU
 have XF:(bW l (aB l rev f.key)).length≤100000000:=by have:=TX (aB l rev f.key).length;rw [List.take_of_length_le (Nat.le_refl _)] at this;exact this
 have Y:Live l rev f.key:=⟨r,V,hd,hv⟩
 have y9:cn f.key:=by have h1:=aI V;rw [← h1.2];exact(X r h1.1).1.cn
 refine enter func73 rfl ntmps73 rfl<|?_;have aM:=gV;have st1:=aM.fr F1;have st2:=st1.fact (B:=As.fz (S.FV prog aa x0)) hf (fun _ hx=>hx);refine ho ?_;obtain⟨jq,E⟩:=Ow.addr (As.gs st2.g7) (ck L (f,A));refine cv ?_;refine WP .r ((PV.sub rfl rfl (by omega) (by omega)).cast (v':=.int .i64 (L.length:Int)) (congrArg (Value.int .i64) (by omega)))<|WP .r (PV.ef pL (i:=L.length) E rfl rfl (by omega))<|cv ?_;have TY:=st2.cu;refine WC.dS (m:=8) st2 mixed<|(kf) dD St.g4<|cM ?_;refine DP .r (fun _ hC=>PV.uD aq (Ow.n5 (As.gs hC.2.g7) (by rw [List.length_append,List.length_singleton];omega) E (ck L (f,A))) rfl rfl)<|(da)<|?_;rintro w1 ⟨qR,ka⟩ _;refine WP .r (PV.bD cV dE db (As.gm ka.g5) (b.yes V) rfl rfl)<|fE ?_;have C2:=ka.cu;refine WC.dS (m:=12) ka mixed<|cM ?_;refine DW.bX (t:=35) rfl (fun YF=>?_) (fun YF=>?_)
 ·
  refine cM ?_;refine DP .r (fun _ hC=>V1 aT (bC.range ((As.nJ hC.2.g6).1 _ _ V).1) .r)<|cv ?_;refine DP .r (fun _ hC=>PV.ld1 (j:=1) aT (bC.range (As.gb hC.2.g4)) rfl rfl)<|(da)<|?_;rintro w2 ⟨vY,jW⟩ _;refine WP .r ((PV.Gf rfl rfl).cast (v':=.bool false) (congrArg Value.bool (decide_eq_false (show ¬r.ak=rev by omega))))<|cv ?_;refine WC.dw rfl<|dz ?_;refine WL.bX (t:=55) rfl (fun OT=>?_) (fun OT=>?_)
  ·
   exact cI OT
  refine(bF) ed (bC.range ((As.nJ jW.g6).1 _ _ V).1)<|(bl) (fun YG=>?_) fun YG=>?_
  ·
   exact cI YG
  refine(lj) aq (Ow.n5 (As.gs jW.g7) (by rw [List.length_append,List.length_singleton];omega) E (ck L (f,A)))<|?_;have mf:=jW;refine(c6) Np (qY (k:=f.key) mf.e0 (As.gb mf.g4) (As.gm mf.g5) b (As.nJ mf.g6) X.Sj h6 KY) ?_;rintro _ w3 ⟨u1,O,u3,rfl,tM⟩;have jt:=St.lr mf tM;have hgn:=((As.gs jt.g0)).len;refine eE ?_;have W:=jt;refine(c6) Nq (qc W.e0 (As.gb W.g5) (As.gm W.g6) b (As.nJ W.g7) (Ow.rd (As.gs W.g0) (by omega)) lH TX) ?_;rintro _ w4 ⟨o1,o2,o3,rfl,tN⟩;have R:=St.lr W tN;have hcn:=((As.gs R.g0)).len;refine(bF) aT (Ow.n5 (As.gs R.g9) (by rw [List.length_append,List.length_singleton];omega) E (ck L (f,A)))<|(bl) (fun KZ=>?_) fun KZ=>?_
  ·
   simp at KZ
   have OU:(bW l (aB l rev f.key)).length≤f.at_.toNat:=by omega
   refine oa ?_;have oo:=R.p8.rE (B:=As.dR 47 lf (l.map (aW rev ((aB l rev f.key).take 0) false))) (by rw [pD]);refine WC.bq (σ:=Nat) (cX:=fun i=>[(0,.pointer (some ⟨wb,0,none⟩)),(1,.slice al nl el),(84,.slice u1 O u3),(85,.int .i64 (O:Int)),(86,.int .i64 (i:Int))]) (F:=fun i=>[As.dR 47 lf (l.map (aW rev ((aB l rev f.key).take i) false))]) (I:=fun i=>(i≤O)∧True) (μ:=fun i=>O - i) (0) (oo) Sub.t (⟨Nat.zero_le _,trivial⟩)<|?_;rintro i w5 z ⟨hi,_⟩;simp only [CA,NA] at z hi ⊢;refine(bl) (fun FO=>?_) fun FO=>?_
   ·
    simp at FO
    have J:i<(aB l rev f.key).length:=by omega
    refine dz ?_;obtain⟨YH,Dh⟩:=Ow.addr (As.gs z.g2) (ah J);refine nx ?_;refine WP .r (PV.ef fR Dh rfl rfl (by omega))<|(bS) aq (Ow.n5 (As.gs z.g2) (by omega) Dh (ah J))<|(fF) z fun b14 w6 UU F2 G=>?_;refine(dH) gz G fun w7 oB qx o=>?_;refine cm ?_;obtain⟨r1,OV⟩:=lH _ (List.getElem_mem J);obtain⟨r2,K,HV⟩:=pE (rev:=rev) (g:=(aB l rev f.key).take i) (d:=false) ⟨r1,OV⟩;have F3:=(((As.nJ o.g1)).1 _ _ K).2.2;have C:=o.fact (As.DZ (((((As.nJ o.g1)).1 _ _ K).2.1))) (fun _ hx=>hx);have gi:=C.p2;have ee:=St.B4 gi K;refine WC.cz (m:=11) [] [] [0,1,2,3,4,5,6,7,8,9,10] [] ee (av.k4 M0 M1 M2 M3<|av.k4 M4 M5 M6 M7<|av.k4 M8 M9 nW qq<|av.cons q9<|av.nil) mixed (by kernel_rfl) (by kernel_rfl) rfl<|?_
    iterate 3 refine DG.a ?_
    refine(wW) dD SV.g10<|(qu) aq SV.g3<|?_;refine DQ .r (fun wx Zx Rx _ nj sn=>PV.bD cV dE db (As.gm (nj.sv sn).g11) (b.yes OV) rfl rfl)<|?_
    iterate 4 refine DG.a ?_
    refine DQ .r (fun wx Zx Rx _ nj sn=>PV.ld1 (j:=1) aT (bC.range (As.gb (nj.sv sn).g10)) rfl rfl)<|(lJ)<|?_;intro w8 OW P;simp only [CM,NM,CA,NA,iv.it] at P;refine cm ?_;refine WL.s1 P fun w9 _ H=>?_;refine WL.nil (EX.np ?_);have Q:=H.p1.p1;have fw:=St.yX (r':={r2 with ak:=rev}) (l':=l.map (aW rev ((aB l rev f.key).take (i+1)) false)) Q HV (As.gr Q.g2) F3 (fun y=>by simpa using nK J false K y);have gQ:=fw.p1.drop;refine fE ?_;refine fJ (i+1) ⟨gQ.p1.drop,⟨by omega,trivial⟩⟩
   simp at FO
   have QJ:(aB l rev f.key).take i=(aB l rev f.key):=List.take_of_length_le (by omega);have G:=z.rE (B:=As.dR 47 lf (l.map (aW rev (aB l rev f.key) false))) (by rw [QJ]);refine mG ?_;refine WP .r ((PV.sub rfl rfl (by omega) (by omega)).cast (v':=.int .i64 (L.length:Int)) (congrArg (Value.int .i64) (by omega)))<|WP .r (PV.sB pL (i:=L.length) (Ow.rd (As.gs G.g9) (by rw [List.length_append,List.length_singleton];omega)) rfl rfl (by omega))<|eE ?_;have o:=G.p9;have C:=St.H8 o;refine EX.gJ rfl (RS.tmp rfl<|RS.tmp rfl<|RS.tmp rfl<|RS.nil) rfl<|?_;exact⟨l.map (aW rev (aB l rev f.key) false),L,true,0,_,_,_,ml,rfl,FT.pop (FS.mark U Y OU),b.mark _ _ _,hm,eP.refl _,C.p2.drop.p2.drop.p2.drop.p2.drop.p1.p5.p5.p5.p5⟩
  simp at KZ
  obtain⟨ch,T⟩:∃ch,(bW l (aB l rev f.key))[f.at_.toNat]?=some ch:=⟨_,ah (by omega)⟩;obtain⟨FU,OY,_⟩:=dJ.1 (List.mem_of_getElem? T);obtain⟨rm,UW⟩:=lH _ FU;rw [aJ UW] at OY;have YI:=(X rm (aI UW).1).2.2 _ OY;have FW:0≤(f,A).fst.at_∧(f,A).fst.at_≤100000000:=⟨KQ,by show f.at_≤_;omega⟩;refine cM ?_;obtain⟨UX,zc⟩:=Ow.addr (As.gs R.g0) T;refine(bF) aT (Ow.n5 (As.gs R.g9) (by rw [List.length_append,List.length_singleton];omega) E (ck L (f,A)))<|?_;refine WP .r (PV.Bb GC (f.at_.toNat) zc rfl rfl (by show f.at_=_;omega) (by omega))<|(bS) Cu (Ow.n5 (As.gs R.g0) (by omega) zc T)<|(fF) R fun QO w5 UY UZ oo=>?_;refine(dH) MD oo fun w6 Ap uV z=>?_;refine(lj) aq z.b0<|nx ?_;refine WL.c1 (u:=.int .i64 (bD ⟨rev,x0.ab,l⟩ (L.map Prod.fst++[f]) [] ch.read)) (jX (aC:=x0.ab) (As.gb z.g7) (As.gm z.g8) b (As.nJ z.g9) X (Ow.rd (As.gs z.g10) (by rw [List.length_append,List.length_singleton];omega)) YI.cn) (by rw [OQ]) z fun w7 s7 G=>?_;refine(bl) (fun JX=>?_) fun JX=>?_
  ·
   have zP:bD ⟨rev,x0.ab,l⟩ (L.map Prod.fst++[f]) [] ch.read=3:=by simpa using JX
   refine hY ?_;refine EX.gJ rfl (RS.tmp rfl<|RS.tmp rfl<|RS.tmp rfl<|RS.nil) rfl<|?_;exact⟨l,(L++[(f,A)]),false,43,_,_,_,ml,rfl,FT.err (FS.HT ch U Y T zP) (by decide),b,hm,eP.refl _,G.drop.drop.drop.drop.drop⟩
  have zP:bD ⟨rev,x0.ab,l⟩ (L.map Prod.fst++[f]) [] ch.read≠3:=by simpa using JX
  refine(bl) (fun OZ=>?_) fun OZ=>?_
  ·
   exact absurd (by simpa using OZ) (r8 (x:=⟨rev,x0.ab,l⟩) (l:=(L.map Prod.fst++[f])) (k:=ch.read))
  skip
  refine(bl) (fun Ay=>?_) fun Ay=>?_
  ·
   have DE:bD ⟨rev,x0.ab,l⟩ (L.map Prod.fst++[f]) [] ch.read=1:=by simpa using Ay
   refine(lj) aq G.b0<|?_;have o:=G.oU;refine(c6) Jb (jY (k:=ch.read) o.e1 (by rw [List.length_append,List.length_singleton];omega)) ?_;rintro _ w8 ⟨p1,p2,p3,rfl,k8⟩;have C:=St.lr o k8;refine ho ?_;refine EX.gJ rfl (RS.tmp rfl<|RS.tmp rfl<|RS.tmp rfl<|RS.nil) rfl<|?_;exact⟨l,_,true,0,_,_,_,ml,rfl,FT.push (FS.rV ch U Y T DE),b,hm,eP.refl _,C.p1.drop.p1.drop.p1.drop.p1.drop.p1.drop.p5.p5.p5.p5.p5⟩
  have DE:bD ⟨rev,x0.ab,l⟩ (L.map Prod.fst++[f]) [] ch.read≠1:=by simpa using Ay
  refine(bS) Cu G.b0<|?_;have o:=G.p9.p9.p9.p9.p9;refine(c6) Nr (tO (c:=ch) o.e5 (As.gf o.g8) (As.gr o.g9) hm b hR hS YI X UW) ?_;rintro _ w8 ⟨iO,rfl,Q1,JY,k8⟩;have C:=St.lr o k8;refine(bl) (fun JZ=>?_) fun JZ=>?_
  ·
   have U0:BZ (valOf aa x0.ab) ⟨rev,x0.ab,l⟩ ch=false:=by simpa using JZ
   refine(bF) aT (Ow.n5 (As.gs C.g10) (by rw [List.length_append,List.length_singleton];omega) E (ck L (f,A)))<|cM ?_;refine WL.go rfl (OX.Ei (f:=3) GF (As.gs C.g10) E (by omega) rfl rfl rfl ((({f with at_:=f.at_+1}:bT),A):bT × ek) (fun r h=>by rw [RR.bp h];rfl) fun w9 s40 U1=>?_);have gi:=C.oU.gK s40 U1 (fun x h=>.inl h);refine ba ?_;refine EX.gJ rfl (RS.tmp rfl<|RS.tmp rfl<|RS.tmp rfl<|RS.nil) rfl<|?_;exact⟨l,L++[(({f with at_:=f.at_+1}:bT),A)],true,0,_,_,_,iO,rfl,FT.same (FS.pass ch U Y T DE zP (zW U0)) (fun e=>by have:=congrArg bT.at_ e;simp at this;omega) rfl rfl,b,Q1,JY,gi.p6.drop.p6.drop.p6.drop.p6.drop.p6.drop.p5.p5.p5.p5.p5⟩
  have U0:BZ (valOf aa x0.ab) ⟨rev,x0.ab,l⟩ ch=true:=by simpa using JZ
  refine(lj) aq (Ow.n5 (As.gs C.g10) (by rw [List.length_append,List.length_singleton];omega) E (ck L (f,A)))<|?_;refine WL.c1 (u:=.bool (aw f.key)) (dq (k:=f.key) y9) (by rw [vl y9]) C fun w9 s9 gi=>?_;refine cm ?_;have ee:=gi.p4;refine WC.hI (σ:=(List Rec)) [_] (fun N=>[(1,.slice al nl el),(9,.pointer (some ⟨jq,0+L.length*6,none⟩))]) (fun N=>[As.dR 47 lf N]) (fun N=>(N=if aw f.key=true then l.map (aW rev (aB l rev f.key) true) else l)∧True) ee ?_ ?_
  ·
   refine(bl) (fun J0=>?_) fun J0=>?_
   ·
    refine ho ?_;have P:=ee.rE (B:=As.dR 47 lf (l.map (aW rev ((aB l rev f.key).take 0) true))) (by rw [pD]);refine WC.bq (σ:=Nat) (cX:=fun i=>[(0,.pointer (some ⟨wb,0,none⟩)),(1,.slice al nl el),(9,.pointer (some ⟨jq,0+L.length*6,none⟩)),(151,.slice u1 O u3),(152,.int .i64 (O:Int)),(153,.int .i64 (i:Int))]) (F:=fun i=>[As.dR 47 lf (l.map (aW rev ((aB l rev f.key).take i) true))]) (I:=fun i=>(i≤O)∧True) (μ:=fun i=>O - i) (0) (P) Sub.t (⟨Nat.zero_le _,trivial⟩)<|?_;rintro i oC H ⟨hi,_⟩;simp only [CA,NA] at H hi ⊢;refine(bl) (fun J1=>?_) fun J1=>?_
    ·
     simp at J1
     have J:i<(aB l rev f.key).length:=by omega
     refine dz ?_;obtain⟨U2,zd⟩:=Ow.addr (As.gs H.g7) (ah J);refine nx ?_;refine WP .r (PV.ef fR zd rfl rfl (by omega))<|(bS) aq (Ow.n5 (As.gs H.g7) (by omega) zd (ah J))<|(fF) H fun YJ qy aca O0 Q=>?_;refine(dH) gz Q fun uy Jj zt fw=>?_;refine cm ?_;obtain⟨r1,OV⟩:=lH _ (List.getElem_mem J);obtain⟨r2,K,HV⟩:=pE (rev:=rev) (g:=(aB l rev f.key).take i) (d:=true) ⟨r1,OV⟩;have F3:=(((As.nJ fw.g1)).1 _ _ K).2.2;have gQ:=fw.fact (As.DZ (((((As.nJ fw.g1)).1 _ _ K).2.1))) (fun _ hx=>hx);have gl:=gQ.p2;have ig:=St.B4 gl K;refine WC.cz (m:=5) [] [] [0,1,2,3,4] [] ig (av.k4 M0 M1 M2 M3<|av.k4 M4 M5 M6 M7<|av.k4 M8 M9 nW qq<|av.cons q9<|av.cons wZ<|av.nil) mixed (by kernel_rfl) (by kernel_rfl) rfl<|?_
     iterate 3 refine DG.a ?_
     refine(wW) dD SV.g6<|(qu) aq SV.g3<|(lJ)<|?_;intro wY YK fY;simp only [CM,NM,CA,NA,iv.it] at fY;refine WP .r (PV.bD cV dE db (As.gm fY.g7) (b.yes OV) rfl rfl)<|cm ?_;refine WL.s1 fY fun C6 _ ij=>?_;refine WL.nil (EX.np ?_);have fb:=ij.p1.p1;have eH:=St.yX (r':={r2 with bU:=true}) (l':=l.map (aW rev ((aB l rev f.key).take (i+1)) true)) fb HV (As.gr fb.g2) F3 (fun y=>by simpa using nK J true K y);have gC:=eH.p1.drop;refine fE ?_;refine fJ (i+1) ⟨gC.p1.drop,⟨by omega,trivial⟩⟩
    simp at J1
    have QJ:(aB l rev f.key).take i=(aB l rev f.key):=List.take_of_length_le (by omega);have Q:=H.rE (B:=As.dR 47 lf (l.map (aW rev (aB l rev f.key) true))) (by rw [QJ]);refine cv ?_;exact lK (l.map (aW rev (aB l rev f.key) true)) ⟨Q,⟨by rw [if_pos (by simpa using J0)],trivial⟩⟩
   refine nx ?_;exact lK (l) ⟨ee,⟨by rw [if_neg (by simpa using J0)],trivial⟩⟩
  rintro N oC P ⟨U3,_⟩;simp only [CA,NA] at P U3 ⊢;refine eE ?_;refine WL.go rfl (OX.Ei (f:=2) QN (As.gs P.g10) E (by omega) rfl rfl rfl ((({f with running:=true}:bT),A):bT × ek) (fun r h=>by rw [RR.bp h];rfl) fun qy s26 U4=>?_);have H:=P.oU.gK s26 U4 (fun x h=>.inl h);refine cm ?_;refine WL.go rfl (OX.Ei (f:=3) GF (As.gs H.g0) E (by omega) rfl rfl rfl ((({f with running:=true,at_:=0}:bT),A):bT × ek) (fun r h=>by rw [RR.bp h];rfl) fun uy JB U5=>?_);have Q:=H.gK JB U5 (fun x h=>.inl h);refine hY ?_
  have Da:(if aw f.key=true then dI ⟨rev,x0.ab,l⟩ (aB l rev f.key) true else ⟨rev,x0.ab,l⟩)=⟨rev,x0.ab,N⟩:=by rw [U3];split <;> rfl
  have oq:cy N lf cS:=by rw [U3];split;exact b.mark _ _ _;exact b
  have Kz:=FS.fail (aa:=aa) (p:=L.map Prod.fst) ch U Y T DE zP (Cc U0);rw [show(if aw f.key=true then dI ⟨rev,x0.ab,l⟩ (aB (bZ.ai ⟨rev,x0.ab,l⟩) (bZ.ad ⟨rev,x0.ab,l⟩) f.key) true else ⟨rev,x0.ab,l⟩)=⟨rev,x0.ab,N⟩ from Da] at Kz;refine EX.gJ rfl (RS.tmp rfl<|RS.tmp rfl<|RS.tmp rfl<|RS.nil) rfl<|?_;exact⟨N,L++[(({f with running:=true,at_:=0}:bT),A)],true,0,_,_,_,iO,rfl,FT.same Kz (fun e=>by have:=congrArg bT.running e;rw [U] at this;cases this) rfl rfl,oq,Q1,JY,Q.p6.drop.p6.drop.p6.drop.p6.drop.p6.drop.p1.p5.p5.p5.p5⟩
 ·
  exact cI YF
 -- jU dK UT
theorem tP{L:List (bT × ek)}{A:ek}(g:St w M Z w [As.map Key.val S.m ml,As.map Key.val S.q [],As.blk wb 86 (D.wc S.s rev ra rn rc),As.map Key.val D.m cS,As.dR 47 lf l,As.os RR.gU 126 6 al nl el (L++[(f,A)])]) (h:(S.FV prog aa x0).p Z w) (i:Rd RR.aC 4 Z w D.a1 D.n1 D.c1 x0.ab) (hm:aR aa x0.ab ml) (j:cy l lf cS) (o:ao aa) (t:∀k,(valOf aa x0.ab k).size≤1000) (u:KR aa l) (x:L.length≤1000) (y:f.running=false) (F:l.length≤4000) (G:∀r∈l,r.reads.length≤4000) (H:∀r∈l,r.ak≤rev) (I:0≤f.at_):Calls prog 73 #[.pointer (some ⟨wb,0,none⟩),.slice al nl el,.func (.func 34) #[] #[]] w fun e w'=>∃(l':List Rec) (L':List (bT × ek)) (d:Bool) (B:Int) (a:Option Addr) (n c:Nat) (z:List (Key × Value)),e=.returned (.tuple #[.slice a n c,.bool d,.int .i64 B])∧FT aa (valOf aa x0.ab) ⟨rev,x0.ab,l⟩ L f A ⟨rev,x0.ab,l'⟩ L' [] B∧cy l' lf cS∧aR aa x0.ab z∧eP ml z∧St w M Z w' [As.map Key.val S.m z,As.map Key.val S.q [],As.blk wb 86 (D.wc S.s rev ra rn rc),As.map Key.val D.m cS,As.dR 47 lf l',As.os RR.gU 126 6 a n c L']:=by
 cases b:ay l f.key with
 | none=>exact wv g h i hm j o t u x y b
 | some r=>
  by_cases C:r.ak=rev
  ·
   exact wA g h i hm j o t u x y b C
  cases E:r.bU with
  | true=>exact wB g h i hm j o t u x y b C E
  | false=>
   have:=H r (aI b).1
   exact wC g h i hm j o t u x y b (by omega) E F G I
end Go.Rc

