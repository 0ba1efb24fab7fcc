/- Walks over the program, part WYg. Conditions: as each theorem says. -/
import Derived.Test.YtmpkegmkoclbhaaGreatDoorMFacts
import Derived.Test.YtmpkegmkoclbhaaGreatDoorMWZr
import Derived.Test.YtmpkegmkoclbhaaGreatDoorMWO
import Derived.Test.YtmpkegmkoclbhaaGreatDoorMBh
set_option linter.all false
namespace Go.Rc
open Go Go.Proofs Go.Proofs.Tryz
variable {f:br}{cap:Value}{a ra al:Option Addr}{n c v rn rc wb nl el:Nat}{w:World}{Z M:Nat→Prop}{k:Key}{D:WD}{rev:Int}{aC:List cv}{aa:List aG}{ml eH:List (Key × Value)}{l:List Rec}{lf:Key→RL}{x0:cm}{S:SD}{bj:List Key}{value:ByteArray}
set_option maxHeartbeats 400000
theorem wZ{l:List (br × eB)}{p:br × eB→Bool}{f:FuncId}(m:CF prog f) (hl:Rd RR.im 6 Z w a n c l) (o:∀w1,aS [] w w1→∀x∈l,Calls prog f #[.agg (br.ov x).toArray,cap] w1 fun e w'=>e=.returned (.bool (p x))∧aS [] w1 w'):Calls prog 143 #[.slice a n c,.func (.func f) #[] #[cap]] w fun e w'=>∃j:Int,e=.returned (.int .i64 j)∧uA l p j∧aS [] w w':=by
 have hlen:=hl.len;have hle:=hl.le;refine enter func143 rfl ntmps143 rfl<|?_;have aP:=St.s0 w;refine aX ?_;refine bN ?_;refine WC.bq (σ:=Nat) (dn:=fun i=>[(0,.slice a n c),(1,.func (.func f) #[] #[cap]),(7,.int .i64 (n:Int)),(8,.int .i64 (i:Int))]) (F:=fun i=>[]) (I:=fun i=>(i≤n)∧(∀j x,j<i→l[j]?=some x→p x=false)∧True) (μ:=fun i=>n - i) (0) (aP) Sub.t (⟨by omega,fun j x h=>by omega,trivial⟩)<|?_;rintro i w1 st1 ⟨hi,b,_⟩;simp only [CA,NA] at st1 hi b ⊢;refine(aT) (fun g9=>?_) fun g9=>?_
 ·
  simp at g9
  have d:i<l.length:=by omega
  refine kE ?_;obtain⟨A,B,C,q,E,g,s,G⟩:=Rd.at hl d;have g:=RR.ba g;subst g;refine cj ?_;refine WP .r (PV.dQ mP q rfl rfl (by omega))<|(aZ) nJ (aW s (St.cg st1) (by simp))<|?_;refine WL.go rfl (OX.nb m rfl rfl rfl ((Calls.cap (o _ (St.cg st1) l[i] (List.getElem_mem d))).mono ?_));rintro _ w2 ⟨rfl,s2⟩;refine⟨_,rfl,?_⟩;have st2:=st1.step s2;refine(aT) (fun g16=>?_) fun g16=>?_
  ·
   refine(bw) ?_;exact⟨_,rfl,.inl ⟨i,_,ak d,g16,b,rfl⟩,(St.cg st2)⟩
  have g16:p l[i]=false:=by simpa using g16
  refine ez ?_;refine eC (i+1) ⟨st2,⟨by omega,cF d b (by simpa using g16),trivial⟩⟩
 simp at g9
 have u:∀x∈l,p x=false:=fun x y=>by obtain⟨j,z,rfl⟩:=List.getElem_of_mem y;exact b j _ (by omega) (ak z)
 refine(bw) ?_;exact⟨_,rfl,.inr ⟨u,rfl⟩,(St.cg st1)⟩
theorem sf{l:List (br × eB)}{p:br × eB→Bool}{f:FuncId}(b:CF prog f) (hl:Rd RR.im 6 Z w a n c l) (d:∀w1,aS [] w w1→∀x∈l,Calls prog f #[.agg (br.ov x).toArray,cap] w1 fun e w'=>e=.returned (.bool (p x))∧aS [] w1 w'):CR prog 103 #[.slice a n c,.func (.func f) #[] #[cap]] w (.bool (l.any p)):=by
 refine enter func103 rfl ntmps103 rfl<|?_;have aP:=St.s0 w;refine(bX) XH (wZ (w:=w) b (hl.ext (St.cg aP)) (fun w1 h1=>d w1 (aS.trans (St.cg aP) h1))) ?_;rintro _ w1 ⟨j,rfl,g,s1⟩;have st1:=aP.step s1;have h:=g.any;refine(bw) ?_;exact⟨by rw [h],(St.cg st1)⟩
theorem Ac{x:br × eB}{pb:Nat}(b:bT w pb 40 k.cells):CR prog 104 #[.agg (br.ov x).toArray,.pointer (some ⟨pb,0,none⟩)] w (.bool (decide (x.1.key=k))):=by
 refine enter func104 rfl ntmps104 rfl<|?_;have aP:=St.s0 w;refine(dy) aP fun b2 w1 d e st1=>?_;refine(hW) ao st1.b0<|(aZ) ao (bT.range (b.ext (St.cg st1)))<|(bw) ?_;exact⟨rfl,(St.cg st1)⟩
theorem Ad :CR prog 28 #[k.val] w (.bool false):=by
 refine enter func28 rfl ntmps28 rfl<|?_;have aP:=St.s0 w;refine(dy) aP fun b1 w1 b d st1=>?_;refine(bw) ?_;exact⟨rfl,(St.cg st1)⟩
theorem nT{L:List (br × eB)}{A:Nat→Prop}(g:bT w wb 74 (D.wc v rev ra rn rc)) (hm:KM Key.val w D.m ml) (h:dw l lf ml) (i:(As.gy 88 lf l).ok Z w) (j:KR aa l) (hl:Rd RR.im 6 A w al nl el L) (e:cZ k):CR prog 59 #[.pointer (some ⟨wb,0,none⟩),.slice al nl el,k.val,.func (.func 28) #[] #[]] w (.int .i64 (bJ ⟨rev,aC,l⟩ (L.map Prod.fst) [] k)):=by
 refine enter func59 rfl ntmps59 rfl<|?_;have aP:=St.s0 w;refine(dy) aP fun o w1 y z st1=>?_;refine fO ?_;refine WP .r (PV.func (us:=[]) (vs:=[.pointer (some ⟨o,0,none⟩)]) rfl rfl)<|?_;refine WL.c1 (u:=.bool (gi (L.map Prod.fst) k)) (sf (p:=fun x=>decide (x.1.key=k)) Xf (hl.ext (St.cg st1)) (fun w1 h1 x B=>Ac (bT.ext (As.gb st1.g0) h1))) (by rw [MH]) st1 fun w2 s2 st2=>?_;refine fO ?_;refine WC.dW (t:=13) (v:=.bool (gi (L.map Prod.fst) k && !ax k)) st2 ?_<|?_
 ·
  refine(dc) (fun g15=>?_) (fun g15=>?_)
  ·
   refine(aZ) ao st2.b0<|?_;refine WL.c1 (u:=.bool (ax k)) (fL (k:=k) e) (by rw [B6 e]) st2 fun w3 C b=>?_;exact(cz) (tG g15) (b)
  exact(cz) (tG g15) (st2)
 intro w3 b;refine(aT) (fun g13=>?_) fun g13=>?_
 ·
  refine(bw) ?_;exact⟨by rw [JX g13],(St.cg b)⟩
 ·
  have g13:(gi (L.map Prod.fst) k && !ax k)=false:=by simpa using g13
  refine nx ?_;refine WC.dW (t:=20) (v:=.bool (gi (L.map Prod.fst) k || (ay k || az ⟨rev,aC,l⟩ k))) b ?_<|?_
  ·
   refine(dc) (fun g22=>?_) (fun g22=>?_)
   ·
    exact(cz) (tG g22) (b)
   refine(aZ) ao b.b0<|(eN) (FY (aC:=aC) (g.ext (St.cg b)) (hm.ext (St.cg b)) h (As.exc i (St.cg b)) j) b fun w4 E d=>?_;exact(cz) (tG g22) (d)
  intro w4 d;refine(aT) (fun g20=>?_) fun g20=>?_
  ·
   refine(bw) ?_;exact⟨by rw [JY g13 g20],(St.cg d)⟩
  have g20:(gi (L.map Prod.fst) k || (ay k || az ⟨rev,aC,l⟩ k))=false:=by simpa using g20
  refine(aZ) ao d.b0<|?_;refine WL.go rfl (OX.nb adM rfl rfl rfl ((Calls.VX (Ad (k:=k))).mono ?_));rintro _ w5 ⟨rfl,q⟩;refine⟨_,rfl,?_⟩;have s:=d.step q;refine cj ?_;refine WC.oF rfl<|(bw) ?_;exact⟨by rw [JZ g13 g20],(St.cg s)⟩
 -- F G H
theorem nU{L:List (br × eB)}(b:St w M Z w [As.os RR.im 115 6 al nl el L]) (i:L.length≤100000):Calls prog 60 #[.slice al nl el,k.val] w fun e w'=>∃(a:Option Addr) (n c:Nat),e=.returned (.slice a n c)∧St w M Z w' [As.os RR.im 115 6 a n c (L++[((⟨k,false,0,[],[]⟩:br),(⟨none,0,0,none,0,0⟩:eB))])]:=by
 have j:=(As.gs b.g0).len;refine enter func60 rfl ntmps60 rfl<|?_;have aP:=b;refine(dy) aP fun b3 w1 m o st1=>?_;refine(aZ) ao st1.b0<|?_;refine WP .r (PV.bB (us:=((⟨k,false,0,[],[]⟩:br).row none 0 0 none 0 0)) GN rfl rfl rfl)<|?_;refine WL.go rfl (OX.aO (us:=(br.ov ((⟨k,false,0,[],[]⟩:br),(⟨none,0,0,none,0,0⟩:eB)))) rQ rfl rfl rfl rfl fun p w2 d g=>?_);have st2:=st1.cX d g;refine WL.ap rfl rfl st2.p2 (SR.dd (A:=fun _=>True) (x:=((⟨k,false,0,[],[]⟩:br),(⟨none,0,0,none,0,0⟩:eB))) (As.gb st2.g0) trivial rfl (br.one _ _ _ _ _ _ _) rfl) fun a9 q w3 s t h=>?_;refine(bw) ?_;exact⟨_,_,_,rfl,h.p1.drop.p1.drop⟩
theorem CY(h:St w M Z w []) (i:bT w wb 74 (D.wc v rev ra rn rc)) (hm:KM Key.val w D.m ml) (j:dw l lf ml) (o:(As.gy 88 lf l).ok Z w) (p:KR aa l) (q:cZ k):Calls prog 27 #[.pointer (some ⟨wb,0,none⟩),k.val,.func (.func 28) #[] #[]] w fun e w'=>∃(a:Option Addr) (n c:Nat),e=.returned (.slice a n c)∧St w M Z w' [As.os RR.im 115 6 a n c (if cM ⟨rev,aC,l⟩ [] k=true then [((⟨k,false,0,[],[]⟩:br),(⟨none,0,0,none,0,0⟩:eB))] else [])]:=by
 refine enter func27 rfl ntmps27 rfl<|?_;have aP:=St.rb h;have st1:=aP.dq RR.im 115 6;refine(dy) st1 fun b4 w1 z B st2=>?_;refine(aZ) ao st2.b0<|nx ?_;refine WL.c1 (u:=.int .i64 (if cM ⟨rev,aC,l⟩ [] k=true then 1 else 0)) (nT (aC:=aC) (L:=[]) (A:=fun _=>True) (i.ext (St.cg st2)) (hm.ext (St.cg st2)) j (As.exc o (St.cg st2)) p (Rd.nil _ _ _ _) q) (by rw [show bJ ⟨rev,aC,l⟩ (List.map Prod.fst ([]:List (br × eB))) [] k=_ from HG]) st2 fun w2 s2 b=>?_;refine(aT) (fun g11=>?_) fun g11=>?_
 ·
  have d:cM ⟨rev,aC,l⟩ [] k=true:=by simpa using g11
  refine(aZ) ao b.b0<|?_;have g:=b.p1;refine(bX) Sk (nU (k:=k) g.e1 (by simp)) ?_;rintro _ w3 ⟨r,s,t,rfl,x⟩;have y:=St.lr g x;refine(bw) ?_;exact⟨r,s,t,rfl,by rw [if_pos d];exact(St.wk y.p1.drop)⟩
 have d:¬cM ⟨rev,aC,l⟩ [] k=true:=by simpa using g11
 refine(bw) ?_;exact⟨none,0,0,rfl,by rw [if_neg d];exact(St.wk b.drop)⟩
theorem CZ{x:cm}{a1 a2:Option Addr}{n1 e1 n2 e2:Nat}(hi:Rd RR.aC 4 Z w a1 n1 e1 x.ab):CR prog 41 #[.agg (x.row a1 n1 e1 a2 n2 e2).toArray,k.val] w (.string (bz x.ab k).value):=by
 refine enter func41 rfl ntmps41 rfl<|?_;have aP:=St.s0 w;refine(dy) aP fun b2 w1 e g st1=>?_;refine(dy) st1 fun b3 w2 h i st2=>?_;refine(aZ) aM st2.b1<|(aZ) ao st2.b0<|(bX) Sm (mn (k:=k) (hi.ext (St.cg st2))) ?_;rintro _ w3 ⟨y,rfl,hy,_,b⟩;have d:=st2.step b;refine WP .r (PV.ui (fs:=[_,_,_]) (f:=1) (off:=2) (T:=78) underlying78 rfl rfl (show ∀w,(isAgg 9).run _ w=.ok false w from isAgg9) rfl rfl)<|(bw) ?_;exact⟨by rw [← hy],(St.cg d)⟩
theorem C2(j:St w M Z w [As.map Key.val S.m ml,As.map Key.val S.q [],As.blk wb 74 (D.wc S.s rev ra rn rc),As.map Key.val D.m eH,As.gy 88 lf l]) (o:(S.FV prog aa x0).p Z w) (t:Rd RR.aC 4 Z w D.a1 D.n1 D.c1 x0.ab) (hm:aU aa x0.ab ml) (A:dw l lf eH) (C:aq aa) (E:∀k,(valOf aa x0.ab k).size≤1000) (eQ:ay k=true):Calls prog 109 #[.pointer (some ⟨wb,0,none⟩),k.val] w fun e w'=>∃b,e=.returned (.string (bS (valOf aa x0.ab) ⟨rev,x0.ab,l⟩ k))∧aU aa x0.ab b∧gh ml b∧St w M Z w' [As.map Key.val S.m b,As.map Key.val S.q [],As.blk wb 74 (D.wc S.s rev ra rn rc),As.map Key.val D.m eH,As.gy 88 lf l]:=by
 refine enter func109 rfl ntmps109 rfl<|?_;have aP:=j;have st1:=aP.fr t;have st2:=st1.fact (B:=As.fz (S.FV prog aa x0)) o (fun _ y=>y);refine(dy) st2 fun b3 w1 F G g=>?_;refine cj ?_;have H:=g.bO;refine WC.dS (m:=5) g mixed<|(iu) fX St.g5<|(gM) ao St.g0<|(cQ)<|?_;rintro w2 ⟨I,d⟩ _;refine WP .r (PV.look da fZ fb (As.gm d.g6) rfl rfl)<|(aZ) ao d.b0<|?_;refine WL.c1 (u:=.bool true) (cO (k:=k)) (by rw [eQ]) d fun w3 J h=>?_;refine cq ?_;refine WC.oF rfl<|nx ?_;have K:=h.bO;refine WC.dS (m:=5) h mixed<|(tr) aM St.g5<|(gM) ao St.g0<|(cQ)<|?_;rintro w4 ⟨L,i⟩ _;refine(eN) (CZ (x:=⟨rev,x0.ab,l⟩) (k:=k) (a2:=D.a2) (n2:=D.n2) (e2:=D.c2) (As.gr i.g2)) i fun w5 N z=>?_;refine(bw) ?_;exact⟨ml,by rw [Rf eQ],hm,gh.refl _,z.drop.drop.drop⟩
theorem C3(x:St w M Z w [As.map Key.val S.m ml,As.map Key.val S.q [],As.blk wb 74 (D.wc S.s rev ra rn rc),As.map Key.val D.m eH,As.gy 88 lf l]) (y:(S.FV prog aa x0).p Z w) (z:Rd RR.aC 4 Z w D.a1 D.n1 D.c1 x0.ab) (hm:aU aa x0.ab ml) (K:dw l lf eH) (A:aq aa) (C:∀k,(valOf aa x0.ab k).size≤1000) (eQ:ay k=false) (h:cZ k) (i:ax k=true) (hk:dX aa k):Calls prog 109 #[.pointer (some ⟨wb,0,none⟩),k.val] w fun e w'=>∃b,e=.returned (.string (bS (valOf aa x0.ab) ⟨rev,x0.ab,l⟩ k))∧aU aa x0.ab b∧gh ml b∧St w M Z w' [As.map Key.val S.m b,As.map Key.val S.q [],As.blk wb 74 (D.wc S.s rev ra rn rc),As.map Key.val D.m eH,As.gy 88 lf l]:=by
 refine enter func109 rfl ntmps109 rfl<|?_;have aP:=x;have st1:=aP.fr z;have st2:=st1.fact (B:=As.fz (S.FV prog aa x0)) y (fun _ E=>E);refine(dy) st2 fun b3 w1 L N j=>?_;refine cj ?_;have O:=j.bO;refine WC.dS (m:=5) j mixed<|(iu) fX St.g5<|(gM) ao St.g0<|(cQ)<|?_;rintro w2 ⟨P,d⟩ _;refine WP .r (PV.look da fZ fb (As.gm d.g6) rfl rfl)<|(aZ) ao d.b0<|?_;refine WL.c1 (u:=.bool false) (cO (k:=k)) (by rw [eQ]) d fun w3 Q o=>?_;refine cq ?_;refine WC.fi rfl<|(aZ) ao o.b0<|?_;refine WL.c1 (u:=.bool true) (fL (k:=k) h) (by rw [(B6 h).symm.trans i]) o fun w4 R F=>?_;refine cq ?_;refine WC.oF rfl<|nx ?_;refine WC.bL (m:=5) [] [] [0,1,2,3,4] [] F (ai.k4 M0 M1 M2 M3<|ai.k4 M4 M5 M6 M7<|ai.nil) mixed (by kernel_rfl) (by kernel_rfl) rfl<|?_
 iterate 3 refine DG.a ?_
 refine(ou) yf SV.g5<|(lx) ao SV.g0<|(jm)<|?_;intro w5 T t;simp only [CM,NM,CA,NA,hV.it] at t;have g:=t.p4.p4;refine(bX) GV (K5 A C hk _ _ _ _ _ g.e2 (As.gf g.g3) hm (fun _=>lK.nil _)) ?_;rintro _ w6 ⟨eO,rfl,G,H,I⟩;have J:=St.lr g I;refine nx ?_;refine WL.nil (EX.np ?_);refine(bw) ?_;exact⟨eO,by rw [MI i],G,H,J.p2.drop.p2.drop.p2.drop⟩
theorem C4(y:St w M Z w [As.map Key.val S.m ml,As.map Key.val S.q [],As.blk wb 74 (D.wc S.s rev ra rn rc),As.map Key.val D.m eH,As.gy 88 lf l]) (z:(S.FV prog aa x0).p Z w) (A:Rd RR.aC 4 Z w D.a1 D.n1 D.c1 x0.ab) (hm:aU aa x0.ab ml) (C:dw l lf eH) (G:aq aa) (H:∀k,(valOf aa x0.ab k).size≤1000) {r:Rec}(eQ:ay k=false) (h:cZ k) (i:ax k=false) (b:aA l k=some r) (E:r.av=rev):Calls prog 109 #[.pointer (some ⟨wb,0,none⟩),k.val] w fun e w'=>∃d,e=.returned (.string (bS (valOf aa x0.ab) ⟨rev,x0.ab,l⟩ k))∧aU aa x0.ab d∧gh ml d∧St w M Z w' [As.map Key.val S.m d,As.map Key.val S.q [],As.blk wb 74 (D.wc S.s rev ra rn rc),As.map Key.val D.m eH,As.gy 88 lf l]:=by
 refine enter func109 rfl ntmps109 rfl<|?_;have aP:=y;have st1:=aP.fr A;have st2:=st1.fact (B:=As.fz (S.FV prog aa x0)) z (fun _ F=>F);refine(dy) st2 fun b3 w1 I J j=>?_;refine cj ?_;have K:=j.bO;refine WC.dS (m:=5) j mixed<|(iu) fX St.g5<|(gM) ao St.g0<|(cQ)<|?_;rintro w2 ⟨L,g⟩ _;refine WP .r (PV.bJ da fZ fb (As.gm g.g6) (C.yes b) rfl rfl)<|(aZ) ao g.b0<|?_;refine WL.c1 (u:=.bool false) (cO (k:=k)) (by rw [eQ]) g fun w3 N o=>?_;refine cq ?_;refine WC.fi rfl<|(aZ) ao o.b0<|?_;refine WL.c1 (u:=.bool false) (fL (k:=k) h) (by rw [(B6 h).symm.trans i]) o fun w4 O t=>?_;refine cq ?_;refine WC.fi rfl<|(aT) (fun x=>?_) fun x=>?_
 ·
  exact dz x
 refine(a8) fw (bT.range ((As.sL t.g7).1 _ _ b).1)<|(bw) ?_;exact⟨ml,by rw [MJ eQ i b E],hm,gh.refl _,t.drop.drop.drop⟩
theorem F0{L:List br}(b:St w M Z w [As.map Key.val S.m ml,As.map Key.val S.q [],As.blk wb 74 (D.wc S.s rev ra rn rc),As.map Key.val D.m eH,As.gy 88 lf l]) (d:(S.FV prog aa x0).p Z w) (g:Rd RR.aC 4 Z w D.a1 D.n1 D.c1 x0.ab) (hm:aU aa x0.ab ml) (i:dw l lf eH) (j:aq aa) (o:∀k,(valOf aa x0.ab k).size≤1000) (hk:dX aa k) (x:fV L ⟨rev,x0.ab,l⟩ k):Calls prog 109 #[.pointer (some ⟨wb,0,none⟩),k.val] w fun e w'=>∃t,e=.returned (.string (bS (valOf aa x0.ab) ⟨rev,x0.ab,l⟩ k))∧aU aa x0.ab t∧gh ml t∧St w M Z w' [As.map Key.val S.m t,As.map Key.val S.q [],As.blk wb 74 (D.wc S.s rev ra rn rc),As.map Key.val D.m eH,As.gy 88 lf l]:=by
 cases eQ:ay k with
 | true=>exact C2 b d g hm i j o eQ
 | false=>
  cases u:ax k with
  | true=>exact C3 b d g hm i j o eQ hk.cZ u hk
  | false=>
   have hu:az ⟨rev,x0.ab,l⟩ k=true:=by
    rcases x with h | ⟨_,h⟩ | h
    ·
     rw [eQ] at h;cases h
    ·
     rw [u] at h;cases h
    exact h
   obtain⟨r,y,z⟩:=aR.1 hu;exact C4 b d g hm i j o eQ hk.cZ u y z
set_option maxHeartbeats 400000
theorem nV{xs:List Key}(i:St w M Z w []) (hl:Rd RR.key 2 (fun x=>Z x∨x∈aI a) w a n c xs) (m:∀x∈aI a,x<w.heap.size) (o:xs.length≤1000000):Calls prog 67 #[.slice a n c] w fun e w'=>∃b d g,e=.returned (.slice b d g)∧St w M Z w' [As.os RR.key 40 2 b d g xs]:=by
 have p:St w M (fun x=>Z x∨x∈aI a) w []:=⟨i.bV,fun x q=>q.elim (i.jK x) (m x),by simp,by simp,.nil,by simp⟩;refine(js p hl o).mono<|?_;rintro e w' ⟨b,d,g,rfl,j⟩;exact⟨b,d,g,rfl,j.unz (fun _ h=>.inl h) (Ow.z (As.gs j.g0))⟩
theorem C5{A:eB}(y:St w M Z w [As.blk wb 74 (D.wc v rev ra rn rc),As.map Key.val D.m eH,As.gy 88 lf l,As.os RR.key 40 2 ra rn rc bj,As.os RR.key 40 2 A.a A.n A.c f.reads]) (U:dw l lf eH) (V:f.reads.length≤4000) (hr:bj.length≤100000) (I:aA l f.key=none) (hn4:eH.length<4000):Calls prog 108 #[.pointer (some ⟨wb,0,none⟩),.agg (br.ov (f,A)).toArray,.string value] w fun e w'=>∃(q:RL) (a:Option Addr) (n c:Nat) (Z':Nat→Prop),e=.returned (.int .i64 0)∧bH w.heap.size Z Z'∧St w M Z' w' [As.blk wb 74 (D.wc v rev a n c),As.map Key.val D.m (cL eH f.key (.pointer (some ⟨q.b,0,none⟩))),As.gy 88 (wI lf f.key q) (eh l (bF ⟨rev,aC,l⟩ f.key value f.reads)),As.os RR.key 40 2 a n c (bj++[f.key]),As.os RR.key 40 2 A.a A.n A.c f.reads]:=by
 have Ey:=(As.gs y.g3).len;have W:=(As.gs y.g4).len;refine enter func108 rfl ntmps108 rfl<|?_;have aP:=y;refine(dy) aP fun b4 w1 Ff IK st1=>?_;refine cj ?_;have hN1:=st1.bO;refine WC.dS (m:=6) st1 mixed<|(iu) fX St.g1<|(tr) ao St.g0<|(cQ)<|?_;rintro w2 ⟨r6,st2⟩ _;refine WP .r (PV.jO da fZ fb (As.gm st2.g2) (U.no I) rfl rfl)<|kR ?_;refine WL.cS (t:=19) rfl (fun g19=>?_) (fun g19=>?_)
 ·
  refine(a8) fX st2.b1<|?_;refine WP .r (PV.acr fZ (As.gm st2.g2) rfl)<|(aT) (fun J=>?_) fun J=>?_
  ·
   exact absurd J (by simp;omega)
  skip
  refine gX ?_;refine WP .r (PV.ld1 (j:=1) aN st2.b1 rfl rfl)<|cj ?_;refine WC.bL (m:=14) [] [5] [3,4,5,0,1,2,6,7,8,9,10,11,12,13] [(13,.blk 88 [.int .i64 0,.string ⟨#[]⟩,.string ⟨#[]⟩,.slice none 0 0,.int .i64 0,.int .i64 0,.int .i64 0,.bool false])] st2 (ai.k4 M0 M1 M2 M3<|ai.cons M4<|ai.cons M5<|ai.nil) mixed (by kernel_rfl) (by kernel_rfl) rfl<|(ou) dE SV.g0<|(fM) (fun w3 G2 qR K jF=>?_);simp only [CA,NA] at K;have d:=K;refine OX.call Kr rfl rfl ((nV d.e0 (Ow.rd (As.gs d.g5) (by omega)) (OR.lt (As.gs d.g5)) (by omega)).mono ?_);rintro _ w4 ⟨g,o,p,rfl,z⟩;have X:=St.lr d z;have Y:=St.bP z;have TV:=d.size;have iE:=X.aY (by omega);have hZc:=(bH.refl w.heap.size Z).trans (bH.dA (F:=fun x=>x∈aI g) Y) TV;refine⟨_,rfl,z.bV.size,_,rfl,_,_,_,iE,aw.k4<|aw.k2<|aw.cons<|aw.nil,ai.k4 M1 M2 M3 M4<|ai.cons M5<|ai.cons M6<|ai.nil,?_⟩;refine(yI) ao SV.g0<|?_
  iterate 4 refine DG.a ?_
  refine(ou) dE SV.g0<|?_;refine DG.a<|?_;refine DQ .r (fun C E G _ h wu=>PV.add rfl rfl (by show _≤(1:Int)+(A.n:Int);omega) (by show(1:Int)+(A.n:Int)≤_;omega))<|DQ .r (fun C E G _ h wu=>PV.bB (us:=[.int .i64 f.key.kind,.string f.key.text,.string value,.slice g o p,.int .i64 rev,.int .i64 rev,.int .i64 (1+(A.n:Int)),.bool false]) MZ rfl rfl rfl)<|?_;refine DG.side (s:=.blk 88 [.int .i64 0,.string ⟨#[]⟩,.string ⟨#[]⟩,.slice none 0 0,.int .i64 0,.int .i64 0,.int .i64 0,.bool false]) rfl rfl rfl rfl rfl rfl (fun C E G pV h=>OX.alloc nN rfl fun b wy i hb=>⟨i.ext.size,_,rfl,⟨b,rfl⟩,h.cX i hb⟩)<|?_;rintro _ ⟨H,rfl⟩;refine(jm) ?_;intro w5 vO L;simp only [CM,NM,CA,NA,hV.it] at L;refine(cI) fY L fun w6 jS jZ iK=>?_;refine WL.nil (EX.np ?_);have N:=iK.rz (B:=As.blk H 88 ((bF ⟨rev,aC,l⟩ f.key value f.reads).row g o p)) (by rw [J0 I];simp only [Rec.row,W]);refine ez ?_;refine WL.cS (t:=47) rfl (fun O=>?_) (fun O=>?_)
  ·
   exact dz O
  refine kR ?_;refine WC.fi rfl<|cq ?_;have Py:=N.bO;refine WC.dS (m:=6) N mixed<|(iu) fX St.g3<|(tr) ao St.g2<|(cQ)<|?_;rintro w7 ⟨lO,P⟩ _;refine WL.go rfl (OX.put da fZ (As.gm P.g4) rfl rfl rfl fun w8 zF vy=>?_);have di:=P.p4.jU zF vy;refine cq ?_;refine WC.bL (m:=9) [] [8] [1,2,3,4,5,6,7,8,0] [(7,.sl 40 1 f.key.cells)] di (ai.k4 M0 M1 M2 M3<|ai.cons M4<|ai.cons M5<|ai.cons M7<|ai.nil) mixed (by kernel_rfl) (by kernel_rfl) rfl<|?_
  iterate 3 refine DG.a ?_
  refine(ou) dE SV.g4<|(yI) ao SV.g3<|?_;refine DG.side (s:=.sl 40 1 f.key.cells) rfl rfl rfl rfl rfl rfl (fun C E G pV h=>OX.aO (us:=f.key.cells) dx rfl rfl rfl rfl fun b wy i hb=>⟨i.ext.size,_,rfl,⟨b,rfl⟩,h.cX i hb⟩)<|?_;rintro _ ⟨b73,rfl⟩;refine(fM) (fun w9 R8x TU u CW=>?_);simp only [CA,NA] at u;refine OX.jT kX rfl rfl rfl (As.gs u.g6) (SR.dd (A:=fun _=>True) (x:=f.key) (show bT _ b73 _ _ from u.ok _ (.tail _ (.tail _ (.tail _ (.tail _ (.tail _ (.tail _ (.tail _ (.tail _ (CW _ (.head _))))))))))) trivial rfl (by simp [Key.cells,Value.oneCell']) rfl) (by omega) (by omega) (Nat.zero_le _) fun a74 agy iS TW Q TX agz=>?_;have dm:=u.p6.eS Q TW TX;refine⟨Q.size,_,rfl,_,_,_,dm,aw.k4<|aw.k4<|aw.nil,ai.k4 M1 M2 M3 M4<|ai.cons M5<|ai.cons M6<|ai.cons M7<|ai.nil,?_⟩;refine(jm) ?_;intro iX FE R;simp only [CM,NM,CA,NA,hV.it] at R;refine bN ?_;refine WL.s1 R.p6 fun ly _ ed=>?_;refine WL.nil (EX.np ?_);refine ez ?_;have T:=ed.p7.p5;have ew:=St.yZ (q:=⟨H,g,o,p⟩) (r:=(bF ⟨rev,aC,l⟩ f.key value f.reads)) (l':=eh l (bF ⟨rev,aC,l⟩ f.key value f.reads)) T (As.gr T.g6) V (cN l (bF ⟨rev,aC,l⟩ f.key value f.reads));refine(bw) ?_;exact⟨⟨H,g,o,p⟩,_,_,_,_,rfl,hZc,ew.p2.drop.p4.drop.p4.drop.p3.p2⟩
 exact dz g19
theorem C6{A:eB}(G:St w M Z w [As.blk wb 74 (D.wc v rev ra rn rc),As.map Key.val D.m eH,As.gy 88 lf l,As.os RR.key 40 2 ra rn rc bj,As.os RR.key 40 2 A.a A.n A.c f.reads]) (Y:dw l lf eH) (h4:f.reads.length≤4000) (hr:bj.length≤100000) {r:Rec}(y:aA l f.key=some r):Calls prog 108 #[.pointer (some ⟨wb,0,none⟩),.agg (br.ov (f,A)).toArray,.string value] w fun e w'=>∃(q:RL) (a:Option Addr) (n c:Nat) (Z':Nat→Prop),e=.returned (.int .i64 0)∧bH w.heap.size Z Z'∧St w M Z' w' [As.blk wb 74 (D.wc v rev a n c),As.map Key.val D.m (cL eH f.key (.pointer (some ⟨q.b,0,none⟩))),As.gy 88 (wI lf f.key q) (eh l (bF ⟨rev,aC,l⟩ f.key value f.reads)),As.os RR.key 40 2 a n c (bj++[f.key]),As.os RR.key 40 2 A.a A.n A.c f.reads]:=by
 have Ey:=(As.gs G.g3).len;have hAn:=(As.gs G.g4).len;refine enter func108 rfl ntmps108 rfl<|?_;have aP:=G;refine(dy) aP fun b4 w1 Ff IK st1=>?_;refine cj ?_;have hN1:=st1.bO;refine WC.dS (m:=6) st1 mixed<|(iu) fX St.g1<|(tr) ao St.g0<|(cQ)<|?_;rintro w2 ⟨r6,st2⟩ _;refine WP .r (PV.bJ da fZ fb (As.gm st2.g2) (Y.yes y) rfl rfl)<|kR ?_;refine WL.cS (t:=19) rfl (fun g19=>?_) (fun g19=>?_)
 ·
  exact dz g19
 refine kR ?_;refine WC.fi rfl<|gX ?_;refine WP .r (PV.ld1 (j:=1) aN st2.b1 rfl rfl)<|cj ?_;refine WC.bL (m:=14) [] [5] [3,4,5,0,1,2,6,7,8,9,10,11,12,13] [(13,.blk 88 [.int .i64 0,.string ⟨#[]⟩,.string ⟨#[]⟩,.slice none 0 0,.int .i64 0,.int .i64 0,.int .i64 0,.bool false])] st2 (ai.k4 M0 M1 M2 M3<|ai.cons M4<|ai.cons M5<|ai.nil) mixed (by kernel_rfl) (by kernel_rfl) rfl<|(ou) dE SV.g0<|(fM) (fun w3 G2 qR P jF=>?_);simp only [CA,NA] at P;have g:=P;refine OX.call Kr rfl rfl ((nV g.e0 (Ow.rd (As.gs g.g5) (by omega)) (OR.lt (As.gs g.g5)) (by omega)).mono ?_);rintro _ w4 ⟨d,h,i,rfl,H⟩;have i7:=St.lr g H;have YJ:=St.bP H;have TV:=g.size;have iE:=i7.aY (by omega);have hZc:=(bH.refl w.heap.size Z).trans (bH.dA (F:=fun x=>x∈aI d) YJ) TV;refine⟨_,rfl,H.bV.size,_,rfl,_,_,_,iE,aw.k4<|aw.k2<|aw.cons<|aw.nil,ai.k4 M1 M2 M3 M4<|ai.cons M5<|ai.cons M6<|ai.nil,?_⟩;refine(yI) ao SV.g0<|?_
 iterate 4 refine DG.a ?_
 refine(ou) dE SV.g0<|?_;refine DG.a<|?_;refine DQ .r (fun I J K _ o wu=>PV.add rfl rfl (by show _≤(1:Int)+(A.n:Int);omega) (by show(1:Int)+(A.n:Int)≤_;omega))<|DQ .r (fun I J K _ o wu=>PV.bB (us:=[.int .i64 f.key.kind,.string f.key.text,.string value,.slice d h i,.int .i64 rev,.int .i64 rev,.int .i64 (1+(A.n:Int)),.bool false]) MZ rfl rfl rfl)<|?_;refine DG.side (s:=.blk 88 [.int .i64 0,.string ⟨#[]⟩,.string ⟨#[]⟩,.slice none 0 0,.int .i64 0,.int .i64 0,.int .i64 0,.bool false]) rfl rfl rfl rfl rfl rfl (fun I J K pV o=>OX.alloc nN rfl fun b wy p hb=>⟨p.ext.size,_,rfl,⟨b,rfl⟩,o.cX p hb⟩)<|?_;rintro _ ⟨u,rfl⟩;refine(jm) ?_;intro w5 vO Q;simp only [CM,NM,CA,NA,hV.it] at Q;refine(cI) fY Q fun w6 jS jZ L=>?_;refine WL.nil (EX.np ?_);refine cq ?_;refine WC.dW (t:=54) (v:=.bool (decide (r.value=value))) L ?_<|?_
 ·
  refine cj ?_;refine WL.cS (t:=47) rfl (fun N=>?_) (fun N=>?_)
  ·
   refine(a8) fw (bT.range ((As.sL L.g5).1 _ _ y).1)<|?_;exact(cz) (tG N) (L)
  exact dz N
 intro w7 iH;refine nx ?_;have z:=iH;refine WC.jy (σ:=Int) [_] (fun ch=>[(0,.pointer (some ⟨wb,0,none⟩)),(4,.pointer (some ⟨b4,0,none⟩)),(9,.pointer (some ⟨u,0,none⟩))]) (fun ch=>[As.blk u 88 [.int .i64 f.key.kind,.string f.key.text,.string value,.slice d h i,.int .i64 ch,.int .i64 rev,.int .i64 (1+(A.n:Int)),.bool false]]) (fun ch=>(ch=if r.value=value then r.changed else rev)∧True) z ?_ ?_
 ·
  refine(aT) (fun O=>?_) fun O=>?_
  ·
   refine(a8) aN (bT.range ((As.sL z.g5).1 _ _ y).1)<|nx ?_;refine WL.s1 z fun w8 _ C=>?_;refine nx ?_;exact mS (r.changed) ⟨C,⟨by rw [if_pos (by simpa using O)],trivial⟩⟩
  refine nx ?_;exact mS (rev) ⟨z,⟨by rw [if_neg (by simpa using O)],trivial⟩⟩
 rintro ch w8 C ⟨R,_⟩;simp only [CA,NA] at C R ⊢;refine bN ?_;have T:=C.rz (B:=As.blk u 88 ((bF ⟨rev,aC,l⟩ f.key value f.reads).row d h i)) (by rw [J1 y,R];simp only [Rec.row,hAn]);have Py:=T.bO;refine WC.dS (m:=6) T mixed<|(iu) fX St.g3<|(tr) ao St.g2<|(cQ)<|?_;rintro w9 ⟨lO,U⟩ _;refine WL.go rfl (OX.put da fZ (As.gm U.g4) rfl rfl rfl fun iS zF vy=>?_);have db:=U.p4.jU zF vy;refine cq ?_;refine WC.bL (m:=9) [] [8] [1,2,3,4,5,6,7,8,0] [(7,.sl 40 1 f.key.cells)] db (ai.k4 M0 M1 M2 M3<|ai.cons M4<|ai.cons M5<|ai.cons M7<|ai.nil) mixed (by kernel_rfl) (by kernel_rfl) rfl<|?_
 iterate 3 refine DG.a ?_
 refine(ou) dE SV.g4<|(yI) ao SV.g3<|?_;refine DG.side (s:=.sl 40 1 f.key.cells) rfl rfl rfl rfl rfl rfl (fun I J K pV o=>OX.aO (us:=f.key.cells) dx rfl rfl rfl rfl fun b wy p hb=>⟨p.ext.size,_,rfl,⟨b,rfl⟩,o.cX p hb⟩)<|?_;rintro _ ⟨b73,rfl⟩;refine(fM) (fun iX R8x TU E CW=>?_);simp only [CA,NA] at E;refine OX.jT kX rfl rfl rfl (As.gs E.g6) (SR.dd (A:=fun _=>True) (x:=f.key) (show bT _ b73 _ _ from E.ok _ (.tail _ (.tail _ (.tail _ (.tail _ (.tail _ (.tail _ (.tail _ (.tail _ (CW _ (.head _))))))))))) trivial rfl (by simp [Key.cells,Value.oneCell']) rfl) (by omega) (by omega) (Nat.zero_le _) fun a74 agy ly TW V TX agz=>?_;have gx:=E.p6.eS V TW TX;refine⟨V.size,_,rfl,_,_,_,gx,aw.k4<|aw.k4<|aw.nil,ai.k4 M1 M2 M3 M4<|ai.cons M5<|ai.cons M6<|ai.cons M7<|ai.nil,?_⟩;refine(jm) ?_;intro oo FE W;simp only [CM,NM,CA,NA,hV.it] at W;refine bN ?_;refine WL.s1 W.p6 fun r7 _ eb=>?_;refine WL.nil (EX.np ?_);refine ez ?_;have X:=eb.p7.p5;have dP:=St.yZ (q:=⟨u,d,h,i⟩) (r:=(bF ⟨rev,aC,l⟩ f.key value f.reads)) (l':=eh l (bF ⟨rev,aC,l⟩ f.key value f.reads)) X (As.gr X.g6) h4 (cN l (bF ⟨rev,aC,l⟩ f.key value f.reads));refine(bw) ?_;exact⟨⟨u,d,h,i⟩,_,_,_,_,rfl,hZc,dP.p2.drop.p4.drop.p4.drop.p3.p2⟩
set_option maxHeartbeats 400000
theorem C7{L:List (br × eB)}{A:eB}(u:St w M Z w [As.map Key.val S.m ml,As.map Key.val S.q [],As.blk wb 74 (D.wc S.s rev ra rn rc),As.map Key.val D.m eH,As.gy 88 lf l,As.os RR.im 115 6 al nl el (L++[(f,A)])]) (I:(S.FV prog aa x0).p Z w) (J:Rd RR.aC 4 Z w D.a1 D.n1 D.c1 x0.ab) (hm:aU aa x0.ab ml) (y:dw l lf eH) (V:aq aa) (W:∀k,(valOf aa x0.ab k).size≤1000) (X:KR aa l) (Y:L.length≤1000) (z:f.running=false) (g:aA l f.key=none):Calls prog 62 #[.pointer (some ⟨wb,0,none⟩),.slice al nl el,.func (.func 28) #[] #[]] w fun e w'=>∃(l':List Rec) (L':List (br × eB)) (d:Bool) (C:Int) (a:Option Addr) (n c:Nat) (j:List (Key × Value)),e=.returned (.tuple #[.slice a n c,.bool d,.int .i64 C])∧FT aa (valOf aa x0.ab) ⟨rev,x0.ab,l⟩ L f A ⟨rev,x0.ab,l'⟩ L' [] C∧dw l' lf eH∧aU aa x0.ab j∧gh ml j∧St w M Z w' [As.map Key.val S.m j,As.map Key.val S.q [],As.blk wb 74 (D.wc S.s rev ra rn rc),As.map Key.val D.m eH,As.gy 88 lf l',As.os RR.im 115 6 a n c L']:=by
 have K:=(As.gs u.g5).len;rw [List.length_append,List.length_singleton] at K
 have Zp:((L++[(f,A)]).map Prod.fst)=L.map Prod.fst++[f]:=by simp
 refine enter func62 rfl ntmps62 rfl<|?_;have aP:=u;have st1:=aP.fr J;have st2:=st1.fact (B:=As.fz (S.FV prog aa x0)) I (fun _ N=>N);refine gX ?_;obtain⟨gV,b⟩:=Ow.addr (As.gs st2.g7) (bG L (f,A));refine cj ?_;refine WP .r ((PV.sub rfl rfl (by omega) (by omega)).cast (v':=.int .i64 (L.length:Int)) (congrArg (Value.int .i64) (by omega)))<|WP .r (PV.dQ mP (i:=L.length) b rfl rfl (by omega))<|cj ?_;have Vc:=st2.bO;refine WC.dS (m:=8) st2 mixed<|(iu) fX St.g4<|cq ?_;refine DP .r (fun _ O=>PV.wg ao (Ow.jI (As.gs O.2.g7) (by rw [List.length_append,List.length_singleton];omega) b (bG L (f,A))) rfl rfl)<|(cQ)<|?_;rintro w1 ⟨oA,o⟩ _;refine WP .r (PV.jO da fZ fb (As.gm o.g5) (y.no g) rfl rfl)<|fO ?_;have DI:=o.bO;refine WC.dS (m:=12) o mixed<|cq ?_;refine DW.cS (t:=35) rfl (fun E=>?_) (fun E=>?_)
 ·
  exact dz E
 ·
  refine(cQ) ?_;rintro w2 ⟨pJ,F⟩ _;refine de ?_;refine WC.fi rfl<|de ?_;refine WL.cS (t:=55) rfl (fun G=>?_) (fun G=>?_)
  ·
   refine gX ?_;refine WC.oF rfl<|fO ?_;refine WL.go rfl (OX.AL (f:=2) O3 (As.gs F.g7) b (by omega) rfl rfl rfl ((({f with running:=true}:br),A):br × eB) (fun r h=>by rw [RR.ba h];rfl) fun w3 P Q=>?_);have H:=F.p7.eS P Q (fun x h=>.inl h);refine bN ?_;refine WL.go rfl (OX.AL (f:=3) GQ (As.gs H.g0) b (by omega) rfl rfl rfl ((({f with running:=true,at_:=0}:br),A):br × eB) (fun r h=>by rw [RR.ba h];rfl) fun w4 R T=>?_);have U:=H.eS R T (fun x h=>.inl h);refine aX ?_;refine nx ?_;refine EX.ey rfl (RS.tmp rfl<|RS.tmp rfl<|RS.tmp rfl<|RS.nil) rfl<|?_;exact⟨l,L++[(({f with running:=true,at_:=0}:br),A)],true,0,_,_,_,ml,rfl,FT.same (FS.start z (by unfold az;simp only [g];rfl) (.inl g)) (fun e=>by have:=congrArg br.running e;rw [z] at this;cases this) rfl rfl,y,hm,gh.refl _,U.p1.drop.p1.drop.p5.p5.p5.p5.p5⟩
  exact dz G
 -- k9 eM C32 C52
theorem C8{L:List (br × eB)}{A:eB}(u:St w M Z w [As.map Key.val S.m ml,As.map Key.val S.q [],As.blk wb 74 (D.wc S.s rev ra rn rc),As.map Key.val D.m eH,As.gy 88 lf l,As.os RR.im 115 6 al nl el (L++[(f,A)])]) (G:(S.FV prog aa x0).p Z w) (H:Rd RR.aC 4 Z w D.a1 D.n1 D.c1 x0.ab) (hm:aU aa x0.ab ml) (x:dw l lf eH) (P:aq aa) (Q:∀k,(valOf aa x0.ab k).size≤1000) (R:KR aa l) (T:L.length≤1000) {r:Rec}(I:f.running=false) (g:aA l f.key=some r) (y:r.av=rev):Calls prog 62 #[.pointer (some ⟨wb,0,none⟩),.slice al nl el,.func (.func 28) #[] #[]] w fun e w'=>∃(l':List Rec) (L':List (br × eB)) (d:Bool) (z:Int) (a:Option Addr) (n c:Nat) (h:List (Key × Value)),e=.returned (.tuple #[.slice a n c,.bool d,.int .i64 z])∧FT aa (valOf aa x0.ab) ⟨rev,x0.ab,l⟩ L f A ⟨rev,x0.ab,l'⟩ L' [] z∧dw l' lf eH∧aU aa x0.ab h∧gh ml h∧St w M Z w' [As.map Key.val S.m h,As.map Key.val S.q [],As.blk wb 74 (D.wc S.s rev ra rn rc),As.map Key.val D.m eH,As.gy 88 lf l',As.os RR.im 115 6 a n c L']:=by
 have J:=(As.gs u.g5).len;rw [List.length_append,List.length_singleton] at J
 have U:((L++[(f,A)]).map Prod.fst)=L.map Prod.fst++[f]:=by simp
 refine enter func62 rfl ntmps62 rfl<|?_;have aP:=u;have st1:=aP.fr H;have st2:=st1.fact (B:=As.fz (S.FV prog aa x0)) G (fun _ K=>K);refine gX ?_;obtain⟨V,C⟩:=Ow.addr (As.gs st2.g7) (bG L (f,A));refine cj ?_;refine WP .r ((PV.sub rfl rfl (by omega) (by omega)).cast (v':=.int .i64 (L.length:Int)) (congrArg (Value.int .i64) (by omega)))<|WP .r (PV.dQ mP (i:=L.length) C rfl rfl (by omega))<|cj ?_;have W:=st2.bO;refine WC.dS (m:=8) st2 mixed<|(iu) fX St.g4<|cq ?_;refine DP .r (fun _ b=>PV.wg ao (Ow.jI (As.gs b.2.g7) (by rw [List.length_append,List.length_singleton];omega) C (bG L (f,A))) rfl rfl)<|(cQ)<|?_;rintro w1 ⟨X,o⟩ _;refine WP .r (PV.bJ da fZ fb (As.gm o.g5) (x.yes g) rfl rfl)<|fO ?_;have Y:=o.bO;refine WC.dS (m:=12) o mixed<|cq ?_;refine DW.cS (t:=35) rfl (fun E=>?_) (fun E=>?_)
 ·
  refine cq ?_;refine DP .r (fun _ b=>V1 aN (bT.range ((As.sL b.2.g6).1 _ _ g).1) .r)<|cj ?_;refine DP .r (fun _ b=>PV.ld1 (j:=1) aN (bT.range (As.gb b.2.g4)) rfl rfl)<|(cQ)<|?_;rintro w2 ⟨pJ,F⟩ _;refine WP .r ((PV.IU rfl rfl).cast (v':=.bool true) (congrArg Value.bool (decide_eq_true y)))<|cj ?_;refine WC.oF rfl<|de ?_;refine WP .r ((PV.sub rfl rfl (by omega) (by omega)).cast (v':=.int .i64 (L.length:Int)) (congrArg (Value.int .i64) (by omega)))<|WP .r (PV.na mP (i:=L.length) (Ow.rd (As.gs F.g7) (by rw [List.length_append,List.length_singleton];omega)) rfl rfl (by omega))<|gX ?_;have N:=F.p7;have O:=St.Re N;refine EX.ey rfl (RS.tmp rfl<|RS.tmp rfl<|RS.tmp rfl<|RS.nil) rfl<|?_;exact⟨l,L,true,0,_,_,_,ml,rfl,FT.pop (FS.up I (aR.2 ⟨r,g,y⟩)),x,hm,gh.refl _,O.p1.drop.p1.drop.p5.p5.p5.p5.p5⟩
 ·
  exact dz E
 -- k9 eM C32
theorem C9{L:List (br × eB)}{A:eB}(C:St w M Z w [As.map Key.val S.m ml,As.map Key.val S.q [],As.blk wb 74 (D.wc S.s rev ra rn rc),As.map Key.val D.m eH,As.gy 88 lf l,As.os RR.im 115 6 al nl el (L++[(f,A)])]) (O:(S.FV prog aa x0).p Z w) (P:Rd RR.aC 4 Z w D.a1 D.n1 D.c1 x0.ab) (hm:aU aa x0.ab ml) (E:dw l lf eH) (hR:aq aa) (hS:∀k,(valOf aa x0.ab k).size≤1000) (KH:KR aa l) (hL6:L.length≤1000) {r:Rec}(F:f.running=false) (b:aA l f.key=some r) (G:¬r.av=rev) (Q:r.bA=true):Calls prog 62 #[.pointer (some ⟨wb,0,none⟩),.slice al nl el,.func (.func 28) #[] #[]] w fun e w'=>∃(l':List Rec) (L':List (br × eB)) (d:Bool) (H:Int) (a:Option Addr) (n c:Nat) (u:List (Key × Value)),e=.returned (.tuple #[.slice a n c,.bool d,.int .i64 H])∧FT aa (valOf aa x0.ab) ⟨rev,x0.ab,l⟩ L f A ⟨rev,x0.ab,l'⟩ L' [] H∧dw l' lf eH∧aU aa x0.ab u∧gh ml u∧St w M Z w' [As.map Key.val S.m u,As.map Key.val S.q [],As.blk wb 74 (D.wc S.s rev ra rn rc),As.map Key.val D.m eH,As.gy 88 lf l',As.os RR.im 115 6 a n c L']:=by
 have R:=(As.gs C.g5).len;rw [List.length_append,List.length_singleton] at R
 have Zp:((L++[(f,A)]).map Prod.fst)=L.map Prod.fst++[f]:=by simp
 refine enter func62 rfl ntmps62 rfl<|?_;have aP:=C;have st1:=aP.fr P;have st2:=st1.fact (B:=As.fz (S.FV prog aa x0)) O (fun _ T=>T);refine gX ?_;obtain⟨gV,o⟩:=Ow.addr (As.gs st2.g7) (bG L (f,A));refine cj ?_;refine WP .r ((PV.sub rfl rfl (by omega) (by omega)).cast (v':=.int .i64 (L.length:Int)) (congrArg (Value.int .i64) (by omega)))<|WP .r (PV.dQ mP (i:=L.length) o rfl rfl (by omega))<|cj ?_;have Vc:=st2.bO;refine WC.dS (m:=8) st2 mixed<|(iu) fX St.g4<|cq ?_;refine DP .r (fun _ g=>PV.wg ao (Ow.jI (As.gs g.2.g7) (by rw [List.length_append,List.length_singleton];omega) o (bG L (f,A))) rfl rfl)<|(cQ)<|?_;rintro w1 ⟨oA,y⟩ _;refine WP .r (PV.bJ da fZ fb (As.gm y.g5) (E.yes b) rfl rfl)<|fO ?_;have DI:=y.bO;refine WC.dS (m:=12) y mixed<|cq ?_;refine DW.cS (t:=35) rfl (fun I=>?_) (fun I=>?_)
 ·
  refine cq ?_;refine DP .r (fun _ g=>V1 aN (bT.range ((As.sL g.2.g6).1 _ _ b).1) .r)<|cj ?_;refine DP .r (fun _ g=>PV.ld1 (j:=1) aN (bT.range (As.gb g.2.g4)) rfl rfl)<|(cQ)<|?_;rintro w2 ⟨pJ,z⟩ _;refine WP .r ((PV.IU rfl rfl).cast (v':=.bool false) (congrArg Value.bool (decide_eq_false G)))<|cj ?_;refine WC.fi rfl<|de ?_;refine WL.cS (t:=55) rfl (fun J=>?_) (fun J=>?_)
  ·
   exact dz J
  refine(a8) dH (bT.range ((As.sL z.g6).1 _ _ b).1)<|(aT) (fun K=>?_) fun K=>?_
  ·
   refine fO ?_;refine WL.go rfl (OX.AL (f:=2) O3 (As.gs z.g7) o (by omega) rfl rfl rfl ((({f with running:=true}:br),A):br × eB) (fun r h=>by rw [RR.ba h];rfl) fun w3 U V=>?_);have N:=z.p7.eS U V (fun x h=>.inl h);refine bN ?_;refine WL.go rfl (OX.AL (f:=3) GQ (As.gs N.g0) o (by omega) rfl rfl rfl ((({f with running:=true,at_:=0}:br),A):br × eB) (fun r h=>by rw [RR.ba h];rfl) fun w4 W X=>?_);have Y:=N.eS W X (fun x h=>.inl h);refine aX ?_;refine nx ?_;refine EX.ey rfl (RS.tmp rfl<|RS.tmp rfl<|RS.tmp rfl<|RS.nil) rfl<|?_;exact⟨l,L++[(({f with running:=true,at_:=0}:br),A)],true,0,_,_,_,ml,rfl,FT.same (FS.start F (by rw [Bool.eq_false_iff];intro h;obtain⟨q,h1,h2⟩:=aR.1 h;have h1:aA l f.key=some q:=h1;rw [b] at h1;cases h1;exact G h2) (.inr (by rw [show cm.ah ⟨rev,x0.ab,l⟩=l from rfl,aQ b];exact Q))) (fun e=>by have:=congrArg br.running e;rw [F] at this;cases this) rfl rfl,E,hm,gh.refl _,Y.p1.drop.p1.drop.p5.p5.p5.p5.p5⟩
  exact dz K
 ·
  exact dz I
 -- k9 eM C32
set_option maxHeartbeats 4000000 in
theorem Da{L:List (br × eB)}{A:eB}(gE:St w M Z w [As.map Key.val S.m ml,As.map Key.val S.q [],As.blk wb 74 (D.wc S.s rev ra rn rc),As.map Key.val D.m eH,As.gy 88 lf l,As.os RR.im 115 6 al nl el (L++[(f,A)])]) (hf:(S.FV prog aa x0).p Z w) (Oc:Rd RR.aC 4 Z w D.a1 D.n1 D.c1 x0.ab) (hm:aU aa x0.ab ml) (b:dw l lf eH) (hR:aq aa) (hS:∀k,(valOf aa x0.ab k).size≤1000) (X:KR aa l) (hL6:L.length≤1000) {r:Rec}(U:f.running=false) (V:aA l f.key=some r) (hv:r.av<rev) (hd:r.bA=false) (h6:l.length≤4000) (Vf:∀r∈l,r.reads.length≤4000) (LG:0≤f.at_):Calls prog 62 #[.pointer (some ⟨wb,0,none⟩),.slice al nl el,.func (.func 28) #[] #[]] w fun e w'=>∃(l':List Rec) (L':List (br × eB)) (d:Bool) (er:Int) (a:Option Addr) (n c:Nat) (mT:List (Key × Value)),e=.returned (.tuple #[.slice a n c,.bool d,.int .i64 er])∧FT aa (valOf aa x0.ab) ⟨rev,x0.ab,l⟩ L f A ⟨rev,x0.ab,l'⟩ L' [] er∧dw l' lf eH∧aU aa x0.ab mT∧gh ml mT∧St w M Z w' [As.map Key.val S.m mT,As.map Key.val S.q [],As.blk wb 74 (D.wc S.s rev ra rn rc),As.map Key.val D.m eH,As.gy 88 lf l',As.os RR.im 115 6 a n c L']:=by
 have Iy:=(As.gs gE.g5).len;rw [List.length_append,List.length_singleton] at Iy
 have Zp:((L++[(f,A)]).map Prod.fst)=L.map Prod.fst++[f]:=by simp
 have hK:=GF (rev:=rev) V
 have LA:(aB l rev f.key).length≤4001:=by have:=kl l rev f.key;omega
 have hcb:=HB Vf LA
 have G8:(bR l (aB l rev f.key)).length≤100000000:=by have:=hcb (aB l rev f.key).length;rw [List.take_of_length_le (Nat.le_refl _)] at this;exact this
 have Y:Live l rev f.key:=⟨r,V,hd,hv⟩
 have qZ:cZ f.key:=by have h1:=aJ V;rw [← h1.2];exact(X r h1.1).1.cZ
 refine enter func62 rfl ntmps62 rfl<|?_;have aP:=gE;have st1:=aP.fr Oc;have st2:=st1.fact (B:=As.fz (S.FV prog aa x0)) hf (fun _ hx=>hx);refine gX ?_;obtain⟨gV,E⟩:=Ow.addr (As.gs st2.g7) (bG L (f,A));refine cj ?_;refine WP .r ((PV.sub rfl rfl (by omega) (by omega)).cast (v':=.int .i64 (L.length:Int)) (congrArg (Value.int .i64) (by omega)))<|WP .r (PV.dQ mP (i:=L.length) E rfl rfl (by omega))<|cj ?_;have Vc:=st2.bO;refine WC.dS (m:=8) st2 mixed<|(iu) fX St.g4<|cq ?_;refine DP .r (fun _ hC=>PV.wg ao (Ow.jI (As.gs hC.2.g7) (by rw [List.length_append,List.length_singleton];omega) E (bG L (f,A))) rfl rfl)<|(cQ)<|?_;rintro w1 ⟨oA,iV⟩ _;refine WP .r (PV.bJ da fZ fb (As.gm iV.g5) (b.yes V) rfl rfl)<|fO ?_;have DI:=iV.bO;refine WC.dS (m:=12) iV mixed<|cq ?_;refine DW.cS (t:=35) rfl (fun g35=>?_) (fun g35=>?_)
 ·
  refine cq ?_;refine DP .r (fun _ hC=>V1 aN (bT.range ((As.sL hC.2.g6).1 _ _ V).1) .r)<|cj ?_;refine DP .r (fun _ hC=>PV.ld1 (j:=1) aN (bT.range (As.gb hC.2.g4)) rfl rfl)<|(cQ)<|?_;rintro w2 ⟨pJ,iq⟩ _;refine WP .r ((PV.IU rfl rfl).cast (v':=.bool false) (congrArg Value.bool (decide_eq_false (show ¬r.av=rev by omega))))<|cj ?_;refine WC.fi rfl<|de ?_;refine WL.cS (t:=55) rfl (fun PW=>?_) (fun PW=>?_)
  ·
   exact dz PW
  refine(a8) dH (bT.range ((As.sL iq.g6).1 _ _ V).1)<|(aT) (fun g52=>?_) fun g52=>?_
  ·
   exact dz g52
  refine(hW) ao (Ow.jI (As.gs iq.g7) (by rw [List.length_append,List.length_singleton];omega) E (bG L (f,A)))<|?_;have i7:=iq;refine(bX) Xk (xa (k:=f.key) i7.e0 (As.gb i7.g4) (As.gm i7.g5) b (As.sL i7.g6) X.acY h6 Vf) ?_;rintro _ w3 ⟨u1,O,u3,rfl,kz⟩;have iE:=St.lr i7 kz;have N9:=((As.gs iE.g0)).len;refine ez ?_;have W:=iE;refine(bX) Xl (vR W.e0 (As.gb W.g5) (As.gm W.g6) b (As.sL W.g7) (Ow.rd (As.gs W.g0) (by omega)) hK hcb) ?_;rintro _ w4 ⟨o1,o2,o3,rfl,oz⟩;have R:=St.lr W oz;have hcn:=((As.gs R.g0)).len;refine(a8) aN (Ow.jI (As.gs R.g9) (by rw [List.length_append,List.length_singleton];omega) E (bG L (f,A)))<|(aT) (fun Vg=>?_) fun Vg=>?_
  ·
   simp at Vg
   have K6:(bR l (aB l rev f.key)).length≤f.at_.toNat:=by omega
   refine kR ?_;have iH:=R.p8.rz (B:=As.gy 88 lf (l.map (a7 rev ((aB l rev f.key).take 0) false))) (by rw [uS]);refine WC.bq (σ:=Nat) (dn:=fun i=>[(0,.pointer (some ⟨wb,0,none⟩)),(1,.slice al nl el),(84,.slice u1 O u3),(85,.int .i64 (O:Int)),(86,.int .i64 (i:Int))]) (F:=fun i=>[As.gy 88 lf (l.map (a7 rev ((aB l rev f.key).take i) false))]) (I:=fun i=>(i≤O)∧True) (μ:=fun i=>O - i) (0) (iH) Sub.t (⟨Nat.zero_le _,trivial⟩)<|?_;rintro i w5 z ⟨hi,_⟩;simp only [CA,NA] at z hi ⊢;refine(aT) (fun FP=>?_) fun FP=>?_
   ·
    simp at FP
    have J:i<(aB l rev f.key).length:=by omega
    refine de ?_;obtain⟨akG,K7⟩:=Ow.addr (As.gs z.g2) (ak J);refine nx ?_;refine WP .r (PV.dQ et K7 rfl rfl (by omega))<|(aZ) ao (Ow.jI (As.gs z.g2) (by omega) K7 (ak J))<|(eW) z fun b14 w6 YB Od G=>?_;refine(cI) hP G fun w7 jS jZ o=>?_;refine bN ?_;obtain⟨r1,OO⟩:=hK _ (List.getElem_mem J);obtain⟨r2,K,DA⟩:=uT (rev:=rev) (g:=(aB l rev f.key).take i) (d:=false) ⟨r1,OO⟩;have DH:=(((As.sL o.g1)).1 _ _ K).2.2;have C:=o.fact (As.Jf (((((As.sL o.g1)).1 _ _ K).2.1))) (fun _ hx=>hx);have db:=C.p2;have ed:=St.JU db K;refine WC.bL (m:=11) [] [] [0,1,2,3,4,5,6,7,8,9,10] [] ed (ai.k4 M0 M1 M2 M3<|ai.k4 M4 M5 M6 M7<|ai.k4 M8 M9 gN hU<|ai.cons jG<|ai.nil) mixed (by kernel_rfl) (by kernel_rfl) rfl<|?_
    iterate 3 refine DG.a ?_
    refine(ou) fX SV.g10<|(lx) ao SV.g3<|?_;refine DQ .r (fun wx Zx Rx _ pN wu=>PV.bJ da fZ fb (As.gm (pN.sv wu).g11) (b.yes OO) rfl rfl)<|?_
    iterate 4 refine DG.a ?_
    refine DQ .r (fun wx Zx Rx _ pN wu=>PV.ld1 (j:=1) aN (bT.range (As.gb (pN.sv wu).g10)) rfl rfl)<|(jm)<|?_;intro w8 PX P;simp only [CM,NM,CA,NA,hV.it] at P;refine bN ?_;refine WL.s1 P fun w9 _ H=>?_;refine WL.nil (EX.np ?_);have Q:=H.p1.p1;have dG:=St.GH (r':={r2 with av:=rev}) (l':=l.map (a7 rev ((aB l rev f.key).take (i+1)) false)) Q DA (As.gr Q.g2) DH (fun y=>by simpa using sM J false K y);have dP:=dG.p1.drop;refine fO ?_;refine eC (i+1) ⟨dP.p1.drop,⟨by omega,trivial⟩⟩
   simp at FP
   have IA:(aB l rev f.key).take i=(aB l rev f.key):=List.take_of_length_le (by omega);have G:=z.rz (B:=As.gy 88 lf (l.map (a7 rev (aB l rev f.key) false))) (by rw [IA]);refine jL ?_;refine WP .r ((PV.sub rfl rfl (by omega) (by omega)).cast (v':=.int .i64 (L.length:Int)) (congrArg (Value.int .i64) (by omega)))<|WP .r (PV.na mP (i:=L.length) (Ow.rd (As.gs G.g9) (by rw [List.length_append,List.length_singleton];omega)) rfl rfl (by omega))<|ez ?_;have o:=G.p9;have C:=St.Re o;refine EX.ey rfl (RS.tmp rfl<|RS.tmp rfl<|RS.tmp rfl<|RS.nil) rfl<|?_;exact⟨l.map (a7 rev (aB l rev f.key) false),L,true,0,_,_,_,ml,rfl,FT.pop (FS.mark U Y K6),b.mark _ _ _,hm,gh.refl _,C.p2.drop.p2.drop.p2.drop.p2.drop.p1.p5.p5.p5.p5⟩
  simp at Vg
  obtain⟨ch,T⟩:∃ch,(bR l (aB l rev f.key))[f.at_.toNat]?=some ch:=⟨_,ak (by omega)⟩;obtain⟨H9,Zq,_⟩:=dr.1 (List.mem_of_getElem? T);obtain⟨rm,hrm⟩:=hK _ H9;rw [aQ hrm] at Zq;have hkc:=(X rm (aJ hrm).1).2.2 _ Zq;have zG:0≤(f,A).fst.at_∧(f,A).fst.at_≤100000000:=⟨LG,by show f.at_≤_;omega⟩;refine cq ?_;obtain⟨Zr,vS⟩:=Ow.addr (As.gs R.g0) T;refine(a8) aN (Ow.jI (As.gs R.g9) (by rw [List.length_append,List.length_singleton];omega) E (bG L (f,A)))<|?_;refine WP .r (PV.DT GP (f.at_.toNat) vS rfl rfl (by show f.at_=_;omega) (by omega))<|(aZ) zn (Ow.jI (As.gs R.g0) (by omega) vS T)<|(eW) R fun b15 w5 ae8 ae9 iH=>?_;refine(cI) Kn iH fun w6 re mz z=>?_;refine(hW) ao z.b0<|nx ?_;refine WL.c1 (u:=.int .i64 (bJ ⟨rev,x0.ab,l⟩ (L.map Prod.fst++[f]) [] ch.read)) (nT (aC:=x0.ab) (As.gb z.g7) (As.gm z.g8) b (As.sL z.g9) X (Ow.rd (As.gs z.g10) (by rw [List.length_append,List.length_singleton];omega)) hkc.cZ) (by rw [Zp]) z fun w7 s7 G=>?_;refine(aT) (fun TY=>?_) fun TY=>?_
  ·
   have uN:bJ ⟨rev,x0.ab,l⟩ (L.map Prod.fst++[f]) [] ch.read=3:=by simpa using TY
   refine kE ?_;refine EX.ey rfl (RS.tmp rfl<|RS.tmp rfl<|RS.tmp rfl<|RS.nil) rfl<|?_;exact⟨l,(L++[(f,A)]),false,43,_,_,_,ml,rfl,FT.err (FS.My ch U Y T uN) (by decide),b,hm,gh.refl _,G.drop.drop.drop.drop.drop⟩
  have uN:bJ ⟨rev,x0.ab,l⟩ (L.map Prod.fst++[f]) [] ch.read≠3:=by simpa using TY
  refine(aT) (fun Zs=>?_) fun Zs=>?_
  ·
   exact absurd (by simpa using Zs) (x7 (x:=⟨rev,x0.ab,l⟩) (l:=(L.map Prod.fst++[f])) (k:=ch.read))
  skip
  refine(aT) (fun TZ=>?_) fun TZ=>?_
  ·
   have DC:bJ ⟨rev,x0.ab,l⟩ (L.map Prod.fst++[f]) [] ch.read=1:=by simpa using TZ
   refine(hW) ao G.b0<|?_;have o:=G.kD;refine(bX) Sk (nU (k:=ch.read) o.e1 (by rw [List.length_append,List.length_singleton];omega)) ?_;rintro _ w8 ⟨p1,p2,p3,rfl,j0⟩;have C:=St.lr o j0;refine gX ?_;refine EX.ey rfl (RS.tmp rfl<|RS.tmp rfl<|RS.tmp rfl<|RS.nil) rfl<|?_;exact⟨l,_,true,0,_,_,_,ml,rfl,FT.push (FS.sK ch U Y T DC),b,hm,gh.refl _,C.p1.drop.p1.drop.p1.drop.p1.drop.p1.drop.p5.p5.p5.p5.p5⟩
  have DC:bJ ⟨rev,x0.ab,l⟩ (L.map Prod.fst++[f]) [] ch.read≠1:=by simpa using TZ
  refine(aZ) zn G.b0<|?_;have o:=G.p9.p9.p9.p9.p9;refine(bX) Xm (Ae (c:=ch) o.e5 (As.gf o.g8) (As.gr o.g9) hm b hR hS hkc X hrm) ?_;rintro _ w8 ⟨iT,rfl,Ie,tD,j0⟩;have C:=St.lr o j0;refine(aT) (fun T0=>?_) fun T0=>?_
  ·
   have hdf:JO (valOf aa x0.ab) ⟨rev,x0.ab,l⟩ ch=false:=by simpa using T0
   refine(a8) aN (Ow.jI (As.gs C.g10) (by rw [List.length_append,List.length_singleton];omega) E (bG L (f,A)))<|cq ?_;refine WL.go rfl (OX.AL (f:=3) GQ (As.gs C.g10) E (by omega) rfl rfl rfl ((({f with at_:=f.at_+1}:br),A):br × eB) (fun r h=>by rw [RR.ba h];rfl) fun w9 s40 T1=>?_);have db:=C.kD.eS s40 T1 (fun x h=>.inl h);refine aX ?_;refine EX.ey rfl (RS.tmp rfl<|RS.tmp rfl<|RS.tmp rfl<|RS.nil) rfl<|?_;exact⟨l,L++[(({f with at_:=f.at_+1}:br),A)],true,0,_,_,_,iT,rfl,FT.same (FS.pass ch U Y T DC uN (HH hdf)) (fun e=>by have:=congrArg br.at_ e;simp at this;omega) rfl rfl,b,Ie,tD,db.p6.drop.p6.drop.p6.drop.p6.drop.p6.drop.p5.p5.p5.p5.p5⟩
  have hdf:JO (valOf aa x0.ab) ⟨rev,x0.ab,l⟩ ch=true:=by simpa using T0
  refine(hW) ao (Ow.jI (As.gs C.g10) (by rw [List.length_append,List.length_singleton];omega) E (bG L (f,A)))<|?_;refine WL.c1 (u:=.bool (ax f.key)) (fL (k:=f.key) qZ) (by rw [B6 qZ]) C fun w9 s9 db=>?_;refine bN ?_;have ed:=db.p4;refine WC.jy (σ:=(List Rec)) [_] (fun N=>[(1,.slice al nl el),(9,.pointer (some ⟨gV,0+L.length*6,none⟩))]) (fun N=>[As.gy 88 lf N]) (fun N=>(N=if ax f.key=true then l.map (a7 rev (aB l rev f.key) true) else l)∧True) ed ?_ ?_
  ·
   refine(aT) (fun T2=>?_) fun T2=>?_
   ·
    refine gX ?_;have P:=ed.rz (B:=As.gy 88 lf (l.map (a7 rev ((aB l rev f.key).take 0) true))) (by rw [uS]);refine WC.bq (σ:=Nat) (dn:=fun i=>[(0,.pointer (some ⟨wb,0,none⟩)),(1,.slice al nl el),(9,.pointer (some ⟨gV,0+L.length*6,none⟩)),(151,.slice u1 O u3),(152,.int .i64 (O:Int)),(153,.int .i64 (i:Int))]) (F:=fun i=>[As.gy 88 lf (l.map (a7 rev ((aB l rev f.key).take i) true))]) (I:=fun i=>(i≤O)∧True) (μ:=fun i=>O - i) (0) (P) Sub.t (⟨Nat.zero_le _,trivial⟩)<|?_;rintro i iS H ⟨hi,_⟩;simp only [CA,NA] at H hi ⊢;refine(aT) (fun T3=>?_) fun T3=>?_
    ·
     simp at T3
     have J:i<(aB l rev f.key).length:=by omega
     refine de ?_;obtain⟨agE,G3⟩:=Ow.addr (As.gs H.g7) (ak J);refine nx ?_;refine WP .r (PV.dQ et G3 rfl rfl (by omega))<|(aZ) ao (Ow.jI (As.gs H.g7) (by omega) G3 (ak J))<|(eW) H fun U9 iX Tl N2 Q=>?_;refine(cI) hP Q fun ly zB sw dG=>?_;refine bN ?_;obtain⟨r1,OO⟩:=hK _ (List.getElem_mem J);obtain⟨r2,K,DA⟩:=uT (rev:=rev) (g:=(aB l rev f.key).take i) (d:=true) ⟨r1,OO⟩;have DH:=(((As.sL dG.g1)).1 _ _ K).2.2;have dP:=dG.fact (As.Jf (((((As.sL dG.g1)).1 _ _ K).2.1))) (fun _ hx=>hx);have fA:=dP.p2;have dI:=St.JU fA K;refine WC.bL (m:=5) [] [] [0,1,2,3,4] [] dI (ai.k4 M0 M1 M2 M3<|ai.k4 M4 M5 M6 M7<|ai.k4 M8 M9 gN hU<|ai.cons jG<|ai.cons mu<|ai.nil) mixed (by kernel_rfl) (by kernel_rfl) rfl<|?_
     iterate 3 refine DG.a ?_
     refine(ou) fX SV.g6<|(lx) ao SV.g3<|(jm)<|?_;intro oo akJ eJ;simp only [CM,NM,CA,NA,hV.it] at eJ;refine WP .r (PV.bJ da fZ fb (As.gm eJ.g7) (b.yes OO) rfl rfl)<|bN ?_;refine WL.s1 eJ fun r7 _ fB=>?_;refine WL.nil (EX.np ?_);have ee:=fB.p1.p1;have eP:=St.GH (r':={r2 with bA:=true}) (l':=l.map (a7 rev ((aB l rev f.key).take (i+1)) true)) ee DA (As.gr ee.g2) DH (fun y=>by simpa using sM J true K y);have dM:=eP.p1.drop;refine fO ?_;refine eC (i+1) ⟨dM.p1.drop,⟨by omega,trivial⟩⟩
    simp at T3
    have IA:(aB l rev f.key).take i=(aB l rev f.key):=List.take_of_length_le (by omega);have Q:=H.rz (B:=As.gy 88 lf (l.map (a7 rev (aB l rev f.key) true))) (by rw [IA]);refine cj ?_;exact mS (l.map (a7 rev (aB l rev f.key) true)) ⟨Q,⟨by rw [if_pos (by simpa using T2)],trivial⟩⟩
   refine nx ?_;exact mS (l) ⟨ed,⟨by rw [if_neg (by simpa using T2)],trivial⟩⟩
  rintro N iS P ⟨OW,_⟩;simp only [CA,NA] at P OW ⊢;refine ez ?_;refine WL.go rfl (OX.AL (f:=2) O3 (As.gs P.g10) E (by omega) rfl rfl rfl ((({f with running:=true}:br),A):br × eB) (fun r h=>by rw [RR.ba h];rfl) fun iX T4 F1=>?_);have H:=P.kD.eS T4 F1 (fun x h=>.inl h);refine bN ?_;refine WL.go rfl (OX.AL (f:=3) GQ (As.gs H.g0) E (by omega) rfl rfl rfl ((({f with running:=true,at_:=0}:br),A):br × eB) (fun r h=>by rw [RR.ba h];rfl) fun ly Ip F2=>?_);have Q:=H.eS Ip F2 (fun x h=>.inl h);refine kE ?_
  have wo:(if ax f.key=true then cH ⟨rev,x0.ab,l⟩ (aB l rev f.key) true else ⟨rev,x0.ab,l⟩)=⟨rev,x0.ab,N⟩:=by rw [OW];split <;> rfl
  have pK:dw N lf eH:=by rw [OW];split;exact b.mark _ _ _;exact b
  have Yi:=FS.fail (aa:=aa) (p:=L.map Prod.fst) ch U Y T DC uN (J2 hdf);rw [show(if ax f.key=true then cH ⟨rev,x0.ab,l⟩ (aB (cm.ah ⟨rev,x0.ab,l⟩) (cm.ad ⟨rev,x0.ab,l⟩) f.key) true else ⟨rev,x0.ab,l⟩)=⟨rev,x0.ab,N⟩ from wo] at Yi;refine EX.ey rfl (RS.tmp rfl<|RS.tmp rfl<|RS.tmp rfl<|RS.nil) rfl<|?_;exact⟨N,L++[(({f with running:=true,at_:=0}:br),A)],true,0,_,_,_,iT,rfl,FT.same Yi (fun e=>by have:=congrArg br.running e;rw [U] at this;cases this) rfl rfl,pK,Ie,tD,Q.p6.drop.p6.drop.p6.drop.p6.drop.p6.drop.p1.p5.p5.p5.p5⟩
 ·
  exact dz g35
 -- k9 eM C32
theorem Af{L:List (br × eB)}{A:eB}(g:St w M Z w [As.map Key.val S.m ml,As.map Key.val S.q [],As.blk wb 74 (D.wc S.s rev ra rn rc),As.map Key.val D.m eH,As.gy 88 lf l,As.os RR.im 115 6 al nl el (L++[(f,A)])]) (h:(S.FV prog aa x0).p Z w) (i:Rd RR.aC 4 Z w D.a1 D.n1 D.c1 x0.ab) (hm:aU aa x0.ab ml) (j:dw l lf eH) (o:aq aa) (t:∀k,(valOf aa x0.ab k).size≤1000) (u:KR aa l) (x:L.length≤1000) (y:f.running=false) (F:l.length≤4000) (G:∀r∈l,r.reads.length≤4000) (H:∀r∈l,r.av≤rev) (I:0≤f.at_):Calls prog 62 #[.pointer (some ⟨wb,0,none⟩),.slice al nl el,.func (.func 28) #[] #[]] w fun e w'=>∃(l':List Rec) (L':List (br × eB)) (d:Bool) (B:Int) (a:Option Addr) (n c:Nat) (z:List (Key × Value)),e=.returned (.tuple #[.slice a n c,.bool d,.int .i64 B])∧FT aa (valOf aa x0.ab) ⟨rev,x0.ab,l⟩ L f A ⟨rev,x0.ab,l'⟩ L' [] B∧dw l' lf eH∧aU aa x0.ab z∧gh ml z∧St w M Z w' [As.map Key.val S.m z,As.map Key.val S.q [],As.blk wb 74 (D.wc S.s rev ra rn rc),As.map Key.val D.m eH,As.gy 88 lf l',As.os RR.im 115 6 a n c L']:=by
 cases b:aA l f.key with
 | none=>exact C7 g h i hm j o t u x y b
 | some r=>
  by_cases C:r.av=rev
  ·
   exact C8 g h i hm j o t u x y b C
  cases E:r.bA with
  | true=>exact C9 g h i hm j o t u x y b C E
  | false=>
   have:=H r (aJ b).1
   exact Da g h i hm j o t u x y b (by omega) E F G I
end Go.Rc

