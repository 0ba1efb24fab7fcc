/- Walks over the program, part WYg. Conditions: as each theorem says. -/
import Derived.Test.YtfamnpoplgkkcaaGreatDoorOFacts
import Derived.Test.YtfamnpoplgkkcaaGreatDoorOWZr
import Derived.Test.YtfamnpoplgkkcaaGreatDoorOWO
import Derived.Test.YtfamnpoplgkkcaaGreatDoorOBi
set_option linter.all false
namespace Go.Rc
open Go Go.Proofs Go.Proofs.Tryz
variable {f:bm}{cap:Value}{a ra al:Option Addr}{n c v rn rc wb nl el:Nat}{w:World}{Z M:Nat→Prop}{k:Key}{D:WD}{rev:Int}{aD:List cv}{aa:List aG}{ml eK:List (Key × Value)}{l:List Rec}{lf:Key→RL}{x0:cy}{S:SD}{bf:List Key}{value:ByteArray}
set_option maxHeartbeats 400000
theorem wT{l:List (bm × eC)}{p:bm × eC→Bool}{f:FuncId}(m:CF prog f) (hl:Rd RR.ig 6 Z w a n c l) (o:∀w1,aS [] w w1→∀x∈l,Calls prog f #[.agg (bm.oe x).toArray,cap] w1 fun e w'=>e=.returned (.bool (p x))∧aS [] w1 w'):Calls prog 153 #[.slice a n c,.func (.func f) #[] #[cap]] w fun e w'=>∃j:Int,e=.returned (.int .i64 j)∧uE l p j∧aS [] w w':=by
 have hlen:=hl.len;have hle:=hl.le;refine enter func153 rfl ntmps153 rfl<|?_;have aO:=St.s0 w;refine aX ?_;refine bK ?_;refine WC.bd (σ:=Nat) (dj:=fun i=>[(0,.slice a n c),(1,.func (.func f) #[] #[cap]),(7,.int .i64 (n:Int)),(8,.int .i64 (i:Int))]) (F:=fun i=>[]) (I:=fun i=>(i≤n)∧(∀j x,j<i→l[j]?=some x→p x=false)∧True) (μ:=fun i=>n - i) (0) (aO) Sub.t (⟨by omega,fun j x h=>by omega,trivial⟩)<|?_;rintro i w1 st1 ⟨hi,b,_⟩;simp only [CA,NA] at st1 hi b ⊢;refine(aR) (fun g9=>?_) fun g9=>?_
 ·
  simp at g9
  have d:i<l.length:=by omega
  refine jT ?_;obtain⟨A,B,C,q,E,g,s,G⟩:=Rd.at hl d;have g:=RR.a8 g;subst g;refine cj ?_;refine WP .r (PV.dI mE q rfl rfl (by omega))<|(aY) nC (aW s (St.cg st1) (by simp))<|?_;refine WL.go rfl (OX.mT m rfl rfl rfl ((Calls.cap (o _ (St.cg st1) l[i] (List.getElem_mem d))).mono ?_));rintro _ w2 ⟨rfl,s2⟩;refine⟨_,rfl,?_⟩;have st2:=st1.step s2;refine(aR) (fun g16=>?_) fun g16=>?_
  ·
   refine(bs) ?_;exact⟨_,rfl,.inl ⟨i,_,ak d,g16,b,rfl⟩,(St.cg st2)⟩
  have g16:p l[i]=false:=by simpa using g16
  refine ed ?_;refine ef (i+1) ⟨st2,⟨by omega,cG d b (by simpa using g16),trivial⟩⟩
 simp at g9
 have u:∀x∈l,p x=false:=fun x y=>by obtain⟨j,z,rfl⟩:=List.getElem_of_mem y;exact b j _ (by omega) (ak z)
 refine(bs) ?_;exact⟨_,rfl,.inr ⟨u,rfl⟩,(St.cg st1)⟩
theorem sa{l:List (bm × eC)}{p:bm × eC→Bool}{f:FuncId}(b:CF prog f) (hl:Rd RR.ig 6 Z w a n c l) (d:∀w1,aS [] w w1→∀x∈l,Calls prog f #[.agg (bm.oe x).toArray,cap] w1 fun e w'=>e=.returned (.bool (p x))∧aS [] w1 w'):CR prog 115 #[.slice a n c,.func (.func f) #[] #[cap]] w (.bool (l.any p)):=by
 refine enter func115 rfl ntmps115 rfl<|?_;have aO:=St.s0 w;refine(bX) Xq (wT (w:=w) b (hl.ext (St.cg aO)) (fun w1 h1=>d w1 (aS.trans (St.cg aO) h1))) ?_;rintro _ w1 ⟨j,rfl,g,s1⟩;have st1:=aO.step s1;have h:=g.any;refine(bs) ?_;exact⟨by rw [h],(St.cg st1)⟩
theorem zX{x:bm × eC}{pb:Nat}(b:bQ w pb 41 k.cells):CR prog 116 #[.agg (bm.oe x).toArray,.pointer (some ⟨pb,0,none⟩)] w (.bool (decide (x.1.key=k))):=by
 refine enter func116 rfl ntmps116 rfl<|?_;have aO:=St.s0 w;refine(dq) aO fun b2 w1 d e st1=>?_;refine(gX) ao st1.b0<|(aY) ao (bQ.range (b.ext (St.cg st1)))<|(bs) ?_;exact⟨rfl,(St.cg st1)⟩
theorem zY :CR prog 34 #[k.val] w (.bool false):=by
 refine enter func34 rfl ntmps34 rfl<|?_;have aO:=St.s0 w;refine(dq) aO fun b1 w1 b d st1=>?_;refine(bs) ?_;exact⟨rfl,(St.cg st1)⟩
theorem nM{L:List (bm × eC)}{A:Nat→Prop}(g:bQ w wb 86 (D.wc v rev ra rn rc)) (hm:KM Key.val w D.m ml) (h:dy l lf ml) (i:(As.gq 47 lf l).ok Z w) (j:KR aa l) (hl:Rd RR.ig 6 A w al nl el L) (e:cX k):CR prog 70 #[.pointer (some ⟨wb,0,none⟩),.slice al nl el,k.val,.func (.func 34) #[] #[]] w (.int .i64 (bG ⟨rev,aD,l⟩ (L.map Prod.fst) [] k)):=by
 refine enter func70 rfl ntmps70 rfl<|?_;have aO:=St.s0 w;refine(dq) aO fun o w1 y z st1=>?_;refine fO ?_;refine WP .r (PV.func (us:=[]) (vs:=[.pointer (some ⟨o,0,none⟩)]) rfl rfl)<|?_;refine WL.c1 (u:=.bool (fY (L.map Prod.fst) k)) (sa (p:=fun x=>decide (x.1.key=k)) W0 (hl.ext (St.cg st1)) (fun w1 h1 x B=>zX (bQ.ext (As.gb st1.g0) h1))) (by rw [Mz]) st1 fun w2 s2 st2=>?_;refine fO ?_;refine WC.dU (t:=13) (v:=.bool (fY (L.map Prod.fst) k && !ax k)) st2 ?_<|?_
 ·
  refine(dc) (fun g15=>?_) (fun g15=>?_)
  ·
   refine(aY) ao st2.b0<|?_;refine WL.c1 (u:=.bool (ax k)) (fJ (k:=k) e) (by rw [BR e]) st2 fun w3 C b=>?_;exact(cw) (tG g15) (b)
  exact(cw) (tG g15) (st2)
 intro w3 b;refine(aR) (fun g13=>?_) fun g13=>?_
 ·
  refine(bs) ?_;exact⟨by rw [JM g13],(St.cg b)⟩
 ·
  have g13:(fY (L.map Prod.fst) k && !ax k)=false:=by simpa using g13
  refine nx ?_;refine WC.dU (t:=20) (v:=.bool (fY (L.map Prod.fst) k || (ay k || aA ⟨rev,aD,l⟩ k))) b ?_<|?_
  ·
   refine(dc) (fun g22=>?_) (fun g22=>?_)
   ·
    exact(cw) (tG g22) (b)
   refine(aY) ao b.b0<|(eS) (FC (aD:=aD) (g.ext (St.cg b)) (hm.ext (St.cg b)) h (As.exc i (St.cg b)) j) b fun w4 E d=>?_;exact(cw) (tG g22) (d)
  intro w4 d;refine(aR) (fun g20=>?_) fun g20=>?_
  ·
   refine(bs) ?_;exact⟨by rw [JN g13 g20],(St.cg d)⟩
  have g20:(fY (L.map Prod.fst) k || (ay k || aA ⟨rev,aD,l⟩ k))=false:=by simpa using g20
  refine(aY) ao d.b0<|?_;refine WL.go rfl (OX.mT adh rfl rfl rfl ((Calls.Vu (zY (k:=k))).mono ?_));rintro _ w5 ⟨rfl,q⟩;refine⟨_,rfl,?_⟩;have s:=d.step q;refine cj ?_;refine WC.oo rfl<|(bs) ?_;exact⟨by rw [JO g13 g20],(St.cg s)⟩
 -- F G H
theorem nN{L:List (bm × eC)}(b:St w M Z w [As.os RR.ig 126 6 al nl el L]) (i:L.length≤100000):Calls prog 71 #[.slice al nl el,k.val] w fun e w'=>∃(a:Option Addr) (n c:Nat),e=.returned (.slice a n c)∧St w M Z w' [As.os RR.ig 126 6 a n c (L++[((⟨k,false,0,[],[]⟩:bm),(⟨none,0,0,none,0,0⟩:eC))])]:=by
 have j:=(As.gs b.g0).len;refine enter func71 rfl ntmps71 rfl<|?_;have aO:=b;refine(dq) aO fun b3 w1 m o st1=>?_;refine(aY) ao st1.b0<|?_;refine WP .r (PV.bz (us:=((⟨k,false,0,[],[]⟩:bm).row none 0 0 none 0 0)) Gy rfl rfl rfl)<|?_;refine WL.go rfl (OX.aP (us:=(bm.oe ((⟨k,false,0,[],[]⟩:bm),(⟨none,0,0,none,0,0⟩:eC)))) rL rfl rfl rfl rfl fun p w2 d g=>?_);have st2:=st1.de d g;refine WL.ap rfl rfl st2.p2 (SR.dd (A:=fun _=>True) (x:=((⟨k,false,0,[],[]⟩:bm),(⟨none,0,0,none,0,0⟩:eC))) (As.gb st2.g0) trivial rfl (bm.one _ _ _ _ _ _ _) rfl) fun a9 q w3 s t h=>?_;refine(bs) ?_;exact⟨_,_,_,rfl,h.p1.drop.p1.drop⟩
theorem CO(h:St w M Z w []) (i:bQ w wb 86 (D.wc v rev ra rn rc)) (hm:KM Key.val w D.m ml) (j:dy l lf ml) (o:(As.gq 47 lf l).ok Z w) (p:KR aa l) (q:cX k):Calls prog 33 #[.pointer (some ⟨wb,0,none⟩),k.val,.func (.func 34) #[] #[]] w fun e w'=>∃(a:Option Addr) (n c:Nat),e=.returned (.slice a n c)∧St w M Z w' [As.os RR.ig 126 6 a n c (if cE ⟨rev,aD,l⟩ [] k=true then [((⟨k,false,0,[],[]⟩:bm),(⟨none,0,0,none,0,0⟩:eC))] else [])]:=by
 refine enter func33 rfl ntmps33 rfl<|?_;have aO:=St.rb h;have st1:=aO.dp RR.ig 126 6;refine(dq) st1 fun b4 w1 z B st2=>?_;refine(aY) ao st2.b0<|nx ?_;refine WL.c1 (u:=.int .i64 (if cE ⟨rev,aD,l⟩ [] k=true then 1 else 0)) (nM (aD:=aD) (L:=[]) (A:=fun _=>True) (i.ext (St.cg st2)) (hm.ext (St.cg st2)) j (As.exc o (St.cg st2)) p (Rd.nil _ _ _ _) q) (by rw [show bG ⟨rev,aD,l⟩ (List.map Prod.fst ([]:List (bm × eC))) [] k=_ from Hu]) st2 fun w2 s2 b=>?_;refine(aR) (fun g11=>?_) fun g11=>?_
 ·
  have d:cE ⟨rev,aD,l⟩ [] k=true:=by simpa using g11
  refine(aY) ao b.b0<|?_;have g:=b.p1;refine(bX) R4 (nN (k:=k) g.e1 (by simp)) ?_;rintro _ w3 ⟨r,s,t,rfl,x⟩;have y:=St.lr g x;refine(bs) ?_;exact⟨r,s,t,rfl,by rw [if_pos d];exact(St.wk y.p1.drop)⟩
 have d:¬cE ⟨rev,aD,l⟩ [] k=true:=by simpa using g11
 refine(bs) ?_;exact⟨none,0,0,rfl,by rw [if_neg d];exact(St.wk b.drop)⟩
theorem CP{x:cy}{a1 a2:Option Addr}{n1 e1 n2 e2:Nat}(hi:Rd RR.aD 4 Z w a1 n1 e1 x.ab):CR prog 43 #[.agg (x.row a1 n1 e1 a2 n2 e2).toArray,k.val] w (.string (bw x.ab k).value):=by
 refine enter func43 rfl ntmps43 rfl<|?_;have aO:=St.s0 w;refine(dq) aO fun b2 w1 g h st1=>?_;refine(dq) st1 fun b3 w2 i j st2=>?_;refine(aY) aL st2.b1<|(aY) ao st2.b0<|(bX) R6 (ma (k:=k) (hi.ext (St.cg st2))) ?_;rintro _ w3 ⟨y,rfl,b,_,d⟩;have e:=st2.step d;refine WP .r (PV.um (fs:=[_,_,_]) (f:=1) (off:=2) (T:=88) underlying88 rfl rfl (show ∀w,(isAgg 9).run _ w=.ok false w from isAgg9) rfl rfl)<|(bs) ?_;exact⟨by rw [← b],(St.cg e)⟩
theorem CQ(j:St w M Z w [As.map Key.val S.m ml,As.map Key.val S.q [],As.blk wb 86 (D.wc S.s rev ra rn rc),As.map Key.val D.m eK,As.gq 47 lf l]) (o:(S.FV prog aa x0).p Z w) (t:Rd RR.aD 4 Z w D.a1 D.n1 D.c1 x0.ab) (hm:aU aa x0.ab ml) (A:dy l lf eK) (C:aq aa) (E:∀k,(valOf aa x0.ab k).size≤1000) (eJ:ay k=true):Calls prog 121 #[.pointer (some ⟨wb,0,none⟩),k.val] w fun e w'=>∃b,e=.returned (.string (bO (valOf aa x0.ab) ⟨rev,x0.ab,l⟩ k))∧aU aa x0.ab b∧fW ml b∧St w M Z w' [As.map Key.val S.m b,As.map Key.val S.q [],As.blk wb 86 (D.wc S.s rev ra rn rc),As.map Key.val D.m eK,As.gq 47 lf l]:=by
 refine enter func121 rfl ntmps121 rfl<|?_;have aO:=j;have st1:=aO.fr t;have st2:=st1.fact (B:=As.fz (S.FV prog aa x0)) o (fun _ y=>y);refine(dq) st2 fun b3 w1 F G g=>?_;refine cj ?_;have H:=g.bL;refine WC.dS (m:=5) g mixed<|(il) fT St.g5<|(gI) ao St.g0<|(cP)<|?_;rintro w2 ⟨I,d⟩ _;refine WP .r (PV.look cZ fU fi (As.gm d.g6) rfl rfl)<|(aY) ao d.b0<|?_;refine WL.c1 (u:=.bool true) (cM (k:=k)) (by rw [eJ]) d fun w3 J h=>?_;refine bY ?_;refine WC.oo rfl<|nx ?_;have K:=h.bL;refine WC.dS (m:=5) h mixed<|(tr) aL St.g5<|(gI) ao St.g0<|(cP)<|?_;rintro w4 ⟨L,i⟩ _;refine(eS) (CP (x:=⟨rev,x0.ab,l⟩) (k:=k) (a2:=D.a2) (n2:=D.n2) (e2:=D.c2) (As.gr i.g2)) i fun w5 N z=>?_;refine(bs) ?_;exact⟨ml,by rw [Q5 eJ],hm,fW.refl _,z.drop.drop.drop⟩
theorem CS(x:St w M Z w [As.map Key.val S.m ml,As.map Key.val S.q [],As.blk wb 86 (D.wc S.s rev ra rn rc),As.map Key.val D.m eK,As.gq 47 lf l]) (y:(S.FV prog aa x0).p Z w) (z:Rd RR.aD 4 Z w D.a1 D.n1 D.c1 x0.ab) (hm:aU aa x0.ab ml) (K:dy l lf eK) (A:aq aa) (C:∀k,(valOf aa x0.ab k).size≤1000) (eJ:ay k=false) (h:cX k) (i:ax k=true) (hk:eG aa k):Calls prog 121 #[.pointer (some ⟨wb,0,none⟩),k.val] w fun e w'=>∃b,e=.returned (.string (bO (valOf aa x0.ab) ⟨rev,x0.ab,l⟩ k))∧aU aa x0.ab b∧fW ml b∧St w M Z w' [As.map Key.val S.m b,As.map Key.val S.q [],As.blk wb 86 (D.wc S.s rev ra rn rc),As.map Key.val D.m eK,As.gq 47 lf l]:=by
 refine enter func121 rfl ntmps121 rfl<|?_;have aO:=x;have st1:=aO.fr z;have st2:=st1.fact (B:=As.fz (S.FV prog aa x0)) y (fun _ E=>E);refine(dq) st2 fun b3 w1 L N j=>?_;refine cj ?_;have O:=j.bL;refine WC.dS (m:=5) j mixed<|(il) fT St.g5<|(gI) ao St.g0<|(cP)<|?_;rintro w2 ⟨P,d⟩ _;refine WP .r (PV.look cZ fU fi (As.gm d.g6) rfl rfl)<|(aY) ao d.b0<|?_;refine WL.c1 (u:=.bool false) (cM (k:=k)) (by rw [eJ]) d fun w3 Q o=>?_;refine bY ?_;refine WC.eA rfl<|(aY) ao o.b0<|?_;refine WL.c1 (u:=.bool true) (fJ (k:=k) h) (by rw [(BR h).symm.trans i]) o fun w4 R F=>?_;refine bY ?_;refine WC.oo rfl<|nx ?_;refine WC.bN (m:=5) [] [] [0,1,2,3,4] [] F (ai.k4 M0 M1 M2 M3<|ai.k4 M4 M5 M6 M7<|ai.nil) mixed (by kernel_rfl) (by kernel_rfl) rfl<|?_
 iterate 3 refine DG.a ?_
 refine(oc) x7 SV.g5<|(lx) ao SV.g0<|(jv)<|?_;intro w5 T t;simp only [CM,NM,CA,NA,hI.it] at t;have g:=t.p4.p4;refine(bX) GF (KT A C hk _ _ _ _ _ g.e2 (As.gf g.g3) hm (fun _=>lH.nil _)) ?_;rintro _ w6 ⟨eO,rfl,G,H,I⟩;have J:=St.lr g I;refine nx ?_;refine WL.nil (EX.np ?_);refine(bs) ?_;exact⟨eO,by rw [MA i],G,H,J.p2.drop.p2.drop.p2.drop⟩
theorem CT(y:St w M Z w [As.map Key.val S.m ml,As.map Key.val S.q [],As.blk wb 86 (D.wc S.s rev ra rn rc),As.map Key.val D.m eK,As.gq 47 lf l]) (z:(S.FV prog aa x0).p Z w) (A:Rd RR.aD 4 Z w D.a1 D.n1 D.c1 x0.ab) (hm:aU aa x0.ab ml) (C:dy l lf eK) (G:aq aa) (H:∀k,(valOf aa x0.ab k).size≤1000) {r:Rec}(eJ:ay k=false) (h:cX k) (i:ax k=false) (b:az l k=some r) (E:r.av=rev):Calls prog 121 #[.pointer (some ⟨wb,0,none⟩),k.val] w fun e w'=>∃d,e=.returned (.string (bO (valOf aa x0.ab) ⟨rev,x0.ab,l⟩ k))∧aU aa x0.ab d∧fW ml d∧St w M Z w' [As.map Key.val S.m d,As.map Key.val S.q [],As.blk wb 86 (D.wc S.s rev ra rn rc),As.map Key.val D.m eK,As.gq 47 lf l]:=by
 refine enter func121 rfl ntmps121 rfl<|?_;have aO:=y;have st1:=aO.fr A;have st2:=st1.fact (B:=As.fz (S.FV prog aa x0)) z (fun _ F=>F);refine(dq) st2 fun b3 w1 I J j=>?_;refine cj ?_;have K:=j.bL;refine WC.dS (m:=5) j mixed<|(il) fT St.g5<|(gI) ao St.g0<|(cP)<|?_;rintro w2 ⟨L,g⟩ _;refine WP .r (PV.bG cZ fU fi (As.gm g.g6) (C.yes b) rfl rfl)<|(aY) ao g.b0<|?_;refine WL.c1 (u:=.bool false) (cM (k:=k)) (by rw [eJ]) g fun w3 N o=>?_;refine bY ?_;refine WC.eA rfl<|(aY) ao o.b0<|?_;refine WL.c1 (u:=.bool false) (fJ (k:=k) h) (by rw [(BR h).symm.trans i]) o fun w4 O t=>?_;refine bY ?_;refine WC.eA rfl<|(aR) (fun x=>?_) fun x=>?_
 ·
  exact dm x
 refine(aZ) fh (bQ.range ((As.sH t.g7).1 _ _ b).1)<|(bs) ?_;exact⟨ml,by rw [MB eJ i b E],hm,fW.refl _,t.drop.drop.drop⟩
theorem FD{L:List bm}(b:St w M Z w [As.map Key.val S.m ml,As.map Key.val S.q [],As.blk wb 86 (D.wc S.s rev ra rn rc),As.map Key.val D.m eK,As.gq 47 lf l]) (d:(S.FV prog aa x0).p Z w) (g:Rd RR.aD 4 Z w D.a1 D.n1 D.c1 x0.ab) (hm:aU aa x0.ab ml) (i:dy l lf eK) (j:aq aa) (o:∀k,(valOf aa x0.ab k).size≤1000) (hk:eG aa k) (x:fS L ⟨rev,x0.ab,l⟩ k):Calls prog 121 #[.pointer (some ⟨wb,0,none⟩),k.val] w fun e w'=>∃t,e=.returned (.string (bO (valOf aa x0.ab) ⟨rev,x0.ab,l⟩ k))∧aU aa x0.ab t∧fW ml t∧St w M Z w' [As.map Key.val S.m t,As.map Key.val S.q [],As.blk wb 86 (D.wc S.s rev ra rn rc),As.map Key.val D.m eK,As.gq 47 lf l]:=by
 cases eJ:ay k with
 | true=>exact CQ b d g hm i j o eJ
 | false=>
  cases u:ax k with
  | true=>exact CS b d g hm i j o eJ hk.cX u hk
  | false=>
   have hu:aA ⟨rev,x0.ab,l⟩ k=true:=by
    rcases x with h | ⟨_,h⟩ | h
    ·
     rw [eJ] at h;cases h
    ·
     rw [u] at h;cases h
    exact h
   obtain⟨r,y,z⟩:=aT.1 hu;exact CT b d g hm i j o eJ hk.cX u y z
set_option maxHeartbeats 400000
theorem nO{xs:List Key}(i:St w M Z w []) (hl:Rd RR.key 2 (fun x=>Z x∨x∈aI a) w a n c xs) (m:∀x∈aI a,x<w.heap.size) (o:xs.length≤1000000):Calls prog 78 #[.slice a n c] w fun e w'=>∃b d g,e=.returned (.slice b d g)∧St w M Z w' [As.os RR.key 41 2 b d g xs]:=by
 have p:St w M (fun x=>Z x∨x∈aI a) w []:=⟨i.bV,fun x q=>q.elim (i.jG x) (m x),by simp,by simp,.nil,by simp⟩;refine(jo p hl o).mono<|?_;rintro e w' ⟨b,d,g,rfl,j⟩;exact⟨b,d,g,rfl,j.unz (fun _ h=>.inl h) (Ow.z (As.gs j.g0))⟩
theorem CU{A:eC}(y:St w M Z w [As.blk wb 86 (D.wc v rev ra rn rc),As.map Key.val D.m eK,As.gq 47 lf l,As.os RR.key 41 2 ra rn rc bf,As.os RR.key 41 2 A.a A.n A.c f.reads]) (U:dy l lf eK) (V:f.reads.length≤4000) (hr:bf.length≤100000) (I:az l f.key=none) (hn4:eK.length<4000):Calls prog 120 #[.pointer (some ⟨wb,0,none⟩),.agg (bm.oe (f,A)).toArray,.string value] w fun e w'=>∃(q:RL) (a:Option Addr) (n c:Nat) (Z':Nat→Prop),e=.returned (.int .i64 0)∧bH w.heap.size Z Z'∧St w M Z' w' [As.blk wb 86 (D.wc v rev a n c),As.map Key.val D.m (cJ eK f.key (.pointer (some ⟨q.b,0,none⟩))),As.gq 47 (wB lf f.key q) (ey l (bJ ⟨rev,aD,l⟩ f.key value f.reads)),As.os RR.key 41 2 a n c (bf++[f.key]),As.os RR.key 41 2 A.a A.n A.c f.reads]:=by
 have Eo:=(As.gs y.g3).len;have W:=(As.gs y.g4).len;refine enter func120 rfl ntmps120 rfl<|?_;have aO:=y;refine(dq) aO fun b4 w1 EY Iy st1=>?_;refine cj ?_;have hN1:=st1.bL;refine WC.dS (m:=6) st1 mixed<|(il) fT St.g1<|(tr) ao St.g0<|(cP)<|?_;rintro w2 ⟨rX,st2⟩ _;refine WP .r (PV.jK cZ fU fi (As.gm st2.g2) (U.no I) rfl rfl)<|kI ?_;refine WL.cI (t:=19) rfl (fun g19=>?_) (fun g19=>?_)
 ·
  refine(aZ) fT st2.b1<|?_;refine WP .r (PV.ab2 fU (As.gm st2.g2) rfl)<|(aR) (fun J=>?_) fun J=>?_
  ·
   exact absurd J (by simp;omega)
  skip
  refine gL ?_;refine WP .r (PV.ld1 (j:=1) aN st2.b1 rfl rfl)<|cj ?_;refine WC.bN (m:=14) [] [5] [3,4,5,0,1,2,6,7,8,9,10,11,12,13] [(13,.blk 47 [.int .i64 0,.string ⟨#[]⟩,.string ⟨#[]⟩,.slice none 0 0,.int .i64 0,.int .i64 0,.int .i64 0,.bool false])] st2 (ai.k4 M0 M1 M2 M3<|ai.cons M4<|ai.cons M5<|ai.nil) mixed (by kernel_rfl) (by kernel_rfl) rfl<|(oc) dC SV.g0<|(fV) (fun w3 Ia r9 K jQ=>?_);simp only [CA,NA] at K;have d:=K;refine OX.call Ki rfl rfl ((nO d.e0 (Ow.rd (As.gs d.g5) (by omega)) (OR.lt (As.gs d.g5)) (by omega)).mono ?_);rintro _ w4 ⟨g,o,p,rfl,z⟩;have X:=St.lr d z;have Y:=St.bM z;have Tt:=d.size;have iC:=X.ba (by omega);have hZc:=(bH.refl w.heap.size Z).trans (bH.dA (F:=fun x=>x∈aI g) Y) Tt;refine⟨_,rfl,z.bV.size,_,rfl,_,_,_,iC,aw.k4<|aw.k2<|aw.cons<|aw.nil,ai.k4 M1 M2 M3 M4<|ai.cons M5<|ai.cons M6<|ai.nil,?_⟩;refine(yF) ao SV.g0<|?_
  iterate 4 refine DG.a ?_
  refine(oc) dC SV.g0<|?_;refine DG.a<|?_;refine DQ .r (fun C E G _ h yk=>PV.add rfl rfl (by show _≤(1:Int)+(A.n:Int);omega) (by show(1:Int)+(A.n:Int)≤_;omega))<|DQ .r (fun C E G _ h yk=>PV.bz (us:=[.int .i64 f.key.kind,.string f.key.text,.string value,.slice g o p,.int .i64 rev,.int .i64 rev,.int .i64 (1+(A.n:Int)),.bool false]) MP rfl rfl rfl)<|?_;refine DG.side (s:=.blk 47 [.int .i64 0,.string ⟨#[]⟩,.string ⟨#[]⟩,.slice none 0 0,.int .i64 0,.int .i64 0,.int .i64 0,.bool false]) rfl rfl rfl rfl rfl rfl (fun C E G qW h=>OX.alloc nF rfl fun b wy i hb=>⟨i.ext.size,_,rfl,⟨b,rfl⟩,h.de i hb⟩)<|?_;rintro _ ⟨H,rfl⟩;refine(jv) ?_;intro w5 vM L;simp only [CM,NM,CA,NA,hI.it] at L;refine(cF) fI L fun w6 jO jZ iH=>?_;refine WL.nil (EX.np ?_);have N:=iH.rp (B:=As.blk H 47 ((bJ ⟨rev,aD,l⟩ f.key value f.reads).row g o p)) (by rw [JP I];simp only [Rec.row,W]);refine ed ?_;refine WL.cI (t:=47) rfl (fun O=>?_) (fun O=>?_)
  ·
   exact dm O
  refine kI ?_;refine WC.eA rfl<|bY ?_;have Pr:=N.bL;refine WC.dS (m:=6) N mixed<|(il) fT St.g3<|(tr) ao St.g2<|(cP)<|?_;rintro w7 ⟨l8,P⟩ _;refine WL.go rfl (OX.put cZ fU (As.gm P.g4) rfl rfl rfl fun w8 zB vx=>?_);have dh:=P.p4.jS zB vx;refine bY ?_;refine WC.bN (m:=9) [] [8] [1,2,3,4,5,6,7,8,0] [(7,.sl 41 1 f.key.cells)] dh (ai.k4 M0 M1 M2 M3<|ai.cons M4<|ai.cons M5<|ai.cons M7<|ai.nil) mixed (by kernel_rfl) (by kernel_rfl) rfl<|?_
  iterate 3 refine DG.a ?_
  refine(oc) dC SV.g4<|(yF) ao SV.g3<|?_;refine DG.side (s:=.sl 41 1 f.key.cells) rfl rfl rfl rfl rfl rfl (fun C E G qW h=>OX.aP (us:=f.key.cells) dz rfl rfl rfl rfl fun b wy i hb=>⟨i.ext.size,_,rfl,⟨b,rfl⟩,h.de i hb⟩)<|?_;rintro _ ⟨b73,rfl⟩;refine(fV) (fun w9 R8x Ts u CN=>?_);simp only [CA,NA] at u;refine OX.jR l5 rfl rfl rfl (As.gs u.g6) (SR.dd (A:=fun _=>True) (x:=f.key) (show bQ _ b73 _ _ from u.ok _ (.tail _ (.tail _ (.tail _ (.tail _ (.tail _ (.tail _ (.tail _ (.tail _ (CN _ (.head _))))))))))) trivial rfl (by simp [Key.cells,Value.oneCell']) rfl) (by omega) (by omega) (Nat.zero_le _) fun a74 af0 iN Tu Q Tv af1=>?_;have di:=u.p6.eV Q Tu Tv;refine⟨Q.size,_,rfl,_,_,_,di,aw.k4<|aw.k4<|aw.nil,ai.k4 M1 M2 M3 M4<|ai.cons M5<|ai.cons M6<|ai.cons M7<|ai.nil,?_⟩;refine(jv) ?_;intro iV HZ R;simp only [CM,NM,CA,NA,hI.it] at R;refine bK ?_;refine WL.s1 R.p6 fun k9 _ eb=>?_;refine WL.nil (EX.np ?_);refine ed ?_;have T:=eb.p7.p5;have eu:=St.yX (q:=⟨H,g,o,p⟩) (r:=(bJ ⟨rev,aD,l⟩ f.key value f.reads)) (l':=ey l (bJ ⟨rev,aD,l⟩ f.key value f.reads)) T (As.gr T.g6) V (cT l (bJ ⟨rev,aD,l⟩ f.key value f.reads));refine(bs) ?_;exact⟨⟨H,g,o,p⟩,_,_,_,_,rfl,hZc,eu.p2.drop.p4.drop.p4.drop.p3.p2⟩
 exact dm g19
theorem CV{A:eC}(G:St w M Z w [As.blk wb 86 (D.wc v rev ra rn rc),As.map Key.val D.m eK,As.gq 47 lf l,As.os RR.key 41 2 ra rn rc bf,As.os RR.key 41 2 A.a A.n A.c f.reads]) (Y:dy l lf eK) (h4:f.reads.length≤4000) (hr:bf.length≤100000) {r:Rec}(y:az l f.key=some r):Calls prog 120 #[.pointer (some ⟨wb,0,none⟩),.agg (bm.oe (f,A)).toArray,.string value] w fun e w'=>∃(q:RL) (a:Option Addr) (n c:Nat) (Z':Nat→Prop),e=.returned (.int .i64 0)∧bH w.heap.size Z Z'∧St w M Z' w' [As.blk wb 86 (D.wc v rev a n c),As.map Key.val D.m (cJ eK f.key (.pointer (some ⟨q.b,0,none⟩))),As.gq 47 (wB lf f.key q) (ey l (bJ ⟨rev,aD,l⟩ f.key value f.reads)),As.os RR.key 41 2 a n c (bf++[f.key]),As.os RR.key 41 2 A.a A.n A.c f.reads]:=by
 have Eo:=(As.gs G.g3).len;have hAn:=(As.gs G.g4).len;refine enter func120 rfl ntmps120 rfl<|?_;have aO:=G;refine(dq) aO fun b4 w1 EY Iy st1=>?_;refine cj ?_;have hN1:=st1.bL;refine WC.dS (m:=6) st1 mixed<|(il) fT St.g1<|(tr) ao St.g0<|(cP)<|?_;rintro w2 ⟨rX,st2⟩ _;refine WP .r (PV.bG cZ fU fi (As.gm st2.g2) (Y.yes y) rfl rfl)<|kI ?_;refine WL.cI (t:=19) rfl (fun g19=>?_) (fun g19=>?_)
 ·
  exact dm g19
 refine kI ?_;refine WC.eA rfl<|gL ?_;refine WP .r (PV.ld1 (j:=1) aN st2.b1 rfl rfl)<|cj ?_;refine WC.bN (m:=14) [] [5] [3,4,5,0,1,2,6,7,8,9,10,11,12,13] [(13,.blk 47 [.int .i64 0,.string ⟨#[]⟩,.string ⟨#[]⟩,.slice none 0 0,.int .i64 0,.int .i64 0,.int .i64 0,.bool false])] st2 (ai.k4 M0 M1 M2 M3<|ai.cons M4<|ai.cons M5<|ai.nil) mixed (by kernel_rfl) (by kernel_rfl) rfl<|(oc) dC SV.g0<|(fV) (fun w3 Ia r9 P jQ=>?_);simp only [CA,NA] at P;have g:=P;refine OX.call Ki rfl rfl ((nO g.e0 (Ow.rd (As.gs g.g5) (by omega)) (OR.lt (As.gs g.g5)) (by omega)).mono ?_);rintro _ w4 ⟨d,h,i,rfl,H⟩;have iY:=St.lr g H;have Yr:=St.bM H;have Tt:=g.size;have iC:=iY.ba (by omega);have hZc:=(bH.refl w.heap.size Z).trans (bH.dA (F:=fun x=>x∈aI d) Yr) Tt;refine⟨_,rfl,H.bV.size,_,rfl,_,_,_,iC,aw.k4<|aw.k2<|aw.cons<|aw.nil,ai.k4 M1 M2 M3 M4<|ai.cons M5<|ai.cons M6<|ai.nil,?_⟩;refine(yF) ao SV.g0<|?_
 iterate 4 refine DG.a ?_
 refine(oc) dC SV.g0<|?_;refine DG.a<|?_;refine DQ .r (fun I J K _ o yk=>PV.add rfl rfl (by show _≤(1:Int)+(A.n:Int);omega) (by show(1:Int)+(A.n:Int)≤_;omega))<|DQ .r (fun I J K _ o yk=>PV.bz (us:=[.int .i64 f.key.kind,.string f.key.text,.string value,.slice d h i,.int .i64 rev,.int .i64 rev,.int .i64 (1+(A.n:Int)),.bool false]) MP rfl rfl rfl)<|?_;refine DG.side (s:=.blk 47 [.int .i64 0,.string ⟨#[]⟩,.string ⟨#[]⟩,.slice none 0 0,.int .i64 0,.int .i64 0,.int .i64 0,.bool false]) rfl rfl rfl rfl rfl rfl (fun I J K qW o=>OX.alloc nF rfl fun b wy p hb=>⟨p.ext.size,_,rfl,⟨b,rfl⟩,o.de p hb⟩)<|?_;rintro _ ⟨u,rfl⟩;refine(jv) ?_;intro w5 vM Q;simp only [CM,NM,CA,NA,hI.it] at Q;refine(cF) fI Q fun w6 jO jZ L=>?_;refine WL.nil (EX.np ?_);refine bY ?_;refine WC.dU (t:=54) (v:=.bool (decide (r.value=value))) L ?_<|?_
 ·
  refine cj ?_;refine WL.cI (t:=47) rfl (fun N=>?_) (fun N=>?_)
  ·
   refine(aZ) fh (bQ.range ((As.sH L.g5).1 _ _ y).1)<|?_;exact(cw) (tG N) (L)
  exact dm N
 intro w7 iE;refine nx ?_;have z:=iE;refine WC.jw (σ:=Int) [_] (fun ch=>[(0,.pointer (some ⟨wb,0,none⟩)),(4,.pointer (some ⟨b4,0,none⟩)),(9,.pointer (some ⟨u,0,none⟩))]) (fun ch=>[As.blk u 47 [.int .i64 f.key.kind,.string f.key.text,.string value,.slice d h i,.int .i64 ch,.int .i64 rev,.int .i64 (1+(A.n:Int)),.bool false]]) (fun ch=>(ch=if r.value=value then r.changed else rev)∧True) z ?_ ?_
 ·
  refine(aR) (fun O=>?_) fun O=>?_
  ·
   refine(aZ) aN (bQ.range ((As.sH z.g5).1 _ _ y).1)<|nx ?_;refine WL.s1 z fun w8 _ C=>?_;refine nx ?_;exact mK (r.changed) ⟨C,⟨by rw [if_pos (by simpa using O)],trivial⟩⟩
  refine nx ?_;exact mK (rev) ⟨z,⟨by rw [if_neg (by simpa using O)],trivial⟩⟩
 rintro ch w8 C ⟨R,_⟩;simp only [CA,NA] at C R ⊢;refine bK ?_;have T:=C.rp (B:=As.blk u 47 ((bJ ⟨rev,aD,l⟩ f.key value f.reads).row d h i)) (by rw [JQ y,R];simp only [Rec.row,hAn]);have Pr:=T.bL;refine WC.dS (m:=6) T mixed<|(il) fT St.g3<|(tr) ao St.g2<|(cP)<|?_;rintro w9 ⟨l8,U⟩ _;refine WL.go rfl (OX.put cZ fU (As.gm U.g4) rfl rfl rfl fun iN zB vx=>?_);have da:=U.p4.jS zB vx;refine bY ?_;refine WC.bN (m:=9) [] [8] [1,2,3,4,5,6,7,8,0] [(7,.sl 41 1 f.key.cells)] da (ai.k4 M0 M1 M2 M3<|ai.cons M4<|ai.cons M5<|ai.cons M7<|ai.nil) mixed (by kernel_rfl) (by kernel_rfl) rfl<|?_
 iterate 3 refine DG.a ?_
 refine(oc) dC SV.g4<|(yF) ao SV.g3<|?_;refine DG.side (s:=.sl 41 1 f.key.cells) rfl rfl rfl rfl rfl rfl (fun I J K qW o=>OX.aP (us:=f.key.cells) dz rfl rfl rfl rfl fun b wy p hb=>⟨p.ext.size,_,rfl,⟨b,rfl⟩,o.de p hb⟩)<|?_;rintro _ ⟨b73,rfl⟩;refine(fV) (fun iV R8x Ts E CN=>?_);simp only [CA,NA] at E;refine OX.jR l5 rfl rfl rfl (As.gs E.g6) (SR.dd (A:=fun _=>True) (x:=f.key) (show bQ _ b73 _ _ from E.ok _ (.tail _ (.tail _ (.tail _ (.tail _ (.tail _ (.tail _ (.tail _ (.tail _ (CN _ (.head _))))))))))) trivial rfl (by simp [Key.cells,Value.oneCell']) rfl) (by omega) (by omega) (Nat.zero_le _) fun a74 af0 k9 Tu V Tv af1=>?_;have fX:=E.p6.eV V Tu Tv;refine⟨V.size,_,rfl,_,_,_,fX,aw.k4<|aw.k4<|aw.nil,ai.k4 M1 M2 M3 M4<|ai.cons M5<|ai.cons M6<|ai.cons M7<|ai.nil,?_⟩;refine(jv) ?_;intro mM HZ W;simp only [CM,NM,CA,NA,hI.it] at W;refine bK ?_;refine WL.s1 W.p6 fun pH _ dZ=>?_;refine WL.nil (EX.np ?_);refine ed ?_;have X:=dZ.p7.p5;have dF:=St.yX (q:=⟨u,d,h,i⟩) (r:=(bJ ⟨rev,aD,l⟩ f.key value f.reads)) (l':=ey l (bJ ⟨rev,aD,l⟩ f.key value f.reads)) X (As.gr X.g6) h4 (cT l (bJ ⟨rev,aD,l⟩ f.key value f.reads));refine(bs) ?_;exact⟨⟨u,d,h,i⟩,_,_,_,_,rfl,hZc,dF.p2.drop.p4.drop.p4.drop.p3.p2⟩
set_option maxHeartbeats 400000
theorem CW{L:List (bm × eC)}{A:eC}(u:St w M Z w [As.map Key.val S.m ml,As.map Key.val S.q [],As.blk wb 86 (D.wc S.s rev ra rn rc),As.map Key.val D.m eK,As.gq 47 lf l,As.os RR.ig 126 6 al nl el (L++[(f,A)])]) (I:(S.FV prog aa x0).p Z w) (J:Rd RR.aD 4 Z w D.a1 D.n1 D.c1 x0.ab) (hm:aU aa x0.ab ml) (y:dy l lf eK) (V:aq aa) (W:∀k,(valOf aa x0.ab k).size≤1000) (X:KR aa l) (Y:L.length≤1000) (z:f.running=false) (g:az l f.key=none):Calls prog 73 #[.pointer (some ⟨wb,0,none⟩),.slice al nl el,.func (.func 34) #[] #[]] w fun e w'=>∃(l':List Rec) (L':List (bm × eC)) (d:Bool) (C:Int) (a:Option Addr) (n c:Nat) (j:List (Key × Value)),e=.returned (.tuple #[.slice a n c,.bool d,.int .i64 C])∧FT aa (valOf aa x0.ab) ⟨rev,x0.ab,l⟩ L f A ⟨rev,x0.ab,l'⟩ L' [] C∧dy l' lf eK∧aU aa x0.ab j∧fW ml j∧St w M Z w' [As.map Key.val S.m j,As.map Key.val S.q [],As.blk wb 86 (D.wc S.s rev ra rn rc),As.map Key.val D.m eK,As.gq 47 lf l',As.os RR.ig 126 6 a n c L']:=by
 have K:=(As.gs u.g5).len;rw [List.length_append,List.length_singleton] at K
 have Y4:((L++[(f,A)]).map Prod.fst)=L.map Prod.fst++[f]:=by simp
 refine enter func73 rfl ntmps73 rfl<|?_;have aO:=u;have st1:=aO.fr J;have st2:=st1.fact (B:=As.fz (S.FV prog aa x0)) I (fun _ N=>N);refine gL ?_;obtain⟨gH,b⟩:=Ow.addr (As.gs st2.g7) (bF L (f,A));refine cj ?_;refine WP .r ((PV.sub rfl rfl (by omega) (by omega)).cast (v':=.int .i64 (L.length:Int)) (congrArg (Value.int .i64) (by omega)))<|WP .r (PV.dI mE (i:=L.length) b rfl rfl (by omega))<|cj ?_;have UH:=st2.bL;refine WC.dS (m:=8) st2 mixed<|(il) fT St.g4<|bY ?_;refine DP .r (fun _ O=>PV.wa ao (Ow.jD (As.gs O.2.g7) (by rw [List.length_append,List.length_singleton];omega) b (bF L (f,A))) rfl rfl)<|(cP)<|?_;rintro w1 ⟨oj,o⟩ _;refine WP .r (PV.jK cZ fU fi (As.gm o.g5) (y.no g) rfl rfl)<|fO ?_;have Dz:=o.bL;refine WC.dS (m:=12) o mixed<|bY ?_;refine DW.cI (t:=35) rfl (fun E=>?_) (fun E=>?_)
 ·
  exact dm E
 ·
  refine(cP) ?_;rintro w2 ⟨px,F⟩ _;refine db ?_;refine WC.eA rfl<|db ?_;refine WL.cI (t:=55) rfl (fun G=>?_) (fun G=>?_)
  ·
   refine gL ?_;refine WC.oo rfl<|fO ?_;refine WL.go rfl (OX.AE (f:=2) OU (As.gs F.g7) b (by omega) rfl rfl rfl ((({f with running:=true}:bm),A):bm × eC) (fun r h=>by rw [RR.a8 h];rfl) fun w3 P Q=>?_);have H:=F.p7.eV P Q (fun x h=>.inl h);refine bK ?_;refine WL.go rfl (OX.AE (f:=3) GB (As.gs H.g0) b (by omega) rfl rfl rfl ((({f with running:=true,at_:=0}:bm),A):bm × eC) (fun r h=>by rw [RR.a8 h];rfl) fun w4 R T=>?_);have U:=H.eV R T (fun x h=>.inl h);refine aX ?_;refine nx ?_;refine EX.ew rfl (RS.tmp rfl<|RS.tmp rfl<|RS.tmp rfl<|RS.nil) rfl<|?_;exact⟨l,L++[(({f with running:=true,at_:=0}:bm),A)],true,0,_,_,_,ml,rfl,FT.same (FS.start z (by unfold aA;simp only [g];rfl) (.inl g)) (fun e=>by have:=congrArg bm.running e;rw [z] at this;cases this) rfl rfl,y,hm,fW.refl _,U.p1.drop.p1.drop.p5.p5.p5.p5.p5⟩
  exact dm G
 -- k7 eR C32 C52
theorem CX{L:List (bm × eC)}{A:eC}(u:St w M Z w [As.map Key.val S.m ml,As.map Key.val S.q [],As.blk wb 86 (D.wc S.s rev ra rn rc),As.map Key.val D.m eK,As.gq 47 lf l,As.os RR.ig 126 6 al nl el (L++[(f,A)])]) (G:(S.FV prog aa x0).p Z w) (H:Rd RR.aD 4 Z w D.a1 D.n1 D.c1 x0.ab) (hm:aU aa x0.ab ml) (x:dy l lf eK) (P:aq aa) (Q:∀k,(valOf aa x0.ab k).size≤1000) (R:KR aa l) (T:L.length≤1000) {r:Rec}(I:f.running=false) (g:az l f.key=some r) (y:r.av=rev):Calls prog 73 #[.pointer (some ⟨wb,0,none⟩),.slice al nl el,.func (.func 34) #[] #[]] w fun e w'=>∃(l':List Rec) (L':List (bm × eC)) (d:Bool) (z:Int) (a:Option Addr) (n c:Nat) (h:List (Key × Value)),e=.returned (.tuple #[.slice a n c,.bool d,.int .i64 z])∧FT aa (valOf aa x0.ab) ⟨rev,x0.ab,l⟩ L f A ⟨rev,x0.ab,l'⟩ L' [] z∧dy l' lf eK∧aU aa x0.ab h∧fW ml h∧St w M Z w' [As.map Key.val S.m h,As.map Key.val S.q [],As.blk wb 86 (D.wc S.s rev ra rn rc),As.map Key.val D.m eK,As.gq 47 lf l',As.os RR.ig 126 6 a n c L']:=by
 have J:=(As.gs u.g5).len;rw [List.length_append,List.length_singleton] at J
 have U:((L++[(f,A)]).map Prod.fst)=L.map Prod.fst++[f]:=by simp
 refine enter func73 rfl ntmps73 rfl<|?_;have aO:=u;have st1:=aO.fr H;have st2:=st1.fact (B:=As.fz (S.FV prog aa x0)) G (fun _ K=>K);refine gL ?_;obtain⟨V,C⟩:=Ow.addr (As.gs st2.g7) (bF L (f,A));refine cj ?_;refine WP .r ((PV.sub rfl rfl (by omega) (by omega)).cast (v':=.int .i64 (L.length:Int)) (congrArg (Value.int .i64) (by omega)))<|WP .r (PV.dI mE (i:=L.length) C rfl rfl (by omega))<|cj ?_;have W:=st2.bL;refine WC.dS (m:=8) st2 mixed<|(il) fT St.g4<|bY ?_;refine DP .r (fun _ b=>PV.wa ao (Ow.jD (As.gs b.2.g7) (by rw [List.length_append,List.length_singleton];omega) C (bF L (f,A))) rfl rfl)<|(cP)<|?_;rintro w1 ⟨X,o⟩ _;refine WP .r (PV.bG cZ fU fi (As.gm o.g5) (x.yes g) rfl rfl)<|fO ?_;have Y:=o.bL;refine WC.dS (m:=12) o mixed<|bY ?_;refine DW.cI (t:=35) rfl (fun E=>?_) (fun E=>?_)
 ·
  refine bY ?_;refine DP .r (fun _ b=>V1 aN (bQ.range ((As.sH b.2.g6).1 _ _ g).1) .r)<|cj ?_;refine DP .r (fun _ b=>PV.ld1 (j:=1) aN (bQ.range (As.gb b.2.g4)) rfl rfl)<|(cP)<|?_;rintro w2 ⟨px,F⟩ _;refine WP .r ((PV.ID rfl rfl).cast (v':=.bool true) (congrArg Value.bool (decide_eq_true y)))<|cj ?_;refine WC.oo rfl<|db ?_;refine WP .r ((PV.sub rfl rfl (by omega) (by omega)).cast (v':=.int .i64 (L.length:Int)) (congrArg (Value.int .i64) (by omega)))<|WP .r (PV.mS mE (i:=L.length) (Ow.rd (As.gs F.g7) (by rw [List.length_append,List.length_singleton];omega)) rfl rfl (by omega))<|gL ?_;have N:=F.p7;have O:=St.Q4 N;refine EX.ew rfl (RS.tmp rfl<|RS.tmp rfl<|RS.tmp rfl<|RS.nil) rfl<|?_;exact⟨l,L,true,0,_,_,_,ml,rfl,FT.pop (FS.up I (aT.2 ⟨r,g,y⟩)),x,hm,fW.refl _,O.p1.drop.p1.drop.p5.p5.p5.p5.p5⟩
 ·
  exact dm E
 -- k7 eR C32
theorem CY{L:List (bm × eC)}{A:eC}(C:St w M Z w [As.map Key.val S.m ml,As.map Key.val S.q [],As.blk wb 86 (D.wc S.s rev ra rn rc),As.map Key.val D.m eK,As.gq 47 lf l,As.os RR.ig 126 6 al nl el (L++[(f,A)])]) (O:(S.FV prog aa x0).p Z w) (P:Rd RR.aD 4 Z w D.a1 D.n1 D.c1 x0.ab) (hm:aU aa x0.ab ml) (E:dy l lf eK) (hR:aq aa) (hS:∀k,(valOf aa x0.ab k).size≤1000) (Ky:KR aa l) (hL6:L.length≤1000) {r:Rec}(F:f.running=false) (b:az l f.key=some r) (G:¬r.av=rev) (Q:r.bu=true):Calls prog 73 #[.pointer (some ⟨wb,0,none⟩),.slice al nl el,.func (.func 34) #[] #[]] w fun e w'=>∃(l':List Rec) (L':List (bm × eC)) (d:Bool) (H:Int) (a:Option Addr) (n c:Nat) (u:List (Key × Value)),e=.returned (.tuple #[.slice a n c,.bool d,.int .i64 H])∧FT aa (valOf aa x0.ab) ⟨rev,x0.ab,l⟩ L f A ⟨rev,x0.ab,l'⟩ L' [] H∧dy l' lf eK∧aU aa x0.ab u∧fW ml u∧St w M Z w' [As.map Key.val S.m u,As.map Key.val S.q [],As.blk wb 86 (D.wc S.s rev ra rn rc),As.map Key.val D.m eK,As.gq 47 lf l',As.os RR.ig 126 6 a n c L']:=by
 have R:=(As.gs C.g5).len;rw [List.length_append,List.length_singleton] at R
 have Y4:((L++[(f,A)]).map Prod.fst)=L.map Prod.fst++[f]:=by simp
 refine enter func73 rfl ntmps73 rfl<|?_;have aO:=C;have st1:=aO.fr P;have st2:=st1.fact (B:=As.fz (S.FV prog aa x0)) O (fun _ T=>T);refine gL ?_;obtain⟨gH,o⟩:=Ow.addr (As.gs st2.g7) (bF L (f,A));refine cj ?_;refine WP .r ((PV.sub rfl rfl (by omega) (by omega)).cast (v':=.int .i64 (L.length:Int)) (congrArg (Value.int .i64) (by omega)))<|WP .r (PV.dI mE (i:=L.length) o rfl rfl (by omega))<|cj ?_;have UH:=st2.bL;refine WC.dS (m:=8) st2 mixed<|(il) fT St.g4<|bY ?_;refine DP .r (fun _ g=>PV.wa ao (Ow.jD (As.gs g.2.g7) (by rw [List.length_append,List.length_singleton];omega) o (bF L (f,A))) rfl rfl)<|(cP)<|?_;rintro w1 ⟨oj,y⟩ _;refine WP .r (PV.bG cZ fU fi (As.gm y.g5) (E.yes b) rfl rfl)<|fO ?_;have Dz:=y.bL;refine WC.dS (m:=12) y mixed<|bY ?_;refine DW.cI (t:=35) rfl (fun I=>?_) (fun I=>?_)
 ·
  refine bY ?_;refine DP .r (fun _ g=>V1 aN (bQ.range ((As.sH g.2.g6).1 _ _ b).1) .r)<|cj ?_;refine DP .r (fun _ g=>PV.ld1 (j:=1) aN (bQ.range (As.gb g.2.g4)) rfl rfl)<|(cP)<|?_;rintro w2 ⟨px,z⟩ _;refine WP .r ((PV.ID rfl rfl).cast (v':=.bool false) (congrArg Value.bool (decide_eq_false G)))<|cj ?_;refine WC.eA rfl<|db ?_;refine WL.cI (t:=55) rfl (fun J=>?_) (fun J=>?_)
  ·
   exact dm J
  refine(aZ) dG (bQ.range ((As.sH z.g6).1 _ _ b).1)<|(aR) (fun K=>?_) fun K=>?_
  ·
   refine fO ?_;refine WL.go rfl (OX.AE (f:=2) OU (As.gs z.g7) o (by omega) rfl rfl rfl ((({f with running:=true}:bm),A):bm × eC) (fun r h=>by rw [RR.a8 h];rfl) fun w3 U V=>?_);have N:=z.p7.eV U V (fun x h=>.inl h);refine bK ?_;refine WL.go rfl (OX.AE (f:=3) GB (As.gs N.g0) o (by omega) rfl rfl rfl ((({f with running:=true,at_:=0}:bm),A):bm × eC) (fun r h=>by rw [RR.a8 h];rfl) fun w4 W X=>?_);have Y:=N.eV W X (fun x h=>.inl h);refine aX ?_;refine nx ?_;refine EX.ew rfl (RS.tmp rfl<|RS.tmp rfl<|RS.tmp rfl<|RS.nil) rfl<|?_;exact⟨l,L++[(({f with running:=true,at_:=0}:bm),A)],true,0,_,_,_,ml,rfl,FT.same (FS.start F (by rw [Bool.eq_false_iff];intro h;obtain⟨q,h1,h2⟩:=aT.1 h;have h1:az l f.key=some q:=h1;rw [b] at h1;cases h1;exact G h2) (.inr (by rw [show cy.ah ⟨rev,x0.ab,l⟩=l from rfl,aQ b];exact Q))) (fun e=>by have:=congrArg bm.running e;rw [F] at this;cases this) rfl rfl,E,hm,fW.refl _,Y.p1.drop.p1.drop.p5.p5.p5.p5.p5⟩
  exact dm K
 ·
  exact dm I
 -- k7 eR C32
set_option maxHeartbeats 4000000 in
theorem CZ{L:List (bm × eC)}{A:eC}(gk:St w M Z w [As.map Key.val S.m ml,As.map Key.val S.q [],As.blk wb 86 (D.wc S.s rev ra rn rc),As.map Key.val D.m eK,As.gq 47 lf l,As.os RR.ig 126 6 al nl el (L++[(f,A)])]) (hf:(S.FV prog aa x0).p Z w) (Ob:Rd RR.aD 4 Z w D.a1 D.n1 D.c1 x0.ab) (hm:aU aa x0.ab ml) (b:dy l lf eK) (hR:aq aa) (hS:∀k,(valOf aa x0.ab k).size≤1000) (X:KR aa l) (hL6:L.length≤1000) {r:Rec}(U:f.running=false) (V:az l f.key=some r) (hv:r.av<rev) (hd:r.bu=false) (h6:l.length≤4000) (UK:∀r∈l,r.reads.length≤4000) (Lt:0≤f.at_):Calls prog 73 #[.pointer (some ⟨wb,0,none⟩),.slice al nl el,.func (.func 34) #[] #[]] w fun e w'=>∃(l':List Rec) (L':List (bm × eC)) (d:Bool) (er:Int) (a:Option Addr) (n c:Nat) (mL:List (Key × Value)),e=.returned (.tuple #[.slice a n c,.bool d,.int .i64 er])∧FT aa (valOf aa x0.ab) ⟨rev,x0.ab,l⟩ L f A ⟨rev,x0.ab,l'⟩ L' [] er∧dy l' lf eK∧aU aa x0.ab mL∧fW ml mL∧St w M Z w' [As.map Key.val S.m mL,As.map Key.val S.q [],As.blk wb 86 (D.wc S.s rev ra rn rc),As.map Key.val D.m eK,As.gq 47 lf l',As.os RR.ig 126 6 a n c L']:=by
 have Il:=(As.gs gk.g5).len;rw [List.length_append,List.length_singleton] at Il
 have Y4:((L++[(f,A)]).map Prod.fst)=L.map Prod.fst++[f]:=by simp
 have hY:=Gq (rev:=rev) V
 have Lo:(aB l rev f.key).length≤4001:=by have:=kh l rev f.key;omega
 have hcb:=Hp UK Lo
 have GW:(bT l (aB l rev f.key)).length≤100000000:=by have:=hcb (aB l rev f.key).length;rw [List.take_of_length_le (Nat.le_refl _)] at this;exact this
 have Y:Live l rev f.key:=⟨r,V,hd,hv⟩
 have qU:cX f.key:=by have h1:=aK V;rw [← h1.2];exact(X r h1.1).1.cX
 refine enter func73 rfl ntmps73 rfl<|?_;have aO:=gk;have st1:=aO.fr Ob;have st2:=st1.fact (B:=As.fz (S.FV prog aa x0)) hf (fun _ hx=>hx);refine gL ?_;obtain⟨gH,E⟩:=Ow.addr (As.gs st2.g7) (bF L (f,A));refine cj ?_;refine WP .r ((PV.sub rfl rfl (by omega) (by omega)).cast (v':=.int .i64 (L.length:Int)) (congrArg (Value.int .i64) (by omega)))<|WP .r (PV.dI mE (i:=L.length) E rfl rfl (by omega))<|cj ?_;have UH:=st2.bL;refine WC.dS (m:=8) st2 mixed<|(il) fT St.g4<|bY ?_;refine DP .r (fun _ hC=>PV.wa ao (Ow.jD (As.gs hC.2.g7) (by rw [List.length_append,List.length_singleton];omega) E (bF L (f,A))) rfl rfl)<|(cP)<|?_;rintro w1 ⟨oj,iT⟩ _;refine WP .r (PV.bG cZ fU fi (As.gm iT.g5) (b.yes V) rfl rfl)<|fO ?_;have Dz:=iT.bL;refine WC.dS (m:=12) iT mixed<|bY ?_;refine DW.cI (t:=35) rfl (fun g35=>?_) (fun g35=>?_)
 ·
  refine bY ?_;refine DP .r (fun _ hC=>V1 aN (bQ.range ((As.sH hC.2.g6).1 _ _ V).1) .r)<|cj ?_;refine DP .r (fun _ hC=>PV.ld1 (j:=1) aN (bQ.range (As.gb hC.2.g4)) rfl rfl)<|(cP)<|?_;rintro w2 ⟨px,ik⟩ _;refine WP .r ((PV.ID rfl rfl).cast (v':=.bool false) (congrArg Value.bool (decide_eq_false (show ¬r.av=rev by omega))))<|cj ?_;refine WC.eA rfl<|db ?_;refine WL.cI (t:=55) rfl (fun PN=>?_) (fun PN=>?_)
  ·
   exact dm PN
  refine(aZ) dG (bQ.range ((As.sH ik.g6).1 _ _ V).1)<|(aR) (fun g52=>?_) fun g52=>?_
  ·
   exact dm g52
  refine(gX) ao (Ow.jD (As.gs ik.g7) (by rw [List.length_append,List.length_singleton];omega) E (bF L (f,A)))<|?_;have iY:=ik;refine(bX) W5 (wU (k:=f.key) iY.e0 (As.gb iY.g4) (As.gm iY.g5) b (As.sH iY.g6) X.acA h6 UK) ?_;rintro _ w3 ⟨u1,O,u3,rfl,kq⟩;have iC:=St.lr iY kq;have N9:=((As.gs iC.g0)).len;refine ed ?_;have W:=iC;refine(bX) W6 (vO W.e0 (As.gb W.g5) (As.gm W.g6) b (As.sH W.g7) (Ow.rd (As.gs W.g0) (by omega)) hY hcb) ?_;rintro _ w4 ⟨o1,o2,o3,rfl,oi⟩;have R:=St.lr W oi;have hcn:=((As.gs R.g0)).len;refine(aZ) aN (Ow.jD (As.gs R.g9) (by rw [List.length_append,List.length_singleton];omega) E (bF L (f,A)))<|(aR) (fun UL=>?_) fun UL=>?_
  ·
   simp at UL
   have KU:(bT l (aB l rev f.key)).length≤f.at_.toNat:=by omega
   refine kI ?_;have iE:=R.p8.rp (B:=As.gq 47 lf (l.map (a7 rev ((aB l rev f.key).take 0) false))) (by rw [uW]);refine WC.bd (σ:=Nat) (dj:=fun i=>[(0,.pointer (some ⟨wb,0,none⟩)),(1,.slice al nl el),(84,.slice u1 O u3),(85,.int .i64 (O:Int)),(86,.int .i64 (i:Int))]) (F:=fun i=>[As.gq 47 lf (l.map (a7 rev ((aB l rev f.key).take i) false))]) (I:=fun i=>(i≤O)∧True) (μ:=fun i=>O - i) (0) (iE) Sub.t (⟨Nat.zero_le _,trivial⟩)<|?_;rintro i w5 z ⟨hi,_⟩;simp only [CA,NA] at z hi ⊢;refine(aR) (fun Fw=>?_) fun Fw=>?_
   ·
    simp at Fw
    have J:i<(aB l rev f.key).length:=by omega
    refine db ?_;obtain⟨ajU,KW⟩:=Ow.addr (As.gs z.g2) (ak J);refine nx ?_;refine WP .r (PV.dI ek KW rfl rfl (by omega))<|(aY) ao (Ow.jD (As.gs z.g2) (by omega) KW (ak J))<|(eN) z fun b14 w6 Yj Oc G=>?_;refine(cF) gQ G fun w7 jO jZ o=>?_;refine bK ?_;obtain⟨r1,OE⟩:=hY _ (List.getElem_mem J);obtain⟨r2,K,Gn⟩:=uX (rev:=rev) (g:=(aB l rev f.key).take i) (d:=false) ⟨r1,OE⟩;have It:=(((As.sH o.g1)).1 _ _ K).2.2;have C:=o.fact (As.L0 (((((As.sH o.g1)).1 _ _ K).2.1))) (fun _ hx=>hx);have da:=C.p2;have eb:=St.JJ da K;refine WC.bN (m:=11) [] [] [0,1,2,3,4,5,6,7,8,9,10] [] eb (ai.k4 M0 M1 M2 M3<|ai.k4 M4 M5 M6 M7<|ai.k4 M8 M9 hU iP<|ai.cons kC<|ai.nil) mixed (by kernel_rfl) (by kernel_rfl) rfl<|?_
    iterate 3 refine DG.a ?_
    refine(oc) fT SV.g10<|(lx) ao SV.g3<|?_;refine DQ .r (fun wx Zx Rx _ pB yk=>PV.bG cZ fU fi (As.gm (pB.sv yk).g11) (b.yes OE) rfl rfl)<|?_
    iterate 4 refine DG.a ?_
    refine DQ .r (fun wx Zx Rx _ pB yk=>PV.ld1 (j:=1) aN (bQ.range (As.gb (pB.sv yk).g10)) rfl rfl)<|(jv)<|?_;intro w8 PO P;simp only [CM,NM,CA,NA,hI.it] at P;refine bK ?_;refine WL.s1 P fun w9 _ H=>?_;refine WL.nil (EX.np ?_);have Q:=H.p1.p1;have dE:=St.Gs (r':={r2 with av:=rev}) (l':=l.map (a7 rev ((aB l rev f.key).take (i+1)) false)) Q Gn (As.gr Q.g2) It (fun y=>by simpa using sJ J false K y);have dF:=dE.p1.drop;refine fO ?_;refine ef (i+1) ⟨dF.p1.drop,⟨by omega,trivial⟩⟩
   simp at Fw
   have Io:(aB l rev f.key).take i=(aB l rev f.key):=List.take_of_length_le (by omega);have G:=z.rp (B:=As.gq 47 lf (l.map (a7 rev (aB l rev f.key) false))) (by rw [Io]);refine ju ?_;refine WP .r ((PV.sub rfl rfl (by omega) (by omega)).cast (v':=.int .i64 (L.length:Int)) (congrArg (Value.int .i64) (by omega)))<|WP .r (PV.mS mE (i:=L.length) (Ow.rd (As.gs G.g9) (by rw [List.length_append,List.length_singleton];omega)) rfl rfl (by omega))<|ed ?_;have o:=G.p9;have C:=St.Q4 o;refine EX.ew rfl (RS.tmp rfl<|RS.tmp rfl<|RS.tmp rfl<|RS.nil) rfl<|?_;exact⟨l.map (a7 rev (aB l rev f.key) false),L,true,0,_,_,_,ml,rfl,FT.pop (FS.mark U Y KU),b.mark _ _ _,hm,fW.refl _,C.p2.drop.p2.drop.p2.drop.p2.drop.p1.p5.p5.p5.p5⟩
  simp at UL
  obtain⟨ch,T⟩:∃ch,(bT l (aB l rev f.key))[f.at_.toNat]?=some ch:=⟨_,ak (by omega)⟩;obtain⟨HR,Y5,_⟩:=dH.1 (List.mem_of_getElem? T);obtain⟨rm,UM⟩:=hY _ HR;rw [aQ UM] at Y5;have hkc:=(X rm (aK UM).1).2.2 _ Y5;have zC:0≤(f,A).fst.at_∧(f,A).fst.at_≤100000000:=⟨Lt,by show f.at_≤_;omega⟩;refine bY ?_;obtain⟨Y6,vP⟩:=Ow.addr (As.gs R.g0) T;refine(aZ) aN (Ow.jD (As.gs R.g9) (by rw [List.length_append,List.length_singleton];omega) E (bF L (f,A)))<|?_;refine WP .r (PV.DJ GA (f.at_.toNat) vP rfl rfl (by show f.at_=_;omega) (by omega))<|(aY) zk (Ow.jD (As.gs R.g0) (by omega) vP T)<|(eN) R fun b15 w5 aeB aeC iE=>?_;refine(cF) Ka iE fun w6 qV mi z=>?_;refine(gX) ao z.b0<|nx ?_;refine WL.c1 (u:=.int .i64 (bG ⟨rev,x0.ab,l⟩ (L.map Prod.fst++[f]) [] ch.read)) (nM (aD:=x0.ab) (As.gb z.g7) (As.gm z.g8) b (As.sH z.g9) X (Ow.rd (As.gs z.g10) (by rw [List.length_append,List.length_singleton];omega)) hkc.cX) (by rw [Y4]) z fun w7 s7 G=>?_;refine(aR) (fun Tw=>?_) fun Tw=>?_
  ·
   have uR:bG ⟨rev,x0.ab,l⟩ (L.map Prod.fst++[f]) [] ch.read=3:=by simpa using Tw
   refine jT ?_;refine EX.ew rfl (RS.tmp rfl<|RS.tmp rfl<|RS.tmp rfl<|RS.nil) rfl<|?_;exact⟨l,(L++[(f,A)]),false,43,_,_,_,ml,rfl,FT.err (FS.Mq ch U Y T uR) (by decide),b,hm,fW.refl _,G.drop.drop.drop.drop.drop⟩
  have uR:bG ⟨rev,x0.ab,l⟩ (L.map Prod.fst++[f]) [] ch.read≠3:=by simpa using Tw
  refine(aR) (fun Y7=>?_) fun Y7=>?_
  ·
   exact absurd (by simpa using Y7) (xX (x:=⟨rev,x0.ab,l⟩) (l:=(L.map Prod.fst++[f])) (k:=ch.read))
  skip
  refine(aR) (fun Ib=>?_) fun Ib=>?_
  ·
   have Dv:bG ⟨rev,x0.ab,l⟩ (L.map Prod.fst++[f]) [] ch.read=1:=by simpa using Ib
   refine(gX) ao G.b0<|?_;have o:=G.kx;refine(bX) R4 (nN (k:=ch.read) o.e1 (by rw [List.length_append,List.length_singleton];omega)) ?_;rintro _ w8 ⟨p1,p2,p3,rfl,kA⟩;have C:=St.lr o kA;refine gL ?_;refine EX.ew rfl (RS.tmp rfl<|RS.tmp rfl<|RS.tmp rfl<|RS.nil) rfl<|?_;exact⟨l,_,true,0,_,_,_,ml,rfl,FT.push (FS.uQ ch U Y T Dv),b,hm,fW.refl _,C.p1.drop.p1.drop.p1.drop.p1.drop.p1.drop.p5.p5.p5.p5.p5⟩
  have Dv:bG ⟨rev,x0.ab,l⟩ (L.map Prod.fst++[f]) [] ch.read≠1:=by simpa using Ib
  refine(aY) zk G.b0<|?_;have o:=G.p9.p9.p9.p9.p9;refine(bX) W7 (zZ (c:=ch) o.e5 (As.gf o.g8) (As.gr o.g9) hm b hR hS hkc X UM) ?_;rintro _ w8 ⟨iR,rfl,HV,tB,kA⟩;have C:=St.lr o kA;refine(aR) (fun Tx=>?_) fun Tx=>?_
  ·
   have hdf:JD (valOf aa x0.ab) ⟨rev,x0.ab,l⟩ ch=false:=by simpa using Tx
   refine(aZ) aN (Ow.jD (As.gs C.g10) (by rw [List.length_append,List.length_singleton];omega) E (bF L (f,A)))<|bY ?_;refine WL.go rfl (OX.AE (f:=3) GB (As.gs C.g10) E (by omega) rfl rfl rfl ((({f with at_:=f.at_+1}:bm),A):bm × eC) (fun r h=>by rw [RR.a8 h];rfl) fun w9 s40 Ty=>?_);have da:=C.kx.eV s40 Ty (fun x h=>.inl h);refine aX ?_;refine EX.ew rfl (RS.tmp rfl<|RS.tmp rfl<|RS.tmp rfl<|RS.nil) rfl<|?_;exact⟨l,L++[(({f with at_:=f.at_+1}:bm),A)],true,0,_,_,_,iR,rfl,FT.same (FS.pass ch U Y T Dv uR (Hv hdf)) (fun e=>by have:=congrArg bm.at_ e;simp at this;omega) rfl rfl,b,HV,tB,da.p6.drop.p6.drop.p6.drop.p6.drop.p6.drop.p5.p5.p5.p5.p5⟩
  have hdf:JD (valOf aa x0.ab) ⟨rev,x0.ab,l⟩ ch=true:=by simpa using Tx
  refine(gX) ao (Ow.jD (As.gs C.g10) (by rw [List.length_append,List.length_singleton];omega) E (bF L (f,A)))<|?_;refine WL.c1 (u:=.bool (ax f.key)) (fJ (k:=f.key) qU) (by rw [BR qU]) C fun w9 s9 da=>?_;refine bK ?_;have eb:=da.p4;refine WC.jw (σ:=(List Rec)) [_] (fun N=>[(1,.slice al nl el),(9,.pointer (some ⟨gH,0+L.length*6,none⟩))]) (fun N=>[As.gq 47 lf N]) (fun N=>(N=if ax f.key=true then l.map (a7 rev (aB l rev f.key) true) else l)∧True) eb ?_ ?_
  ·
   refine(aR) (fun Tz=>?_) fun Tz=>?_
   ·
    refine gL ?_;have P:=eb.rp (B:=As.gq 47 lf (l.map (a7 rev ((aB l rev f.key).take 0) true))) (by rw [uW]);refine WC.bd (σ:=Nat) (dj:=fun i=>[(0,.pointer (some ⟨wb,0,none⟩)),(1,.slice al nl el),(9,.pointer (some ⟨gH,0+L.length*6,none⟩)),(151,.slice u1 O u3),(152,.int .i64 (O:Int)),(153,.int .i64 (i:Int))]) (F:=fun i=>[As.gq 47 lf (l.map (a7 rev ((aB l rev f.key).take i) true))]) (I:=fun i=>(i≤O)∧True) (μ:=fun i=>O - i) (0) (P) Sub.t (⟨Nat.zero_le _,trivial⟩)<|?_;rintro i iN H ⟨hi,_⟩;simp only [CA,NA] at H hi ⊢;refine(aR) (fun TA=>?_) fun TA=>?_
    ·
     simp at TA
     have J:i<(aB l rev f.key).length:=by omega
     refine db ?_;obtain⟨af5,GO⟩:=Ow.addr (As.gs H.g7) (ak J);refine nx ?_;refine WP .r (PV.dI ek GO rfl rfl (by omega))<|(aY) ao (Ow.jD (As.gs H.g7) (by omega) GO (ak J))<|(eN) H fun UE iV N1 KC Q=>?_;refine(cF) gQ Q fun k9 zy tK dE=>?_;refine bK ?_;obtain⟨r1,OE⟩:=hY _ (List.getElem_mem J);obtain⟨r2,K,Gn⟩:=uX (rev:=rev) (g:=(aB l rev f.key).take i) (d:=true) ⟨r1,OE⟩;have It:=(((As.sH dE.g1)).1 _ _ K).2.2;have dF:=dE.fact (As.L0 (((((As.sH dE.g1)).1 _ _ K).2.1))) (fun _ hx=>hx);have e7:=dF.p2;have dL:=St.JJ e7 K;refine WC.bN (m:=5) [] [] [0,1,2,3,4] [] dL (ai.k4 M0 M1 M2 M3<|ai.k4 M4 M5 M6 M7<|ai.k4 M8 M9 hU iP<|ai.cons kC<|ai.cons oa<|ai.nil) mixed (by kernel_rfl) (by kernel_rfl) rfl<|?_
     iterate 3 refine DG.a ?_
     refine(oc) fT SV.g6<|(lx) ao SV.g3<|(jv)<|?_;intro mM ajW fb;simp only [CM,NM,CA,NA,hI.it] at fb;refine WP .r (PV.bG cZ fU fi (As.gm fb.g7) (b.yes OE) rfl rfl)<|bK ?_;refine WL.s1 fb fun pH _ fc=>?_;refine WL.nil (EX.np ?_);have ez:=fc.p1.p1;have fj:=St.Gs (r':={r2 with bu:=true}) (l':=l.map (a7 rev ((aB l rev f.key).take (i+1)) true)) ez Gn (As.gr ez.g2) It (fun y=>by simpa using sJ J true K y);have dM:=fj.p1.drop;refine fO ?_;refine ef (i+1) ⟨dM.p1.drop,⟨by omega,trivial⟩⟩
    simp at TA
    have Io:(aB l rev f.key).take i=(aB l rev f.key):=List.take_of_length_le (by omega);have Q:=H.rp (B:=As.gq 47 lf (l.map (a7 rev (aB l rev f.key) true))) (by rw [Io]);refine cj ?_;exact mK (l.map (a7 rev (aB l rev f.key) true)) ⟨Q,⟨by rw [if_pos (by simpa using Tz)],trivial⟩⟩
   refine nx ?_;exact mK (l) ⟨eb,⟨by rw [if_neg (by simpa using Tz)],trivial⟩⟩
  rintro N iN P ⟨UN,_⟩;simp only [CA,NA] at P UN ⊢;refine ed ?_;refine WL.go rfl (OX.AE (f:=2) OU (As.gs P.g10) E (by omega) rfl rfl rfl ((({f with running:=true}:bm),A):bm × eC) (fun r h=>by rw [RR.a8 h];rfl) fun iV TB FE=>?_);have H:=P.kx.eV TB FE (fun x h=>.inl h);refine bK ?_;refine WL.go rfl (OX.AE (f:=3) GB (As.gs H.g0) E (by omega) rfl rfl rfl ((({f with running:=true,at_:=0}:bm),A):bm × eC) (fun r h=>by rw [RR.a8 h];rfl) fun k9 H7 FH=>?_);have Q:=H.eV H7 FH (fun x h=>.inl h);refine jT ?_
  have wD:(if ax f.key=true then cH ⟨rev,x0.ab,l⟩ (aB l rev f.key) true else ⟨rev,x0.ab,l⟩)=⟨rev,x0.ab,N⟩:=by rw [UN];split <;> rfl
  have py:dy N lf eK:=by rw [UN];split;exact b.mark _ _ _;exact b
  have Qq:=FS.fail (aa:=aa) (p:=L.map Prod.fst) ch U Y T Dv uR (JR hdf);rw [show(if ax f.key=true then cH ⟨rev,x0.ab,l⟩ (aB (cy.ah ⟨rev,x0.ab,l⟩) (cy.ad ⟨rev,x0.ab,l⟩) f.key) true else ⟨rev,x0.ab,l⟩)=⟨rev,x0.ab,N⟩ from wD] at Qq;refine EX.ew rfl (RS.tmp rfl<|RS.tmp rfl<|RS.tmp rfl<|RS.nil) rfl<|?_;exact⟨N,L++[(({f with running:=true,at_:=0}:bm),A)],true,0,_,_,_,iR,rfl,FT.same Qq (fun e=>by have:=congrArg bm.running e;rw [U] at this;cases this) rfl rfl,py,HV,tB,Q.p6.drop.p6.drop.p6.drop.p6.drop.p6.drop.p1.p5.p5.p5.p5⟩
 ·
  exact dm g35
 -- k7 eR C32
theorem Aa{L:List (bm × eC)}{A:eC}(g:St w M Z w [As.map Key.val S.m ml,As.map Key.val S.q [],As.blk wb 86 (D.wc S.s rev ra rn rc),As.map Key.val D.m eK,As.gq 47 lf l,As.os RR.ig 126 6 al nl el (L++[(f,A)])]) (h:(S.FV prog aa x0).p Z w) (i:Rd RR.aD 4 Z w D.a1 D.n1 D.c1 x0.ab) (hm:aU aa x0.ab ml) (j:dy l lf eK) (o:aq aa) (t:∀k,(valOf aa x0.ab k).size≤1000) (u:KR aa l) (x:L.length≤1000) (y:f.running=false) (F:l.length≤4000) (G:∀r∈l,r.reads.length≤4000) (H:∀r∈l,r.av≤rev) (I:0≤f.at_):Calls prog 73 #[.pointer (some ⟨wb,0,none⟩),.slice al nl el,.func (.func 34) #[] #[]] w fun e w'=>∃(l':List Rec) (L':List (bm × eC)) (d:Bool) (B:Int) (a:Option Addr) (n c:Nat) (z:List (Key × Value)),e=.returned (.tuple #[.slice a n c,.bool d,.int .i64 B])∧FT aa (valOf aa x0.ab) ⟨rev,x0.ab,l⟩ L f A ⟨rev,x0.ab,l'⟩ L' [] B∧dy l' lf eK∧aU aa x0.ab z∧fW ml z∧St w M Z w' [As.map Key.val S.m z,As.map Key.val S.q [],As.blk wb 86 (D.wc S.s rev ra rn rc),As.map Key.val D.m eK,As.gq 47 lf l',As.os RR.ig 126 6 a n c L']:=by
 cases b:az l f.key with
 | none=>exact CW g h i hm j o t u x y b
 | some r=>
  by_cases C:r.av=rev
  ·
   exact CX g h i hm j o t u x y b C
  cases E:r.bu with
  | true=>exact CY g h i hm j o t u x y b C E
  | false=>
   have:=H r (aK b).1
   exact CZ g h i hm j o t u x y b (by omega) E F G I
end Go.Rc

