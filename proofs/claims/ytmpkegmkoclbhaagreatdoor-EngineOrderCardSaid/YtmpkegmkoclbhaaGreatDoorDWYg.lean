/- Walks over the program, part WYg. Conditions: as each theorem says. -/
import Derived.Test.YtmpkegmkoclbhaaGreatDoorDFacts
import Derived.Test.YtmpkegmkoclbhaaGreatDoorDWZr
import Derived.Test.YtmpkegmkoclbhaaGreatDoorDWO
import Derived.Test.YtmpkegmkoclbhaaGreatDoorDBh
set_option linter.all false
namespace Go.Rc
open Go Go.Proofs Go.Proofs.Tryz
variable {f:bp}{cap:Value}{a ra al:Option Addr}{n c v rn rc wb nl el:Nat}{w:World}{Z M:Nat→Prop}{k:Key}{D:WD}{rev:Int}{aD:List ct}{aa:List aH}{ml eI:List (Key × Value)}{l:List Rec}{lf:Key→RL}{x0:bZ}{S:SD}{a8:List Key}{value:ByteArray}
set_option maxHeartbeats 400000
theorem wZ{l:List (bp × eD)}{p:bp × eD→Bool}{f:FuncId}(m:CF prog f) (hl:Rd RR.im 6 Z w a n c l) (o:∀w1,aT [] w w1→∀x∈l,Calls prog f #[.agg (bp.ot x).toArray,cap] w1 fun e w'=>e=.returned (.bool (p x))∧aT [] w1 w'):Calls prog 143 #[.slice a n c,.func (.func f) #[] #[cap]] w fun e w'=>∃j:Int,e=.returned (.int .i64 j)∧uA l p j∧aT [] w w':=by
 have hlen:=hl.len;have hle:=hl.le;refine enter func143 rfl ntmps143 rfl<|?_;have aQ:=St.s0 w;refine aY ?_;refine bO ?_;refine WC.br (σ:=Nat) (dn:=fun i=>[(0,.slice a n c),(1,.func (.func f) #[] #[cap]),(7,.int .i64 (n:Int)),(8,.int .i64 (i:Int))]) (F:=fun i=>[]) (I:=fun i=>(i≤n)∧(∀j x,j<i→l[j]?=some x→p x=false)∧True) (μ:=fun i=>n - i) (0) (aQ) Sub.t (⟨by omega,fun j x h=>by omega,trivial⟩)<|?_;rintro i w1 st1 ⟨hi,b,_⟩;simp only [CA,NA] at st1 hi b ⊢;refine(aS) (fun g9=>?_) fun g9=>?_
 ·
  simp at g9
  have d:i<l.length:=by omega
  refine kg ?_;obtain⟨A,B,C,q,E,g,s,G⟩:=Rd.at hl d;have g:=RR.bd g;subst g;refine cy ?_;refine WP .r (PV.dU mN q rfl rfl (by omega))<|(aZ) nH (aW s (St.cg st1) (by simp))<|?_;refine WL.go rfl (OX.na m rfl rfl rfl ((Calls.cap (o _ (St.cg st1) l[i] (List.getElem_mem d))).mono ?_));rintro _ w2 ⟨rfl,s2⟩;refine⟨_,rfl,?_⟩;have st2:=st1.step s2;refine(aS) (fun g16=>?_) fun g16=>?_
  ·
   refine(bz) ?_;exact⟨_,rfl,.inl ⟨i,_,ak d,g16,b,rfl⟩,(St.cg st2)⟩
  have g16:p l[i]=false:=by simpa using g16
  refine ez ?_;refine eB (i+1) ⟨st2,⟨by omega,cG d b (by simpa using g16),trivial⟩⟩
 simp at g9
 have u:∀x∈l,p x=false:=fun x y=>by obtain⟨j,z,rfl⟩:=List.getElem_of_mem y;exact b j _ (by omega) (ak z)
 refine(bz) ?_;exact⟨_,rfl,.inr ⟨u,rfl⟩,(St.cg st1)⟩
theorem r9{l:List (bp × eD)}{p:bp × eD→Bool}{f:FuncId}(b:CF prog f) (hl:Rd RR.im 6 Z w a n c l) (d:∀w1,aT [] w w1→∀x∈l,Calls prog f #[.agg (bp.ot x).toArray,cap] w1 fun e w'=>e=.returned (.bool (p x))∧aT [] w1 w'):CR prog 103 #[.slice a n c,.func (.func f) #[] #[cap]] w (.bool (l.any p)):=by
 refine enter func103 rfl ntmps103 rfl<|?_;have aQ:=St.s0 w;refine(bY) Xw (wZ (w:=w) b (hl.ext (St.cg aQ)) (fun w1 h1=>d w1 (aT.trans (St.cg aQ) h1))) ?_;rintro _ w1 ⟨j,rfl,g,s1⟩;have st1:=aQ.step s1;have h:=g.any;refine(bz) ?_;exact⟨by rw [h],(St.cg st1)⟩
theorem zY{x:bp × eD}{pb:Nat}(b:bU w pb 40 k.cells):CR prog 104 #[.agg (bp.ot x).toArray,.pointer (some ⟨pb,0,none⟩)] w (.bool (decide (x.1.key=k))):=by
 refine enter func104 rfl ntmps104 rfl<|?_;have aQ:=St.s0 w;refine(dy) aQ fun b2 w1 d e st1=>?_;refine(hW) ao st1.b0<|(aZ) ao (bU.range (b.ext (St.cg st1)))<|(bz) ?_;exact⟨rfl,(St.cg st1)⟩
theorem zZ :CR prog 28 #[k.val] w (.bool false):=by
 refine enter func28 rfl ntmps28 rfl<|?_;have aQ:=St.s0 w;refine(dy) aQ fun b1 w1 b d st1=>?_;refine(bz) ?_;exact⟨rfl,(St.cg st1)⟩
theorem nS{L:List (bp × eD)}{A:Nat→Prop}(g:bU w wb 74 (D.wc v rev ra rn rc)) (hm:KM Key.val w D.m ml) (h:dw l lf ml) (i:(As.gA 88 lf l).ok Z w) (j:KR aa l) (hl:Rd RR.im 6 A w al nl el L) (e:cY k):CR prog 59 #[.pointer (some ⟨wb,0,none⟩),.slice al nl el,k.val,.func (.func 28) #[] #[]] w (.int .i64 (bJ ⟨rev,aD,l⟩ (L.map Prod.fst) [] k)):=by
 refine enter func59 rfl ntmps59 rfl<|?_;have aQ:=St.s0 w;refine(dy) aQ fun o w1 y z st1=>?_;refine fL ?_;refine WP .r (PV.func (us:=[]) (vs:=[.pointer (some ⟨o,0,none⟩)]) rfl rfl)<|?_;refine WL.c1 (u:=.bool (gj (L.map Prod.fst) k)) (r9 (p:=fun x=>decide (x.1.key=k)) W4 (hl.ext (St.cg st1)) (fun w1 h1 x B=>zY (bU.ext (As.gb st1.g0) h1))) (by rw [MO]) st1 fun w2 s2 st2=>?_;refine fL ?_;refine WC.dZ (t:=13) (v:=.bool (gj (L.map Prod.fst) k && !az k)) st2 ?_<|?_
 ·
  refine(db) (fun g15=>?_) (fun g15=>?_)
  ·
   refine(aZ) ao st2.b0<|?_;refine WL.c1 (u:=.bool (az k)) (fJ (k:=k) e) (by rw [B3 e]) st2 fun w3 C b=>?_;exact(cA) (tG g15) (b)
  exact(cA) (tG g15) (st2)
 intro w3 b;refine(aS) (fun g13=>?_) fun g13=>?_
 ·
  refine(bz) ?_;exact⟨by rw [J1 g13],(St.cg b)⟩
 ·
  have g13:(gj (L.map Prod.fst) k && !az k)=false:=by simpa using g13
  refine nx ?_;refine WC.dZ (t:=20) (v:=.bool (gj (L.map Prod.fst) k || (aw k || ay ⟨rev,aD,l⟩ k))) b ?_<|?_
  ·
   refine(db) (fun g22=>?_) (fun g22=>?_)
   ·
    exact(cA) (tG g22) (b)
   refine(aZ) ao b.b0<|(eP) (FW (aD:=aD) (g.ext (St.cg b)) (hm.ext (St.cg b)) h (As.exc i (St.cg b)) j) b fun w4 E d=>?_;exact(cA) (tG g22) (d)
  intro w4 d;refine(aS) (fun g20=>?_) fun g20=>?_
  ·
   refine(bz) ?_;exact⟨by rw [J2 g13 g20],(St.cg d)⟩
  have g20:(gj (L.map Prod.fst) k || (aw k || ay ⟨rev,aD,l⟩ k))=false:=by simpa using g20
  refine(aZ) ao d.b0<|?_;refine WL.go rfl (OX.na adn rfl rfl rfl ((Calls.VN (zZ (k:=k))).mono ?_));rintro _ w5 ⟨rfl,q⟩;refine⟨_,rfl,?_⟩;have s:=d.step q;refine cy ?_;refine WC.oz rfl<|(bz) ?_;exact⟨by rw [J3 g13 g20],(St.cg s)⟩
 -- F G H
theorem nT{L:List (bp × eD)}(b:St w M Z w [As.os RR.im 115 6 al nl el L]) (i:L.length≤100000):Calls prog 60 #[.slice al nl el,k.val] w fun e w'=>∃(a:Option Addr) (n c:Nat),e=.returned (.slice a n c)∧St w M Z w' [As.os RR.im 115 6 a n c (L++[((⟨k,false,0,[],[]⟩:bp),(⟨none,0,0,none,0,0⟩:eD))])]:=by
 have j:=(As.gs b.g0).len;refine enter func60 rfl ntmps60 rfl<|?_;have aQ:=b;refine(dy) aQ fun b3 w1 m o st1=>?_;refine(aZ) ao st1.b0<|?_;refine WP .r (PV.bB (us:=((⟨k,false,0,[],[]⟩:bp).row none 0 0 none 0 0)) GP rfl rfl rfl)<|?_;refine WL.go rfl (OX.aR (us:=(bp.ot ((⟨k,false,0,[],[]⟩:bp),(⟨none,0,0,none,0,0⟩:eD)))) rM rfl rfl rfl rfl fun p w2 d g=>?_);have st2:=st1.da d g;refine WL.ap rfl rfl st2.p2 (SR.dc (A:=fun _=>True) (x:=((⟨k,false,0,[],[]⟩:bp),(⟨none,0,0,none,0,0⟩:eD))) (As.gb st2.g0) trivial rfl (bp.one _ _ _ _ _ _ _) rfl) fun a9 q w3 s t h=>?_;refine(bz) ?_;exact⟨_,_,_,rfl,h.p1.drop.p1.drop⟩
theorem C2(h:St w M Z w []) (i:bU w wb 74 (D.wc v rev ra rn rc)) (hm:KM Key.val w D.m ml) (j:dw l lf ml) (o:(As.gA 88 lf l).ok Z w) (p:KR aa l) (q:cY k):Calls prog 27 #[.pointer (some ⟨wb,0,none⟩),k.val,.func (.func 28) #[] #[]] w fun e w'=>∃(a:Option Addr) (n c:Nat),e=.returned (.slice a n c)∧St w M Z w' [As.os RR.im 115 6 a n c (if cN ⟨rev,aD,l⟩ [] k=true then [((⟨k,false,0,[],[]⟩:bp),(⟨none,0,0,none,0,0⟩:eD))] else [])]:=by
 refine enter func27 rfl ntmps27 rfl<|?_;have aQ:=St.rb h;have st1:=aQ.dp RR.im 115 6;refine(dy) st1 fun b4 w1 z B st2=>?_;refine(aZ) ao st2.b0<|nx ?_;refine WL.c1 (u:=.int .i64 (if cN ⟨rev,aD,l⟩ [] k=true then 1 else 0)) (nS (aD:=aD) (L:=[]) (A:=fun _=>True) (i.ext (St.cg st2)) (hm.ext (St.cg st2)) j (As.exc o (St.cg st2)) p (Rd.nil _ _ _ _) q) (by rw [show bJ ⟨rev,aD,l⟩ (List.map Prod.fst ([]:List (bp × eD))) [] k=_ from HJ]) st2 fun w2 s2 b=>?_;refine(aS) (fun g11=>?_) fun g11=>?_
 ·
  have d:cN ⟨rev,aD,l⟩ [] k=true:=by simpa using g11
  refine(aZ) ao b.b0<|?_;have g:=b.p1;refine(bY) Sf (nT (k:=k) g.e1 (by simp)) ?_;rintro _ w3 ⟨r,s,t,rfl,x⟩;have y:=St.lr g x;refine(bz) ?_;exact⟨r,s,t,rfl,by rw [if_pos d];exact(St.wk y.p1.drop)⟩
 have d:¬cN ⟨rev,aD,l⟩ [] k=true:=by simpa using g11
 refine(bz) ?_;exact⟨none,0,0,rfl,by rw [if_neg d];exact(St.wk b.drop)⟩
theorem C3{x:bZ}{a1 a2:Option Addr}{n1 e1 n2 e2:Nat}(hi:Rd RR.aD 4 Z w a1 n1 e1 x.ab):CR prog 41 #[.agg (x.row a1 n1 e1 a2 n2 e2).toArray,k.val] w (.string (bA x.ab k).value):=by
 refine enter func41 rfl ntmps41 rfl<|?_;have aQ:=St.s0 w;refine(dy) aQ fun b2 w1 e g st1=>?_;refine(dy) st1 fun b3 w2 h i st2=>?_;refine(aZ) aO st2.b1<|(aZ) ao st2.b0<|(bY) Sh (mg (k:=k) (hi.ext (St.cg st2))) ?_;rintro _ w3 ⟨y,rfl,hy,_,b⟩;have d:=st2.step b;refine WP .r (PV.ui (fs:=[_,_,_]) (f:=1) (off:=2) (T:=78) underlying78 rfl rfl (show ∀w,(isAgg 9).run _ w=.ok false w from isAgg9) rfl rfl)<|(bz) ?_;exact⟨by rw [← hy],(St.cg d)⟩
theorem C4(j:St w M Z w [As.map Key.val S.m ml,As.map Key.val S.q [],As.blk wb 74 (D.wc S.s rev ra rn rc),As.map Key.val D.m eI,As.gA 88 lf l]) (o:(S.FV prog aa x0).p Z w) (t:Rd RR.aD 4 Z w D.a1 D.n1 D.c1 x0.ab) (hm:aU aa x0.ab ml) (A:dw l lf eI) (C:aq aa) (E:∀k,(valOf aa x0.ab k).size≤1000) (eK:aw k=true):Calls prog 109 #[.pointer (some ⟨wb,0,none⟩),k.val] w fun e w'=>∃b,e=.returned (.string (bS (valOf aa x0.ab) ⟨rev,x0.ab,l⟩ k))∧aU aa x0.ab b∧gi ml b∧St w M Z w' [As.map Key.val S.m b,As.map Key.val S.q [],As.blk wb 74 (D.wc S.s rev ra rn rc),As.map Key.val D.m eI,As.gA 88 lf l]:=by
 refine enter func109 rfl ntmps109 rfl<|?_;have aQ:=j;have st1:=aQ.fr t;have st2:=st1.fact (B:=As.fz (S.FV prog aa x0)) o (fun _ y=>y);refine(dy) st2 fun b3 w1 F G g=>?_;refine cy ?_;have H:=g.bN;refine WC.dS (m:=5) g mixed<|(iv) fX St.g5<|(gN) ao St.g0<|(cQ)<|?_;rintro w2 ⟨I,d⟩ _;refine WP .r (PV.look cZ fZ fh (As.gm d.g6) rfl rfl)<|(aZ) ao d.b0<|?_;refine WL.c1 (u:=.bool true) (cO (k:=k)) (by rw [eK]) d fun w3 J h=>?_;refine cq ?_;refine WC.oz rfl<|nx ?_;have K:=h.bN;refine WC.dS (m:=5) h mixed<|(tn) aO St.g5<|(gN) ao St.g0<|(cQ)<|?_;rintro w4 ⟨L,i⟩ _;refine(eP) (C3 (x:=⟨rev,x0.ab,l⟩) (k:=k) (a2:=D.a2) (n2:=D.n2) (e2:=D.c2) (As.gr i.g2)) i fun w5 N z=>?_;refine(bz) ?_;exact⟨ml,by rw [Q8 eK],hm,gi.refl _,z.drop.drop.drop⟩
theorem C5(x:St w M Z w [As.map Key.val S.m ml,As.map Key.val S.q [],As.blk wb 74 (D.wc S.s rev ra rn rc),As.map Key.val D.m eI,As.gA 88 lf l]) (y:(S.FV prog aa x0).p Z w) (z:Rd RR.aD 4 Z w D.a1 D.n1 D.c1 x0.ab) (hm:aU aa x0.ab ml) (K:dw l lf eI) (A:aq aa) (C:∀k,(valOf aa x0.ab k).size≤1000) (eK:aw k=false) (h:cY k) (i:az k=true) (hk:ep aa k):Calls prog 109 #[.pointer (some ⟨wb,0,none⟩),k.val] w fun e w'=>∃b,e=.returned (.string (bS (valOf aa x0.ab) ⟨rev,x0.ab,l⟩ k))∧aU aa x0.ab b∧gi ml b∧St w M Z w' [As.map Key.val S.m b,As.map Key.val S.q [],As.blk wb 74 (D.wc S.s rev ra rn rc),As.map Key.val D.m eI,As.gA 88 lf l]:=by
 refine enter func109 rfl ntmps109 rfl<|?_;have aQ:=x;have st1:=aQ.fr z;have st2:=st1.fact (B:=As.fz (S.FV prog aa x0)) y (fun _ E=>E);refine(dy) st2 fun b3 w1 L N j=>?_;refine cy ?_;have O:=j.bN;refine WC.dS (m:=5) j mixed<|(iv) fX St.g5<|(gN) ao St.g0<|(cQ)<|?_;rintro w2 ⟨P,d⟩ _;refine WP .r (PV.look cZ fZ fh (As.gm d.g6) rfl rfl)<|(aZ) ao d.b0<|?_;refine WL.c1 (u:=.bool false) (cO (k:=k)) (by rw [eK]) d fun w3 Q o=>?_;refine cq ?_;refine WC.fK rfl<|(aZ) ao o.b0<|?_;refine WL.c1 (u:=.bool true) (fJ (k:=k) h) (by rw [(B3 h).symm.trans i]) o fun w4 R F=>?_;refine cq ?_;refine WC.oz rfl<|nx ?_;refine WC.bL (m:=5) [] [] [0,1,2,3,4] [] F (ai.k4 M0 M1 M2 M3<|ai.k4 M4 M5 M6 M7<|ai.nil) mixed (by kernel_rfl) (by kernel_rfl) rfl<|?_
 iterate 3 refine DG.a ?_
 refine(oq) yb SV.g5<|(lq) ao SV.g0<|(jo)<|?_;intro w5 T t;simp only [CM,NM,CA,NA,hV.it] at t;have g:=t.p4.p4;refine(bY) GX (Lb A C hk _ _ _ _ _ g.e2 (As.gf g.g3) hm (fun _=>lJ.nil _)) ?_;rintro _ w6 ⟨eQ,rfl,G,H,I⟩;have J:=St.lr g I;refine nx ?_;refine WL.nil (EX.np ?_);refine(bz) ?_;exact⟨eQ,by rw [MP i],G,H,J.p2.drop.p2.drop.p2.drop⟩
theorem C6(y:St w M Z w [As.map Key.val S.m ml,As.map Key.val S.q [],As.blk wb 74 (D.wc S.s rev ra rn rc),As.map Key.val D.m eI,As.gA 88 lf l]) (z:(S.FV prog aa x0).p Z w) (A:Rd RR.aD 4 Z w D.a1 D.n1 D.c1 x0.ab) (hm:aU aa x0.ab ml) (C:dw l lf eI) (G:aq aa) (H:∀k,(valOf aa x0.ab k).size≤1000) {r:Rec}(eK:aw k=false) (h:cY k) (i:az k=false) (b:aA l k=some r) (E:r.av=rev):Calls prog 109 #[.pointer (some ⟨wb,0,none⟩),k.val] w fun e w'=>∃d,e=.returned (.string (bS (valOf aa x0.ab) ⟨rev,x0.ab,l⟩ k))∧aU aa x0.ab d∧gi ml d∧St w M Z w' [As.map Key.val S.m d,As.map Key.val S.q [],As.blk wb 74 (D.wc S.s rev ra rn rc),As.map Key.val D.m eI,As.gA 88 lf l]:=by
 refine enter func109 rfl ntmps109 rfl<|?_;have aQ:=y;have st1:=aQ.fr A;have st2:=st1.fact (B:=As.fz (S.FV prog aa x0)) z (fun _ F=>F);refine(dy) st2 fun b3 w1 I J j=>?_;refine cy ?_;have K:=j.bN;refine WC.dS (m:=5) j mixed<|(iv) fX St.g5<|(gN) ao St.g0<|(cQ)<|?_;rintro w2 ⟨L,g⟩ _;refine WP .r (PV.bJ cZ fZ fh (As.gm g.g6) (C.yes b) rfl rfl)<|(aZ) ao g.b0<|?_;refine WL.c1 (u:=.bool false) (cO (k:=k)) (by rw [eK]) g fun w3 N o=>?_;refine cq ?_;refine WC.fK rfl<|(aZ) ao o.b0<|?_;refine WL.c1 (u:=.bool false) (fJ (k:=k) h) (by rw [(B3 h).symm.trans i]) o fun w4 O t=>?_;refine cq ?_;refine WC.fK rfl<|(aS) (fun x=>?_) fun x=>?_
 ·
  exact dL x
 refine(a7) fy (bU.range ((As.sG t.g7).1 _ _ b).1)<|(bz) ?_;exact⟨ml,by rw [MQ eK i b E],hm,gi.refl _,t.drop.drop.drop⟩
theorem FX{L:List bp}(b:St w M Z w [As.map Key.val S.m ml,As.map Key.val S.q [],As.blk wb 74 (D.wc S.s rev ra rn rc),As.map Key.val D.m eI,As.gA 88 lf l]) (d:(S.FV prog aa x0).p Z w) (g:Rd RR.aD 4 Z w D.a1 D.n1 D.c1 x0.ab) (hm:aU aa x0.ab ml) (i:dw l lf eI) (j:aq aa) (o:∀k,(valOf aa x0.ab k).size≤1000) (hk:ep aa k) (x:fV L ⟨rev,x0.ab,l⟩ k):Calls prog 109 #[.pointer (some ⟨wb,0,none⟩),k.val] w fun e w'=>∃t,e=.returned (.string (bS (valOf aa x0.ab) ⟨rev,x0.ab,l⟩ k))∧aU aa x0.ab t∧gi ml t∧St w M Z w' [As.map Key.val S.m t,As.map Key.val S.q [],As.blk wb 74 (D.wc S.s rev ra rn rc),As.map Key.val D.m eI,As.gA 88 lf l]:=by
 cases eK:aw k with
 | true=>exact C4 b d g hm i j o eK
 | false=>
  cases u:az k with
  | true=>exact C5 b d g hm i j o eK hk.cY u hk
  | false=>
   have hu:ay ⟨rev,x0.ab,l⟩ k=true:=by
    rcases x with h | ⟨_,h⟩ | h
    ·
     rw [eK] at h;cases h
    ·
     rw [u] at h;cases h
    exact h
   obtain⟨r,y,z⟩:=aL.1 hu;exact C6 b d g hm i j o eK hk.cY u y z
set_option maxHeartbeats 400000
theorem nU{xs:List Key}(i:St w M Z w []) (hl:Rd RR.key 2 (fun x=>Z x∨x∈aJ a) w a n c xs) (m:∀x∈aJ a,x<w.heap.size) (o:xs.length≤1000000):Calls prog 67 #[.slice a n c] w fun e w'=>∃b d g,e=.returned (.slice b d g)∧St w M Z w' [As.os RR.key 40 2 b d g xs]:=by
 have p:St w M (fun x=>Z x∨x∈aJ a) w []:=⟨i.bX,fun x q=>q.elim (i.jL x) (m x),by simp,by simp,.nil,by simp⟩;refine(ju p hl o).mono<|?_;rintro e w' ⟨b,d,g,rfl,j⟩;exact⟨b,d,g,rfl,j.unz (fun _ h=>.inl h) (Ow.z (As.gs j.g0))⟩
theorem C7{A:eD}(y:St w M Z w [As.blk wb 74 (D.wc v rev ra rn rc),As.map Key.val D.m eI,As.gA 88 lf l,As.os RR.key 40 2 ra rn rc a8,As.os RR.key 40 2 A.a A.n A.c f.reads]) (U:dw l lf eI) (V:f.reads.length≤4000) (hr:a8.length≤100000) (I:aA l f.key=none) (hn4:eI.length<4000):Calls prog 108 #[.pointer (some ⟨wb,0,none⟩),.agg (bp.ot (f,A)).toArray,.string value] w fun e w'=>∃(q:RL) (a:Option Addr) (n c:Nat) (Z':Nat→Prop),e=.returned (.int .i64 0)∧bK w.heap.size Z Z'∧St w M Z' w' [As.blk wb 74 (D.wc v rev a n c),As.map Key.val D.m (cM eI f.key (.pointer (some ⟨q.b,0,none⟩))),As.gA 88 (wH lf f.key q) (dK l (bs ⟨rev,aD,l⟩ f.key value f.reads)),As.os RR.key 40 2 a n c (a8++[f.key]),As.os RR.key 40 2 A.a A.n A.c f.reads]:=by
 have Ez:=(As.gs y.g3).len;have W:=(As.gs y.g4).len;refine enter func108 rfl ntmps108 rfl<|?_;have aQ:=y;refine(dy) aQ fun b4 w1 Fh IV st1=>?_;refine cy ?_;have hN1:=st1.bN;refine WC.dS (m:=6) st1 mixed<|(iv) fX St.g1<|(tn) ao St.g0<|(cQ)<|?_;rintro w2 ⟨rX,st2⟩ _;refine WP .r (PV.jQ cZ fZ fh (As.gm st2.g2) (U.no I) rfl rfl)<|kS ?_;refine WL.dm (t:=19) rfl (fun g19=>?_) (fun g19=>?_)
 ·
  refine(a7) fX st2.b1<|?_;refine WP .r (PV.ab0 fZ (As.gm st2.g2) rfl)<|(aS) (fun J=>?_) fun J=>?_
  ·
   exact absurd J (by simp;omega)
  skip
  refine gV ?_;refine WP .r (PV.ld1 (j:=1) aP st2.b1 rfl rfl)<|cy ?_;refine WC.bL (m:=14) [] [5] [3,4,5,0,1,2,6,7,8,9,10,11,12,13] [(13,.blk 88 [.int .i64 0,.string ⟨#[]⟩,.string ⟨#[]⟩,.slice none 0 0,.int .i64 0,.int .i64 0,.int .i64 0,.bool false])] st2 (ai.k4 M0 M1 M2 M3<|ai.cons M4<|ai.cons M5<|ai.nil) mixed (by kernel_rfl) (by kernel_rfl) rfl<|(oq) dE SV.g0<|(gh) (fun w3 Iu r8 K jV=>?_);simp only [CA,NA] at K;have d:=K;refine OX.call Kx rfl rfl ((nU d.e0 (Ow.rd (As.gs d.g5) (by omega)) (OR.lt (As.gs d.g5)) (by omega)).mono ?_);rintro _ w4 ⟨g,o,p,rfl,z⟩;have X:=St.lr d z;have Y:=St.bP z;have TP:=d.size;have hY:=X.ba (by omega);have hZc:=(bK.refl w.heap.size Z).trans (bK.dA (F:=fun x=>x∈aJ g) Y) TP;refine⟨_,rfl,z.bX.size,_,rfl,_,_,_,hY,ax.k4<|ax.k2<|ax.cons<|ax.nil,ai.k4 M1 M2 M3 M4<|ai.cons M5<|ai.cons M6<|ai.nil,?_⟩;refine(yF) ao SV.g0<|?_
  iterate 4 refine DG.a ?_
  refine(oq) dE SV.g0<|?_;refine DG.a<|?_;refine DQ .r (fun C E G _ h vI=>PV.add rfl rfl (by show _≤(1:Int)+(A.n:Int);omega) (by show(1:Int)+(A.n:Int)≤_;omega))<|DQ .r (fun C E G _ h vI=>PV.bB (us:=[.int .i64 f.key.kind,.string f.key.text,.string value,.slice g o p,.int .i64 rev,.int .i64 rev,.int .i64 (1+(A.n:Int)),.bool false]) Nj rfl rfl rfl)<|?_;refine DG.side (s:=.blk 88 [.int .i64 0,.string ⟨#[]⟩,.string ⟨#[]⟩,.slice none 0 0,.int .i64 0,.int .i64 0,.int .i64 0,.bool false]) rfl rfl rfl rfl rfl rfl (fun C E G qI h=>OX.alloc nL rfl fun b wy i hb=>⟨i.ext.size,_,rfl,⟨b,rfl⟩,h.da i hb⟩)<|?_;rintro _ ⟨H,rfl⟩;refine(jo) ?_;intro w5 vO L;simp only [CM,NM,CA,NA,hV.it] at L;refine(cJ) fY L fun w6 jU j3 iK=>?_;refine WL.nil (EX.np ?_);have N:=iK.rj (B:=As.blk H 88 ((bs ⟨rev,aD,l⟩ f.key value f.reads).row g o p)) (by rw [J4 I];simp only [Rec.row,W]);refine ez ?_;refine WL.dm (t:=47) rfl (fun O=>?_) (fun O=>?_)
  ·
   exact dL O
  refine kS ?_;refine WC.fK rfl<|cq ?_;have PA:=N.bN;refine WC.dS (m:=6) N mixed<|(iv) fX St.g3<|(tn) ao St.g2<|(cQ)<|?_;rintro w7 ⟨mc,P⟩ _;refine WL.go rfl (OX.put cZ fZ (As.gm P.g4) rfl rfl rfl fun w8 zB vy=>?_);have dh:=P.p4.jW zB vy;refine cq ?_;refine WC.bL (m:=9) [] [8] [1,2,3,4,5,6,7,8,0] [(7,.sl 40 1 f.key.cells)] dh (ai.k4 M0 M1 M2 M3<|ai.cons M4<|ai.cons M5<|ai.cons M7<|ai.nil) mixed (by kernel_rfl) (by kernel_rfl) rfl<|?_
  iterate 3 refine DG.a ?_
  refine(oq) dE SV.g4<|(yF) ao SV.g3<|?_;refine DG.side (s:=.sl 40 1 f.key.cells) rfl rfl rfl rfl rfl rfl (fun C E G qI h=>OX.aR (us:=f.key.cells) dx rfl rfl rfl rfl fun b wy i hb=>⟨i.ext.size,_,rfl,⟨b,rfl⟩,h.da i hb⟩)<|?_;rintro _ ⟨b73,rfl⟩;refine(gh) (fun w9 R8x TN u CY=>?_);simp only [CA,NA] at u;refine OX.jJ lN rfl rfl rfl (As.gs u.g6) (SR.dc (A:=fun _=>True) (x:=f.key) (show bU _ b73 _ _ from u.ok _ (.tail _ (.tail _ (.tail _ (.tail _ (.tail _ (.tail _ (.tail _ (.tail _ (CY _ (.head _))))))))))) trivial rfl (by simp [Key.cells,Value.oneCell']) rfl) (by omega) (by omega) (Nat.zero_le _) fun a74 agd iT TQ Q TS age=>?_;have dj:=u.p6.eO Q TQ TS;refine⟨Q.size,_,rfl,_,_,_,dj,ax.k4<|ax.k4<|ax.nil,ai.k4 M1 M2 M3 M4<|ai.cons M5<|ai.cons M6<|ai.cons M7<|ai.nil,?_⟩;refine(jo) ?_;intro iY Il R;simp only [CM,NM,CA,NA,hV.it] at R;refine bO ?_;refine WL.s1 R.p6 fun lx _ dI=>?_;refine WL.nil (EX.np ?_);refine ez ?_;have T:=dI.p7.p5;have dT:=St.yX (q:=⟨H,g,o,p⟩) (r:=(bs ⟨rev,aD,l⟩ f.key value f.reads)) (l':=dK l (bs ⟨rev,aD,l⟩ f.key value f.reads)) T (As.gr T.g6) V (ck l (bs ⟨rev,aD,l⟩ f.key value f.reads));refine(bz) ?_;exact⟨⟨H,g,o,p⟩,_,_,_,_,rfl,hZc,dT.p2.drop.p4.drop.p4.drop.p3.p2⟩
 exact dL g19
theorem C8{A:eD}(G:St w M Z w [As.blk wb 74 (D.wc v rev ra rn rc),As.map Key.val D.m eI,As.gA 88 lf l,As.os RR.key 40 2 ra rn rc a8,As.os RR.key 40 2 A.a A.n A.c f.reads]) (Y:dw l lf eI) (h4:f.reads.length≤4000) (hr:a8.length≤100000) {r:Rec}(y:aA l f.key=some r):Calls prog 108 #[.pointer (some ⟨wb,0,none⟩),.agg (bp.ot (f,A)).toArray,.string value] w fun e w'=>∃(q:RL) (a:Option Addr) (n c:Nat) (Z':Nat→Prop),e=.returned (.int .i64 0)∧bK w.heap.size Z Z'∧St w M Z' w' [As.blk wb 74 (D.wc v rev a n c),As.map Key.val D.m (cM eI f.key (.pointer (some ⟨q.b,0,none⟩))),As.gA 88 (wH lf f.key q) (dK l (bs ⟨rev,aD,l⟩ f.key value f.reads)),As.os RR.key 40 2 a n c (a8++[f.key]),As.os RR.key 40 2 A.a A.n A.c f.reads]:=by
 have Ez:=(As.gs G.g3).len;have hAn:=(As.gs G.g4).len;refine enter func108 rfl ntmps108 rfl<|?_;have aQ:=G;refine(dy) aQ fun b4 w1 Fh IV st1=>?_;refine cy ?_;have hN1:=st1.bN;refine WC.dS (m:=6) st1 mixed<|(iv) fX St.g1<|(tn) ao St.g0<|(cQ)<|?_;rintro w2 ⟨rX,st2⟩ _;refine WP .r (PV.bJ cZ fZ fh (As.gm st2.g2) (Y.yes y) rfl rfl)<|kS ?_;refine WL.dm (t:=19) rfl (fun g19=>?_) (fun g19=>?_)
 ·
  exact dL g19
 refine kS ?_;refine WC.fK rfl<|gV ?_;refine WP .r (PV.ld1 (j:=1) aP st2.b1 rfl rfl)<|cy ?_;refine WC.bL (m:=14) [] [5] [3,4,5,0,1,2,6,7,8,9,10,11,12,13] [(13,.blk 88 [.int .i64 0,.string ⟨#[]⟩,.string ⟨#[]⟩,.slice none 0 0,.int .i64 0,.int .i64 0,.int .i64 0,.bool false])] st2 (ai.k4 M0 M1 M2 M3<|ai.cons M4<|ai.cons M5<|ai.nil) mixed (by kernel_rfl) (by kernel_rfl) rfl<|(oq) dE SV.g0<|(gh) (fun w3 Iu r8 P jV=>?_);simp only [CA,NA] at P;have g:=P;refine OX.call Kx rfl rfl ((nU g.e0 (Ow.rd (As.gs g.g5) (by omega)) (OR.lt (As.gs g.g5)) (by omega)).mono ?_);rintro _ w4 ⟨d,h,i,rfl,H⟩;have ja:=St.lr g H;have YB:=St.bP H;have TP:=g.size;have hY:=ja.ba (by omega);have hZc:=(bK.refl w.heap.size Z).trans (bK.dA (F:=fun x=>x∈aJ d) YB) TP;refine⟨_,rfl,H.bX.size,_,rfl,_,_,_,hY,ax.k4<|ax.k2<|ax.cons<|ax.nil,ai.k4 M1 M2 M3 M4<|ai.cons M5<|ai.cons M6<|ai.nil,?_⟩;refine(yF) ao SV.g0<|?_
 iterate 4 refine DG.a ?_
 refine(oq) dE SV.g0<|?_;refine DG.a<|?_;refine DQ .r (fun I J K _ o vI=>PV.add rfl rfl (by show _≤(1:Int)+(A.n:Int);omega) (by show(1:Int)+(A.n:Int)≤_;omega))<|DQ .r (fun I J K _ o vI=>PV.bB (us:=[.int .i64 f.key.kind,.string f.key.text,.string value,.slice d h i,.int .i64 rev,.int .i64 rev,.int .i64 (1+(A.n:Int)),.bool false]) Nj rfl rfl rfl)<|?_;refine DG.side (s:=.blk 88 [.int .i64 0,.string ⟨#[]⟩,.string ⟨#[]⟩,.slice none 0 0,.int .i64 0,.int .i64 0,.int .i64 0,.bool false]) rfl rfl rfl rfl rfl rfl (fun I J K qI o=>OX.alloc nL rfl fun b wy p hb=>⟨p.ext.size,_,rfl,⟨b,rfl⟩,o.da p hb⟩)<|?_;rintro _ ⟨u,rfl⟩;refine(jo) ?_;intro w5 vO Q;simp only [CM,NM,CA,NA,hV.it] at Q;refine(cJ) fY Q fun w6 jU j3 L=>?_;refine WL.nil (EX.np ?_);refine cq ?_;refine WC.dZ (t:=54) (v:=.bool (decide (r.value=value))) L ?_<|?_
 ·
  refine cy ?_;refine WL.dm (t:=47) rfl (fun N=>?_) (fun N=>?_)
  ·
   refine(a7) fy (bU.range ((As.sG L.g5).1 _ _ y).1)<|?_;exact(cA) (tG N) (L)
  exact dL N
 intro w7 iH;refine nx ?_;have z:=iH;refine WC.jA (σ:=Int) [_] (fun ch=>[(0,.pointer (some ⟨wb,0,none⟩)),(4,.pointer (some ⟨b4,0,none⟩)),(9,.pointer (some ⟨u,0,none⟩))]) (fun ch=>[As.blk u 88 [.int .i64 f.key.kind,.string f.key.text,.string value,.slice d h i,.int .i64 ch,.int .i64 rev,.int .i64 (1+(A.n:Int)),.bool false]]) (fun ch=>(ch=if r.value=value then r.changed else rev)∧True) z ?_ ?_
 ·
  refine(aS) (fun O=>?_) fun O=>?_
  ·
   refine(a7) aP (bU.range ((As.sG z.g5).1 _ _ y).1)<|nx ?_;refine WL.s1 z fun w8 _ C=>?_;refine nx ?_;exact mS (r.changed) ⟨C,⟨by rw [if_pos (by simpa using O)],trivial⟩⟩
  refine nx ?_;exact mS (rev) ⟨z,⟨by rw [if_neg (by simpa using O)],trivial⟩⟩
 rintro ch w8 C ⟨R,_⟩;simp only [CA,NA] at C R ⊢;refine bO ?_;have T:=C.rj (B:=As.blk u 88 ((bs ⟨rev,aD,l⟩ f.key value f.reads).row d h i)) (by rw [J5 y,R];simp only [Rec.row,hAn]);have PA:=T.bN;refine WC.dS (m:=6) T mixed<|(iv) fX St.g3<|(tn) ao St.g2<|(cQ)<|?_;rintro w9 ⟨mc,U⟩ _;refine WL.go rfl (OX.put cZ fZ (As.gm U.g4) rfl rfl rfl fun iT zB vy=>?_);have cS:=U.p4.jW zB vy;refine cq ?_;refine WC.bL (m:=9) [] [8] [1,2,3,4,5,6,7,8,0] [(7,.sl 40 1 f.key.cells)] cS (ai.k4 M0 M1 M2 M3<|ai.cons M4<|ai.cons M5<|ai.cons M7<|ai.nil) mixed (by kernel_rfl) (by kernel_rfl) rfl<|?_
 iterate 3 refine DG.a ?_
 refine(oq) dE SV.g4<|(yF) ao SV.g3<|?_;refine DG.side (s:=.sl 40 1 f.key.cells) rfl rfl rfl rfl rfl rfl (fun I J K qI o=>OX.aR (us:=f.key.cells) dx rfl rfl rfl rfl fun b wy p hb=>⟨p.ext.size,_,rfl,⟨b,rfl⟩,o.da p hb⟩)<|?_;rintro _ ⟨b73,rfl⟩;refine(gh) (fun iY R8x TN E CY=>?_);simp only [CA,NA] at E;refine OX.jJ lN rfl rfl rfl (As.gs E.g6) (SR.dc (A:=fun _=>True) (x:=f.key) (show bU _ b73 _ _ from E.ok _ (.tail _ (.tail _ (.tail _ (.tail _ (.tail _ (.tail _ (.tail _ (.tail _ (CY _ (.head _))))))))))) trivial rfl (by simp [Key.cells,Value.oneCell']) rfl) (by omega) (by omega) (Nat.zero_le _) fun a74 agd lx TQ V TS age=>?_;have gy:=E.p6.eO V TQ TS;refine⟨V.size,_,rfl,_,_,_,gy,ax.k4<|ax.k4<|ax.nil,ai.k4 M1 M2 M3 M4<|ai.cons M5<|ai.cons M6<|ai.cons M7<|ai.nil,?_⟩;refine(jo) ?_;intro nN Il W;simp only [CM,NM,CA,NA,hV.it] at W;refine bO ?_;refine WL.s1 W.p6 fun qV _ ef=>?_;refine WL.nil (EX.np ?_);refine ez ?_;have X:=ef.p7.p5;have dG:=St.yX (q:=⟨u,d,h,i⟩) (r:=(bs ⟨rev,aD,l⟩ f.key value f.reads)) (l':=dK l (bs ⟨rev,aD,l⟩ f.key value f.reads)) X (As.gr X.g6) h4 (ck l (bs ⟨rev,aD,l⟩ f.key value f.reads));refine(bz) ?_;exact⟨⟨u,d,h,i⟩,_,_,_,_,rfl,hZc,dG.p2.drop.p4.drop.p4.drop.p3.p2⟩
set_option maxHeartbeats 400000
theorem C9{L:List (bp × eD)}{A:eD}(u:St w M Z w [As.map Key.val S.m ml,As.map Key.val S.q [],As.blk wb 74 (D.wc S.s rev ra rn rc),As.map Key.val D.m eI,As.gA 88 lf l,As.os RR.im 115 6 al nl el (L++[(f,A)])]) (I:(S.FV prog aa x0).p Z w) (J:Rd RR.aD 4 Z w D.a1 D.n1 D.c1 x0.ab) (hm:aU aa x0.ab ml) (y:dw l lf eI) (V:aq aa) (W:∀k,(valOf aa x0.ab k).size≤1000) (X:KR aa l) (Y:L.length≤1000) (z:f.running=false) (g:aA l f.key=none):Calls prog 62 #[.pointer (some ⟨wb,0,none⟩),.slice al nl el,.func (.func 28) #[] #[]] w fun e w'=>∃(l':List Rec) (L':List (bp × eD)) (d:Bool) (C:Int) (a:Option Addr) (n c:Nat) (j:List (Key × Value)),e=.returned (.tuple #[.slice a n c,.bool d,.int .i64 C])∧FT aa (valOf aa x0.ab) ⟨rev,x0.ab,l⟩ L f A ⟨rev,x0.ab,l'⟩ L' [] C∧dw l' lf eI∧aU aa x0.ab j∧gi ml j∧St w M Z w' [As.map Key.val S.m j,As.map Key.val S.q [],As.blk wb 74 (D.wc S.s rev ra rn rc),As.map Key.val D.m eI,As.gA 88 lf l',As.os RR.im 115 6 a n c L']:=by
 have K:=(As.gs u.g5).len;rw [List.length_append,List.length_singleton] at K
 have Zd:((L++[(f,A)]).map Prod.fst)=L.map Prod.fst++[f]:=by simp
 refine enter func62 rfl ntmps62 rfl<|?_;have aQ:=u;have st1:=aQ.fr J;have st2:=st1.fact (B:=As.fz (S.FV prog aa x0)) I (fun _ N=>N);refine gV ?_;obtain⟨gT,b⟩:=Ow.addr (As.gs st2.g7) (bH L (f,A));refine cy ?_;refine WP .r ((PV.sub rfl rfl (by omega) (by omega)).cast (v':=.int .i64 (L.length:Int)) (congrArg (Value.int .i64) (by omega)))<|WP .r (PV.dU mN (i:=L.length) b rfl rfl (by omega))<|cy ?_;have U1:=st2.bN;refine WC.dS (m:=8) st2 mixed<|(iv) fX St.g4<|cq ?_;refine DP .r (fun _ O=>PV.wi ao (Ow.jH (As.gs O.2.g7) (by rw [List.length_append,List.length_singleton];omega) b (bH L (f,A))) rfl rfl)<|(cQ)<|?_;rintro w1 ⟨oy,o⟩ _;refine WP .r (PV.jQ cZ fZ fh (As.gm o.g5) (y.no g) rfl rfl)<|fL ?_;have DK:=o.bN;refine WC.dS (m:=12) o mixed<|cq ?_;refine DW.dm (t:=35) rfl (fun E=>?_) (fun E=>?_)
 ·
  exact dL E
 ·
  refine(cQ) ?_;rintro w2 ⟨pC,F⟩ _;refine dd ?_;refine WC.fK rfl<|dd ?_;refine WL.dm (t:=55) rfl (fun G=>?_) (fun G=>?_)
  ·
   refine gV ?_;refine WC.oz rfl<|fL ?_;refine WL.go rfl (OX.AH (f:=2) O4 (As.gs F.g7) b (by omega) rfl rfl rfl ((({f with running:=true}:bp),A):bp × eD) (fun r h=>by rw [RR.bd h];rfl) fun w3 P Q=>?_);have H:=F.p7.eO P Q (fun x h=>.inl h);refine bO ?_;refine WL.go rfl (OX.AH (f:=3) GS (As.gs H.g0) b (by omega) rfl rfl rfl ((({f with running:=true,at_:=0}:bp),A):bp × eD) (fun r h=>by rw [RR.bd h];rfl) fun w4 R T=>?_);have U:=H.eO R T (fun x h=>.inl h);refine aY ?_;refine nx ?_;refine EX.ey rfl (RS.tmp rfl<|RS.tmp rfl<|RS.tmp rfl<|RS.nil) rfl<|?_;exact⟨l,L++[(({f with running:=true,at_:=0}:bp),A)],true,0,_,_,_,ml,rfl,FT.same (FS.start z (by unfold ay;simp only [g];rfl) (.inl g)) (fun e=>by have:=congrArg bp.running e;rw [z] at this;cases this) rfl rfl,y,hm,gi.refl _,U.p1.drop.p1.drop.p5.p5.p5.p5.p5⟩
  exact dL G
 -- k9 eN C32 C52
theorem Da{L:List (bp × eD)}{A:eD}(u:St w M Z w [As.map Key.val S.m ml,As.map Key.val S.q [],As.blk wb 74 (D.wc S.s rev ra rn rc),As.map Key.val D.m eI,As.gA 88 lf l,As.os RR.im 115 6 al nl el (L++[(f,A)])]) (G:(S.FV prog aa x0).p Z w) (H:Rd RR.aD 4 Z w D.a1 D.n1 D.c1 x0.ab) (hm:aU aa x0.ab ml) (x:dw l lf eI) (P:aq aa) (Q:∀k,(valOf aa x0.ab k).size≤1000) (R:KR aa l) (T:L.length≤1000) {r:Rec}(I:f.running=false) (g:aA l f.key=some r) (y:r.av=rev):Calls prog 62 #[.pointer (some ⟨wb,0,none⟩),.slice al nl el,.func (.func 28) #[] #[]] w fun e w'=>∃(l':List Rec) (L':List (bp × eD)) (d:Bool) (z:Int) (a:Option Addr) (n c:Nat) (h:List (Key × Value)),e=.returned (.tuple #[.slice a n c,.bool d,.int .i64 z])∧FT aa (valOf aa x0.ab) ⟨rev,x0.ab,l⟩ L f A ⟨rev,x0.ab,l'⟩ L' [] z∧dw l' lf eI∧aU aa x0.ab h∧gi ml h∧St w M Z w' [As.map Key.val S.m h,As.map Key.val S.q [],As.blk wb 74 (D.wc S.s rev ra rn rc),As.map Key.val D.m eI,As.gA 88 lf l',As.os RR.im 115 6 a n c L']:=by
 have J:=(As.gs u.g5).len;rw [List.length_append,List.length_singleton] at J
 have U:((L++[(f,A)]).map Prod.fst)=L.map Prod.fst++[f]:=by simp
 refine enter func62 rfl ntmps62 rfl<|?_;have aQ:=u;have st1:=aQ.fr H;have st2:=st1.fact (B:=As.fz (S.FV prog aa x0)) G (fun _ K=>K);refine gV ?_;obtain⟨V,C⟩:=Ow.addr (As.gs st2.g7) (bH L (f,A));refine cy ?_;refine WP .r ((PV.sub rfl rfl (by omega) (by omega)).cast (v':=.int .i64 (L.length:Int)) (congrArg (Value.int .i64) (by omega)))<|WP .r (PV.dU mN (i:=L.length) C rfl rfl (by omega))<|cy ?_;have W:=st2.bN;refine WC.dS (m:=8) st2 mixed<|(iv) fX St.g4<|cq ?_;refine DP .r (fun _ b=>PV.wi ao (Ow.jH (As.gs b.2.g7) (by rw [List.length_append,List.length_singleton];omega) C (bH L (f,A))) rfl rfl)<|(cQ)<|?_;rintro w1 ⟨X,o⟩ _;refine WP .r (PV.bJ cZ fZ fh (As.gm o.g5) (x.yes g) rfl rfl)<|fL ?_;have Y:=o.bN;refine WC.dS (m:=12) o mixed<|cq ?_;refine DW.dm (t:=35) rfl (fun E=>?_) (fun E=>?_)
 ·
  refine cq ?_;refine DP .r (fun _ b=>V1 aP (bU.range ((As.sG b.2.g6).1 _ _ g).1) .r)<|cy ?_;refine DP .r (fun _ b=>PV.ld1 (j:=1) aP (bU.range (As.gb b.2.g4)) rfl rfl)<|(cQ)<|?_;rintro w2 ⟨pC,F⟩ _;refine WP .r ((PV.Iz rfl rfl).cast (v':=.bool true) (congrArg Value.bool (decide_eq_true y)))<|cy ?_;refine WC.oz rfl<|dd ?_;refine WP .r ((PV.sub rfl rfl (by omega) (by omega)).cast (v':=.int .i64 (L.length:Int)) (congrArg (Value.int .i64) (by omega)))<|WP .r (PV.mZ mN (i:=L.length) (Ow.rd (As.gs F.g7) (by rw [List.length_append,List.length_singleton];omega)) rfl rfl (by omega))<|gV ?_;have N:=F.p7;have O:=St.Q7 N;refine EX.ey rfl (RS.tmp rfl<|RS.tmp rfl<|RS.tmp rfl<|RS.nil) rfl<|?_;exact⟨l,L,true,0,_,_,_,ml,rfl,FT.pop (FS.up I (aL.2 ⟨r,g,y⟩)),x,hm,gi.refl _,O.p1.drop.p1.drop.p5.p5.p5.p5.p5⟩
 ·
  exact dL E
 -- k9 eN C32
theorem Db{L:List (bp × eD)}{A:eD}(C:St w M Z w [As.map Key.val S.m ml,As.map Key.val S.q [],As.blk wb 74 (D.wc S.s rev ra rn rc),As.map Key.val D.m eI,As.gA 88 lf l,As.os RR.im 115 6 al nl el (L++[(f,A)])]) (O:(S.FV prog aa x0).p Z w) (P:Rd RR.aD 4 Z w D.a1 D.n1 D.c1 x0.ab) (hm:aU aa x0.ab ml) (E:dw l lf eI) (hR:aq aa) (hS:∀k,(valOf aa x0.ab k).size≤1000) (KO:KR aa l) (hL6:L.length≤1000) {r:Rec}(F:f.running=false) (b:aA l f.key=some r) (G:¬r.av=rev) (Q:r.bq=true):Calls prog 62 #[.pointer (some ⟨wb,0,none⟩),.slice al nl el,.func (.func 28) #[] #[]] w fun e w'=>∃(l':List Rec) (L':List (bp × eD)) (d:Bool) (H:Int) (a:Option Addr) (n c:Nat) (u:List (Key × Value)),e=.returned (.tuple #[.slice a n c,.bool d,.int .i64 H])∧FT aa (valOf aa x0.ab) ⟨rev,x0.ab,l⟩ L f A ⟨rev,x0.ab,l'⟩ L' [] H∧dw l' lf eI∧aU aa x0.ab u∧gi ml u∧St w M Z w' [As.map Key.val S.m u,As.map Key.val S.q [],As.blk wb 74 (D.wc S.s rev ra rn rc),As.map Key.val D.m eI,As.gA 88 lf l',As.os RR.im 115 6 a n c L']:=by
 have R:=(As.gs C.g5).len;rw [List.length_append,List.length_singleton] at R
 have Zd:((L++[(f,A)]).map Prod.fst)=L.map Prod.fst++[f]:=by simp
 refine enter func62 rfl ntmps62 rfl<|?_;have aQ:=C;have st1:=aQ.fr P;have st2:=st1.fact (B:=As.fz (S.FV prog aa x0)) O (fun _ T=>T);refine gV ?_;obtain⟨gT,o⟩:=Ow.addr (As.gs st2.g7) (bH L (f,A));refine cy ?_;refine WP .r ((PV.sub rfl rfl (by omega) (by omega)).cast (v':=.int .i64 (L.length:Int)) (congrArg (Value.int .i64) (by omega)))<|WP .r (PV.dU mN (i:=L.length) o rfl rfl (by omega))<|cy ?_;have U1:=st2.bN;refine WC.dS (m:=8) st2 mixed<|(iv) fX St.g4<|cq ?_;refine DP .r (fun _ g=>PV.wi ao (Ow.jH (As.gs g.2.g7) (by rw [List.length_append,List.length_singleton];omega) o (bH L (f,A))) rfl rfl)<|(cQ)<|?_;rintro w1 ⟨oy,y⟩ _;refine WP .r (PV.bJ cZ fZ fh (As.gm y.g5) (E.yes b) rfl rfl)<|fL ?_;have DK:=y.bN;refine WC.dS (m:=12) y mixed<|cq ?_;refine DW.dm (t:=35) rfl (fun I=>?_) (fun I=>?_)
 ·
  refine cq ?_;refine DP .r (fun _ g=>V1 aP (bU.range ((As.sG g.2.g6).1 _ _ b).1) .r)<|cy ?_;refine DP .r (fun _ g=>PV.ld1 (j:=1) aP (bU.range (As.gb g.2.g4)) rfl rfl)<|(cQ)<|?_;rintro w2 ⟨pC,z⟩ _;refine WP .r ((PV.Iz rfl rfl).cast (v':=.bool false) (congrArg Value.bool (decide_eq_false G)))<|cy ?_;refine WC.fK rfl<|dd ?_;refine WL.dm (t:=55) rfl (fun J=>?_) (fun J=>?_)
  ·
   exact dL J
  refine(a7) dH (bU.range ((As.sG z.g6).1 _ _ b).1)<|(aS) (fun K=>?_) fun K=>?_
  ·
   refine fL ?_;refine WL.go rfl (OX.AH (f:=2) O4 (As.gs z.g7) o (by omega) rfl rfl rfl ((({f with running:=true}:bp),A):bp × eD) (fun r h=>by rw [RR.bd h];rfl) fun w3 U V=>?_);have N:=z.p7.eO U V (fun x h=>.inl h);refine bO ?_;refine WL.go rfl (OX.AH (f:=3) GS (As.gs N.g0) o (by omega) rfl rfl rfl ((({f with running:=true,at_:=0}:bp),A):bp × eD) (fun r h=>by rw [RR.bd h];rfl) fun w4 W X=>?_);have Y:=N.eO W X (fun x h=>.inl h);refine aY ?_;refine nx ?_;refine EX.ey rfl (RS.tmp rfl<|RS.tmp rfl<|RS.tmp rfl<|RS.nil) rfl<|?_;exact⟨l,L++[(({f with running:=true,at_:=0}:bp),A)],true,0,_,_,_,ml,rfl,FT.same (FS.start F (by rw [Bool.eq_false_iff];intro h;obtain⟨q,h1,h2⟩:=aL.1 h;have h1:aA l f.key=some q:=h1;rw [b] at h1;cases h1;exact G h2) (.inr (by rw [show bZ.ah ⟨rev,x0.ab,l⟩=l from rfl,aN b];exact Q))) (fun e=>by have:=congrArg bp.running e;rw [F] at this;cases this) rfl rfl,E,hm,gi.refl _,Y.p1.drop.p1.drop.p5.p5.p5.p5.p5⟩
  exact dL K
 ·
  exact dL I
 -- k9 eN C32
set_option maxHeartbeats 4000000 in
theorem Dc{L:List (bp × eD)}{A:eD}(gF:St w M Z w [As.map Key.val S.m ml,As.map Key.val S.q [],As.blk wb 74 (D.wc S.s rev ra rn rc),As.map Key.val D.m eI,As.gA 88 lf l,As.os RR.im 115 6 al nl el (L++[(f,A)])]) (hf:(S.FV prog aa x0).p Z w) (Oh:Rd RR.aD 4 Z w D.a1 D.n1 D.c1 x0.ab) (hm:aU aa x0.ab ml) (b:dw l lf eI) (hR:aq aa) (hS:∀k,(valOf aa x0.ab k).size≤1000) (X:KR aa l) (hL6:L.length≤1000) {r:Rec}(U:f.running=false) (V:aA l f.key=some r) (hv:r.av<rev) (hd:r.bq=false) (h6:l.length≤4000) (U4:∀r∈l,r.reads.length≤4000) (LN:0≤f.at_):Calls prog 62 #[.pointer (some ⟨wb,0,none⟩),.slice al nl el,.func (.func 28) #[] #[]] w fun e w'=>∃(l':List Rec) (L':List (bp × eD)) (d:Bool) (er:Int) (a:Option Addr) (n c:Nat) (mT:List (Key × Value)),e=.returned (.tuple #[.slice a n c,.bool d,.int .i64 er])∧FT aa (valOf aa x0.ab) ⟨rev,x0.ab,l⟩ L f A ⟨rev,x0.ab,l'⟩ L' [] er∧dw l' lf eI∧aU aa x0.ab mT∧gi ml mT∧St w M Z w' [As.map Key.val S.m mT,As.map Key.val S.q [],As.blk wb 74 (D.wc S.s rev ra rn rc),As.map Key.val D.m eI,As.gA 88 lf l',As.os RR.im 115 6 a n c L']:=by
 have IC:=(As.gs gF.g5).len;rw [List.length_append,List.length_singleton] at IC
 have Zd:((L++[(f,A)]).map Prod.fst)=L.map Prod.fst++[f]:=by simp
 have hK:=GI (rev:=rev) V
 have LJ:(aB l rev f.key).length≤4001:=by have:=kn l rev f.key;omega
 have hcb:=HE U4 LJ
 have Ha:(bR l (aB l rev f.key)).length≤100000000:=by have:=hcb (aB l rev f.key).length;rw [List.take_of_length_le (Nat.le_refl _)] at this;exact this
 have Y:Live l rev f.key:=⟨r,V,hd,hv⟩
 have qT:cY f.key:=by have h1:=aI V;rw [← h1.2];exact(X r h1.1).1.cY
 refine enter func62 rfl ntmps62 rfl<|?_;have aQ:=gF;have st1:=aQ.fr Oh;have st2:=st1.fact (B:=As.fz (S.FV prog aa x0)) hf (fun _ hx=>hx);refine gV ?_;obtain⟨gT,E⟩:=Ow.addr (As.gs st2.g7) (bH L (f,A));refine cy ?_;refine WP .r ((PV.sub rfl rfl (by omega) (by omega)).cast (v':=.int .i64 (L.length:Int)) (congrArg (Value.int .i64) (by omega)))<|WP .r (PV.dU mN (i:=L.length) E rfl rfl (by omega))<|cy ?_;have U1:=st2.bN;refine WC.dS (m:=8) st2 mixed<|(iv) fX St.g4<|cq ?_;refine DP .r (fun _ hC=>PV.wi ao (Ow.jH (As.gs hC.2.g7) (by rw [List.length_append,List.length_singleton];omega) E (bH L (f,A))) rfl rfl)<|(cQ)<|?_;rintro w1 ⟨oy,iW⟩ _;refine WP .r (PV.bJ cZ fZ fh (As.gm iW.g5) (b.yes V) rfl rfl)<|fL ?_;have DK:=iW.bN;refine WC.dS (m:=12) iW mixed<|cq ?_;refine DW.dm (t:=35) rfl (fun g35=>?_) (fun g35=>?_)
 ·
  refine cq ?_;refine DP .r (fun _ hC=>V1 aP (bU.range ((As.sG hC.2.g6).1 _ _ V).1) .r)<|cy ?_;refine DP .r (fun _ hC=>PV.ld1 (j:=1) aP (bU.range (As.gb hC.2.g4)) rfl rfl)<|(cQ)<|?_;rintro w2 ⟨pC,hU⟩ _;refine WP .r ((PV.Iz rfl rfl).cast (v':=.bool false) (congrArg Value.bool (decide_eq_false (show ¬r.av=rev by omega))))<|cy ?_;refine WC.fK rfl<|dd ?_;refine WL.dm (t:=55) rfl (fun PX=>?_) (fun PX=>?_)
  ·
   exact dL PX
  refine(a7) dH (bU.range ((As.sG hU.g6).1 _ _ V).1)<|(aS) (fun g52=>?_) fun g52=>?_
  ·
   exact dL g52
  refine(hW) ao (Ow.jH (As.gs hU.g7) (by rw [List.length_append,List.length_singleton];omega) E (bH L (f,A)))<|?_;have ja:=hU;refine(bY) W9 (xa (k:=f.key) ja.e0 (As.gb ja.g4) (As.gm ja.g5) b (As.sG ja.g6) X.acz h6 U4) ?_;rintro _ w3 ⟨u1,O,u3,rfl,kA⟩;have hY:=St.lr ja kA;have Of:=((As.gs hY.g0)).len;refine ez ?_;have W:=hY;refine(bY) Xa (vR W.e0 (As.gb W.g5) (As.gm W.g6) b (As.sG W.g7) (Ow.rd (As.gs W.g0) (by omega)) hK hcb) ?_;rintro _ w4 ⟨o1,o2,o3,rfl,ox⟩;have R:=St.lr W ox;have hcn:=((As.gs R.g0)).len;refine(a7) aP (Ow.jH (As.gs R.g9) (by rw [List.length_append,List.length_singleton];omega) E (bH L (f,A)))<|(aS) (fun U5=>?_) fun U5=>?_
  ·
   simp at U5
   have Lc:(bR l (aB l rev f.key)).length≤f.at_.toNat:=by omega
   refine kS ?_;have iH:=R.p8.rj (B:=As.gA 88 lf (l.map (aX rev ((aB l rev f.key).take 0) false))) (by rw [uR]);refine WC.br (σ:=Nat) (dn:=fun i=>[(0,.pointer (some ⟨wb,0,none⟩)),(1,.slice al nl el),(84,.slice u1 O u3),(85,.int .i64 (O:Int)),(86,.int .i64 (i:Int))]) (F:=fun i=>[As.gA 88 lf (l.map (aX rev ((aB l rev f.key).take i) false))]) (I:=fun i=>(i≤O)∧True) (μ:=fun i=>O - i) (0) (iH) Sub.t (⟨Nat.zero_le _,trivial⟩)<|?_;rintro i w5 z ⟨hi,_⟩;simp only [CA,NA] at z hi ⊢;refine(aS) (fun FO=>?_) fun FO=>?_
   ·
    simp at FO
    have J:i<(aB l rev f.key).length:=by omega
    refine dd ?_;obtain⟨akl,Le⟩:=Ow.addr (As.gs z.g2) (ak J);refine nx ?_;refine WP .r (PV.dU eA Le rfl rfl (by omega))<|(aZ) ao (Ow.jH (As.gs z.g2) (by omega) Le (ak J))<|(eZ) z fun b14 w6 Ys Oi G=>?_;refine(cJ) hP G fun w7 jU j3 o=>?_;refine bO ?_;obtain⟨r1,OQ⟩:=hK _ (List.getElem_mem J);obtain⟨r2,K,GG⟩:=uS (rev:=rev) (g:=(aB l rev f.key).take i) (d:=false) ⟨r1,OQ⟩;have IL:=(((As.sG o.g1)).1 _ _ K).2.2;have C:=o.fact (As.Ji (((((As.sG o.g1)).1 _ _ K).2.1))) (fun _ hx=>hx);have cS:=C.p2;have dI:=St.JY cS K;refine WC.bL (m:=11) [] [] [0,1,2,3,4,5,6,7,8,9,10] [] dI (ai.k4 M0 M1 M2 M3<|ai.k4 M4 M5 M6 M7<|ai.k4 M8 M9 hJ ir<|ai.cons j5<|ai.nil) mixed (by kernel_rfl) (by kernel_rfl) rfl<|?_
    iterate 3 refine DG.a ?_
    refine(oq) fX SV.g10<|(lq) ao SV.g3<|?_;refine DQ .r (fun wx Zx Rx _ pH vI=>PV.bJ cZ fZ fh (As.gm (pH.sv vI).g11) (b.yes OQ) rfl rfl)<|?_
    iterate 4 refine DG.a ?_
    refine DQ .r (fun wx Zx Rx _ pH vI=>PV.ld1 (j:=1) aP (bU.range (As.gb (pH.sv vI).g10)) rfl rfl)<|(jo)<|?_;intro w8 Lf P;simp only [CM,NM,CA,NA,hV.it] at P;refine bO ?_;refine WL.s1 P fun w9 _ H=>?_;refine WL.nil (EX.np ?_);have Q:=H.p1.p1;have dR:=St.GK (r':={r2 with av:=rev}) (l':=l.map (aX rev ((aB l rev f.key).take (i+1)) false)) Q GG (As.gr Q.g2) IL (fun y=>by simpa using sH J false K y);have dG:=dR.p1.drop;refine fL ?_;refine eB (i+1) ⟨dG.p1.drop,⟨by omega,trivial⟩⟩
   simp at FO
   have ID:(aB l rev f.key).take i=(aB l rev f.key):=List.take_of_length_le (by omega);have G:=z.rj (B:=As.gA 88 lf (l.map (aX rev (aB l rev f.key) false))) (by rw [ID]);refine jM ?_;refine WP .r ((PV.sub rfl rfl (by omega) (by omega)).cast (v':=.int .i64 (L.length:Int)) (congrArg (Value.int .i64) (by omega)))<|WP .r (PV.mZ mN (i:=L.length) (Ow.rd (As.gs G.g9) (by rw [List.length_append,List.length_singleton];omega)) rfl rfl (by omega))<|ez ?_;have o:=G.p9;have C:=St.Q7 o;refine EX.ey rfl (RS.tmp rfl<|RS.tmp rfl<|RS.tmp rfl<|RS.nil) rfl<|?_;exact⟨l.map (aX rev (aB l rev f.key) false),L,true,0,_,_,_,ml,rfl,FT.pop (FS.mark U Y Lc),b.mark _ _ _,hm,gi.refl _,C.p2.drop.p2.drop.p2.drop.p2.drop.p1.p5.p5.p5.p5⟩
  simp at U5
  obtain⟨ch,T⟩:∃ch,(bR l (aB l rev f.key))[f.at_.toNat]?=some ch:=⟨_,ak (by omega)⟩;obtain⟨Ia,Ze,_⟩:=dr.1 (List.mem_of_getElem? T);obtain⟨rm,hrm⟩:=hK _ Ia;rw [aN hrm] at Ze;have hkc:=(X rm (aI hrm).1).2.2 _ Ze;have zC:0≤(f,A).fst.at_∧(f,A).fst.at_≤100000000:=⟨LN,by show f.at_≤_;omega⟩;refine cq ?_;obtain⟨Zg,vS⟩:=Ow.addr (As.gs R.g0) T;refine(a7) aP (Ow.jH (As.gs R.g9) (by rw [List.length_append,List.length_singleton];omega) E (bH L (f,A)))<|?_;refine WP .r (PV.DU GR (f.at_.toNat) vS rfl rfl (by show f.at_=_;omega) (by omega))<|(aZ) zk (Ow.jH (As.gs R.g0) (by omega) vS T)<|(eZ) R fun b15 w5 aeN aeO iH=>?_;refine(cJ) Kt iH fun w6 qU mu z=>?_;refine(hW) ao z.b0<|nx ?_;refine WL.c1 (u:=.int .i64 (bJ ⟨rev,x0.ab,l⟩ (L.map Prod.fst++[f]) [] ch.read)) (nS (aD:=x0.ab) (As.gb z.g7) (As.gm z.g8) b (As.sG z.g9) X (Ow.rd (As.gs z.g10) (by rw [List.length_append,List.length_singleton];omega)) hkc.cY) (by rw [Zd]) z fun w7 s7 G=>?_;refine(aS) (fun TT=>?_) fun TT=>?_
  ·
   have uM:bJ ⟨rev,x0.ab,l⟩ (L.map Prod.fst++[f]) [] ch.read=3:=by simpa using TT
   refine kg ?_;refine EX.ey rfl (RS.tmp rfl<|RS.tmp rfl<|RS.tmp rfl<|RS.nil) rfl<|?_;exact⟨l,(L++[(f,A)]),false,43,_,_,_,ml,rfl,FT.err (FS.ME ch U Y T uM) (by decide),b,hm,gi.refl _,G.drop.drop.drop.drop.drop⟩
  have uM:bJ ⟨rev,x0.ab,l⟩ (L.map Prod.fst++[f]) [] ch.read≠3:=by simpa using TT
  refine(aS) (fun Zi=>?_) fun Zi=>?_
  ·
   exact absurd (by simpa using Zi) (x2 (x:=⟨rev,x0.ab,l⟩) (l:=(L.map Prod.fst++[f])) (k:=ch.read))
  skip
  refine(aS) (fun TU=>?_) fun TU=>?_
  ·
   have DF:bJ ⟨rev,x0.ab,l⟩ (L.map Prod.fst++[f]) [] ch.read=1:=by simpa using TU
   refine(hW) ao G.b0<|?_;have o:=G.kC;refine(bY) Sf (nT (k:=ch.read) o.e1 (by rw [List.length_append,List.length_singleton];omega)) ?_;rintro _ w8 ⟨p1,p2,p3,rfl,kE⟩;have C:=St.lr o kE;refine gV ?_;refine EX.ey rfl (RS.tmp rfl<|RS.tmp rfl<|RS.tmp rfl<|RS.nil) rfl<|?_;exact⟨l,_,true,0,_,_,_,ml,rfl,FT.push (FS.qi ch U Y T DF),b,hm,gi.refl _,C.p1.drop.p1.drop.p1.drop.p1.drop.p1.drop.p5.p5.p5.p5.p5⟩
  have DF:bJ ⟨rev,x0.ab,l⟩ (L.map Prod.fst++[f]) [] ch.read≠1:=by simpa using TU
  refine(aZ) zk G.b0<|?_;have o:=G.p9.p9.p9.p9.p9;refine(bY) Xb (Aa (c:=ch) o.e5 (As.gf o.g8) (As.gr o.g9) hm b hR hS hkc X hrm) ?_;rintro _ w8 ⟨iU,rfl,Ig,tA,kE⟩;have C:=St.lr o kE;refine(aS) (fun TV=>?_) fun TV=>?_
  ·
   have hdf:JS (valOf aa x0.ab) ⟨rev,x0.ab,l⟩ ch=false:=by simpa using TV
   refine(a7) aP (Ow.jH (As.gs C.g10) (by rw [List.length_append,List.length_singleton];omega) E (bH L (f,A)))<|cq ?_;refine WL.go rfl (OX.AH (f:=3) GS (As.gs C.g10) E (by omega) rfl rfl rfl ((({f with at_:=f.at_+1}:bp),A):bp × eD) (fun r h=>by rw [RR.bd h];rfl) fun w9 s40 TW=>?_);have cS:=C.kC.eO s40 TW (fun x h=>.inl h);refine aY ?_;refine EX.ey rfl (RS.tmp rfl<|RS.tmp rfl<|RS.tmp rfl<|RS.nil) rfl<|?_;exact⟨l,L++[(({f with at_:=f.at_+1}:bp),A)],true,0,_,_,_,iU,rfl,FT.same (FS.pass ch U Y T DF uM (HK hdf)) (fun e=>by have:=congrArg bp.at_ e;simp at this;omega) rfl rfl,b,Ig,tA,cS.p6.drop.p6.drop.p6.drop.p6.drop.p6.drop.p5.p5.p5.p5.p5⟩
  have hdf:JS (valOf aa x0.ab) ⟨rev,x0.ab,l⟩ ch=true:=by simpa using TV
  refine(hW) ao (Ow.jH (As.gs C.g10) (by rw [List.length_append,List.length_singleton];omega) E (bH L (f,A)))<|?_;refine WL.c1 (u:=.bool (az f.key)) (fJ (k:=f.key) qT) (by rw [B3 qT]) C fun w9 s9 cS=>?_;refine bO ?_;have dI:=cS.p4;refine WC.jA (σ:=(List Rec)) [_] (fun N=>[(1,.slice al nl el),(9,.pointer (some ⟨gT,0+L.length*6,none⟩))]) (fun N=>[As.gA 88 lf N]) (fun N=>(N=if az f.key=true then l.map (aX rev (aB l rev f.key) true) else l)∧True) dI ?_ ?_
  ·
   refine(aS) (fun TX=>?_) fun TX=>?_
   ·
    refine gV ?_;have P:=dI.rj (B:=As.gA 88 lf (l.map (aX rev ((aB l rev f.key).take 0) true))) (by rw [uR]);refine WC.br (σ:=Nat) (dn:=fun i=>[(0,.pointer (some ⟨wb,0,none⟩)),(1,.slice al nl el),(9,.pointer (some ⟨gT,0+L.length*6,none⟩)),(151,.slice u1 O u3),(152,.int .i64 (O:Int)),(153,.int .i64 (i:Int))]) (F:=fun i=>[As.gA 88 lf (l.map (aX rev ((aB l rev f.key).take i) true))]) (I:=fun i=>(i≤O)∧True) (μ:=fun i=>O - i) (0) (P) Sub.t (⟨Nat.zero_le _,trivial⟩)<|?_;rintro i iT H ⟨hi,_⟩;simp only [CA,NA] at H hi ⊢;refine(aS) (fun TY=>?_) fun TY=>?_
    ·
     simp at TY
     have J:i<(aB l rev f.key).length:=by omega
     refine dd ?_;obtain⟨agk,G5⟩:=Ow.addr (As.gs H.g7) (ak J);refine nx ?_;refine WP .r (PV.dU eA G5 rfl rfl (by omega))<|(aZ) ao (Ow.jH (As.gs H.g7) (by omega) G5 (ak J))<|(eZ) H fun Yu iY Te N8 Q=>?_;refine(cJ) hP Q fun lx zy tK dR=>?_;refine bO ?_;obtain⟨r1,OQ⟩:=hK _ (List.getElem_mem J);obtain⟨r2,K,GG⟩:=uS (rev:=rev) (g:=(aB l rev f.key).take i) (d:=true) ⟨r1,OQ⟩;have IL:=(((As.sG dR.g1)).1 _ _ K).2.2;have dG:=dR.fact (As.Ji (((((As.sG dR.g1)).1 _ _ K).2.1))) (fun _ hx=>hx);have eW:=dG.p2;have dO:=St.JY eW K;refine WC.bL (m:=5) [] [] [0,1,2,3,4] [] dO (ai.k4 M0 M1 M2 M3<|ai.k4 M4 M5 M6 M7<|ai.k4 M8 M9 hJ ir<|ai.cons j5<|ai.cons mH<|ai.nil) mixed (by kernel_rfl) (by kernel_rfl) rfl<|?_
     iterate 3 refine DG.a ?_
     refine(oq) fX SV.g6<|(lq) ao SV.g3<|(jo)<|?_;intro nN akn eR;simp only [CM,NM,CA,NA,hV.it] at eR;refine WP .r (PV.bJ cZ fZ fh (As.gm eR.g7) (b.yes OQ) rfl rfl)<|bO ?_;refine WL.s1 eR fun qV _ fi=>?_;refine WL.nil (EX.np ?_);have eh:=fi.p1.p1;have eX:=St.GK (r':={r2 with bq:=true}) (l':=l.map (aX rev ((aB l rev f.key).take (i+1)) true)) eh GG (As.gr eh.g2) IL (fun y=>by simpa using sH J true K y);have dz:=eX.p1.drop;refine fL ?_;refine eB (i+1) ⟨dz.p1.drop,⟨by omega,trivial⟩⟩
    simp at TY
    have ID:(aB l rev f.key).take i=(aB l rev f.key):=List.take_of_length_le (by omega);have Q:=H.rj (B:=As.gA 88 lf (l.map (aX rev (aB l rev f.key) true))) (by rw [ID]);refine cy ?_;exact mS (l.map (aX rev (aB l rev f.key) true)) ⟨Q,⟨by rw [if_pos (by simpa using TX)],trivial⟩⟩
   refine nx ?_;exact mS (l) ⟨dI,⟨by rw [if_neg (by simpa using TX)],trivial⟩⟩
  rintro N iT P ⟨U6,_⟩;simp only [CA,NA] at P U6 ⊢;refine ez ?_;refine WL.go rfl (OX.AH (f:=2) O4 (As.gs P.g10) E (by omega) rfl rfl rfl ((({f with running:=true}:bp),A):bp × eD) (fun r h=>by rw [RR.bd h];rfl) fun iY TZ FY=>?_);have H:=P.kC.eO TZ FY (fun x h=>.inl h);refine bO ?_;refine WL.go rfl (OX.AH (f:=3) GS (As.gs H.g0) E (by omega) rfl rfl rfl ((({f with running:=true,at_:=0}:bp),A):bp × eD) (fun r h=>by rw [RR.bd h];rfl) fun lx Ir F0=>?_);have Q:=H.eO Ir F0 (fun x h=>.inl h);refine kg ?_
  have wJ:(if az f.key=true then cI ⟨rev,x0.ab,l⟩ (aB l rev f.key) true else ⟨rev,x0.ab,l⟩)=⟨rev,x0.ab,N⟩:=by rw [U6];split <;> rfl
  have pE:dw N lf eI:=by rw [U6];split;exact b.mark _ _ _;exact b
  have X7:=FS.fail (aa:=aa) (p:=L.map Prod.fst) ch U Y T DF uM (J6 hdf);rw [show(if az f.key=true then cI ⟨rev,x0.ab,l⟩ (aB (bZ.ah ⟨rev,x0.ab,l⟩) (bZ.ad ⟨rev,x0.ab,l⟩) f.key) true else ⟨rev,x0.ab,l⟩)=⟨rev,x0.ab,N⟩ from wJ] at X7;refine EX.ey rfl (RS.tmp rfl<|RS.tmp rfl<|RS.tmp rfl<|RS.nil) rfl<|?_;exact⟨N,L++[(({f with running:=true,at_:=0}:bp),A)],true,0,_,_,_,iU,rfl,FT.same X7 (fun e=>by have:=congrArg bp.running e;rw [U] at this;cases this) rfl rfl,pE,Ig,tA,Q.p6.drop.p6.drop.p6.drop.p6.drop.p6.drop.p1.p5.p5.p5.p5⟩
 ·
  exact dL g35
 -- k9 eN C32
theorem Ab{L:List (bp × eD)}{A:eD}(g:St w M Z w [As.map Key.val S.m ml,As.map Key.val S.q [],As.blk wb 74 (D.wc S.s rev ra rn rc),As.map Key.val D.m eI,As.gA 88 lf l,As.os RR.im 115 6 al nl el (L++[(f,A)])]) (h:(S.FV prog aa x0).p Z w) (i:Rd RR.aD 4 Z w D.a1 D.n1 D.c1 x0.ab) (hm:aU aa x0.ab ml) (j:dw l lf eI) (o:aq aa) (t:∀k,(valOf aa x0.ab k).size≤1000) (u:KR aa l) (x:L.length≤1000) (y:f.running=false) (F:l.length≤4000) (G:∀r∈l,r.reads.length≤4000) (H:∀r∈l,r.av≤rev) (I:0≤f.at_):Calls prog 62 #[.pointer (some ⟨wb,0,none⟩),.slice al nl el,.func (.func 28) #[] #[]] w fun e w'=>∃(l':List Rec) (L':List (bp × eD)) (d:Bool) (B:Int) (a:Option Addr) (n c:Nat) (z:List (Key × Value)),e=.returned (.tuple #[.slice a n c,.bool d,.int .i64 B])∧FT aa (valOf aa x0.ab) ⟨rev,x0.ab,l⟩ L f A ⟨rev,x0.ab,l'⟩ L' [] B∧dw l' lf eI∧aU aa x0.ab z∧gi ml z∧St w M Z w' [As.map Key.val S.m z,As.map Key.val S.q [],As.blk wb 74 (D.wc S.s rev ra rn rc),As.map Key.val D.m eI,As.gA 88 lf l',As.os RR.im 115 6 a n c L']:=by
 cases b:aA l f.key with
 | none=>exact C9 g h i hm j o t u x y b
 | some r=>
  by_cases C:r.av=rev
  ·
   exact Da g h i hm j o t u x y b C
  cases E:r.bq with
  | true=>exact Db g h i hm j o t u x y b C E
  | false=>
   have:=H r (aI b).1
   exact Dc g h i hm j o t u x y b (by omega) E F G I
end Go.Rc

