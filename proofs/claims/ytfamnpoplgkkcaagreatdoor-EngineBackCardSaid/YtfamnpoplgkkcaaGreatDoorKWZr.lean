/- Walks over the program, part WZr. Conditions: as each theorem says. -/
import Derived.Test.YtfamnpoplgkkcaaGreatDoorKFacts
import Derived.Test.YtfamnpoplgkkcaaGreatDoorKWZh
import Derived.Test.YtfamnpoplgkkcaaGreatDoorKBf
import Derived.Test.YtfamnpoplgkkcaaGreatDoorKBg
set_option linter.all false
namespace Go.Rc
open Go Go.Proofs Go.Proofs.Tryz
variable {l:List Rec}{A M Z:Nat→Prop}{a ra a1 a2:Option Addr}{n c v rn rc wb pb n1 e1 n2 e2:Nat}{w:World}{r:Rec}{aa:List aF}{k:Key}{rev:Int}{D:WD}{ml cS:List (Key × Value)}{lf:Key→RL}{x x0:bZ}{S:SD}
set_option maxHeartbeats 400000
theorem jl{l:List Key}(hl:Rd RR.key 2 A w a n c l) (o:l.Nodup):CR prog 80 #[.slice a n c] w (.slice a n c):=by
 have hle:=SR.le hl;have hlen:=SR.len hl;refine enter func80 rfl ntmps80 rfl<|?_;have aM:=St.s0 w;refine ba ?_;refine(bl) (fun g8=>?_) fun g8=>?_
 ·
  skip
  refine(bJ) ?_;exact⟨rfl,(St.cg aM)⟩
 simp at g8
 refine oa ?_;refine WC.bq (σ:=Nat) (cX:=fun i=>[(0,.slice a n c),(3,.int .i64 (i:Int))]) (F:=fun i=>[]) (I:=fun i=>(1≤i)∧(i≤n)∧True) (μ:=fun i=>n - i) (1) (aM) Sub.t (⟨Nat.le_refl _,by omega,trivial⟩)<|?_;rintro i w1 st1 ⟨hi,dF,_⟩;simp only [CA,NA] at st1 hi dF ⊢;refine(bl) (fun g13=>?_) fun g13=>?_
 ·
  simp at g13
  have g:i<l.length:=by omega
  have h:i - 1<l.length:=by omega
  obtain⟨C,E,G,s,_,d,u,_⟩:=Rd.at hl g;have d:=RR.bp d;subst d;obtain⟨H,J,K,y,_,f,z,_⟩:=Rd.at hl h;have f:=RR.bp f;subst f
  have B:l[i]≠l[i - 1]:=fun e=>by
   exact List.pairwise_iff_getElem.1 o (i - 1) i h g (by omega) e.symm
  refine dz ?_;have L:=st1.cu;refine WC.dS (m:=9) st1 mixed<|cm ?_;refine DP .r (fun _ b=>PV.ef fR (i:=i) s rfl rfl (by omega))<|DP .r (fun _ b=>VA aq (aS u (St.cg b.2) (by simp)) .r)<|cm ?_;refine DP .r (fun _ b=>(PV.sub rfl rfl (by omega) (by omega)).cast (v':=.int .i64 ((i - 1:Nat):Int)) (congrArg (Value.int .i64) (by omega)))<|DP .r (fun _ b=>PV.ef fR (i:=i - 1) y rfl rfl (by omega))<|DP .r (fun _ b=>VA aq (aS z (St.cg b.2) (by simp)) .r)<|(da)<|?_;rintro w2 ⟨N,st2⟩ _;refine WP .r (PV.Be fP (p:=l[i]) (q:=l[i - 1]) rfl rfl)<|(bl) (fun j=>?_) fun j=>?_
  ·
   exact absurd j (by simpa using B)
  skip
  refine ho ?_;refine fJ (i+1) ⟨st2,⟨by omega,by omega,trivial⟩⟩
 simp at g13
 refine(bJ) ?_;exact⟨rfl,(St.cg st1)⟩
theorem qp{l:List Key}(o:St w M Z w []) (hl:Rd RR.key 2 Z w a n c l) (h0:l≠[]) (f:l.Nodup) (hn:l.length≤1000000):Calls prog 37 #[.slice a n c] w fun e w'=>∃g h i,∃l':List Key,e=.returned (.slice g h i)∧sV l'∧l'.Perm l∧St w M Z w' [As.os RR.key 41 2 g h i l']:=by
 refine enter func37 rfl ntmps37 rfl<|?_;have aM:=o;have st1:=aM.fr hl;refine ho ?_;have st2:=st1;refine(c6) CN (fU st2.e0 (As.gr st2.g0) hn) ?_;rintro _ w1 ⟨b1,b2,c1,rfl,p⟩;have q:=St.lr st2 p;refine fE ?_;have j:=q;refine(c6) MT (nU j.e1 h0 hn) ?_;rintro _ w2 ⟨rfl,d,b,s,t⟩;have m:=St.lr j t;have B:d.length=l.length:=b.length_eq;have u:d.Nodup:=b.nodup_iff.2 f;have y:=sX b f s;refine(eO) (jl (Ow.rd (As.gs m.g0) (by omega)) u) m fun w3 C z=>?_;refine(bJ) ?_;exact⟨b1,_,c1,d,rfl,y,b,z.p1.drop⟩
theorem q8{aa:List aF}{r:Nat}(gT:n≤99):CR prog 66 #[.slice a r c,(bd (n:Int)).val] w (.bool true):=by
 have b:bd (n:Int)=⟨30,itoa n⟩:=by unfold bd;rw [if_neg (by omega)]
 have d:(bd (n:Int)).kind=30:=by rw [b]
 have e:(bd (n:Int)).text=itoa n:=by rw [b]
 refine enter func66 rfl ntmps66 rfl<|?_;have aM:=St.s0 w;refine(dt) aM fun b3 w1 j o st1=>?_;refine cv ?_;have p:=st1.cu;refine WC.dN (m:=12) (E:=cO [(1,fun v _=>v=.bool true),(4,fun v _=>v=.bool false)]) st1 (ca (⟨fun _ _ _ _ _ _ _ h=>h,⟨fun _ _ _ _ _ _ _ h=>h,trivial⟩⟩)) mixed (by kernel_rfl)<|(iN) aq St.g0<|?_;refine DW.c0 (fun f g i=>eN (k:=bd (n:Int)) (by omega) e gT)<|(iN) aq St.g0<|?_;refine DW.c1 (u:=.bool false) (fun f g i=>jV (k:=bd (n:Int))) (by rw [show(decide ((bd (n:Int)).kind=31) || decide ((bd (n:Int)).kind=32))=false by(rw [d];simp)])<|(da) ?_;rintro w2 ⟨q,st2⟩ ⟨_,⟨_,_⟩⟩;refine(bJ) ?_;exact⟨by simp,(St.cg st2)⟩
theorem q6{B:Nat→Prop}{r:Nat}(hk:eV aa k) (hr:eJ B w a r c aa):CR prog 66 #[.slice a r c,k.val] w (.bool true):=by
 cases hk with
 | cell h=>exact q8 (aa:=aa) h
 | eU hi h=>exact qS hi h hr
set_option maxHeartbeats 400000
theorem ug(hk:cn r.key):CR prog 160 #[.agg (r.row a n c).toArray,.int .i64 rev] w (.bool (aw r.key && (decide (r.ak<rev) && !r.bU))):=by
 refine enter func160 rfl ntmps160 rfl<|?_;have aM:=St.s0 w;refine(dt) aM fun b2 w1 b d st1=>?_;refine cv ?_;refine WC.iT (t:=4) (v:=.bool (aw r.key && (decide (r.ak<rev) && !r.bU))) st1 ?_<|?_
 ·
  refine(lj) aq st1.b0<|?_;refine WL.c1 (u:=.bool (aw r.key)) (dq (k:=r.key) hk) (by rw [vl hk]) st1 fun w2 s2 st2=>?_;refine(c7) (fun g8=>?_) (fun g8=>?_)
  ·
   refine(bF) aT st2.b0<|(c7) (fun g14=>?_) (fun g14=>?_)
   ·
    refine(bF) ed st2.b0<|?_;exact(fB) (tG (aj g8 g14)) (st2)
   exact(fB) (tG (aj g8 g14)) (st2)
  exact(fB) (tG g8) (st2)
 intro w2 st2;refine(bJ) ?_;exact⟨rfl,(St.cg st2)⟩
theorem uh(d:bC w pb 75 [.pointer (some ⟨wb,0,none⟩)]) (e:bC w wb 86 (D.wc v rev ra rn rc)) (hm:KM Key.val w D.m ml) (f:(bw ml k).getD (.pointer none)=.pointer none):CR prog 159 #[k.val,.pointer (some ⟨pb,0,none⟩)] w (.tuple #[.slice none 0 0,.bool false]):=by
 refine enter func159 rfl ntmps159 rfl<|?_;have aM:=St.s0 w;refine(dt) aM fun b2 w1 h i st1=>?_;refine fE ?_;have j:=st1.cu;refine WC.dS (m:=5) st1 mixed<|?_;refine DP .r (fun _ b=>PV.j1 CB (bC.range (d.ext (St.cg b.2))) rfl rfl)<|cm ?_;refine DP .r (fun _ b=>V1 dD (bC.range (e.ext (St.cg b.2))) .r)<|(iN) aq St.g0<|(da)<|?_;rintro w2 ⟨o,st2⟩ _;refine WP .r (PV.jD cV dE db (hm.ext (St.cg st2)) (f) rfl rfl)<|cv ?_;have p:=st2.cu;refine WC.dS (m:=11) st2 mixed<|cM ?_;refine DW.bX (t:=14) rfl (fun g14=>?_) (fun g14=>?_)
 ·
  exact cI g14
 refine(da) ?_;rintro w3 ⟨q,g⟩ _;refine cv ?_;refine WC.dw rfl<|(xt) ?_;exact⟨rfl,(St.cg g)⟩
theorem ui{q:RL}(i:bC w pb 75 [.pointer (some ⟨wb,0,none⟩)]) (o:bC w wb 86 (D.wc v rev ra rn rc)) (hm:KM Key.val w D.m ml) (s:bw ml k=some (.pointer (some ⟨q.b,0,none⟩))) (p:bC w q.b 47 (r.row q.a q.n q.c)) (hk:cn r.key):Calls prog 159 #[k.val,.pointer (some ⟨pb,0,none⟩)] w fun e w'=>∃(a:Option Addr) (n c:Nat),e=.returned (.tuple #[.slice a n c,.bool (aw r.key && (decide (r.ak<rev) && !r.bU))])∧((aw r.key && (decide (r.ak<rev) && !r.bU))=true→a=q.a∧n=q.n∧c=q.c)∧aQ [] w w':=by
 refine enter func159 rfl ntmps159 rfl<|?_;have aM:=St.s0 w;refine(dt) aM fun b2 w1 y z st1=>?_;refine fE ?_;have B:=st1.cu;refine WC.dS (m:=5) st1 mixed<|?_;refine DP .r (fun _ d=>PV.j1 CB (bC.range (i.ext (St.cg d.2))) rfl rfl)<|cm ?_;refine DP .r (fun _ d=>V1 dD (bC.range (o.ext (St.cg d.2))) .r)<|(iN) aq St.g0<|(da)<|?_;rintro w2 ⟨C,st2⟩ _;refine WP .r (PV.bD cV dE db (hm.ext (St.cg st2)) (s) rfl rfl)<|cv ?_;have E:=st2.cu;refine WC.dS (m:=11) st2 mixed<|cM ?_;refine DW.bX (t:=14) rfl (fun g14=>?_) (fun g14=>?_)
 ·
  refine cm ?_;refine DP .r (fun _ d=>VA dV (bC.range (p.ext (St.cg d.2))) .r)<|DP .r (fun _ d=>PV.j1 CB (bC.range (i.ext (St.cg d.2))) rfl rfl)<|cM ?_;refine DP .r (fun _ d=>PV.ld1 (j:=1) aT (bC.range (o.ext (St.cg d.2))) rfl rfl)<|(da)<|?_;rintro w3 ⟨F,u⟩ _;refine(eO) (ug (r:=r) hk) u fun w4 G g=>?_;refine(bl) (fun g24=>?_) fun g24=>?_
  ·
   have f:(aw r.key && (decide (r.ak<rev) && !r.bU))=true:=by first | exact g24 | simpa using g24
   refine(bF) eD (bC.range (p.ext (St.cg g)))<|(xt) ?_;exact⟨q.a,q.n,q.c,by rw [f],fun _=>⟨rfl,rfl,rfl⟩,(St.cg g)⟩
  have f:(aw r.key && (decide (r.ak<rev) && !r.bU))=false:=by first | exact g24 | simpa using g24
  refine(xt) ?_;exact⟨none,0,0,by rw [f],(fun h=>by rw [f] at h;cases h),(St.cg g)⟩
 exact cI g14
theorem yz(f:bC w pb 75 [.pointer (some ⟨wb,0,none⟩)]) (g:bC w wb 86 (D.wc v rev ra rn rc)) (hm:KM Key.val w D.m ml) (i:cy l lf ml) (j:(As.dR 47 lf l).ok Z w) (o:∀r∈l,cn r.key) (k:Key):Calls prog 159 #[k.val,.pointer (some ⟨pb,0,none⟩)] w fun e w'=>∃(a:Option Addr) (n c:Nat),e=.returned (.tuple #[.slice a n c,.bool (bH l rev k)])∧(bH l rev k=true→Rd RR.key 2 Z w' a n c (aD l k).reads)∧aQ [] w w':=by
 cases b:ay l k with
 | none=>
  refine(uh f g hm (i.no b)).mono<|?_;rintro e w' ⟨rfl,hc⟩
  have d:bH l rev k=false:=by unfold bH;rw [b];rfl
  exact⟨none,0,0,by rw [d],(fun h=>by rw [d] at h;cases h),hc⟩
 | some r=>
  obtain⟨p,q,_⟩:=j.1 k r b;obtain⟨hr,hk⟩:=aI b;refine(ui (k:=k) f g hm (i.yes b) p (o r hr)).mono<|?_;rintro e w' ⟨a,n,c,rfl,s,hc⟩
  have d:bH l rev k=(aw r.key && (decide (r.ak<rev) && !r.bU)):=by
   unfold bH
   rw [aJ b,b,← hk]
   rfl
  refine⟨a,n,c,by rw [d],fun h=>?_,hc⟩;rw [d] at h;obtain⟨rfl,rfl,rfl⟩:=s h;rw [aJ b];exact q.ext hc
set_option maxHeartbeats 1600000 in
theorem uj{f:FuncId}{cap:Value}(gV:St w M Z w []) (W2:CF prog f) (W3:∀w1,aQ [] w w1→∀y:Key,Calls prog f #[y.val,cap] w1 fun e w'=>∃(a:Option Addr) (n c:Nat),e=.returned (.tuple #[.slice a n c,.bool (bH l rev y)])∧(bH l rev y=true→Rd RR.key 2 Z w' a n c (aD l y).reads)∧aQ [] w1 w') (h6:l.length≤4000) (KY:∀r∈l,r.reads.length≤4000):Calls prog 158 #[k.val,.func (.func f) #[] #[cap]] w fun e w'=>∃(a:Option Addr) (n c:Nat),e=.returned (.slice a n c)∧St w M Z w' [As.os RR.key 41 2 a n c (aB l rev k)]:=by
 refine enter func158 rfl ntmps158 rfl<|?_;have aM:=St.rb gV;refine(dt) aM fun b2 w1 QU Da st1=>?_;refine(bS) aq st1.b0<|?_;refine WL.go rfl (OX.jz W2 rfl rfl rfl ((Calls.cap (W3 _ (St.cg st1) k)).mono ?_));rintro _ w2 ⟨f1,f2,f3,rfl,_,s2⟩;refine⟨_,rfl,?_⟩;have st2:=st1.step s2;refine ba ?_;refine(bl) (fun DJ=>?_) fun DJ=>?_
 ·
  have W:bH l rev k=false:=by simpa using DJ
  have hv:aB l rev k=[k]:=by unfold aB;rw [if_neg (by rw [W];simp)]
  refine(bS) aq st2.b0<|?_;refine WL.go rfl (OX.bf (us:=k.cells) ey rfl rfl rfl rfl fun b31 w3 Qa W4=>?_);have ka:=St.n0 (R:=RR.key) (E:=41) (k:=2) (a:=some ⟨b31,0,none⟩) (n:=1) (c:=1) (xs:=[k]) st2 Qa.ext (OR.dU W4 (Nat.zero_le _) rfl (by simp [Key.cells,Value.oneCell']) rfl) (fun x hx=>by simp [bN] at hx;subst hx;exact Qa.ge);refine(bJ) ?_;exact⟨_,_,_,rfl,by rw [hv];exact(St.wk ka.p1.drop)⟩
 have W:bH l rev k=true:=by simpa using DJ
 refine cv ?_;refine WL.mm Key.val st2 fun K6 w3 aeQ aeR ka=>?_;refine dz ?_;refine WL.mm Key.val ka fun FP w4 Av aeS jW=>?_;refine(bS) aq jW.b2<|?_;refine WL.go rfl (OX.ins cV jc (As.gm jW.g0) rfl rfl rfl fun w5 JE C5=>?_);have mf:=jW.kM JE C5;refine cM ?_;have jt:=mf.rE (B:=As.map Key.val FP (iF [k])) (rfl);refine(bS) aq jt.b2<|?_;refine WL.go rfl (OX.bf (us:=k.cells) ey rfl rfl rfl rfl fun Ro w6 W5 W6=>?_);have mi:=jt.dG W5 W6;refine cm ?_;have kF:=mi;have oo:=kF.conv (B:=As.os RR.key 41 2 (some ⟨Ro,0,none⟩) 1 1 [k]) (OR.dU (As.gb kF.g0) (Nat.zero_le _) rfl (by simp [Key.cells,Value.oneCell']) rfl) (fun x h=>by show x=Ro;change x∈bN (some ⟨Ro,0,none⟩) at h;simpa [bN] using h);refine ho ?_;have gj:=oo.Gr;refine WC.bq (σ:=Nat × (List Key) × (List (Key × Value)) × (List RE) × (Option Addr) × Nat × Nat) (cX:=fun(i,L,Kp,J,g,d,o)=>[(1,.func (.func f) #[] #[cap]),(2,.pointer (some ⟨b2,0,none⟩)),(7,.map (some K6)),(8,.map (some FP)),(9,.slice g d o),(10,.int .i64 (i:Int))]) (F:=fun(i,L,Kp,J,g,d,o)=>[As.os RR.key 41 2 g d o (L),As.map Key.val FP (iF L),As.map Key.val K6 Kp,As.many (J.map (RE.as 41))]) (I:=fun(i,L,Kp,J,g,d,o)=>(i≤L.length)∧(oh l rev k (ft J) L i 0)∧(og J Kp)∧((J.map (·.key)).Nodup)∧True) (μ:=fun(i,L,Kp,J,g,d,o)=>4001 - i) (0,[k],[],[],(some ⟨Ro,0,none⟩),1,1) (gj.p3.p3.p3) Sub.t (⟨Nat.zero_le _,oh.start fun _=>rfl,og.nil,by simp,trivial⟩)<|?_;rintro⟨i,L,Kp,J,g,d,o⟩ w7 e7 ⟨Rk,hF,W7,zs,_⟩;simp only [CA,NA] at e7 Rk hF W7 zs ⊢;have hln:=((As.gs e7.g0)).len;have hle:=hF.le W;refine(bl) (fun W8=>?_) fun W8=>?_
 ·
  simp at W8
  have Az:i<L.length:=by omega
  have ZY:=hF.op W (List.getElem_mem Az);obtain⟨ri,ZZ,_⟩:=bB.1 ZY;have W9:aD l L[i]=ri:=aJ ZZ;have aeT:=KY ri (aI ZZ).1;refine dz ?_;obtain⟨jq,fy⟩:=Ow.addr (As.gs e7.g0) (ah Az);refine cv ?_;refine WP .r (PV.ef fR fy rfl rfl (by omega))<|(bS) aq (Ow.n5 (As.gs e7.g0) (by omega) fy (ah Az))<|?_;refine WL.go rfl (OX.jz W2 rfl rfl rfl ((Calls.cap (W3 _ (St.cg e7) L[i])).mono ?_));rintro _ w8 ⟨f4,f5,f6,rfl,F3,s8⟩;refine⟨_,rfl,?_⟩;have eF:=e7.step s8;have Z0:=F3 ZY;rw [W9] at Z0;have gk:=eF.fr (Z0);have hqn:=((As.gr gk.g0)).len;refine ba ?_;refine cM ?_;refine WC.bq (σ:=Nat × (List Key) × (List (Key × Value)) × (List RE) × (Option Addr) × Nat × Nat) (cX:=fun(q,L2,X,K,g,d,o)=>[(1,.func (.func f) #[] #[cap]),(2,.pointer (some ⟨b2,0,none⟩)),(7,.map (some K6)),(8,.map (some FP)),(9,.slice g d o),(10,.int .i64 (i:Int)),(53,.slice f4 f5 f6),(54,.int .i64 (f5:Int)),(55,.int .i64 (q:Int))]) (F:=fun(q,L2,X,K,g,d,o)=>[As.os RR.key 41 2 g d o (L2),As.map Key.val FP (iF L2),As.map Key.val K6 X,As.many (K.map (RE.as 41))]) (I:=fun(q,L2,X,K,g,d,o)=>(q≤f5)∧(oh l rev k (ft K) L2 i q)∧(og K X)∧((K.map (·.key)).Nodup)∧(L2[i]?=some L[i])∧True) (μ:=fun(q,L2,X,K,g,d,o)=>f5 - q) (0,L,Kp,J,g,d,o) (gk.p4.p4.p4.p4) Sub.t (⟨Nat.zero_le _,hF,W7,zs,ah Az,trivial⟩)<|?_;rintro⟨q,L2,X,K,g,d,o⟩ w9 Y ⟨hq,Kq,oq,qA,N,_⟩;simp only [CA,NA] at Y hq Kq oq qA N ⊢;have aeV:=((As.gs Y.g0)).len;have Aq:=Kq.le W;have KL:i<L2.length:=(List.getElem?_eq_some_iff.1 N).1;refine(bl) (fun Ar=>?_) fun Ar=>?_
  ·
   simp at Ar
   have Ju:q<ri.reads.length:=by omega
   obtain⟨x,Qb⟩:∃x,ri.reads[q]=x:=⟨_,rfl⟩
   have PX:(aD l L[i]).reads[q]?=some x:=by rw [W9,ah Ju,Qb]
   refine dz ?_;obtain⟨Dn,Dp,Dq,mo,wK,mq,nV,mr⟩:=Rd.at (As.gr Y.g4) Ju;have mq:=RR.bp mq;subst mq;have ee:=Y.fg mr nV;rw [Qb] at nV ee;refine nx ?_;refine WP .r (PV.ef fR mo rfl rfl (by omega))<|(bS) aq (As.mF ee.g0)<|(fF) ee fun b14 oC UU F2 gB=>?_;refine(dH) gz gB fun qy Ap uV fx=>?_;refine(bS) aq fx.b0<|?_;refine WL.go rfl (OX.jz W2 rfl rfl rfl ((Calls.cap (W3 _ (St.cg fx) x)).mono ?_));rintro _ uy ⟨f7,f8,f9,rfl,_,ZE⟩;refine⟨_,rfl,?_⟩;have eG:=fx.step ZE;refine ba ?_;refine(bl) (fun Xa=>?_) fun Xa=>?_
   ·
    have Rp:bH l rev x=false:=by simpa using Xa
    refine ho ?_;refine fJ (q+1,L2,X,K,g,d,o) ⟨eG.drop.drop,⟨by omega,Kq.skip N PX Rp,oq,qA,N,trivial⟩⟩
   have Rp:bH l rev x=true:=by simpa using Xa
   refine cM ?_;obtain⟨OH,qb⟩:=Ow.addr (As.gs eG.g2) N;have fw:=eG.p5;obtain⟨ea,en,ec,hev,Xb⟩:=St.Md (EK:=41) qA oq x fw;have T:=Xb;have hen:=((As.gs T.g0)).len;have LJ:=Kq.len x;refine WC.cz (m:=11) [] [7,9] [0,1,2,3,4,5,6,7,8,9,10] [(6,.sl 41 1 L[i].cells)] T (av.k4 M1 M2 M3 M4<|av.cons M5<|av.cons M7<|av.cons M8<|av.nil) mixed (by kernel_rfl) (by kernel_rfl) rfl<|(qu) aq SV.g1<|?_
   iterate 2 refine DG.a ?_
   refine DQ .r (fun wx Zx Rx _ nj sn=>PV.ef fR qb rfl rfl (by omega))<|DQ .r (fun wx Zx Rx _ nj sn=>VA aq (Ow.n5 (As.gs (nj.sv sn).g3) (by omega) qb N) .r)<|?_;refine DG.side (s:=.sl 41 1 L[i].cells) rfl rfl rfl rfl rfl rfl (fun wx Zx Rx ux nj=>OX.bf (us:=L[i].cells) ey rfl rfl rfl rfl fun b wy nw hb=>⟨nw.ext.size,_,rfl,⟨b,rfl⟩,nj.dG nw hb⟩)<|?_;rintro _ ⟨Vd,rfl⟩;refine(gR) (fun wY R7x Uo O GR=>?_);simp only [CA,NA] at O;refine OX.mapEntry cV CE GK (As.gm O.g6) (hev) rfl rfl rfl fun z75 C6 O3 Qc=>?_;have P:=O.p6.Mb O3 Qc;refine⟨O3.size,_,rfl,_,_,_,P,aG.k4<|aG.k4<|aG.cons<|aG.nil,av.k4 M2 M3 M4 M5<|av.cons M6<|av.cons M7<|av.cons M8<|av.nil,?_⟩;refine(gR) (fun C9 Ot C3 Q pY=>?_);simp only [CA,NA] at Q;refine OX.oL qJ rfl rfl rfl (As.gs Q.g1) (SR.dU (A:=fun _=>True) (x:=L[i]) (show bC _ Vd _ _ from Q.ok _ (.tail _ (.tail _ (.tail _ (.tail _ (.tail _ (.tail _ (.tail _ (.tail _ (.tail _ (pY _ (.head _)))))))))))) trivial rfl (by simp [Key.cells,Value.oneCell']) rfl) (by omega) (by omega) (Nat.zero_le _) fun a76 Kr Aw Xc Z3 Xd aeX=>?_;have ij:=Q.p1.gK Z3 Xc Xd;refine⟨Z3.size,_,rfl,_,_,_,ij,aG.k4<|aG.k4<|aG.cons<|aG.nil,av.k4 M2 M3 M4 M5<|av.cons M6<|av.cons M7<|av.cons M8<|av.nil,?_⟩;refine(lJ) ?_;intro DH OO fb;simp only [CM,NM,CA,NA,iv.it] at fb;refine WL.go rfl (OX.entryStore (As.gmb fb.g2) rfl rfl rfl fun DI C7 C8=>?_);have eH:=fb.p2.Mc C7 C8;refine WL.nil (EX.np ?_);have gC:=eH.p3.p3;have jr:=St.Sg gC;obtain⟨K7,Xe⟩:∃K7:List RE,K7=⟨x,a76,(en+1),Kr,ft K x++[L[i]]⟩::rest K x:=⟨_,rfl⟩;have nq:=jr.rE (B:=As.many (K7.map (RE.as 41))) (by rw [Xe]);have Dk:=oq.put (x:=x) (v:=.slice ea en ec) (a:=a76) (n:=en+1) (c:=Kr) (ft K x++[L[i]]);have Ks:=xT (x:=x) (a:=a76) (n:=en+1) (c:=Kr) qA (ft K x++[L[i]])
   have Qd:ft K7=lW (ft K) x L[i]:=by rw [Xe];exact Ep
   rw [← Xe] at Dk Ks;refine(bS) aq nq.b3<|?_;refine WP .r (PV.jD cV jc IX (As.gm nq.g6) (vg L2 x) rfl rfl)<|(bl) (fun Xf=>?_) fun Xf=>?_
   ·
    have V:x∉L2:=by simpa using Xf
    refine WC.cz (m:=6) [] [5] [2,3,4,5,0,1] [(4,.sl 41 1 x.cells)] nq (av.k4 M0 M1 M2 M3<|av.k4 M4 M6 M7 M8<|av.nil) mixed (by kernel_rfl) (by kernel_rfl) rfl<|(qu) aq SV.g3<|?_;refine DG.side (s:=.sl 41 1 x.cells) rfl rfl rfl rfl rfl rfl (fun wx Zx Rx ux nj=>OX.bf (us:=x.cells) ey rfl rfl rfl rfl fun b wy nw hb=>⟨nw.ext.size,_,rfl,⟨b,rfl⟩,nj.dG nw hb⟩)<|?_;rintro _ ⟨b86,rfl⟩;refine(gR) (fun FY KX Ax k9 mh=>?_);simp only [CA,NA] at k9;refine OX.oL qJ rfl rfl rfl (As.gs k9.g5) (SR.dU (A:=fun _=>True) (x:=x) (show bC _ b86 _ _ from k9.ok _ (.tail _ (.tail _ (.tail _ (.tail _ (.tail _ (.tail _ (.tail _ (.tail _ (.tail _ (mh _ (.head _)))))))))))) trivial rfl (by simp [Key.cells,Value.oneCell']) rfl) (by omega) (by omega) (Nat.zero_le _) fun a87 Xg JN Xh Z7 Xi aeZ=>?_;have ou:=k9.p5.gK Z7 Xh Xi;refine⟨Z7.size,_,rfl,_,_,_,ou,aG.k4<|aG.k4<|aG.cons<|aG.nil,av.k4 M1 M2 M3 M4<|av.k4 M5 M6 M7 M8<|av.nil,?_⟩;refine(qu) aq SV.g3<|(lJ)<|?_;intro GU Z8 qi;simp only [CM,NM,CA,NA,iv.it] at qi;refine WL.go rfl (OX.put cV jc (As.gm qi.g7) rfl rfl rfl fun JP Xj Xk=>?_);have js:=qi.p7.kM Xj Xk;refine nx ?_;refine WL.nil (EX.np ?_);have ot:=js.rE (B:=As.map Key.val FP (iF (L2++[x]))) (by rw [vh _ V]);refine fE ?_;refine fJ (q+1,L2++[x],_,K7,a87,(d+1),Xg) ⟨ot.p1.drop.p4.drop.p4.drop.p4.drop.p3.p1.p2,⟨by omega,by rw [Qd];exact Kq.new N PX Rp V,Dk,Ks,by rw [List.getElem?_append_left KL];exact N,trivial⟩⟩
   have V:x∈L2:=by simpa using Xf
   refine eE ?_;refine fJ (q+1,L2,_,K7,g,d,o) ⟨nq.p2.drop.p2.drop.p2.drop.p1.p3.p3,⟨by omega,by rw [Qd];exact Kq.qt N PX Rp V,Dk,Ks,N,trivial⟩⟩
  simp at Ar
  refine hY ?_;refine fJ (i+1,L2,X,K,g,d,o) ⟨Y.p4.drop,⟨by show i+1≤L2.length;omega,Kq.next N (by rw [W9];omega) (by omega),oq,qA,trivial⟩⟩
 simp at W8
 refine fE ?_;have Z9:=hF.Si (show L.length≤i by omega)
 have Sk:∀e∈J,e.reads.length≤140737488355328:=fun e he=>by
  have h1:=hF.len e.key
  have h2:i≤4001:=by omega
  rw [BX zs he] at h1
  omega
 refine nx ?_;refine WL.mm Key.val e7 fun K8 w8 ae0 ae1 eF=>?_;refine(bS) aq eF.b5<|?_;refine WL.go rfl (OX.ins cV jc (As.gm eF.g0) rfl rfl rfl fun w9 Xl Xm=>?_);have gk:=eF.kM Xl Xm;refine cM ?_;have Y:=gk.rE (B:=As.map Key.val K8 (iF [k])) (rfl);refine(bS) aq Y.b5<|?_;refine WL.go rfl (OX.bf (us:=k.cells) ey rfl rfl rfl rfl fun Om oC Jv Jw=>?_);have ee:=Y.dG Jv Jw;refine cm ?_;have gB:=ee;have fx:=gB.conv (B:=As.os RR.key 41 2 (some ⟨Om,0,none⟩) 1 1 [k]) (OR.dU (As.gb gB.g0) (Nat.zero_le _) rfl (by simp [Key.cells,Value.oneCell']) rfl) (fun x h=>by show x=Om;change x∈bN (some ⟨Om,0,none⟩) at h;simpa [bN] using h);refine ho ?_;have eG:=fx.p5;have fw:=St.bkF Sk eG;refine WC.bq (σ:=Nat × (List Key) × (Option Addr) × Nat × Nat) (cX:=fun(j,U,C,u,G)=>[(7,.map (some K6)),(17,.map (some K8)),(18,.slice C u G),(19,.int .i64 (j:Int))]) (F:=fun(j,U,C,u,G)=>[As.os RR.key 41 2 C u G (U),As.map Key.val K8 (iF U)]) (I:=fun(j,U,C,u,G)=>(rZ l rev k (ft J) U j 0)∧True) (μ:=fun(j,U,C,u,G)=>4001 - j) (0,[k],(some ⟨Om,0,none⟩),1,1) (fw.p2.p2) Sub.t (⟨rZ.start,trivial⟩)<|?_;rintro⟨j,U,C,u,G⟩ qy T ⟨hB,_⟩;simp only [CA,NA] at T hB ⊢;have Rz:=((As.gs T.g0)).len;have ae2:=hB.le W;refine(bl) (fun J8=>?_) fun J8=>?_
 ·
  simp at J8
  have Xn:j<U.length:=by omega
  refine dz ?_;obtain⟨v1,v2,v3,Xo,HZ⟩:=og.read W7 (As.gf T.g2) U[j];have O:=T.fr (HZ);have hsn:=((As.gr O.g0)).len;have hbq:=hF.len U[j];obtain⟨UD,wa⟩:=Ow.addr (As.gs O.g1) (ah Xn);refine cv ?_;refine WP .r (PV.ef fR wa rfl rfl (by omega))<|(bS) aq (Ow.n5 (As.gs O.g1) (by omega) wa (ah Xn))<|?_;refine WP .r (PV.jD cV CE GK (As.gm O.g6) (Xo) rfl rfl)<|dz ?_;refine WC.bq (σ:=Nat × (List Key) × (Option Addr) × Nat × Nat) (cX:=fun(p,H,C,u,G)=>[(7,.map (some K6)),(17,.map (some K8)),(18,.slice C u G),(19,.int .i64 (j:Int)),(105,.slice v1 v2 v3),(106,.int .i64 (v2:Int)),(107,.int .i64 (p:Int))]) (F:=fun(p,H,C,u,G)=>[As.os RR.key 41 2 C u G (H),As.map Key.val K8 (iF H)]) (I:=fun(p,H,C,u,G)=>(p≤v2)∧(rZ l rev k (ft J) H j p)∧(H[j]?=some U[j])∧True) (μ:=fun(p,H,C,u,G)=>v2 - p) (0,U,C,u,G) (O.p2.p2) Sub.t (⟨Nat.zero_le _,hB,ah Xn,trivial⟩)<|?_;rintro⟨p,H,C,u,G⟩ uy P ⟨hp,Qe,Kt,_⟩;simp only [CA,NA] at P hp Qe Kt ⊢;have ae3:=((As.gs P.g0)).len;have aaa:=Qe.le W;have hj4:j<H.length:=(List.getElem?_eq_some_iff.1 Kt).1;refine(bl) (fun Ku=>?_) fun Ku=>?_
  ·
   simp at Ku
   have yE:p<(ft J U[j]).length:=by omega
   obtain⟨x,Qb⟩:∃x,(ft J U[j])[p]=x:=⟨_,rfl⟩
   have Jt:(ft J U[j])[p]?=some x:=by rw [ah yE,Qb]
   refine dz ?_;obtain⟨UX,ae5,ae6,zc,aab,Dz,G9,Qf⟩:=Rd.at (As.gr P.g2) yE;have Dz:=RR.bp Dz;subst Dz;have Q:=P.fg Qf G9;rw [Qb] at G9 Q;refine nx ?_;refine WP .r (PV.ef fR zc rfl rfl (by omega))<|(bS) aq (As.mF Q.g0)<|(fF) Q fun b21 wY ae7 ae8 ij=>?_;refine(dH) gz ij fun C6 T6 T7 fb=>?_;refine(bS) aq fb.b0<|?_;refine WP .r (PV.jD cV jc IX (As.gm fb.g3) (vg H x) rfl rfl)<|(bl) (fun yy=>?_) fun yy=>?_
   ·
    have V:x∉H:=by simpa using yy
    refine WC.cz (m:=6) [] [5] [2,3,4,5,0,1] [(4,.sl 41 1 x.cells)] fb (av.k4 M0 M1 M3 M4<|av.k4 M5 M6 M7 M8<|av.cons M9<|av.nil) mixed (by kernel_rfl) (by kernel_rfl) rfl<|(qu) aq SV.g0<|?_;refine DG.side (s:=.sl 41 1 x.cells) rfl rfl rfl rfl rfl rfl (fun wx Zx Rx ux nj=>OX.bf (us:=x.cells) ey rfl rfl rfl rfl fun b wy nw hb=>⟨nw.ext.size,_,rfl,⟨b,rfl⟩,nj.dG nw hb⟩)<|?_;rintro _ ⟨Xp,rfl⟩;refine(gR) (fun C9 KX Ax eH mh=>?_);simp only [CA,NA] at eH;refine OX.oL qJ rfl rfl rfl (As.gs eH.g2) (SR.dU (A:=fun _=>True) (x:=x) (show bC _ Xp _ _ from eH.ok _ (.tail _ (.tail _ (.tail _ (.tail _ (.tail _ (.tail _ (.tail _ (.tail _ (.tail _ (.tail _ (mh _ (.head _))))))))))))) trivial rfl (by simp [Key.cells,Value.oneCell']) rfl) (by omega) (by omega) (Nat.zero_le _) fun Xq Qg Aw Qh Qi Qj aac=>?_;have gC:=eH.p2.gK Qi Qh Qj;refine⟨Qi.size,_,rfl,_,_,_,gC,aG.k4<|aG.k4<|aG.k2<|aG.nil,av.k4 M1 M2 M3 M4<|av.k4 M5 M6 M7 M8<|av.cons M9<|av.nil,?_⟩;refine(qu) aq SV.g0<|(lJ)<|?_;intro DH aad jr;simp only [CM,NM,CA,NA,iv.it] at jr;refine WL.go rfl (OX.put cV jc (As.gm jr.g4) rfl rfl rfl fun DI Xr Xs=>?_);have nq:=jr.p4.kM Xr Xs;refine nx ?_;refine WL.nil (EX.np ?_);have k9:=nq.rE (B:=As.map Key.val K8 (iF (H++[x]))) (by rw [vh _ V]);refine fE ?_;refine fJ (p+1,H++[x],Xq,(u+1),Qg) ⟨k9.p1.drop.p2.drop.p2.drop.p1,⟨by omega,Qe.add Z9 Kt Jt V,by rw [List.getElem?_append_left hj4];exact Kt,trivial⟩⟩
   have V:x∈H:=by simpa using yy
   refine eE ?_;refine fJ (p+1,H,C,u,G) ⟨fb.drop.drop,⟨by omega,Qe.has Kt Jt V,Kt,trivial⟩⟩
  simp at Ku
  refine hY ?_;refine fJ (j+1,H,C,u,G) ⟨P.p2.drop,⟨Qe.next Kt (by omega),trivial⟩⟩
 simp at J8
 have Xt:=fun {L'}=>hB.group (L':=L') W Z9 (show U.length≤j by omega);refine fE ?_;have Xu:=St.fresh T;have O:=T.dM (by omega);refine cm ?_;have P:=O;refine(c6) MO (qp P.e0 (As.gr P.g0) (List.ne_nil_of_mem hB.mem) hB.ju (by omega)) ?_;rintro _ uy ⟨o1,o2,o3,L9,rfl,hsl,QW,ze⟩;have Q:=St.lr P ze;have hL9:=Xt hsl QW;subst hL9;refine cv ?_;have Qk:St w M _ _ [As.os RR.key 41 2 o1 o2 o3 (aB l rev k)]:=(St.wk Q.k1);refine(bJ) ?_;exact⟨o1,o2,o3,rfl,Qk.Sf (fun _ h=>.inl (.inl h)) (Ow.z (As.gs Qk.g0))⟩
theorem qY(d:St w M Z w []) (f:bC w wb 86 (D.wc v rev ra rn rc)) (hm:KM Key.val w D.m ml) (g:cy l lf ml) (h:(As.dR 47 lf l).ok Z w) (i:∀r∈l,cn r.key) (j:l.length≤4000) (o:∀r∈l,r.reads.length≤4000):Calls prog 122 #[.pointer (some ⟨wb,0,none⟩),k.val] w fun e w'=>∃(a:Option Addr) (n c:Nat),e=.returned (.slice a n c)∧St w M Z w' [As.os RR.key 41 2 a n c (aB l rev k)]:=by
 refine enter func122 rfl ntmps122 rfl<|?_;have aM:=St.rb d;refine(dt) aM fun b2 w1 z B st1=>?_;refine(dt) st1 fun b3 w2 C E st2=>?_;refine(bS) aq st2.b0<|?_;refine WP .r (PV.func (us:=[]) (vs:=[.pointer (some ⟨b2,0,none⟩)]) rfl rfl)<|?_;have b:=st2;refine(c6) NK (uj (k:=k) b.e0 NL (fun w1 h1 y=>yz (bC.ext (As.gb b.g1) h1) (f.ext (aQ.trans (St.cg b) h1)) (hm.ext (aQ.trans (St.cg b) h1)) g (As.Sd h (aQ.trans (St.cg b) h1)) i y) j o) ?_;rintro _ w3 ⟨p,q,s,rfl,t⟩;have u:=St.lr b t;refine(bJ) ?_;exact⟨p,q,s,rfl,(St.wk u.p1.drop.p1.drop)⟩
theorem qc{group:List Key}{o:Option Addr}{g eg:Nat}(U:St w M Z w []) (V:bC w wb 86 (D.wc v rev ra rn rc)) (hm:KM Key.val w D.m ml) (W:cy l lf ml) (C:(As.dR 47 lf l).ok Z w) (z:Rd RR.key 2 A w o g eg group) (X:∀m∈group,∃r,ay l m=some r) (hb:∀i,((group.take i).flatMap fun m=>cA group m (aD l m).reads).length≤100000000):Calls prog 123 #[.pointer (some ⟨wb,0,none⟩),.slice o g eg] w fun e w'=>∃(a:Option Addr) (n c:Nat),e=.returned (.slice a n c)∧St w M Z w' [As.os RR.AG 167 4 a n c (bW l group)]:=by
 have hlen:=z.len;have hle:=z.le;refine enter func123 rfl ntmps123 rfl<|?_;have aM:=St.rb U;have st1:=aM.gx RR.AG 167 4;refine ba ?_;refine eE ?_;refine WC.bq (σ:=Nat × (List ob) × (Option Addr) × Nat × Nat) (cX:=fun(i,acc,d,b,f)=>[(0,.pointer (some ⟨wb,0,none⟩)),(1,.slice o g eg),(5,.slice d b f),(11,.slice o g eg),(12,.int .i64 (g:Int)),(13,.int .i64 (i:Int))]) (F:=fun(i,acc,d,b,f)=>[As.os RR.AG 167 4 d b f (acc)]) (I:=fun(i,acc,d,b,f)=>(i≤g)∧(acc=(group.take i).flatMap fun m=>cA group m (aD l m).reads)∧True) (μ:=fun(i,acc,d,b,f)=>g - i) (0,[],none,0,0) (st1) Sub.t (⟨by omega,by simp,trivial⟩)<|?_;rintro⟨i,acc,d,b,f⟩ w1 st2 ⟨hi,p,_⟩;simp only [CA,NA] at st2 hi p ⊢;refine(bl) (fun g14=>?_) fun g14=>?_
 ·
  simp at g14
  have E:i<group.length:=by omega
  refine dz ?_;obtain⟨jq,tw,pS,Y,jT,G,iL,iM⟩:=Rd.at z E;have G:=RR.bp G;subst G;refine nx ?_;refine WP .r (PV.ef fR Y rfl rfl (by omega))<|(bS) aq (aS iL (St.cg st2) (by simp))<|(fF) st2 fun b7 w2 TM TN ka=>?_;refine(dH) gz ka fun w3 oB qx O=>?_;refine cM ?_;obtain⟨r,hr⟩:=X _ (List.getElem_mem E);have hro:aD l group[i]=r:=aJ hr;have P:=(C.1 _ _ hr).2.1;have F3:=(C.1 _ _ hr).2.2;have Q:=O.fr (P.ext (St.cg O));have hqn:=P.len;have hN5:=Q.cu;refine WC.dS (m:=5) Q mixed<|cM ?_;refine DP .r (fun _ hC=>V1 dD (bC.range (V.ext (St.cg hC.2))) .r)<|(iN) aq St.g1<|(da)<|?_;rintro w4 ⟨F0,H⟩ _;refine WP .r (PV.bD cV dE db (hm.ext (St.cg H)) (W.yes hr) rfl rfl)<|(bl) (fun g24=>?_) fun g24=>?_
  ·
   exact cI g24
  refine(bF) eD (bC.range ((C.1 _ _ hr).1.ext (St.cg H)))<|dz ?_;refine WC.bq (σ:=Nat × (List ob) × (Option Addr) × Nat × Nat) (cX:=fun(j,h,d,b,f)=>[(0,.pointer (some ⟨wb,0,none⟩)),(1,.slice o g eg),(5,.slice d b f),(7,.pointer (some ⟨b7,0,none⟩)),(11,.slice o g eg),(12,.int .i64 (g:Int)),(13,.int .i64 (i:Int)),(28,.slice (lf group[i]).a (lf group[i]).n (lf group[i]).c),(29,.int .i64 ((lf group[i]).n:Int)),(30,.int .i64 (j:Int))]) (F:=fun(j,h,d,b,f)=>[As.os RR.AG 167 4 d b f (h)]) (I:=fun(j,h,d,b,f)=>(j≤(lf group[i]).n)∧(h=acc++cA group group[i] (r.reads.take j))∧True) (μ:=fun(j,h,d,b,f)=>(lf group[i]).n - j) (0,acc,d,b,f) (H.p2) Sub.t (⟨by omega,by simp [cA],trivial⟩)<|?_;rintro⟨j,h,d,b,f⟩ w5 q ⟨hj,s,_⟩;simp only [CA,NA] at q hj s ⊢;have y9:=((As.gs q.g0)).len;have hbi:=hb i;rw [← p] at hbi;have X5:=iX group group[i] (r.reads.take j)
  have htl:h.length≤100100000:=by rw [s,List.length_append];rw [List.length_take] at X5;omega
  refine(bl) (fun J=>?_) fun J=>?_
  ·
   simp at J
   have K:j<r.reads.length:=by omega
   refine dz ?_;obtain⟨Dn,Dp,Dq,mo,wK,L,nV,mr⟩:=Rd.at (As.gr q.g1) K;have L:=RR.bp L;subst L;have R:=q.fg mr nV;refine nx ?_;refine WP .r (PV.ef fR mo rfl rfl (by omega))<|(bS) aq (As.mF R.g0)<|(fF) R fun QR w6 FM FN oo=>?_;refine(dH) gz oo fun w7 Ap uV N=>?_;refine(bS) aq N.b0<|(eO) (nh (k:=r.reads[j]) (z.ext (St.cg N))) N fun w8 s8 B=>?_;refine(bl) (fun u=>?_) fun u=>?_
   ·
    simp at u
    have y:=ku (group:=group) (m:=group[i]) K;rw [if_neg u] at y;refine(bS) aq B.b4<|(bS) aq B.b0<|?_;refine WP .r (PV.bA (us:=(ob.mk group[i] r.reads[j]).cells) MA rfl rfl rfl)<|?_;refine WL.go rfl (OX.bf (us:=(ob.mk group[i] r.reads[j]).cells) ET rfl rfl rfl rfl fun b42 w9 Xv Xw=>?_);have T:=B.dG Xv Xw;refine WL.ap rfl rfl T.p3 (SR.dU (A:=fun _=>True) (x:=ob.mk group[i] r.reads[j]) (As.gb T.g0) trivial rfl (by simp [ob.cells,Value.oneCell']) rfl) fun a43 Xx oC aff afg gk=>?_;refine ho ?_;refine fJ (j+1,_,a43,(b+1),Xx) ⟨gk.p5.p5.p2.k3,⟨by omega,by rw [y,s,List.append_assoc],trivial⟩⟩
   simp at u
   have y:=ku (group:=group) (m:=group[i]) K;rw [if_pos u] at y;refine eE ?_;refine fJ (j+1,_,d,b,f) ⟨B.drop.drop,⟨by omega,by rw [y,s],trivial⟩⟩
  simp at J
  have Ql:r.reads.take j=r.reads:=List.take_of_length_le (by omega);refine mG ?_;refine fJ (i+1,h,d,b,f) ⟨q.p1.drop.p1.drop,⟨by omega,by rw [s,Ql,p,List.take_succ_eq_append_getElem E];simp only [List.flatMap_append,List.flatMap_cons,List.flatMap_nil,List.append_nil,hro],trivial⟩⟩
 simp at g14
 have Qm:group.take i=group:=List.take_of_length_le (by omega);rw [Qm] at p;subst p;refine(bJ) ?_;exact⟨_,_,_,rfl,(St.wk st2)⟩
theorem uk(hi:Rd RR.aC 4 Z w a1 n1 e1 x.ab):CR prog 215 #[.agg (x.row a1 n1 e1 a2 n2 e2).toArray,k.val] w (.int .i64 (aL x.ab k).changed):=by
 refine enter func215 rfl ntmps215 rfl<|?_;have aM:=St.s0 w;refine(dt) aM fun b2 w1 g h st1=>?_;refine(dt) st1 fun b3 w2 i j st2=>?_;refine(bS) cq st2.b1<|(bS) aq st2.b0<|(c6) Jd (je (k:=k) (hi.ext (St.cg st2))) ?_;rintro _ w3 ⟨y,rfl,_,b,d⟩;have e:=st2.step d;refine WP .r (PV.sM (fs:=[_,_,_]) (f:=2) (off:=3) (T:=88) underlying88 rfl rfl (show ∀w,(isAgg 3).run _ w=.ok false w from isAgg3) rfl rfl)<|(bJ) ?_;exact⟨by rw [← b],(St.cg e)⟩
theorem um{r:Rec}(i:St w M Z w [As.map Key.val S.m ml,As.map Key.val S.q [],As.blk wb 86 (D.wc S.s rev ra rn rc),As.map Key.val D.m cS,As.dR 47 lf l]) (j:(S.FV prog aa x0).p Z w) (o:Rd RR.aC 4 Z w D.a1 D.n1 D.c1 x0.ab) (hm:aR aa x0.ab ml) (t:cy l lf cS) (E:ao aa) (F:∀k,(valOf aa x0.ab k).size≤1000) (dF:ax k=true) (y:ay l k=none):Calls prog 162 #[.pointer (some ⟨wb,0,none⟩),k.val] w fun e w'=>∃b,e=.returned (.int .i64 (aP (valOf aa x0.ab) ⟨rev,x0.ab,l⟩ k))∧aR aa x0.ab b∧eP ml b∧St w M Z w' [As.map Key.val S.m b,As.map Key.val S.q [],As.blk wb 86 (D.wc S.s rev ra rn rc),As.map Key.val D.m cS,As.dR 47 lf l]:=by
 refine enter func162 rfl ntmps162 rfl<|?_;have aM:=i;have st1:=aM.fr o;have st2:=st1.fact (B:=As.fz (S.FV prog aa x0)) j (fun _ z=>z);refine(dt) st2 fun b3 w1 G H f=>?_;refine cv ?_;have I:=f.cu;refine WC.dS (m:=5) f mixed<|(kf) dD St.g5<|(iN) aq St.g0<|(da)<|?_;rintro w2 ⟨J,d⟩ _;refine WP .r (PV.jD cV dE db (As.gm d.g6) (t.no y) rfl rfl)<|(bS) aq d.b0<|?_;refine WL.c1 (u:=.bool true) (bM (k:=k)) (by rw [dF]) d fun w3 K g=>?_;refine cM ?_;refine WC.ki rfl<|nx ?_;have L:=g.cu;refine WC.dS (m:=5) g mixed<|(Bo) cq St.g5<|(iN) aq St.g0<|(da)<|?_;rintro w4 ⟨N,h⟩ _;refine(eO) (uk (x:=⟨rev,x0.ab,l⟩) (k:=k) (a2:=D.a2) (n2:=D.n2) (e2:=D.c2) (As.gr h.g2)) h fun w5 O C=>?_;refine(bJ) ?_;exact⟨ml,by rw [H3 dF],hm,eP.refl _,C.drop.drop.drop⟩
theorem uo{r:Rec}(i:St w M Z w [As.map Key.val S.m ml,As.map Key.val S.q [],As.blk wb 86 (D.wc S.s rev ra rn rc),As.map Key.val D.m cS,As.dR 47 lf l]) (o:(S.FV prog aa x0).p Z w) (t:Rd RR.aC 4 Z w D.a1 D.n1 D.c1 x0.ab) (hm:aR aa x0.ab ml) (y:cy l lf cS) (C:ao aa) (E:∀k,(valOf aa x0.ab k).size≤1000) (dF:ax k=false) (f:ay l k=none):Calls prog 162 #[.pointer (some ⟨wb,0,none⟩),k.val] w fun e w'=>∃b,e=.returned (.int .i64 (aP (valOf aa x0.ab) ⟨rev,x0.ab,l⟩ k))∧aR aa x0.ab b∧eP ml b∧St w M Z w' [As.map Key.val S.m b,As.map Key.val S.q [],As.blk wb 86 (D.wc S.s rev ra rn rc),As.map Key.val D.m cS,As.dR 47 lf l]:=by
 refine enter func162 rfl ntmps162 rfl<|?_;have aM:=i;have st1:=aM.fr t;have st2:=st1.fact (B:=As.fz (S.FV prog aa x0)) o (fun _ z=>z);refine(dt) st2 fun b3 w1 F G g=>?_;refine cv ?_;have H:=g.cu;refine WC.dS (m:=5) g mixed<|(kf) dD St.g5<|(iN) aq St.g0<|(da)<|?_;rintro w2 ⟨I,d⟩ _;refine WP .r (PV.jD cV dE db (As.gm d.g6) (y.no f) rfl rfl)<|(bS) aq d.b0<|?_;refine WL.c1 (u:=.bool false) (bM (k:=k)) (by rw [dF]) d fun w3 J h=>?_;refine cM ?_;refine WC.dw rfl<|(bl) (fun g21=>?_) fun g21=>?_
 ·
  refine fE ?_;refine WP .r (PV.ld1 (j:=1) aT h.b5 rfl rfl)<|(bJ) ?_;exact⟨ml,by rw [H4 dF f],hm,eP.refl _,h.drop.drop.drop⟩
 exact cI g21
theorem uq(y:St w M Z w [As.map Key.val S.m ml,As.map Key.val S.q [],As.blk wb 86 (D.wc S.s rev ra rn rc),As.map Key.val D.m cS,As.dR 47 lf l]) (z:(S.FV prog aa x0).p Z w) (C:Rd RR.aC 4 Z w D.a1 D.n1 D.c1 x0.ab) (hm:aR aa x0.ab ml) (E:cy l lf cS) (G:ao aa) (H:∀k,(valOf aa x0.ab k).size≤1000) (dF:ax k=false) (b:ay l k=some r) (h:r.ak=rev):Calls prog 162 #[.pointer (some ⟨wb,0,none⟩),k.val] w fun e w'=>∃f,e=.returned (.int .i64 (aP (valOf aa x0.ab) ⟨rev,x0.ab,l⟩ k))∧aR aa x0.ab f∧eP ml f∧St w M Z w' [As.map Key.val S.m f,As.map Key.val S.q [],As.blk wb 86 (D.wc S.s rev ra rn rc),As.map Key.val D.m cS,As.dR 47 lf l]:=by
 refine enter func162 rfl ntmps162 rfl<|?_;have aM:=y;have st1:=aM.fr C;have st2:=st1.fact (B:=As.fz (S.FV prog aa x0)) z (fun _ F=>F);refine(dt) st2 fun b3 w1 I J i=>?_;refine cv ?_;have K:=i.cu;refine WC.dS (m:=5) i mixed<|(kf) dD St.g5<|(iN) aq St.g0<|(da)<|?_;rintro w2 ⟨L,g⟩ _;refine WP .r (PV.bD cV dE db (As.gm g.g6) (E.yes b) rfl rfl)<|(bS) aq g.b0<|?_;refine WL.c1 (u:=.bool false) (bM (k:=k)) (by rw [dF]) g fun w3 N o=>?_;refine cM ?_;refine WC.dw rfl<|(bl) (fun g21=>?_) fun g21=>?_
 ·
  exact cI g21
 refine nx ?_;have O:=o.cu;refine WC.dS (m:=21) o mixed<|cM ?_;refine DP .r (fun _ d=>V1 aT (bC.range ((As.nJ d.2.g7).1 _ _ b).1) .r)<|cv ?_;refine DP .r (fun _ d=>PV.ld1 (j:=1) aT (bC.range (As.gb d.2.g5)) rfl rfl)<|DP .r (fun _ d=>(PV.Gf rfl rfl).cast (v':=.bool true) (congrArg Value.bool (decide_eq_true h)))<|(da) ?_;rintro w4 ⟨P,t⟩ _;refine dz ?_;refine WC.ki rfl<|(bF) aT (bC.range ((As.nJ t.g7).1 _ _ b).1)<|(bJ) ?_;exact⟨ml,by rw [H5 dF b h],hm,eP.refl _,t.drop.drop.drop⟩
theorem ur(K:St w M Z w [As.map Key.val S.m ml,As.map Key.val S.q [],As.blk wb 86 (D.wc S.s rev ra rn rc),As.map Key.val D.m cS,As.dR 47 lf l]) (L:(S.FV prog aa x0).p Z w) (N:Rd RR.aC 4 Z w D.a1 D.n1 D.c1 x0.ab) (hm:aR aa x0.ab ml) (O:cy l lf cS) (P:ao aa) (Q:∀k,(valOf aa x0.ab k).size≤1000) (dF:ax k=false) (b:ay l k=some r) (i:¬r.ak=rev) (hk:eV aa k):Calls prog 162 #[.pointer (some ⟨wb,0,none⟩),k.val] w fun e w'=>∃o,e=.returned (.int .i64 (aP (valOf aa x0.ab) ⟨rev,x0.ab,l⟩ k))∧aR aa x0.ab o∧eP ml o∧St w M Z w' [As.map Key.val S.m o,As.map Key.val S.q [],As.blk wb 86 (D.wc S.s rev ra rn rc),As.map Key.val D.m cS,As.dR 47 lf l]:=by
 refine enter func162 rfl ntmps162 rfl<|?_;have aM:=K;have st1:=aM.fr N;have st2:=st1.fact (B:=As.fz (S.FV prog aa x0)) L (fun _ R=>R);refine(dt) st2 fun b3 w1 V W F=>?_;refine cv ?_;have X:=F.cu;refine WC.dS (m:=5) F mixed<|(kf) dD St.g5<|(iN) aq St.g0<|(da)<|?_;rintro w2 ⟨Y,t⟩ _;refine WP .r (PV.bD cV dE db (As.gm t.g6) (O.yes b) rfl rfl)<|(bS) aq t.b0<|?_;refine WL.c1 (u:=.bool false) (bM (k:=k)) (by rw [dF]) t fun w3 s3 T=>?_;refine cM ?_;refine WC.dw rfl<|(bl) (fun g21=>?_) fun g21=>?_
 ·
  exact cI g21
 refine nx ?_;refine WC.cz (m:=21) [] [16] [0,1,2,3,4,5,6,7,8,9,10,11,12,13,14,15,16,17,18,19,20] [] T (av.k4 M0 M1 M2 M5<|av.cons M6<|av.cons M7<|av.nil) mixed (by kernel_rfl) (by kernel_rfl) rfl<|?_
 iterate 3 refine DG.a ?_
 refine DQ .r (fun y z C _ d f=>V1 aT (bC.range ((As.nJ (d.sv f).g5).1 _ _ b).1) .r)<|?_
 iterate 4 refine DG.a ?_
 refine DQ .r (fun y z C _ d f=>PV.ld1 (j:=1) aT (bC.range (As.gb (d.sv f).g3)) rfl rfl)<|DQ .r (fun y z C _ d f=>(PV.Gf rfl rfl).cast (v':=.bool false) (congrArg Value.bool (decide_eq_false i)))<|?_
 iterate 4 refine DG.a ?_
 refine(wW) sf SV.g3<|(qu) aq SV.g0<|(gR) (fun w4 afh aae G Xy=>?_);simp only [CA,NA] at G;have E:=G.p4.p4;refine OX.call y7 rfl rfl ((De P Q hk _ _ _ _ _ E.e2 (As.gf E.g3) hm (fun _=>iE.nil _)).mono ?_);rintro _ w5 ⟨dW,rfl,H,I,J⟩;have U:=St.lr E J;refine⟨_,rfl,J.cH.size,_,rfl,_,_,_,U,aG.k4<|aG.k4<|aG.nil,av.k4 M2 M3 M4 M5<|av.cons M6<|av.cons M7<|av.nil,?_⟩
 iterate 3 refine DG.a ?_
 refine DQ .r (fun y z C _ d f=>V1 e4 (bC.range ((As.nJ (d.sv f).g5).1 _ _ b).1) .r)<|(lJ)<|?_;intro w6 C4 g;simp only [CM,NM,CA,NA,iv.it] at g;refine cM ?_;refine WL.nil (EX.np ?_);refine(bl) (fun h=>?_) fun h=>?_
 ·
  simp at h
  refine(bF) aT (bC.range ((As.nJ g.g7).1 _ _ b).1)<|(bJ) ?_;exact⟨dW,by rw [yU dF b i,if_pos h],H,I,g.p2.drop.p2.drop.p2.drop⟩
 simp at h
 refine oa ?_;refine WP .r (PV.ld1 (j:=1) aT g.b5 rfl rfl)<|(bJ) ?_;exact⟨dW,by rw [yU dF b i,if_neg h],H,I,g.p2.drop.p2.drop.p2.drop⟩
theorem wS(b:St w M Z w [As.map Key.val S.m ml,As.map Key.val S.q [],As.blk wb 86 (D.wc S.s rev ra rn rc),As.map Key.val D.m cS,As.dR 47 lf l]) (d:(S.FV prog aa x0).p Z w) (f:Rd RR.aC 4 Z w D.a1 D.n1 D.c1 x0.ab) (hm:aR aa x0.ab ml) (g:cy l lf cS) (h:ao aa) (i:∀k,(valOf aa x0.ab k).size≤1000) (hk:eV aa k) (u:KR aa l):Calls prog 162 #[.pointer (some ⟨wb,0,none⟩),k.val] w fun e w'=>∃j,e=.returned (.int .i64 (aP (valOf aa x0.ab) ⟨rev,x0.ab,l⟩ k))∧aR aa x0.ab j∧eP ml j∧St w M Z w' [As.map Key.val S.m j,As.map Key.val S.q [],As.blk wb 86 (D.wc S.s rev ra rn rc),As.map Key.val D.m cS,As.dR 47 lf l]:=by
 cases dF:ax k with
 | true=>exact um (r:=jB) b d f hm g h i dF (u.aC dF)
 | false=>
  cases o:ay l k with
  | none=>exact uo (r:=jB) b d f hm g h i dF o
  | some r=>
   by_cases t:r.ak=rev
   ·
    exact uq b d f hm g h i dF o t
   exact ur b d f hm g h i dF o t hk
theorem tO{c:ob}(u:St w M Z w [As.map Key.val S.m ml,As.map Key.val S.q [],As.blk wb 86 (D.wc S.s rev ra rn rc),As.map Key.val D.m cS,As.dR 47 lf l]) (y:(S.FV prog aa x0).p Z w) (z:Rd RR.aC 4 Z w D.a1 D.n1 D.c1 x0.ab) (hm:aR aa x0.ab ml) (i:cy l lf cS) (C:ao aa) (E:∀k,(valOf aa x0.ab k).size≤1000) (hk:eV aa c.read) (F:KR aa l) (d:ay l c.eT=some r):Calls prog 124 #[.pointer (some ⟨wb,0,none⟩),.agg c.cells.toArray] w fun e w'=>∃f,e=.returned (.bool (BZ (valOf aa x0.ab) ⟨rev,x0.ab,l⟩ c))∧aR aa x0.ab f∧eP ml f∧St w M Z w' [As.map Key.val S.m f,As.map Key.val S.q [],As.blk wb 86 (D.wc S.s rev ra rn rc),As.map Key.val D.m cS,As.dR 47 lf l]:=by
 refine enter func124 rfl ntmps124 rfl<|?_;have aM:=u;have st1:=aM.fr z;have st2:=st1.fact (B:=As.fz (S.FV prog aa x0)) y (fun _ G=>G);refine(dt) st2 fun b3 w1 P Q H=>?_;refine cv ?_;refine WC.cz (m:=14) [] [3] [0,1,2,3,4,5,6,7,8,9,10,11,12,13] [] H (av.k4 M7 M6 M5 M2<|av.cons M1<|av.cons M0<|av.nil) mixed (by kernel_rfl) (by kernel_rfl) rfl<|?_
 iterate 2 refine DG.a ?_
 refine(AF) aq SV.g5<|(gR) (fun w2 R T j U=>?_);simp only [CA,NA] at j;have b:=j.p7.p7.p7.p7.p7;refine OX.call NR rfl rfl ((wS (k:=c.read) b.e5 (As.gf b.g6) (As.gr b.g7) hm i C E hk F).mono ?_);rintro _ w3 ⟨dW,rfl,I,J,o⟩;have K:=St.lr b o;refine⟨_,rfl,o.cH.size,_,rfl,_,_,_,K,aG.k4<|aG.k4<|aG.nil,av.k4 M4 M3 M2 M7<|av.cons M6<|av.cons M5<|av.nil,?_⟩
 iterate 3 refine DG.a ?_
 refine(wW) dD SV.g2<|(AF) aq SV.g5<|?_;refine DQ .r (fun L N O _ g h=>PV.bD cV dE db (As.gm (g.sv h).g1) (i.yes d) rfl rfl)<|?_
 iterate 2 refine DG.a ?_
 refine DQ .r (fun L N O _ g h=>V1 aT (bC.range ((As.nJ (g.sv h).g0).1 _ _ d).1) .r)<|(lJ)<|?_;intro w4 V t;simp only [CM,NM,CA,NA,iv.it] at t;refine cm ?_;refine WL.nil (EX.np ?_);refine(bJ) ?_;exact⟨dW,by unfold BZ;rw [aJ d],I,J,t.p5.drop.p5.drop.p5.drop⟩
theorem wT{Z:Nat→Prop}(d:bC w wb 86 (D.wc v rev ra rn rc)) (hm:KM Key.val w D.m ml) (e:cy l lf ml) (f:ay l k=none) (dF:ax k=true):CR prog 118 #[.pointer (some ⟨wb,0,none⟩),k.val] w (.bool true):=by
 refine enter func118 rfl ntmps118 rfl<|?_;have aM:=St.s0 w;refine(dt) aM fun b3 w1 i j st1=>?_;refine cv ?_;have o:=st1.cu;refine WC.dS (m:=5) st1 mixed<|cM ?_;refine DP .r (fun _ b=>V1 dD (bC.range (d.ext (St.cg b.2))) .r)<|(iN) aq St.g0<|(da)<|?_;rintro w2 ⟨p,st2⟩ _;refine WP .r (PV.jD cV dE db (hm.ext (St.cg st2)) (e.no f) rfl rfl)<|cv ?_;have q:=st2.cu;refine WC.dN (m:=15) (E:=cO [(1,fun v _=>v=.bool true)]) st2 (ca (⟨fun _ _ _ _ _ _ _ h=>h,trivial⟩)) mixed (by kernel_rfl)<|(iN) aq St.g0<|?_;refine DW.c1 (u:=.bool true) (fun s b t=>bM (k:=k)) (by rw [dF])<|?_;refine ba ?_;refine(da) ?_;rintro w3 ⟨y,g⟩ ⟨_,_⟩;refine(bJ) ?_;exact⟨rfl,(St.cg g)⟩
theorem wU{Z:Nat→Prop}(d:bC w wb 86 (D.wc v rev ra rn rc)) (hm:KM Key.val w D.m ml) (e:cy l lf ml) (f:ay l k=none) (dF:ax k=false):CR prog 118 #[.pointer (some ⟨wb,0,none⟩),k.val] w (.bool false):=by
 refine enter func118 rfl ntmps118 rfl<|?_;have aM:=St.s0 w;refine(dt) aM fun b3 w1 i j st1=>?_;refine cv ?_;have o:=st1.cu;refine WC.dS (m:=5) st1 mixed<|cM ?_;refine DP .r (fun _ b=>V1 dD (bC.range (d.ext (St.cg b.2))) .r)<|(iN) aq St.g0<|(da)<|?_;rintro w2 ⟨p,st2⟩ _;refine WP .r (PV.jD cV dE db (hm.ext (St.cg st2)) (e.no f) rfl rfl)<|cv ?_;have q:=st2.cu;refine WC.dN (m:=15) (E:=cO [(1,fun v _=>v=.bool false)]) st2 (ca (⟨fun _ _ _ _ _ _ _ h=>h,trivial⟩)) mixed (by kernel_rfl)<|(iN) aq St.g0<|?_;refine DW.c1 (u:=.bool false) (fun s b y=>bM (k:=k)) (by rw [dF])<|cv ?_;refine DW.bX (t:=17) rfl (fun g17=>?_) (fun g17=>?_)
 ·
  exact cI g17
 refine(da) ?_;rintro w3 ⟨z,g⟩ ⟨_,_⟩;refine(bJ) ?_;exact⟨rfl,(St.cg g)⟩
theorem wV(d:bC w wb 86 (D.wc v rev ra rn rc)) (hm:KM Key.val w D.m ml) (f:cy l lf ml) {r:Rec}(g:(As.dR 47 lf l).ok Z w) (e:ay l k=some r) (dF:ax k=false):CR prog 118 #[.pointer (some ⟨wb,0,none⟩),k.val] w (.bool (decide (r.ak=rev))):=by
 refine enter func118 rfl ntmps118 rfl<|?_;have aM:=St.s0 w;refine(dt) aM fun b3 w1 o p st1=>?_;refine cv ?_;have q:=st1.cu;refine WC.dS (m:=5) st1 mixed<|cM ?_;refine DP .r (fun _ b=>V1 dD (bC.range (d.ext (St.cg b.2))) .r)<|(iN) aq St.g0<|(da)<|?_;rintro w2 ⟨s,st2⟩ _;refine WP .r (PV.bD cV dE db (hm.ext (St.cg st2)) (f.yes e) rfl rfl)<|cv ?_;have y:=st2.cu;refine WC.dN (m:=15) (E:=cO [(1,fun v _=>v=.bool false)]) st2 (ca (⟨fun _ _ _ _ _ _ _ h=>h,trivial⟩)) mixed (by kernel_rfl)<|(iN) aq St.g0<|?_;refine DW.c1 (u:=.bool false) (fun z b B=>bM (k:=k)) (by rw [dF])<|cv ?_;refine DW.bX (t:=17) rfl (fun g17=>?_) (fun g17=>?_)
 ·
  refine cM ?_;refine DP .r (fun _ b=>V1 aT (bC.range ((g.1 _ _ e).1.ext (St.cg b.2))) .r)<|cv ?_;refine DP .r (fun _ b=>PV.ld1 (j:=1) aT (bC.range (d.ext (St.cg b.2))) rfl rfl)<|(da)<|?_;rintro w3 ⟨C,i⟩ ⟨_,_⟩;refine(bJ) ?_;exact⟨rfl,(St.cg i)⟩
 exact cI g17
theorem yo{aC:List bG}(d:bC w wb 86 (D.wc v rev ra rn rc)) (hm:KM Key.val w D.m ml) (f:cy l lf ml) (g:(As.dR 47 lf l).ok Z w) (h:KR aa l):CR prog 118 #[.pointer (some ⟨wb,0,none⟩),k.val] w (.bool (ax k || aA ⟨rev,aC,l⟩ k)):=by
 cases dF:ax k with
 | true=>exact wT (Z:=Z) d hm f (h.aC dF) dF
 | false=>
  cases b:ay l k with
  | none=>
   have e:aA ⟨rev,aC,l⟩ k=false:=by unfold aA;rw [show(bZ.mk rev aC l).ai=l from rfl,b];rfl
   rw [e];exact wU (Z:=Z) d hm f b dF
  | some r=>
   have e:aA ⟨rev,aC,l⟩ k=decide (r.ak=rev):=by unfold aA;rw [show(bZ.mk rev aC l).ai=l from rfl,b,aJ b];rfl
   rw [e];exact wV d hm f g b dF
set_option maxHeartbeats 1600000 in
theorem tY{ar:Option Addr}{r cr:Nat}(gV:St w M Z w []) (ht:kb prog Z w) (hu:Rd RR.eU 4 Z w ar r cr aa) (F1:Rd RR.aC 4 Z w a1 n1 e1 x.ab) (hr:Rd RR.iz 8 Z w a2 n2 e2 x.ai) (h6:x.ai.length≤4000) (h7:x.ab.length≤4000) (hS:lk x.ai):Calls prog 32 #[.slice ar r cr,.agg (x.row a1 n1 e1 a2 n2 e2).toArray] w fun e w'=>∃(D:WD) (S:SD) (wb:Nat) (lf:Key→RL) (ml:List (Key × Value)) (Z':Nat→Prop),e=.returned (.pointer (some ⟨wb,0,none⟩))∧cy x.ai lf ml∧eI w.heap.size Z Z'∧(S.FV prog aa x).p Z' w'∧Rd RR.aC 4 Z' w' D.a1 D.n1 D.c1 x.ab∧Rd RR.eU 4 Z' w' D.ar D.r D.cr aa∧St w M Z' w' [As.map Key.val S.m [],As.map Key.val S.q [],As.blk wb 86 (D.wc S.s x.ad none 0 0),As.map Key.val D.m ml,As.dR 47 lf x.ai]:=by
 refine enter func32 rfl ntmps32 rfl<|?_;have aM:=gV;have st1:=aM.fr hu;have st2:=st1.fr F1;have ka:=st2.fr hr;have jW:=ka.fact (B:=As.fz (FZ.LP prog)) ht (fun _ E=>E);refine(dt) jW fun b3 w1 Ui KP mf=>?_;refine cv ?_;refine WC.cz (m:=7) [] [2,6] [1,2,4,5,6,0,3] [(3,.map)] mf (av.k4 M0 M1 M2 M3<|av.cons M4<|av.nil) mixed (by kernel_rfl) (by kernel_rfl) rfl<|(qu) cq SV.g0<|(gR) (fun w2 R2x Wm N Pz=>?_);simp only [CA,NA] at N;have g:=N;refine OX.call S5 rfl rfl ((pX (x:=x) g.e0 (As.gr g.g3) (As.gr g.g2) (by omega) (by omega)).mono ?_);rintro _ w3 ⟨f1,f2,f3,f4,f5,f6,Z1,rfl,O,o⟩;have G:=St.lv g o O;have hgr:=St.gg o.p1;have WA:=St.gg o;have u:=g.size;have J6:=O.le u;have zN:f5=x.ai.length:=((As.gs G.g1)).len;have afj:f2=x.ab.length:=((As.gs G.g0)).len;have oo:=G.p1.dM (by omega);have gj:=oo.p1.dM (by omega);have VG:=(J6.trans (eI.uS (F:=fun x=>x∈bN f4) hgr) u).trans (eI.uS (F:=fun x=>x∈bN f1) WA) u;refine⟨_,rfl,o.cH.size,_,rfl,_,_,_,gj,aG.k4<|aG.k2<|aG.cons<|aG.nil,av.k4 M2 M3 M4 M5<|av.cons M6<|av.nil,?_⟩;refine(qu) cq SV.g0<|(gR) (fun w4 Uy JM P Dc=>?_);simp only [CA,NA] at P;have H:=P;refine OX.call Ts rfl rfl ((vW (x:=x) H.e0).mono ?_);rintro _ w5 ⟨d1,d2,d3,rfl,J⟩;have gk:=St.lr H J;have Q3:=St.gg J;have Xz:=H.size;have d:=gk;have ee:=d.freeze (B:=As.fz (SD.FV (⟨ar,a1,a2,r,cr,n1,e1,n2,e2,d2,d3,d1⟩:SD) prog aa x)) ⟨(SD.F (⟨ar,a1,a2,r,cr,n1,e1,n2,e2,d2,d3,d1⟩:SD) prog aa x).mono (fun _ h=>.inl h) ⟨(As.gr d.g9),(As.gr d.g8),(As.gr d.g7),(As.gf d.g6)⟩,.inr rfl,((As.gb d.g0)).lt,bC.range (As.gb d.g0)⟩ (fun _ E=>E);have qz:=VG.trans (eI.uS (F:=fun x=>x=d1) Q3) Xz;refine⟨_,rfl,J.cH.size,_,rfl,_,_,_,ee,aG.k4<|aG.k4<|aG.k2<|aG.nil,av.k4 M5 M6 M7 M8<|av.cons M9<|av.nil,?_⟩;refine DG.a<|?_;refine DG.side (s:=.map) rfl rfl rfl rfl rfl rfl (fun wx Zx Rx ux nj=>OX.makeMap Key.val rfl fun b wy Q hb=>⟨Q.ext.size,_,rfl,⟨b,rfl⟩,nj.Hp Q hb⟩)<|?_;rintro _ ⟨K,rfl⟩;refine(lJ) ?_;intro w6 u R;simp only [CM,NM,CA,NA,iv.it] at R;refine WP .r (PV.bA (us:=(WD.wc ⟨ar,f1,f4,r,cr,f2,f3,f5,f6,K,d1⟩ d1 x.ad none 0 0)) SC rfl rfl rfl)<|(dt) R fun T w7 VN VO U=>?_;refine nx ?_;refine WL.nil (EX.np ?_);refine ho ?_;refine WP .r (PV.ld1 (j:=3) iH U.b0 rfl rfl)<|dz ?_;have V:Key→RL:=fun _=>⟨0,none,0,0⟩;have eG:=St.Se U 47 V;refine WC.bq (σ:=Nat × (Key→RL) × (List (Key × Value))) (cX:=fun(i,lf,ml)=>[(5,.pointer (some ⟨T,0,none⟩)),(21,.slice f4 f5 f6),(22,.int .i64 (f5:Int)),(23,.int .i64 (i:Int))]) (F:=fun(i,lf,ml)=>[As.map Key.val K ml,As.dR 47 lf (x.ai.take i)]) (I:=fun(i,lf,ml)=>(i≤x.ai.length)∧(cy (x.ai.take i) lf ml)∧True) (μ:=fun(i,lf,ml)=>x.ai.length - i) (0,V,[]) (eG.p2) Sub.t (⟨Nat.zero_le _,cy.nil _,trivial⟩)<|?_;rintro⟨i,lf,ml⟩ w8 z ⟨hi,C,_⟩;simp only [CA,NA] at z hi C ⊢;refine(bl) (fun g24=>?_) fun g24=>?_
 ·
  simp at g24
  have L:i<x.ai.length:=by omega
  have W:∀y,ay (x.ai.take (i+1)) y=if y=x.ai[i].key then some x.ai[i] else ay (x.ai.take i) y:=fun y=>by rw [List.take_succ_eq_append_getElem L];exact xR (hS.ne L) y
  refine dz ?_;obtain⟨jq,tw,pS,fy,jT,mn,iL,iM⟩:=Rd.at (As.gr z.g7) L;obtain⟨q1,X,Y,rfl,QQ,Og⟩:=mn;have f:=z.fg iM iL;have gl:=f.fr QQ;refine nx ?_;refine WP .r (PV.ef jQ fy rfl rfl (by omega))<|(bS) dV (As.mF gl.g1)<|(fF) gl fun b7 w9 TM TN ig=>?_;refine(dH) iK ig fun oC oB qx fY=>?_;refine cm ?_;have hN5:=fY.cu;refine WC.dS (m:=6) fY mixed<|(kf) dD St.g5<|(Bo) aq St.g0<|(da)<|?_;rintro qy ⟨F0,ij⟩ _;refine WL.go rfl (OX.put cV dE (As.gm ij.g3) rfl rfl rfl fun uy Df yn=>?_);have fb:=ij.p3.kM Df yn;refine cM ?_;have eH:=fb.p4.p2;have gC:=St.tb (q:=⟨b7,q1,X,Y⟩) eH (As.gr eH.g3) Og W;refine cv ?_;refine fJ (i+1,_,_) ⟨gC.p2.drop.p2.drop.p1,⟨by omega,C.put (q:=⟨b7,q1,X,Y⟩) W,trivial⟩⟩
 simp at g24
 have hie:x.ai.take i=x.ai:=List.take_of_length_le (by omega);rw [hie] at C;have f:=z.p1.rE (B:=As.dR 47 lf x.ai) (by rw [hie]);refine(bJ) ?_;exact⟨⟨ar,f1,f4,r,cr,f2,f3,f5,f6,K,d1⟩,(⟨ar,a1,a2,r,cr,n1,e1,n2,e2,d2,d3,d1⟩:SD),T,lf,ml,_,rfl,C,qz,(As.gf f.g3),(As.gr f.g6),(As.gr f.g12),f.p3.drop.p5.drop.p5.drop.p5.drop.p5.drop.p5.drop.p5.drop.p5.drop.p1.p2.p4.p4⟩
end Go.Rc

