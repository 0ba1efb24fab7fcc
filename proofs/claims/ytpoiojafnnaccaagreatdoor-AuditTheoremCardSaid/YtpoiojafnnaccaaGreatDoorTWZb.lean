/- Walks over the program, part WZb. Conditions: as each theorem says. -/
import Derived.Test.YtpoiojafnnaccaaGreatDoorTFacts
import Derived.Test.YtpoiojafnnaccaaGreatDoorTWY
import Derived.Test.YtpoiojafnnaccaaGreatDoorTWF
import Derived.Test.YtpoiojafnnaccaaGreatDoorTBf
import Derived.Test.YtpoiojafnnaccaaGreatDoorTBh
set_option linter.all false
namespace Go.Rc
open Go Go.Proofs Go.Proofs.Tryz
variable {ab:List aJ}{x:dT}{ar a1 a2:Option Addr}{r cr n1 e1 n2 e2 i:Nat}{w:World}{A Z M:Nat→Prop}{k:Key}{y:Rec}
set_option maxHeartbeats 400000
theorem sF(hu:iB A w ar r cr ab) (mF:Rd RR.aH 4 Z w a1 n1 e1 x.ah) (hr:Rd RR.ff 8 Z w a2 n2 e2 x.ao) (hR:ay ab) (hx:jM ab x):CR prog 47 #[.slice ar r cr,.agg (x.row a1 n1 e1 a2 n2 e2).toArray,.slice none 0 0] w (.int .i64 0):=by
 refine enter func47 rfl ntmps47 rfl<|?_;have aW:=St.s0 w;refine(ef) aW fun b3 w1 gO dB st1=>?_;refine(ef) st1 fun b4 w2 jE bM st2=>?_;refine gp ?_;refine WP .r (PV.pT nQ st2.b1 rfl rfl)<|(gg) (n9 (hu.ext (St.cg st2)) hR) st2 fun w3 s3 aP=>?_;refine dC ?_;refine WC.gT rfl<|(bA) aM aP.b0<|(gg) (lW (mF.ext (St.cg aP)) (hr.ext (St.cg aP)) hx) aP fun w4 s4 aU=>?_;refine dC ?_;refine WC.gT rfl<|(br) (fun g15=>?_) fun g15=>?_
 ·
  exact gw g15
 refine dy ?_;refine WP .r (PV.func (us:=[]) (vs:=[.pointer (some ⟨b3,0,none⟩)]) rfl rfl)<|(gg) (wo) aU fun w5 s5 aY=>?_;refine dy ?_;refine WC.gT rfl<|(cj) ?_;exact⟨rfl,(St.cg aY)⟩
theorem Dr(bF:St w M Z w []) (hr:Rd RR.ff 8 Z w a2 n2 e2 x.ao) (gk:aB k=false) (hf:aD x.ao k=some y) (hv:y.az=x.ae):Calls prog 45 #[.agg (x.row a1 n1 e1 a2 n2 e2).toArray,k.val] w fun e w'=>e=.returned (.tuple #[.string y.value,.bool true])∧St w M Z w' []:=by
 have EC:aG x.ao k=y:=by unfold aG;rw [hf];rfl
 refine enter func45 rfl ntmps45 rfl<|?_;have aW:=bF;have st1:=aW.fr hr;refine(ef) st1 fun b2 w1 lA eZ st2=>?_;refine(ef) st2 fun b3 w2 gO dB aP=>?_;refine(bA) av aP.b0<|?_;refine WL.c1 (u:=.bool false) (dF (k:=k)) (by rw [gk]) aP fun w3 s3 aU=>?_;refine cV ?_;refine WC.gT rfl<|(bO) eN aU.b1<|(bA) av aU.b0<|?_;have aY:=aU;refine(cW) YT (qD (k:=k) aY.e0 (As.gr aY.g2)) ?_;rintro _ w4 ⟨f1,f2,f3,rfl,_,fE⟩;have bj:=St.lr aY fE;rw [EC,hf];refine(fU) bj fun b6 w5 mY eO bP=>?_;refine(dA) gJ bP fun w6 jv jC bQ=>?_;refine ew ?_;refine WC.fF (t:=28) (v:=.bool false) bQ ?_<|?_
 ·
  refine(dW) (fun g22=>?_) (fun g22=>?_)
  ·
   exact(dq) (by first | (simp [hv];done) | rfl | (simp only [g22];done) | (simp only [g22];rfl) | (simp [g22];done) | (simp;done) | (simp at g22 ⊢ <;> omega) | (simp <;> omega) | (simp [g22] <;> omega) | (simp at g22 <;> omega)) (bQ)
  refine(bO) aZ bQ.b0<|(bO) aZ bQ.b3<|?_;exact(dq) (by first | (simp [hv];done) | rfl | (simp only [g22];done) | (simp only [g22];rfl) | (simp [g22];done) | (simp;done) | (simp at g22 ⊢ <;> omega) | (simp <;> omega) | (simp [g22] <;> omega) | (simp at g22 <;> omega)) (bQ)
 intro w7 bV;refine(br) (fun iG=>?_) fun iG=>?_
 ·
  exact gw iG
 refine(bO) iq bV.b0<|(CH) ?_;exact⟨rfl,bV.k0⟩
def Rw:Nat→FuncId
 | 0=>59
 | 1=>60
 | 2=>61
 | 3=>62
 | _=>63
theorem UM(V:Value) {j:Nat}(hj:j<5):([.func (.func 59) #[V] #[],.func (.func 60) #[V] #[],.func (.func 61) #[V] #[],.func (.func 62) #[V] #[],.func (.func 63) #[V] #[]]:List Value)[j]?=some (.func (.func (Rw j)) #[V] #[]):=
 match j,hj with
 | 0,_=>rfl
 | 1,_=>rfl
 | 2,_=>rfl
 | 3,_=>rfl
 | 4,_=>rfl
theorem UN(j:Nat):CF prog (Rw j):=by
 unfold Rw
 split
 ·
  exact akg
 ·
  exact akh
 ·
  exact aki
 ·
  exact akj
 exact akk
theorem Gn{S:SD}{b1 b2:Option Addr}{p1 g1 p2 g2 wb:Nat}{a:Option Addr}{n c:Nat}{ml:List (Key × Value)}{D:WD}{mO:List (Key × Value)}{bs:List Nat}{q:Nat}(bF:St w M Z w [As.map Key.val S.m ml,As.map Key.val S.q [],As.blk wb 154 (D.cells x),As.map Key.val D.m mO,As.fz (D5 60 x.ao bs)]) (hf:(S.FV prog ab x).p Z w) (hm:bd ab x.ah ml) (hR:ay ab) (hS:∀k,(valOf ab x.ah k).size≤1000) (XA:Rd RR.ff 8 Z w b2 p2 g2 x.ao) (oR:Rd RR.key 2 Z w a n c y.reads) (hn4:y.reads.length≤4000) (hx:jM ab x) (j8:∀y∈x.ao,y.az=x.ae) (xT:oQ x.ao bs mO) (hq:x.ao[q]?=some y) (j:Nat):Calls prog (Rw j) #[.agg ([Value.int .i64 x.ae,.slice b1 p1 g1,.slice b2 p2 g2,.pointer (some ⟨S.s,0,none⟩),.pointer (some ⟨wb,0,none⟩)]:List Value).toArray,.agg (y.row a n c).toArray] w fun e w'=>∃ed,e=.returned (.bool (rZ ab x.ah j y))∧bd ab x.ah ed∧iJ ml ed∧St w M Z w' [As.map Key.val S.m ed,As.map Key.val S.q [],As.blk wb 154 (D.cells x),As.map Key.val D.m mO,As.fz (D5 60 x.ao bs)]:=by
 have hy:=List.mem_of_getElem? hq;have hv:=j8 y hy;obtain⟨hk,gk,xm,_⟩:=hx.2.2.2.2.2.1 y hy
 have two:∀(f:FuncId) (b:Bool),(Calls prog f #[.agg ([Value.int .i64 x.ae,.slice b1 p1 g1,.slice b2 p2 g2,.pointer (some ⟨S.s,0,none⟩),.pointer (some ⟨wb,0,none⟩)]:List Value).toArray,.agg (y.row a n c).toArray] w fun e w'=>∃ed,e=.returned (.bool b)∧bd ab x.ah ed∧iJ ml ed∧St w (rF [As.map Key.val S.m ml,As.map Key.val S.q []]) Z w' [As.map Key.val S.m ed,As.map Key.val S.q []])→Calls prog f #[.agg ([Value.int .i64 x.ae,.slice b1 p1 g1,.slice b2 p2 g2,.pointer (some ⟨S.s,0,none⟩),.pointer (some ⟨wb,0,none⟩)]:List Value).toArray,.agg (y.row a n c).toArray] w fun e w'=>∃ed,e=.returned (.bool b)∧bd ab x.ah ed∧iJ ml ed∧St w M Z w' [As.map Key.val S.m ed,As.map Key.val S.q [],As.blk wb 154 (D.cells x),As.map Key.val D.m mO,As.fz (D5 60 x.ao bs)]:=fun f b h=>h.mono fun e w4 ⟨fm,he,jf,fT,h4⟩=>by
  have h5:=St.leave (l0:=[_,_]) bF h4 (cQ.refl _ _);simp only [List.cons_append,List.nil_append] at h5;exact⟨fm,he,jf,fT,h5⟩
 have none_:∀(f:FuncId) (b:Bool),(Calls prog f #[.agg ([Value.int .i64 x.ae,.slice b1 p1 g1,.slice b2 p2 g2,.pointer (some ⟨S.s,0,none⟩),.pointer (some ⟨wb,0,none⟩)]:List Value).toArray,.agg (y.row a n c).toArray] w fun e w'=>e=.returned (.bool b)∧bm [] w w')→Calls prog f #[.agg ([Value.int .i64 x.ae,.slice b1 p1 g1,.slice b2 p2 g2,.pointer (some ⟨S.s,0,none⟩),.pointer (some ⟨wb,0,none⟩)]:List Value).toArray,.agg (y.row a n c).toArray] w fun e w'=>∃ed,e=.returned (.bool b)∧bd ab x.ah ed∧iJ ml ed∧St w M Z w' [As.map Key.val S.m ed,As.map Key.val S.q [],As.blk wb 154 (D.cells x),As.map Key.val D.m mO,As.fz (D5 60 x.ao bs)]:=fun f b h=>h.mono fun e w4 ⟨he,h4⟩=>⟨ml,he,hm,iJ.refl _,bF.step h4⟩
 match j with
 | 0=>exact two _ _ (Cm bF.e2 hf hm hR hS hk hv)
 | 1=>
  obtain⟨i,hi,oi⟩:∃i:Nat,i<ab.length∧y.key=aS ab (i:Int):=by
   generalize hky:y.key=k at hk gk
   cases hk with
   | cell h=>rw [dj h] at gk;cases gk
   | gx h _=>exact⟨_,h,rfl⟩
  exact two _ _ (Cn bF.e2 hf hm hR hS hi oi hv oR)
 | 2=>exact none_ _ true (Cp (ab:=ab) (x:=x) (M:=fun _=>False) (Z:=Z) (St.start (fun x hx=>bF.mx x hx)) XA j8 hv oR xm)
 | 3=>exact Dq bF hf hm hR hS hk gk hv xT hq
 | j+4=>exact none_ _ _ (Dn oR.len (by rw [oR.len];exact hn4))
set_option maxHeartbeats 1600000 in
theorem sG(bF:St w M Z w []) (ht:oj prog Z w) (hu:Rd RR.gx 4 Z w ar r cr ab) (mF:Rd RR.aH 4 Z w a1 n1 e1 x.ah) (hr:Rd RR.ff 8 Z w a2 n2 e2 x.ao) (hR:ay ab) (hx:jM ab x) (hS:∀k,(valOf ab x.ah k).size≤1000) (j8:∀y∈x.ao,y.az=x.ae):Calls prog 26 #[.slice ar r cr,.agg (x.row a1 n1 e1 a2 n2 e2).toArray] w fun e w'=>∃(a:Option Addr) (n c:Nat) (Z':Nat→Prop),e=.returned (.tuple #[.slice a n c,.int .i64 0])∧cQ w.heap.size Z Z'∧St w M Z' w' [As.os RR.int 3 1 a n c (gZ ab x.ah x.ao 5)]:=by
 have J5:=hr.len;have UO:=hx.2.2.2.2.2.2.2.1;refine enter func26 rfl ntmps26 rfl<|?_;have aW:=bF;have st1:=aW.fr hu;have st2:=st1.fr mF;have aP:=st2.fr hr;have aU:=aP.fact (B:=As.fz (FZ.JG prog)) ht (fun _ hx=>hx);have aY:=aU.fc RR.int 3 1;refine(ef) aY fun b3 w1 gO dB bj=>?_;refine(bA) aM bj.b0<|(gg) (sF (As.gr bj.g5) (As.gr bj.g4) (As.gr bj.g3) hR hx) bj fun w2 s2 bP=>?_;refine(br) (fun g17=>?_) fun g17=>?_
 ·
  exact gw g17
 refine dy ?_;refine WC.df (m:=9) [] [3,6] [1,2,3,4,5,6,0,7,8] [(8,.blk 123 [.int .i64 0,.slice none 0 0,.slice none 0 0,.pointer none,.pointer none])] bP (ax.k4 M0 M1 M2 M3<|ax.cons M4<|ax.cons M5<|ax.nil) mixed (by kernel_rfl) (by kernel_rfl) rfl<|(nj) aM SV.g0<|(jg) (fun w3 Sp Dj bQ tX=>?_);simp only [CA,NA] at bQ;have bV:=bQ;refine OX.call Qy rfl rfl ((mq (x:=x) bV.e0).mono ?_);rintro _ w4 ⟨d1,d2,d3,rfl,fE⟩;have aL:=St.lr bV fE;have hgv:=St.cH fE;have UP:=bV.size;refine⟨_,rfl,fE.cT.size,_,rfl,_,_,_,aL,aA.k4<|aA.k4<|aA.cons<|aA.nil,ax.k4 M3 M4 M5 M6<|ax.cons M7<|ax.cons M8<|ax.nil,?_⟩;refine(nj) aM SV.g0<|(jg) (fun w5 Wn I4 aQ sD=>?_);simp only [CA,NA] at aQ;have aV:=aQ;refine OX.call adW rfl rfl ((Gl (x:=x) aV.e0 (As.gr aV.g7) (As.gr aV.g6) hx.2.2.2.2.2.2.2.1 (Nat.le_trans hx.2.2.2.2.1 (by decide)) hx.2.2.2.2.2.2.1).mono ?_);rintro _ w6 ⟨D,wb,bs,mO,Z1,rfl,xT,gQ,mE⟩;have bD:=St.lv aV mE gQ;have oZ:=gQ.le aV.size;refine⟨_,rfl,mE.cT.size,_,rfl,_,_,_,bD,aA.k4<|aA.k4<|aA.k4<|aA.nil,ax.k4 M6 M7 M8 M9<|ax.cons lH<|ax.cons my<|ax.nil,?_⟩;refine(nj) aM SV.g0<|?_;refine DQ .r (fun wx Zx Rx _ fV l5=>PV.cD (us:=[Value.int .i64 x.ae,.slice a1 n1 e1,.slice a2 n2 e2,.pointer (some ⟨d1,0,none⟩),.pointer (some ⟨wb,0,none⟩)]) ads rfl rfl rfl)<|?_;refine DG.side (s:=.blk 123 [.int .i64 0,.slice none 0 0,.slice none 0 0,.pointer none,.pointer none]) rfl rfl rfl rfl rfl rfl (fun wx Zx Rx Cc fV=>OX.alloc adF rfl fun b wy nw hb=>⟨nw.ext.size,_,rfl,⟨b,rfl⟩,fV.fb nw hb⟩)<|?_;rintro _ ⟨b7,rfl⟩;refine(nk) ?_;intro w7 lB bp;simp only [CM,NM,CA,NA,kL.it] at bp;refine(dA) adA bp fun w8 jv jC ba=>?_;refine WL.nil (EX.np ?_);refine cV ?_;have aX:=ba.p4;have bN:=aX.freeze (B:=As.fz (SD.FV (⟨ar,a1,a2,r,cr,n1,e1,n2,e2,d2,d3,d1⟩:SD) prog ab x)) ⟨(SD.F (⟨ar,a1,a2,r,cr,n1,e1,n2,e2,d2,d3,d1⟩:SD) prog ab x).mono (fun _ h=>.inl h) ⟨(As.gr aX.g12),(As.gr aX.g11),(As.gr aX.g10),(As.gf aX.g9)⟩,.inr rfl,((As.gb aX.g0)).lt,cI.range (As.gb aX.g0)⟩ (fun _ hx=>hx);have kZ:=oZ.trans (cQ.fo (F:=fun x=>x=d1) hgv) UP;refine(bA) nP bN.b1<|?_;refine WP .r (PV.func (us:=[.agg ([Value.int .i64 x.ae,.slice a1 n1 e1,.slice a2 n2 e2,.pointer (some ⟨d1,0,none⟩),.pointer (some ⟨wb,0,none⟩)]).toArray]) (vs:=[]) rfl rfl)<|(bA) nP bN.b1<|?_;refine WP .r (PV.func (us:=[.agg ([Value.int .i64 x.ae,.slice a1 n1 e1,.slice a2 n2 e2,.pointer (some ⟨d1,0,none⟩),.pointer (some ⟨wb,0,none⟩)]).toArray]) (vs:=[]) rfl rfl)<|(bA) nP bN.b1<|?_;refine WP .r (PV.func (us:=[.agg ([Value.int .i64 x.ae,.slice a1 n1 e1,.slice a2 n2 e2,.pointer (some ⟨d1,0,none⟩),.pointer (some ⟨wb,0,none⟩)]).toArray]) (vs:=[]) rfl rfl)<|(bA) nP bN.b1<|?_;refine WP .r (PV.func (us:=[.agg ([Value.int .i64 x.ae,.slice a1 n1 e1,.slice a2 n2 e2,.pointer (some ⟨d1,0,none⟩),.pointer (some ⟨wb,0,none⟩)]).toArray]) (vs:=[]) rfl rfl)<|(bA) nP bN.b1<|?_;refine WP .r (PV.func (us:=[.agg ([Value.int .i64 x.ae,.slice a1 n1 e1,.slice a2 n2 e2,.pointer (some ⟨d1,0,none⟩),.pointer (some ⟨wb,0,none⟩)]).toArray]) (vs:=[]) rfl rfl)<|WP .r (PV.Xo (us:=[.func (.func 59) #[.agg ([Value.int .i64 x.ae,.slice a1 n1 e1,.slice a2 n2 e2,.pointer (some ⟨d1,0,none⟩),.pointer (some ⟨wb,0,none⟩)]).toArray] #[],.func (.func 60) #[.agg ([Value.int .i64 x.ae,.slice a1 n1 e1,.slice a2 n2 e2,.pointer (some ⟨d1,0,none⟩),.pointer (some ⟨wb,0,none⟩)]).toArray] #[],.func (.func 61) #[.agg ([Value.int .i64 x.ae,.slice a1 n1 e1,.slice a2 n2 e2,.pointer (some ⟨d1,0,none⟩),.pointer (some ⟨wb,0,none⟩)]).toArray] #[],.func (.func 62) #[.agg ([Value.int .i64 x.ae,.slice a1 n1 e1,.slice a2 n2 e2,.pointer (some ⟨d1,0,none⟩),.pointer (some ⟨wb,0,none⟩)]).toArray] #[],.func (.func 63) #[.agg ([Value.int .i64 x.ae,.slice a1 n1 e1,.slice a2 n2 e2,.pointer (some ⟨d1,0,none⟩),.pointer (some ⟨wb,0,none⟩)]).toArray] #[]]) (places:=[(0,1),(1,1),(2,1),(3,1),(4,1)]) Yx rfl Qs VE rfl (by simp) rfl rfl)<|dC ?_;refine WC.bU (σ:=Nat × (List (Key × Value)) × (Option Addr) × Nat × Nat) (eI:=fun(j,ml,lG,j5,mj)=>[(3,.pointer (some ⟨b3,0,none⟩)),(8,.slice lG j5 mj),(37,.agg ([.func (.func 59) #[.agg ([Value.int .i64 x.ae,.slice a1 n1 e1,.slice a2 n2 e2,.pointer (some ⟨d1,0,none⟩),.pointer (some ⟨wb,0,none⟩)]).toArray] #[],.func (.func 60) #[.agg ([Value.int .i64 x.ae,.slice a1 n1 e1,.slice a2 n2 e2,.pointer (some ⟨d1,0,none⟩),.pointer (some ⟨wb,0,none⟩)]).toArray] #[],.func (.func 61) #[.agg ([Value.int .i64 x.ae,.slice a1 n1 e1,.slice a2 n2 e2,.pointer (some ⟨d1,0,none⟩),.pointer (some ⟨wb,0,none⟩)]).toArray] #[],.func (.func 62) #[.agg ([Value.int .i64 x.ae,.slice a1 n1 e1,.slice a2 n2 e2,.pointer (some ⟨d1,0,none⟩),.pointer (some ⟨wb,0,none⟩)]).toArray] #[],.func (.func 63) #[.agg ([Value.int .i64 x.ae,.slice a1 n1 e1,.slice a2 n2 e2,.pointer (some ⟨d1,0,none⟩),.pointer (some ⟨wb,0,none⟩)]).toArray] #[]]:List Value).toArray),(38,.int .i64 (j:Int))]) (F:=fun(j,ml,lG,j5,mj)=>[As.os RR.int 3 1 lG j5 mj (gZ ab x.ah x.ao j),As.map Key.val d2 ml,As.map Key.val d3 [],As.blk wb 154 (D.cells x),As.map Key.val D.m mO,As.fz (D5 60 x.ao bs)]) (I:=fun(j,ml,lG,j5,mj)=>(j≤5)∧(bd ab x.ah ml)∧True) (μ:=fun(j,ml,lG,j5,mj)=>5 - j) (0,[],none,0,0) (bN.p4.p4.p4.p6.p6.p8) Sub.t (⟨by omega,bd.nil,trivial⟩)<|?_;rintro⟨j,ml,lG,j5,mj⟩ w9 bR ⟨hj5,hm,_⟩;simp only [CA,NA] at bR hj5 hm ⊢
 have Vs:j5≤5:=by have h1:=((As.gs bR.g0)).len;have h2:=HL ab x.ah x.ao j;omega
 refine(br) (fun oH=>?_) fun oH=>?_
 ·
  simp at oH
  have hj4:j<5:=by omega
  refine gp ?_;refine WP .r (PV.ai6 (i:=j) Qs VE Yv rfl rfl hj4 (UM _ hj4))<|(bO) eN (cI.range (As.gb bR.g8))<|ew ?_;refine WC.bU (σ:=Nat × (List (Key × Value))) (eI:=fun(q,fm)=>[(3,.pointer (some ⟨b3,0,none⟩)),(8,.slice lG j5 mj),(9,.int .i64 (j:Int)),(10,.func (.func (Rw j)) #[.agg ([Value.int .i64 x.ae,.slice a1 n1 e1,.slice a2 n2 e2,.pointer (some ⟨d1,0,none⟩),.pointer (some ⟨wb,0,none⟩)]).toArray] #[]),(37,.agg ([.func (.func 59) #[.agg ([Value.int .i64 x.ae,.slice a1 n1 e1,.slice a2 n2 e2,.pointer (some ⟨d1,0,none⟩),.pointer (some ⟨wb,0,none⟩)]).toArray] #[],.func (.func 60) #[.agg ([Value.int .i64 x.ae,.slice a1 n1 e1,.slice a2 n2 e2,.pointer (some ⟨d1,0,none⟩),.pointer (some ⟨wb,0,none⟩)]).toArray] #[],.func (.func 61) #[.agg ([Value.int .i64 x.ae,.slice a1 n1 e1,.slice a2 n2 e2,.pointer (some ⟨d1,0,none⟩),.pointer (some ⟨wb,0,none⟩)]).toArray] #[],.func (.func 62) #[.agg ([Value.int .i64 x.ae,.slice a1 n1 e1,.slice a2 n2 e2,.pointer (some ⟨d1,0,none⟩),.pointer (some ⟨wb,0,none⟩)]).toArray] #[],.func (.func 63) #[.agg ([Value.int .i64 x.ae,.slice a1 n1 e1,.slice a2 n2 e2,.pointer (some ⟨d1,0,none⟩),.pointer (some ⟨wb,0,none⟩)]).toArray] #[]]:List Value).toArray),(38,.int .i64 (j:Int)),(43,.slice a2 n2 e2),(44,.int .i64 (n2:Int)),(45,.int .i64 (q:Int))]) (F:=fun(q,fm)=>[As.map Key.val d2 fm,As.map Key.val d3 []]) (I:=fun(q,fm)=>(q≤x.ao.length)∧(bd ab x.ah fm)∧((x.ao.take q).all (rZ ab x.ah j)=true)∧True) (μ:=fun(q,fm)=>x.ao.length - q) (0,ml) (bR.p2.p2) Sub.t (⟨by omega,hm,rfl,trivial⟩)<|?_;rintro⟨q,fm⟩ kN bE ⟨hq,jf,cx,_⟩;simp only [CA,NA] at bE hq jf cx ⊢;refine(br) (fun BD=>?_) fun BD=>?_
  ·
   simp at BD
   have zz:q<x.ao.length:=by omega
   refine ew ?_;obtain⟨gF,js,iU,aT,fl,bz,ck,di⟩:=Rd.at (As.gr bE.g10) zz;obtain⟨q1,q2,q3,rfl,qz,pg⟩:=bz;have bZ:=bE.fg di ck;have cG:=bZ.fr qz;refine nx ?_;refine WP .r (PV.fC jk aT rfl rfl (by omega))<|(bA) dn (As.om cG.g1)<|(fU) cG fun zO kO af3 af4 cF=>?_;refine(dA) gJ cF fun qW sr nc cP=>?_;refine(bA) dn cP.b0<|?_;have cv:=cP.p8.p8.p8.p7.p7;refine WL.go rfl (OX.qM (UN j) rfl rfl rfl ((Calls.recv (Gn (S:=(⟨ar,a1,a2,r,cr,n1,e1,n2,e2,d2,d3,d1⟩:SD)) cv.e5 (As.gf cv.g9) jf hR hS (As.gr cv.g13) (As.gr cv.g6) pg hx j8 xT (aq zz) j)).mono ?_));rintro _ uX ⟨kM,rfl,IE,_,we⟩;refine⟨_,rfl,?_⟩;have cK:=St.lr cv we;refine(br) (fun Wi=>?_) fun Wi=>?_
   ·
    have eL:rZ ab x.ah j x.ao[q]=false:=by simpa using Wi
    have Gi:x.ao.all (rZ ab x.ah j)=false:=List.all_eq_false.2 ⟨x.ao[q],List.getElem_mem zz,by simp [eL]⟩
    have IK:gZ ab x.ah x.ao (j+1)=gZ ab x.ah x.ao j++[(j:Int)+1]:=by rw [qk,Gi];simp
    refine ew ?_;refine WL.go rfl (OX.bB (us:=[.int .i64 ((j:Int)+1)]) KO rfl rfl rfl rfl fun b56 zN amI amJ=>?_);have ey:=cK.fb amI amJ;refine WL.ap rfl rfl ey.p9 (SR.eP (A:=fun _=>True) (x:=(j:Int)+1) (As.gb ey.g0) trivial rfl (by simp [Value.oneCell']) rfl) fun a57 agn uY atT atU dz=>?_;refine dC ?_;refine EX.ait rfl<|pQ ?_;have eC:=dz.CE (B:=As.os RR.int 3 1 a57 (j5+1) agn (gZ ab x.ah x.ao (j+1))) (by rw [IK]);refine fx (j+1,kM,a57,(j5+1),agn) ⟨eC.p1.drop.p6.drop.p6.drop.p6.drop,⟨by omega,IE,trivial⟩⟩
   have eL:rZ ab x.ah j x.ao[q]=true:=by simpa using Wi
   refine gp ?_;refine fx (q+1,kM) ⟨cK.p5.drop.p5.drop.p5.drop.p5.p2.p2,⟨by omega,IE,by rw [List.take_succ_eq_append_getElem zz,List.all_append,cx];simp [eL],trivial⟩⟩
  simp at BD
  have Gi:x.ao.all (rZ ab x.ah j)=true:=by rw [List.take_of_length_le (by omega)] at cx;exact cx
  have IK:gZ ab x.ah x.ao (j+1)=gZ ab x.ah x.ao j:=by rw [qk,Gi];simp
  refine mT ?_;have bZ:=bE.p2.CE (B:=As.os RR.int 3 1 lG j5 mj (gZ ab x.ah x.ao (j+1))) (by rw [IK]);refine fx (j+1,fm,lG,j5,mj) ⟨bZ,⟨by omega,jf,trivial⟩⟩
 simp at oH
 obtain rfl:j=5:=by omega
 refine bC ?_;refine(CH) ?_;exact⟨_,_,_,_,rfl,kZ,bR.k1⟩
set_option maxHeartbeats 400000
theorem St.shrink{w0:World}{Z':Nat→Prop}(h:St w0 M Z' w []) (hz:∀x,Z x→Z' x):St w0 M Z w []:=⟨h.cT,fun x hx=>h.mx x (hz x hx),by simp,by simp,.nil,by simp⟩
theorem Cq(hi:i<ab.length) (hu:iB A w ar r cr ab) (mF:Rd RR.aH 4 Z w a1 n1 e1 x.ah) (hr:Rd RR.ff 8 Z w a2 n2 e2 x.ao) (hR:ay ab) (hx:jM ab x):CR prog 84 #[.slice ar r cr,.agg (x.row a1 n1 e1 a2 n2 e2).toArray,(aS ab (i:Int)).val] w (.int .i64 0):=by
 have qf:=hR.len;refine enter func84 rfl ntmps84 rfl<|?_;have aW:=St.s0 w;refine(ef) aW fun b4 w1 jE bM st1=>?_;refine(ef) st1 fun b5 w2 mM gz st2=>?_;refine(gg) (n9 (hu.ext (St.cg st2)) hR) st2 fun w3 s3 aP=>?_;refine dC ?_;refine WC.gT rfl<|(bA) aM aP.b1<|(gg) (lW (mF.ext (St.cg aP)) (hr.ext (St.cg aP)) hx) aP fun w4 s4 aU=>?_;refine dC ?_;refine WC.gT rfl<|(bA) av aU.b0<|(gg) (tU hi (by omega) (hu.ext (St.cg aU))) aU fun w5 s5 aY=>?_;refine dC ?_;refine WC.gT rfl<|(cj) ?_;exact⟨rfl,(St.cg aY)⟩
theorem Cr(bF:St w M Z w []) (ht:oj prog Z w) (hi:i<ab.length) (hk:k=(aS ab (i:Int))) (hu:Rd RR.gx 4 Z w ar r cr ab) (mF:Rd RR.aH 4 Z w a1 n1 e1 x.ah) (hr:Rd RR.ff 8 Z w a2 n2 e2 x.ao) (hR:ay ab) (hx:jM ab x) (hS:∀k,(valOf ab x.ah k).size≤1000):Calls prog 46 #[.slice ar r cr,.agg (x.row a1 n1 e1 a2 n2 e2).toArray,k.val] w fun e w'=>e=.returned (.tuple #[.string (valOf ab x.ah k),.int .i64 0])∧St w M Z w' []:=by
 subst hk;have qf:=hR.len;have CP:gH ab (aS ab (i:Int)):=.gx hi (by omega);refine enter func46 rfl ntmps46 rfl<|?_;have aW:=bF;have st1:=aW.fr hu;have st2:=st1.fr mF;have aP:=st2.fr hr;have aU:=aP.fact (B:=As.fz (FZ.JG prog)) ht (fun _ hx=>hx);refine(ef) aU fun b4 w1 jE bM aY=>?_;refine(ef) aY fun b5 w2 mM gz bj=>?_;refine(bA) aM bj.b1<|(bA) av bj.b0<|(gg) (Cq hi (As.gr bj.g5) (As.gr bj.g4) (As.gr bj.g3) hR hx) bj fun w3 s3 bP=>?_;refine(br) (fun g14=>?_) fun g14=>?_
 ·
  exact gw g14
 refine dy ?_;refine WC.df (m:=4) [] [2] [0,1,2,3] [] bP (ax.k4 M0 M1 M2 M3<|ax.cons M4<|ax.cons M5<|ax.nil) mixed (by kernel_rfl) (by kernel_rfl) rfl<|(nj) aM SV.g1<|(jg) (fun w4 Lt u4 bQ oa=>?_);simp only [CA,NA] at bQ;have bV:=bQ;refine OX.call Qy rfl rfl ((mq (x:=x) bV.e0).mono ?_);rintro _ w5 ⟨d1,d2,d3,rfl,ic⟩;have aL:=St.lr bV ic;have aQ:=aL;have aV:=aQ.freeze (B:=As.fz (SD.FV (⟨ar,a1,a2,r,cr,n1,e1,n2,e2,d2,d3,d1⟩:SD) prog ab x)) ⟨(SD.F (⟨ar,a1,a2,r,cr,n1,e1,n2,e2,d2,d3,d1⟩:SD) prog ab x).mono (fun _ h=>.inl h) ⟨(As.gr aQ.g8),(As.gr aQ.g7),(As.gr aQ.g6),(As.gf aQ.g5)⟩,.inr rfl,((As.gb aQ.g0)).lt,cI.range (As.gb aQ.g0)⟩ (fun _ hx=>hx);refine⟨_,rfl,ic.cT.size,_,rfl,_,_,_,aV,aA.k4<|aA.k4<|aA.cons<|aA.nil,ax.k4 M3 M4 M5 M6<|ax.cons M7<|ax.cons M8<|ax.nil,?_⟩;refine(nj) av SV.g0<|(nk)<|?_;intro w6 lB bD;simp only [CM,NM,CA,NA,kL.it] at bD;have bp:=bD.p2.p2;refine(cW) N4 (Cj (D:=(⟨ar,a1,a2,r,cr,n1,e1,n2,e2,d2,d3,d1⟩:SD)) hR hS CP _ _ _ _ _ bp.e2 (As.gf bp.g2) bd.nil (fun _=>nI.nil _)) ?_;rintro _ w7 ⟨fm,rfl,_,_,kI⟩;have ba:=St.lr bp kI;refine cV ?_;refine WL.nil (EX.np ?_);refine(CH) ?_;exact⟨rfl,(ba.k0).shrink fun _ h=>.inl h⟩
theorem sH{ag:Option Addr}{ng eg:Nat}{l:List Key}(bF:St w M Z w []) (ht:oj prog Z w) (hu:Rd RR.gx 4 Z w ar r cr ab) (mF:Rd RR.aH 4 Z w a1 n1 e1 x.ah) (hr:Rd RR.ff 8 Z w a2 n2 e2 x.ao) (hg:Rd RR.key 2 Z w ag ng eg l) (hR:ay ab) (hx:jM ab x) (hS:∀k,(valOf ab x.ah k).size≤1000) (j8:∀y∈x.ao,y.az=x.ae) (hl:∀k∈l,∃i:Nat,i<ab.length∧k=(aS ab (i:Int))∧(aD x.ao k).isSome=true) (hl4:l.length≤1000000):Calls prog 17 #[.slice ar r cr,.agg (x.row a1 n1 e1 a2 n2 e2).toArray,.slice ag ng eg] w fun e w'=>e=.returned (.bool (l.all (fun k=>decide ((aG x.ao k).value=valOf ab x.ah k))))∧St w M Z w' []:=by
 have qf:=hR.len;have hlen:=hg.len;refine enter func17 rfl ntmps17 rfl<|?_;have aW:=bF;have st1:=aW.fr hu;have st2:=st1.fr mF;have aP:=st2.fr hr;have aU:=aP.fr hg;have aY:=aU.fact (B:=As.fz (FZ.JG prog)) ht (fun _ hx=>hx);refine(ef) aY fun b4 w1 jE bM bj=>?_;refine bC ?_;refine WC.bU (σ:=Nat) (eI:=fun q=>[(0,.slice ar r cr),(4,.pointer (some ⟨b4,0,none⟩)),(13,.slice ag ng eg),(14,.int .i64 (ng:Int)),(15,.int .i64 (q:Int))]) (F:=fun q=>[]) (I:=fun q=>(q≤l.length)∧((l.take q).all (fun k=>decide ((aG x.ao k).value=valOf ab x.ah k))=true)∧True) (μ:=fun q=>l.length - q) (0) (bj) Sub.t (⟨by omega,rfl,trivial⟩)<|?_;rintro q w2 bP ⟨hq,cx,_⟩;simp only [CA,NA] at bP hq cx ⊢;refine(br) (fun g16=>?_) fun g16=>?_
 ·
  simp at g16
  have zz:q<l.length:=by omega
  obtain⟨i,hi,oi,hfs⟩:=hl _ (List.getElem_mem zz);obtain⟨y,hy⟩:=Option.isSome_iff_exists.1 hfs
  have EC:aG x.ao l[q]=y:=by unfold aG;rw [hy];rfl
  have hvy:=j8 y (bq hy).1
  have gk:aB l[q]=false:=by rw [oi];exact dI hi (by omega)
  have CP:gH ab l[q]:=by rw [oi];exact .gx hi (by omega)
  refine ew ?_;obtain⟨gF,js,iU,aT,fl,bz,ck,di⟩:=Rd.at (As.gr bP.g2) zz;have bz:=RR.cL bz;subst bz;have bQ:=bP.fg di ck;refine nx ?_;refine WP .r (PV.fC fP aT rfl rfl (by omega))<|(bA) av (As.om bQ.g0)<|(fU) bQ fun b8 w3 zM jm bV=>?_;refine(dA) jT bV fun w4 jv jC aL=>?_;refine(bA) aM aL.b2<|(bA) av aL.b0<|?_;have aQ:=aL;refine(cW) adU (Dr aQ.e0 (As.gr aQ.g5) gk hy hvy) ?_;rintro _ w5 ⟨rfl,ic⟩;have aV:=St.lr aQ ic;refine(bA) aM aV.b2<|(bA) av aV.b0<|?_;have bD:=aV;refine(cW) adV (Cr bD.e0 (As.gf bD.g3) hi oi (As.gr bD.g7) (As.gr bD.g6) (As.gr bD.g5) hR hx hS) ?_;rintro _ w6 ⟨rfl,mE⟩;have bp:=St.lr bD mE;refine kE ?_;refine WC.fF (t:=42) (v:=.bool (decide (y.value≠valOf ab x.ah l[q]))) bp ?_<|?_
  ·
   refine dC ?_;refine WL.gi (t:=34) rfl (fun pG=>?_) (fun pG=>?_)
   ·
    exact(dq) (tG pG) (bp)
   refine dC ?_;refine WL.gi (t:=38) rfl (fun qC=>?_) (fun qC=>?_)
   ·
    exact(dq) (tG (aj pG qC)) (bp)
   exact(dq) (tG (aj pG qC)) (bp)
  intro w7 ba;refine(br) (fun jP=>?_) fun jP=>?_
  ·
   have eL:(fun k=>decide ((aG x.ao k).value=valOf ab x.ah k)) l[q]=false:=by simp at jP;simp [EC,jP]
   have Gi:l.all (fun k=>decide ((aG x.ao k).value=valOf ab x.ah k))=false:=List.all_eq_false.2 ⟨l[q],List.getElem_mem zz,by simp only [eL];simp⟩;refine(cj) ?_;exact⟨by rw [Gi],ba.k0⟩
  have eL:decide ((aG x.ao l[q]).value=valOf ab x.ah l[q])=true:=by simp at jP;simp [EC,jP]
  refine gp ?_;refine fx (q+1) ⟨ba.drop.drop,⟨by omega,by rw [List.take_succ_eq_append_getElem zz,List.all_append,cx];simp [eL],trivial⟩⟩
 simp at g16
 have Gi:l.all (fun k=>decide ((aG x.ao k).value=valOf ab x.ah k))=true:=by rw [List.take_of_length_le (by omega)] at cx;exact cx
 refine(cj) ?_;exact⟨by rw [Gi],bP.k0⟩
set_option maxHeartbeats 400000
set_option maxHeartbeats 1600000 in
set_option maxRecDepth 8000 in
theorem qF{l:List Change}{al:Option Addr}{nl el:Nat}(bF:St w M Z w []) (hi:Rd RR.aH 4 Z w a1 n1 e1 x.ah) (hr:Rd RR.ff 8 Z w a2 n2 e2 x.ao) (hl:Rd RR.cT 3 Z w al nl el l) (hb:lE x) (hx:l9 x.ae x.ah) (hs:∀c∈l,c.small) (hl4:l.length≤32):Calls prog 9 #[.agg (x.row a1 n1 e1 a2 n2 e2).toArray,.slice al nl el] w fun e w'=>∃(y:dT) (b1 b2:Option Addr) (m1 d1 m2 d2:Nat) (er:Int) (Z':Nat→Prop),e=.returned (.tuple #[.agg (y.row b1 m1 d1 b2 m2 d2).toArray,.int .i64 er])∧y.ao=x.ao∧x.ae≤y.ae∧y.ae≤1073741824∧l9 y.ae y.ah∧y.ah.length≤64∧y.ae≤x.ae+1∧ApR x l y∧(x.ae+1≤1073741824→er=0)∧Rd RR.aH 4 Z' w' b1 m1 d1 y.ah∧Rd RR.ff 8 Z' w' b2 m2 d2 y.ao∧cQ w.heap.size Z Z'∧St w M Z' w' []:=by
 have hln:=hl.len;have h7a:=hb.2.2.2.2.1;have h6a:=hb.2.2.2.2.2.1
 have h6:x.ao.length≤1000000:=by omega
 have h7:x.ah.length≤1000000:=by omega
 have V6:=hb.2.2.1;have GX:=hb.2.2.2.1;refine enter func9 rfl ntmps9 rfl<|?_;have aW:=St.rb bF;have st1:=aW.fr hi;have st2:=st1.fr hr;have aP:=st2.fr hl;refine(ef) aP fun b2 w1 lA eZ aU=>?_;refine(fU) aU fun b4 w2 jE bM aY=>?_;refine(bA) aM aY.b1<|?_;have bj:=aY;refine(cW) C4 (gu (x:=x) bj.e0 (As.gr bj.g4) (As.gr bj.g3) h6 h7) ?_;rintro _ w3 ⟨f1,f2,f3,f4,f5,f6,Z1,rfl,gQ,eE⟩;have bP:=St.lv bj eE gQ;have amK:=St.cH eE;have amL:=St.cH eE.p1;have fh:=bj.size;have oZ:=gQ.le fh;have amM:=St.fresh bP;have bQ:=bP.bX (by omega);have amN:=St.fresh bQ.p1;have bV:=bQ.p1.bX (by omega);have amO:=(oZ.trans (cQ.fo (F:=fun x=>x∈aO f1) amK) fh).trans (cQ.fo (F:=fun x=>x∈aO f4) amL) fh;refine(dA) fL bV.p3 fun w4 jv jC aL=>?_;refine(bA) aM aL.b0<|(cW) YN (qA (x:=x) (As.gr aL.g2) (As.gr aL.g1)) ?_;rintro _ w5 ⟨bb,rfl,hbb,s5⟩;have aQ:=aL.step s5;obtain rfl:bb=true:=hbb.2 hb;refine(br) (fun g24=>?_) fun g24=>?_
 ·
  exact gw g24
 ·
  refine(br) (fun n0=>?_) fun n0=>?_
  ·
   exact gw n0
  refine bC ?_;refine WC.bU (σ:=Nat) (eI:=fun i=>[(1,.slice al nl el),(2,.pointer (some ⟨b2,0,none⟩)),(4,.pointer (some ⟨b4,0,none⟩)),(34,.slice al nl el),(35,.int .i64 (nl:Int)),(36,.int .i64 (i:Int))]) (F:=fun i=>[]) (I:=fun i=>(i≤l.length)∧True) (μ:=fun i=>l.length - i) (0) (aQ) Sub.t (⟨by omega,trivial⟩)<|?_;rintro i w6 aV ⟨gk,_⟩;simp only [CA,NA] at aV gk ⊢;refine(br) (fun vS=>?_) fun vS=>?_
  ·
   simp at vS
   have cX:i<l.length:=by omega
   have CO:=hs _ (List.getElem_mem cX);have hsk:=CO.ok;have Uu:=CO.2;refine ew ?_;obtain⟨gF,js,iU,aT,fl,bz,ck,di⟩:=Rd.at (As.gr aV.g4) cX;have bz:=RR.cL bz;subst bz;have bD:=aV.fg di ck;refine nx ?_;refine WP .r (PV.fC N0 aT rfl rfl (by omega))<|(bA) Ib (As.om bD.g0)<|(fU) bD fun b7 w7 uR oo bp=>?_;refine(dA) Qp bp fun w8 sr nc ba=>?_;refine(kF) av ba.b0<|?_;refine WL.c1 (u:=.bool true) (kY (k:=l[i].key)) (by rw [hsk.1]) ba fun w9 s9 aX=>?_;refine(kF) av aX.b0<|?_;refine WL.c1 (u:=.bool true) (fM (k:=l[i].key)) (by rw [hsk.2]) aX fun kN pI bN=>?_;refine dC ?_;refine WC.gT rfl<|gp ?_;refine fx (i+1) ⟨bN.drop.drop,⟨by omega,trivial⟩⟩
  skip
  refine bC ?_;refine cV ?_;refine WC.bU (σ:=Nat) (eI:=fun i=>[(1,.slice al nl el),(2,.pointer (some ⟨b2,0,none⟩)),(4,.pointer (some ⟨b4,0,none⟩)),(52,.slice al nl el),(53,.int .i64 (nl:Int)),(54,.int .i64 (i:Int))]) (F:=fun i=>[]) (I:=fun i=>(i≤l.length)∧True) (μ:=fun i=>l.length - i) (0) (aV) Sub.t (⟨by omega,trivial⟩)<|?_;rintro i w7 bD ⟨gk,_⟩;simp only [CA,NA] at bD gk ⊢;refine(br) (fun Bx=>?_) fun Bx=>?_
  ·
   simp at Bx
   have cX:i<l.length:=by omega
   have CO:=hs _ (List.getElem_mem cX);have Uu:=CO.2;refine ew ?_;obtain⟨gF,js,iU,aT,fl,bz,ck,di⟩:=Rd.at (As.gr bD.g4) cX;have bz:=RR.cL bz;subst bz;have bp:=bD.fg di ck;refine nx ?_;refine WP .r (PV.fC N0 aT rfl rfl (by omega))<|(bA) Ib (As.om bp.g0)<|(fU) bp fun b9 w8 QT BP ba=>?_;refine(dA) Qp ba fun w9 ED tj aX=>?_;refine(bO) iq aX.b0<|(br) (fun Up=>?_) fun Up=>?_
   ·
    exact gw Up
   refine gp ?_;refine fx (i+1) ⟨aX.drop.drop,⟨by omega,trivial⟩⟩
  skip
  refine(bA) aM bD.b0<|?_;have bp:=bD;refine(cW) C4 (gu (x:=x) bp.e0 (As.gr bp.g2) (As.gr bp.g1) h6 h7) ?_;rintro _ w8 ⟨k1,k2,k3,k4,k5,k6,Z2,rfl,B5,jU⟩;have ba:=St.lv bp jU B5;have amP:=St.cH jU;have amQ:=St.cH jU.p1;have pK:=bp.size;have kZ:=amO.trans B5 pK;have amR:=St.fresh ba;have aX:=ba.bX (by omega);have amS:=St.fresh aX.p1;have bN:=aX.p1.bX (by omega);have amT:=(kZ.trans (cQ.fo (F:=fun x=>x∈aO k1) amP) pK).trans (cQ.fo (F:=fun x=>x∈aO k4) amQ) pK;refine(fU) bN fun iI w9 lV fN bR=>?_;refine(dA) fL bR fun kN Sj xt bE=>?_;refine(bO) aZ bE.b0<|cV ?_;refine WL.s1 bE fun kO _ bZ=>?_;refine bC ?_;refine dC ?_;refine WC.jY (σ:=Nat × Bool × (List dE) × (Option Addr) × Nat × Nat × (Nat→Prop)) (eI:=fun(i,ch,li,ai,ni,ei,Z3)=>[(1,.slice al nl el),(2,.pointer (some ⟨b2,0,none⟩)),(4,.pointer (some ⟨b4,0,none⟩)),(10,.pointer (some ⟨iI,0,none⟩)),(11,.bool ch),(70,.slice al nl el),(71,.int .i64 (nl:Int)),(72,.int .i64 (i:Int))]) (F:=fun(i,ch,li,ai,ni,ei,Z3)=>[As.blk iI 31 [.int .i64 (x.ae+1),.slice ai ni ei,.slice k4 k5 k6],As.ro RR.aH 4 ai ni ei li]) (I:=fun(i,ch,li,ai,ni,ei,Z3)=>(i≤l.length)∧(l9 (x.ae+1) li)∧(li.length≤x.ah.length+i)∧(∀k,(∀c∈l,c.key≠k)→dX li k=dX x.ah k)∧(∀k,dX li k=dX x.ah k∨(dX li k).changed=x.ae+1)∧(cQ w.heap.size Z Z3)∧True) (μ:=fun(i,ch,li,ai,ni,ei,Z3)=>l.length - i) (Zf:=fun(i,ch,li,ai,ni,ei,Z3)=>Z3) (0,false,x.ah,k1,k2,k3,_) (bZ.p2.p1) Sub.t (⟨by omega,hx.mono (by omega),by omega,fun _ _=>rfl,fun _=>.inl rfl,amT,trivial⟩)<|?_;rintro⟨i,ch,li,ai,ni,ei,Z3⟩ qW cG ⟨gk,hG,amU,Vc,hfc,qX,_⟩;simp only [CA,NA] at cG gk hG amU Vc hfc qX ⊢;refine(br) (fun Sq=>?_) fun Sq=>?_
  ·
   have amV:=((As.gr cG.g1)).len
   simp at Sq
   have cX:i<l.length:=by omega
   have CO:=hs _ (List.getElem_mem cX);refine ew ?_;obtain⟨gF,js,iU,aT,fl,bz,ck,di⟩:=Rd.at (As.gr cG.g7) cX;have bz:=RR.cL bz;subst bz;have cF:=cG.fg di ck;refine cV ?_;refine WP .r (PV.fC N0 aT rfl rfl (by omega))<|(bA) Ib (As.om cF.g0)<|(fU) cF fun rJ uX Q8 alq cP=>?_;refine(dA) Qp cP fun zN Sn Hr cv=>?_;refine bC ?_;refine nx ?_;refine WP .r (PV.Ag N0 (i:=i+1) (As.gr cv.g9) rfl rfl (by omega))<|dy ?_;have cK:=cv.fr (SR.drop (i:=i+1) (As.gr cv.g9) (by omega));refine cV ?_;refine WC.bU (σ:=Nat × Bool) (eI:=fun(q,la)=>[(1,.slice al nl el),(2,.pointer (some ⟨b2,0,none⟩)),(4,.pointer (some ⟨b4,0,none⟩)),(10,.pointer (some ⟨iI,0,none⟩)),(11,.bool ch),(13,.pointer (some ⟨rJ,0,none⟩)),(14,.bool la),(70,.slice al nl el),(71,.int .i64 (nl:Int)),(72,.int .i64 (i:Int)),(80,.slice (kS al (i+1) 3 el) (nl - (i+1)) (el - (i+1))),(81,.int .i64 ((nl - (i+1):Nat):Int)),(82,.int .i64 (q:Int))]) (F:=fun(q,la)=>[]) (I:=fun(q,la)=>(q≤nl - (i+1))∧True) (μ:=fun(q,la)=>nl - (i+1) - q) (0,true) (cK) Sub.t (⟨by omega,trivial⟩)<|?_;rintro⟨q,la⟩ uY ey ⟨hq,_⟩;simp only [CA,NA] at ey hq ⊢;refine(br) (fun g83=>?_) fun g83=>?_
   ·
    simp at g83
    have zz:q<(l.drop (i+1)).length:=by rw [List.length_drop];omega
    refine ew ?_;obtain⟨vV,Ix,FU,fO,vW,gN,j4,pJ⟩:=Rd.at (As.gr ey.g0) zz;have gN:=RR.cL gN;subst gN;have dz:=ey.fg pJ j4;refine nx ?_;refine WP .r (PV.fC N0 fO rfl rfl (by omega))<|(bA) Ib (As.om dz.g0)<|(fU) dz fun tB zw Q6 Uv eC=>?_;refine(dA) Qp eC fun C9 Wb Wc dh=>?_;refine cV ?_;have dV:=dh;refine WC.nF (σ:=Bool) [] (fun la2=>[(1,.slice al nl el),(2,.pointer (some ⟨b2,0,none⟩)),(4,.pointer (some ⟨b4,0,none⟩)),(10,.pointer (some ⟨iI,0,none⟩)),(11,.bool ch),(13,.pointer (some ⟨rJ,0,none⟩)),(14,.bool la2),(70,.slice al nl el),(71,.int .i64 (nl:Int)),(72,.int .i64 (i:Int)),(80,.slice (kS al (i+1) 3 el) (nl - (i+1)) (el - (i+1))),(81,.int .i64 ((nl - (i+1):Nat):Int)),(82,.int .i64 (q:Int))]) (fun la2=>[]) (fun la2=>True) dV ?_ ?_
    ·
     refine(dW) (fun Rh=>?_) (fun Rh=>?_)
     ·
      refine(kF) av dV.b0<|(kF) av dV.b3<|?_;refine WP .r (PV.R0 im (p:=(l.drop (i+1))[q].key) (q:=l[i].key) rfl rfl)<|dy ?_;exact tH (_) ⟨dV,trivial⟩
     refine kE ?_;exact tH (_) ⟨dV,trivial⟩
    rintro la2 CN db _;simp only [CA,NA] at db ⊢;refine jx ?_;refine fx (q+1,_) ⟨db.drop.drop,⟨by omega,trivial⟩⟩
   skip
   refine gp ?_;refine WC.fF (t:=105) (v:=.bool (!la || decide ((dX x.ah l[i].key).value=l[i].value))) ey ?_<|?_
   ·
    have atY:=ey.dc;refine WC.eU (m:=9) (E:=dx [(6,fun v _=>v=.string (dX x.ah l[i].key).value)]) ey (bS (⟨fun _ _ _ _ _ _ _ h=>h,trivial⟩)) mixed (by kernel_rfl)<|(tm) (fun g97=>?_) (fun g97=>?_)
    ·
     refine(eu) ?_;rintro zw ⟨ago,dz⟩ _;exact(dq) (tG g97) (dz)
    refine(ju) aM St.g6<|(CS) av St.g1<|?_;refine DW.c0 (fun wx hC hF=>xQ (x:=x) (k:=l[i].key) (As.gr hC.2.g8) (As.gr hC.2.g7))<|(lX) iq St.g1<|(eu)<|?_;rintro zw ⟨ago,dz⟩ ⟨_,_⟩;exact(dq) (tG g97) (dz)
   intro zw dz;refine(br) (fun Ry=>?_) fun Ry=>?_
   ·
    refine kE ?_;refine fx (i+1,ch,li,ai,ni,ei,Z3) ⟨dz.drop.drop.drop,⟨by omega,hG,by show li.length≤x.ah.length+(i+1);omega,Vc,hfc,qX,trivial⟩⟩
   refine bC ?_;refine(bO) pE dz.b3<|ew ?_;have eC:=dz.fc RR.aH 83 4;refine WC.bU (σ:=Nat × Bool × (List dE) × (Option Addr) × Nat × Nat) (eI:=fun(q,put,acc,na,mr,oc)=>[(1,.slice al nl el),(2,.pointer (some ⟨b2,0,none⟩)),(4,.pointer (some ⟨b4,0,none⟩)),(10,.pointer (some ⟨iI,0,none⟩)),(11,.bool true),(13,.pointer (some ⟨rJ,0,none⟩)),(17,.slice na mr oc),(18,.bool put),(70,.slice al nl el),(71,.int .i64 (nl:Int)),(72,.int .i64 (i:Int)),(107,.slice ai ni ei),(108,.int .i64 (ni:Int)),(109,.int .i64 (q:Int))]) (F:=fun(q,put,acc,na,mr,oc)=>[As.os RR.aH 83 4 na mr oc (acc)]) (I:=fun(q,put,acc,na,mr,oc)=>(q≤li.length)∧(acc++ji (⟨l[i].key,l[i].value,x.ae+1⟩:dE) (li.drop q) put=ji (⟨l[i].key,l[i].value,x.ae+1⟩:dE) li false)∧True) (μ:=fun(q,put,acc,na,mr,oc)=>li.length - q) (0,false,[],none,0,0) (eC) Sub.t (⟨by omega,rfl,trivial⟩)<|?_;rintro⟨q,put,acc,na,mr,oc⟩ C9 dh ⟨hq,Ji,_⟩;simp only [CA,NA] at dh hq Ji ⊢;have agp:=S6 Ji;have amW:=((As.gs dh.g0)).len;refine(br) (fun tq=>?_) fun tq=>?_
   ·
    simp at tq
    have zz:q<li.length:=by omega
    have Of:=S5 zz Ji
    dsimp only at Of
    refine ew ?_;obtain⟨Q3,atZ,alD,mN,afw,ML,Wh,agq⟩:=Rd.at (As.gr dh.g5) zz;have ML:=RR.cL ML;subst ML;have dV:=dh.fg agq Wh;refine nx ?_;refine WP .r (PV.fC zl mN rfl rfl (by omega))<|(bA) qU (As.om dV.g0)<|(fU) dV fun U0 CN Y2 Y3 db=>?_;refine(dA) Ii db fun IF ZE ZF dt=>?_;refine(kF) av dt.b0<|(kF) av dt.b4<|(gg) (ny (k:=li[q].key) (q:=l[i].key)) dt fun MJ s20 du=>?_;refine ew ?_;have eK:=du;refine WC.nF (σ:=Bool) [] (fun Ov=>[(1,.slice al nl el),(2,.pointer (some ⟨b2,0,none⟩)),(4,.pointer (some ⟨b4,0,none⟩)),(10,.pointer (some ⟨iI,0,none⟩)),(11,.bool true),(13,.pointer (some ⟨rJ,0,none⟩)),(17,.slice na mr oc),(18,.bool put),(20,.pointer (some ⟨U0,0,none⟩)),(21,.int .i64 (cE li[q].key l[i].key)),(70,.slice al nl el),(71,.int .i64 (nl:Int)),(72,.int .i64 (i:Int)),(107,.slice ai ni ei),(108,.int .i64 (ni:Int)),(109,.int .i64 (q:Int)),(123,.bool Ov)]) (fun Ov=>[]) (fun Ov=>(Ov=(decide (0≤cE li[q].key l[i].key) && !put))∧True) eK ?_ ?_
    ·
     refine(dW) (fun aaq=>?_) (fun aaq=>?_)
     ·
      refine dC ?_;exact tH (!put) ⟨eK,⟨by rw [decide_eq_true (show 0≤cE li[q].key l[i].key by simp at aaq;omega)];rfl,trivial⟩⟩
     refine dC ?_;exact tH (false) ⟨eK,⟨by rw [decide_eq_false (show ¬0≤cE li[q].key l[i].key by simp at aaq;omega)];rfl,trivial⟩⟩
    rintro Ov Ot dR ⟨aar,_⟩;simp only [CA,NA] at dR aar ⊢;refine nx ?_;have eF:=dR.p2;refine WC.nF (σ:=Bool × (List dE) × (Option Addr) × Nat × Nat) [_] (fun(pu2,jJ,na,mr,oc)=>[(1,.slice al nl el),(2,.pointer (some ⟨b2,0,none⟩)),(4,.pointer (some ⟨b4,0,none⟩)),(10,.pointer (some ⟨iI,0,none⟩)),(11,.bool true),(13,.pointer (some ⟨rJ,0,none⟩)),(17,.slice na mr oc),(18,.bool pu2),(20,.pointer (some ⟨U0,0,none⟩)),(21,.int .i64 (cE li[q].key l[i].key)),(70,.slice al nl el),(71,.int .i64 (nl:Int)),(72,.int .i64 (i:Int)),(107,.slice ai ni ei),(108,.int .i64 (ni:Int)),(109,.int .i64 (q:Int))]) (fun(pu2,jJ,na,mr,oc)=>[As.os RR.aH 83 4 na mr oc (jJ)]) (fun(pu2,jJ,na,mr,oc)=>(jJ++(if cE li[q].key l[i].key=0 then [] else [li[q]])++ji (⟨l[i].key,l[i].value,x.ae+1⟩:dE) (li.drop (q+1)) pu2=ji (⟨l[i].key,l[i].value,x.ae+1⟩:dE) li false)∧True) eF ?_ ?_
    ·
     refine(br) (fun Lo=>?_) fun Lo=>?_
     ·
      refine(kF) av eF.b4<|(bO) iq eF.b4<|(bO) aZ (cI.range (As.gb eF.g6))<|?_;refine WP .r (PV.cD (us:=(⟨l[i].key,l[i].value,x.ae+1⟩:dE).cells) TE rfl rfl rfl)<|?_;refine WL.go rfl (OX.bB (us:=(⟨l[i].key,l[i].value,x.ae+1⟩:dE).cells) KQ rfl rfl rfl rfl fun at1 Rp agr ags=>?_);have eY:=eF.fb agr ags;refine WL.ap rfl rfl eY.p1 (SR.eP (A:=fun _=>True) (x:=(⟨l[i].key,l[i].value,x.ae+1⟩:dE)) (As.gb eY.g0) trivial rfl (by simp [dE.cells,Value.oneCell']) rfl) fun amX agt Wo apO apP eG=>?_;refine dy ?_;exact tH (true,acc++[(⟨l[i].key,l[i].value,x.ae+1⟩:dE)],amX,(mr+1),agt) ⟨eG.p1.drop,⟨by have h2:(decide (0≤cE li[q].key l[i].key) && !put)=true:=(by rw [← aar];simpa using Lo);have h3:(put || decide (0≤cE li[q].key l[i].key))=true:=(by revert h2;cases put <;> simp);rw [if_pos h2,h3] at Of;exact Of,trivial⟩⟩
     refine nx ?_;exact tH (put,acc,na,mr,oc) ⟨eF,⟨by have h2:(decide (0≤cE li[q].key l[i].key) && !put)=false:=(by rw [← aar];simpa using Lo);have h3:(put || decide (0≤cE li[q].key l[i].key))=put:=(by revert h2;cases put <;> simp);rw [if_neg (by rw [h2];simp),h3,List.append_nil] at Of;exact Of,trivial⟩⟩
    rintro⟨pu2,jJ,na,mr,oc⟩ Rp eY ⟨qZ,_⟩;simp only [CA,NA] at eY qZ ⊢
    have apQ:jJ.length≤li.length+1:=by have h1:=congrArg List.length qZ;rw [List.length_append,List.length_append] at h1;have:=rY (⟨l[i].key,l[i].value,x.ae+1⟩:dE) li false;omega
    have apR:=((As.gs eY.g0)).len;refine(br) (fun Rz=>?_) fun Rz=>?_
    ·
     simp at Rz
     refine(bA) qU eY.b1<|?_;refine WL.go rfl (OX.bB (us:=li[q].cells) KQ rfl rfl rfl rfl fun at2 Wo agu agv=>?_);have eG:=eY.fb agu agv;refine WL.ap rfl rfl eG.p1 (SR.eP (A:=fun _=>True) (x:=li[q]) (As.gb eG.g0) trivial rfl (by simp [dE.cells,Value.oneCell']) rfl) fun a139 agw Wp apS apT iv=>?_;refine kE ?_;refine fx (q+1,pu2,jJ++[li[q]],a139,(mr+1),agw) ⟨iv.p1.drop.p1.drop.p1.drop,⟨by omega,by rw [← qZ,if_neg Rz],trivial⟩⟩
    simp at Rz
    refine gp ?_;refine fx (q+1,pu2,jJ,na,mr,oc) ⟨eY.p1.drop.p1.drop,⟨by omega,by rw [← qZ,if_pos Rz,List.append_nil],trivial⟩⟩
   simp at tq
   rw [List.drop_eq_nil_of_le (by omega)] at Ji;refine bC ?_;have dV:=dh;refine WC.nF (σ:=(List dE) × (Option Addr) × Nat × Nat) [_] (fun(jJ,na,mr,oc)=>[(1,.slice al nl el),(2,.pointer (some ⟨b2,0,none⟩)),(4,.pointer (some ⟨b4,0,none⟩)),(10,.pointer (some ⟨iI,0,none⟩)),(11,.bool true),(17,.slice na mr oc),(70,.slice al nl el),(71,.int .i64 (nl:Int)),(72,.int .i64 (i:Int))]) (fun(jJ,na,mr,oc)=>[As.os RR.aH 83 4 na mr oc (jJ)]) (fun(jJ,na,mr,oc)=>(jJ=ji (⟨l[i].key,l[i].value,x.ae+1⟩:dE) li false)∧True) dV ?_ ?_
   ·
    refine(br) (fun aat=>?_) fun aat=>?_
    ·
     refine(kF) av dV.b2<|(bO) iq dV.b2<|(bO) aZ dV.b4<|?_;refine WP .r (PV.cD (us:=(⟨l[i].key,l[i].value,x.ae+1⟩:dE).cells) TE rfl rfl rfl)<|?_;refine WL.go rfl (OX.bB (us:=(⟨l[i].key,l[i].value,x.ae+1⟩:dE).cells) KQ rfl rfl rfl rfl fun at3 CN agx agy=>?_);have db:=dV.fb agx agy;refine WL.ap rfl rfl db.p1 (SR.eP (A:=fun _=>True) (x:=(⟨l[i].key,l[i].value,x.ae+1⟩:dE)) (As.gb db.g0) trivial rfl (by simp [dE.cells,Value.oneCell']) rfl) fun a152 agz IF apU apV dt=>?_;refine cV ?_;exact tH (acc++[(⟨l[i].key,l[i].value,x.ae+1⟩:dE)],a152,(mr+1),agz) ⟨dt.p1.drop,⟨by have hp:put=false:=(by simpa using aat);rw [hp] at Ji;exact Ji,trivial⟩⟩
    refine nx ?_;exact tH (acc,na,mr,oc) ⟨dV,⟨by have hp:put=true:=(by simpa using aat);rw [hp] at Ji;exact(List.append_nil acc).symm.trans Ji,trivial⟩⟩
   rintro⟨jJ,na,mr,oc⟩ CN db ⟨Ox,_⟩;simp only [CA,NA] at db Ox ⊢;refine nx ?_;have agp:=rY (⟨l[i].key,l[i].value,x.ae+1⟩:dE) li false;have amW:=((As.gs db.g0)).len;rw [← Ox] at agp;have aau:=St.fresh db;have dt:=db.bX (by omega);have xU:=qX.trans (cQ.fo (F:=fun x=>x∈aO na) aau) (Nat.le_refl _);have du:=dt.p5.drop;refine dy ?_;refine WL.s1 du.p4 fun IF _ eK=>?_;refine gp ?_;refine fx (i+1,true,jJ,na,mr,oc,_) ⟨eK.p2.drop.p2.drop.p2.drop,⟨by omega,by rw [Ox];exact hG.put CO (by omega),by show jJ.length≤x.ah.length+(i+1);rw [Ox];have:=rY (⟨l[i].key,l[i].value,x.ae+1⟩:dE) li false;omega,fun k hk=>by rw [Ox,D8 (hk _ (List.getElem_mem cX))];exact Vc k hk,by rw [Ox];exact Tl hfc _ rfl,xU,trivial⟩⟩
  have amV:=((As.gr cG.g1)).len
  simp at Sq
  refine bC ?_;refine(br) (fun amY=>?_) fun amY=>?_
  ·
   refine(bA) aM cG.b3<|(dA) fL cG.p6 fun uX ss7 hs7 cF=>?_;refine jx ?_;refine EX.jd rfl (RS.cell aM rfl cF.b0 rfl<|RS.tmp rfl<|RS.nil) rfl<|?_;exact⟨x,_,_,_,_,_,_,_,_,rfl,rfl,Int.le_refl _,GX,hx,h7a,by omega,.refl _ _,fun _=>rfl,(As.gr cF.g6),(As.gr cF.g5),qX,(St.wk cF.k0)⟩
  refine(bO) pE cG.b0<|(br) (fun aav=>?_) fun aav=>?_
  ·
   refine(bA) aM cG.b3<|(dA) fL cG.p6 fun uX ss8 hs8 cF=>?_;refine jx ?_;refine EX.jd rfl (RS.cell aM rfl cF.b0 rfl<|RS.tmp rfl<|RS.nil) rfl<|?_;exact absurd aav (by have:=hG.len;simp;omega)
  refine(bO) aZ cG.b0<|(br) (fun aaw=>?_) fun aaw=>?_
  ·
   refine(bA) aM cG.b3<|(dA) fL cG.p6 fun uX ss9 hs9 cF=>?_;refine jx ?_;refine EX.jd rfl (RS.cell aM rfl cF.b0 rfl<|RS.tmp rfl<|RS.nil) rfl<|?_;exact⟨x,_,_,_,_,_,_,_,_,rfl,rfl,Int.le_refl _,GX,hx,h7a,by omega,.refl _ _,fun h=>by(simp at aaw;omega),(As.gr cF.g6),(As.gr cF.g5),qX,(St.wk cF.k0)⟩
  refine(bA) aM cG.b0<|(dA) fL cG.p6 fun uX amZ am0 cF=>?_;refine dC ?_;refine EX.jd rfl (RS.cell aM rfl cF.b0 rfl<|RS.tmp rfl<|RS.nil) rfl<|?_;exact⟨⟨x.ae+1,li,x.ao⟩,_,_,_,_,_,_,_,_,rfl,rfl,by show x.ae≤x.ae+1;omega,by simp at aaw;show x.ae+1≤_;omega,hG,by simp at aav;show li.length≤64;omega,Int.le_refl _,⟨Vc,.inr ⟨rfl,hfc⟩⟩,fun _=>rfl,(As.gr cF.g2),(As.gr cF.g3),qX,(St.wk cF.k0)⟩
 -- xO kC C49
end Go.Rc

