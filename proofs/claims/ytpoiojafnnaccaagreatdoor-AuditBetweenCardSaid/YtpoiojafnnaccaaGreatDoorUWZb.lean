/- Walks over the program, part WZb. Conditions: as each theorem says. -/
import Derived.Test.YtpoiojafnnaccaaGreatDoorUFacts
import Derived.Test.YtpoiojafnnaccaaGreatDoorUWY
import Derived.Test.YtpoiojafnnaccaaGreatDoorUWF
import Derived.Test.YtpoiojafnnaccaaGreatDoorUBf
import Derived.Test.YtpoiojafnnaccaaGreatDoorUBh
set_option linter.all false
namespace Go.Rc
open Go Go.Proofs Go.Proofs.Tryz
variable {ab:List aJ}{x:dV}{ar a1 a2:Option Addr}{r cr n1 e1 n2 e2 i:Nat}{w:World}{A Z M:Nat→Prop}{k:Key}{y:Rec}
set_option maxHeartbeats 400000
theorem su(hu:iW A w ar r cr ab) (oW:Rd RR.aH 4 Z w a1 n1 e1 x.ah) (hr:Rd RR.fl 8 Z w a2 n2 e2 x.ak) (hR:ay ab) (hx:kT ab x):CR prog 47 #[.slice ar r cr,.agg (x.row a1 n1 e1 a2 n2 e2).toArray,.slice none 0 0] w (.int .i64 0):=by
 refine enter func47 rfl ntmps47 rfl<|?_;have aW:=St.s0 w;refine(eD) aW fun b3 w1 ic dA st1=>?_;refine(eD) st1 fun b4 w2 jS bL st2=>?_;refine gp ?_;refine WP .r (PV.pM nE st2.b1 rfl rfl)<|(gw) (sg (hu.ext (St.cg st2)) hR) st2 fun w3 s3 aP=>?_;refine dF ?_;refine WC.iu rfl<|(bz) aN aP.b0<|(gw) (pG (oW.ext (St.cg aP)) (hr.ext (St.cg aP)) hx) aP fun w4 s4 aV=>?_;refine dF ?_;refine WC.iu rfl<|(bp) (fun g15=>?_) fun g15=>?_
 ·
  exact gM g15
 refine dw ?_;refine WP .r (PV.func (us:=[]) (vs:=[.pointer (some ⟨b3,0,none⟩)]) rfl rfl)<|(gw) (vU) aV fun w5 s5 bf=>?_;refine dw ?_;refine WC.iu rfl<|(cm) ?_;exact⟨rfl,(St.cg bf)⟩
theorem C6(bF:St w M Z w []) (hr:Rd RR.fl 8 Z w a2 n2 e2 x.ak) (gQ:aB k=false) (hf:aD x.ak k=some y) (hv:y.az=x.ae):Calls prog 45 #[.agg (x.row a1 n1 e1 a2 n2 e2).toArray,k.val] w fun e w'=>e=.returned (.tuple #[.string y.value,.bool true])∧St w M Z w' []:=by
 have Ei:aG x.ak k=y:=by unfold aG;rw [hf];rfl
 refine enter func45 rfl ntmps45 rfl<|?_;have aW:=bF;have st1:=aW.fr hr;refine(eD) st1 fun b2 w1 lB eZ st2=>?_;refine(eD) st2 fun b3 w2 ic dA aP=>?_;refine(bz) av aP.b0<|?_;refine WL.c1 (u:=.bool false) (dN (k:=k)) (by rw [gQ]) aP fun w3 s3 aV=>?_;refine db ?_;refine WC.iu rfl<|(bN) ez aV.b1<|(bz) av aV.b0<|?_;have bf:=aV;refine(df) adN (vV (k:=k) bf.e0 (As.gr bf.g2)) ?_;rintro _ w4 ⟨f1,f2,f3,rfl,_,fN⟩;have br:=St.lr bf fN;rw [Ei,hf];refine(fT) br fun b6 w5 mV eM bP=>?_;refine(dB) gC bP fun w6 jC jI bS=>?_;refine eA ?_;refine WC.fQ (t:=28) (v:=.bool false) bS ?_<|?_
 ·
  refine(dT) (fun g22=>?_) (fun g22=>?_)
  ·
   exact(dx) (by first | (simp [hv];done) | rfl | (simp only [g22];done) | (simp only [g22];rfl) | (simp [g22];done) | (simp;done) | (simp at g22 ⊢ <;> omega) | (simp <;> omega) | (simp [g22] <;> omega) | (simp at g22 <;> omega)) (bS)
  refine(bN) aX bS.b0<|(bN) aX bS.b3<|?_;exact(dx) (by first | (simp [hv];done) | rfl | (simp only [g22];done) | (simp only [g22];rfl) | (simp [g22];done) | (simp;done) | (simp at g22 ⊢ <;> omega) | (simp <;> omega) | (simp [g22] <;> omega) | (simp at g22 <;> omega)) (bS)
 intro w7 bX;refine(bp) (fun iU=>?_) fun iU=>?_
 ·
  exact gM iU
 refine(bN) iq bX.b0<|(GH) ?_;exact⟨rfl,bX.k0⟩
def Rf:Nat→FuncId
 | 0=>59
 | 1=>60
 | 2=>61
 | 3=>62
 | _=>63
theorem Uw(V:Value) {j:Nat}(hj:j<5):([.func (.func 59) #[V] #[],.func (.func 60) #[V] #[],.func (.func 61) #[V] #[],.func (.func 62) #[V] #[],.func (.func 63) #[V] #[]]:List Value)[j]?=some (.func (.func (Rf j)) #[V] #[]):=
 match j,hj with
 | 0,_=>rfl
 | 1,_=>rfl
 | 2,_=>rfl
 | 3,_=>rfl
 | 4,_=>rfl
theorem Ux(j:Nat):CF prog (Rf j):=by
 unfold Rf
 split
 ·
  exact ajO
 ·
  exact ajP
 ·
  exact ajQ
 ·
  exact ajR
 exact ajS
theorem F8{S:SD}{b1 b2:Option Addr}{p1 g1 p2 g2 wb:Nat}{a:Option Addr}{n c:Nat}{ml:List (Key × Value)}{D:WD}{mD:List (Key × Value)}{bs:List Nat}{q:Nat}(bF:St w M Z w [As.map Key.val S.m ml,As.map Key.val S.q [],As.blk wb 154 (D.cells x),As.map Key.val D.m mD,As.fz (DJ 60 x.ak bs)]) (hf:(S.FV prog ab x).p Z w) (hm:ba ab x.ah ml) (hR:ay ab) (hS:∀k,(valOf ab x.ah k).size≤1000) (Xo:Rd RR.fl 8 Z w b2 p2 g2 x.ak) (oE:Rd RR.key 2 Z w a n c y.reads) (hn4:y.reads.length≤4000) (hx:kT ab x) (ll:∀y∈x.ak,y.az=x.ae) (uX:oD x.ak bs mD) (hq:x.ak[q]?=some y) (j:Nat):Calls prog (Rf j) #[.agg ([Value.int .i64 x.ae,.slice b1 p1 g1,.slice b2 p2 g2,.pointer (some ⟨S.s,0,none⟩),.pointer (some ⟨wb,0,none⟩)]:List Value).toArray,.agg (y.row a n c).toArray] w fun e w'=>∃eb,e=.returned (.bool (rL ab x.ah j y))∧ba ab x.ah eb∧iI ml eb∧St w M Z w' [As.map Key.val S.m eb,As.map Key.val S.q [],As.blk wb 154 (D.cells x),As.map Key.val D.m mD,As.fz (DJ 60 x.ak bs)]:=by
 have hy:=List.mem_of_getElem? hq;have hv:=ll y hy;obtain⟨hk,gQ,vm,_⟩:=hx.2.2.2.2.2.1 y hy
 have two:∀(f:FuncId) (b:Bool),(Calls prog f #[.agg ([Value.int .i64 x.ae,.slice b1 p1 g1,.slice b2 p2 g2,.pointer (some ⟨S.s,0,none⟩),.pointer (some ⟨wb,0,none⟩)]:List Value).toArray,.agg (y.row a n c).toArray] w fun e w'=>∃eb,e=.returned (.bool b)∧ba ab x.ah eb∧iI ml eb∧St w (rh [As.map Key.val S.m ml,As.map Key.val S.q []]) Z w' [As.map Key.val S.m eb,As.map Key.val S.q []])→Calls prog f #[.agg ([Value.int .i64 x.ae,.slice b1 p1 g1,.slice b2 p2 g2,.pointer (some ⟨S.s,0,none⟩),.pointer (some ⟨wb,0,none⟩)]:List Value).toArray,.agg (y.row a n c).toArray] w fun e w'=>∃eb,e=.returned (.bool b)∧ba ab x.ah eb∧iI ml eb∧St w M Z w' [As.map Key.val S.m eb,As.map Key.val S.q [],As.blk wb 154 (D.cells x),As.map Key.val D.m mD,As.fz (DJ 60 x.ak bs)]:=fun f b h=>h.mono fun e w4 ⟨fq,he,jg,fU,h4⟩=>by
  have h5:=St.leave (l0:=[_,_]) bF h4 (cQ.refl _ _);simp only [List.cons_append,List.nil_append] at h5;exact⟨fq,he,jg,fU,h5⟩
 have none_:∀(f:FuncId) (b:Bool),(Calls prog f #[.agg ([Value.int .i64 x.ae,.slice b1 p1 g1,.slice b2 p2 g2,.pointer (some ⟨S.s,0,none⟩),.pointer (some ⟨wb,0,none⟩)]:List Value).toArray,.agg (y.row a n c).toArray] w fun e w'=>e=.returned (.bool b)∧bj [] w w')→Calls prog f #[.agg ([Value.int .i64 x.ae,.slice b1 p1 g1,.slice b2 p2 g2,.pointer (some ⟨S.s,0,none⟩),.pointer (some ⟨wb,0,none⟩)]:List Value).toArray,.agg (y.row a n c).toArray] w fun e w'=>∃eb,e=.returned (.bool b)∧ba ab x.ah eb∧iI ml eb∧St w M Z w' [As.map Key.val S.m eb,As.map Key.val S.q [],As.blk wb 154 (D.cells x),As.map Key.val D.m mD,As.fz (DJ 60 x.ak bs)]:=fun f b h=>h.mono fun e w4 ⟨he,h4⟩=>⟨ml,he,hm,iI.refl _,bF.step h4⟩
 match j with
 | 0=>exact two _ _ (B9 bF.e2 hf hm hR hS hk hv)
 | 1=>
  obtain⟨i,hi,qQ⟩:∃i:Nat,i<ab.length∧y.key=aQ ab (i:Int):=by
   generalize hky:y.key=k at hk gQ
   cases hk with
   | cell h=>rw [dj h] at gQ;cases gQ
   | gN h _=>exact⟨_,h,rfl⟩
  exact two _ _ (Ca bF.e2 hf hm hR hS hi qQ hv oE)
 | 2=>exact none_ _ true (Cc (ab:=ab) (x:=x) (M:=fun _=>False) (Z:=Z) (St.start (fun x hx=>bF.mj x hx)) Xo ll hv oE vm)
 | 3=>exact C5 bF hf hm hR hS hk gQ hv uX hq
 | j+4=>exact none_ _ _ (C3 oE.len (by rw [oE.len];exact hn4))
set_option maxHeartbeats 1600000 in
theorem sw(bF:St w M Z w []) (ht:oy prog Z w) (hu:Rd RR.gN 4 Z w ar r cr ab) (oW:Rd RR.aH 4 Z w a1 n1 e1 x.ah) (hr:Rd RR.fl 8 Z w a2 n2 e2 x.ak) (hR:ay ab) (hx:kT ab x) (hS:∀k,(valOf ab x.ah k).size≤1000) (ll:∀y∈x.ak,y.az=x.ae):Calls prog 26 #[.slice ar r cr,.agg (x.row a1 n1 e1 a2 n2 e2).toArray] w fun e w'=>∃(a:Option Addr) (n c:Nat) (Z':Nat→Prop),e=.returned (.tuple #[.slice a n c,.int .i64 0])∧cQ w.heap.size Z Z'∧St w M Z' w' [As.os RR.int 3 1 a n c (gZ ab x.ah x.ak 5)]:=by
 have Cv:=hr.len;have Uy:=hx.2.2.2.2.2.2.2.1;refine enter func26 rfl ntmps26 rfl<|?_;have aW:=bF;have st1:=aW.fr hu;have st2:=st1.fr oW;have aP:=st2.fr hr;have aV:=aP.fact (B:=As.fz (FZ.LH prog)) ht (fun _ hx=>hx);have bf:=aV.eX RR.int 3 1;refine(eD) bf fun b3 w1 ic dA br=>?_;refine(bz) aN br.b0<|(gw) (su (As.gr br.g5) (As.gr br.g4) (As.gr br.g3) hR hx) br fun w2 s2 bP=>?_;refine(bp) (fun g17=>?_) fun g17=>?_
 ·
  exact gM g17
 refine dw ?_;refine WC.dq (m:=9) [] [3,6] [1,2,3,4,5,6,0,7,8] [(8,.blk 123 [.int .i64 0,.slice none 0 0,.slice none 0 0,.pointer none,.pointer none])] bP (ax.k4 M0 M1 M2 M3<|ax.cons M4<|ax.cons M5<|ax.nil) mixed (by kernel_rfl) (by kernel_rfl) rfl<|(oz) aN SV.g0<|(jD) (fun w3 ZU La bS BZ=>?_);simp only [CA,NA] at bS;have bX:=bS;refine OX.call TS rfl rfl ((ou (x:=x) bX.e0).mono ?_);rintro _ w4 ⟨d1,d2,d3,rfl,fN⟩;have aM:=St.lr bX fN;have hgv:=St.cK fN;have aac:=bX.size;refine⟨_,rfl,fN.cX.size,_,rfl,_,_,_,aM,aC.k4<|aC.k4<|aC.cons<|aC.nil,ax.k4 M3 M4 M5 M6<|ax.cons M7<|ax.cons M8<|ax.nil,?_⟩;refine(oz) aN SV.g0<|(jD) (fun w5 Wa IK aT sn=>?_);simp only [CA,NA] at aT;have aY:=aT;refine OX.call adF rfl rfl ((F6 (x:=x) aY.e0 (As.gr aY.g7) (As.gr aY.g6) hx.2.2.2.2.2.2.2.1 (Nat.le_trans hx.2.2.2.2.1 (by decide)) hx.2.2.2.2.2.2.1).mono ?_);rintro _ w6 ⟨D,wb,bs,mD,Z1,rfl,uX,gP,nL⟩;have bG:=St.lv aY nL gP;have oN:=gP.le aY.size;refine⟨_,rfl,nL.cX.size,_,rfl,_,_,_,bG,aC.k4<|aC.k4<|aC.k4<|aC.nil,ax.k4 M6 M7 M8 M9<|ax.cons mF<|ax.cons nP<|ax.nil,?_⟩;refine(oz) aN SV.g0<|?_;refine DQ .r (fun wx Zx Rx _ fV lX=>PV.cD (us:=[Value.int .i64 x.ae,.slice a1 n1 e1,.slice a2 n2 e2,.pointer (some ⟨d1,0,none⟩),.pointer (some ⟨wb,0,none⟩)]) adf rfl rfl rfl)<|?_;refine DG.side (s:=.blk 123 [.int .i64 0,.slice none 0 0,.slice none 0 0,.pointer none,.pointer none]) rfl rfl rfl rfl rfl rfl (fun wx Zx Rx BX fV=>OX.alloc ads rfl fun b wy nw hb=>⟨nw.ext.size,_,rfl,⟨b,rfl⟩,fV.eW nw hb⟩)<|?_;rintro _ ⟨b7,rfl⟩;refine(oa) ?_;intro w7 lR bB;simp only [CM,NM,CA,NA,lA.it] at bB;refine(dB) adm bB fun w8 jC jI bd=>?_;refine WL.nil (EX.np ?_);refine db ?_;have aU:=bd.p4;have bM:=aU.freeze (B:=As.fz (SD.FV (⟨ar,a1,a2,r,cr,n1,e1,n2,e2,d2,d3,d1⟩:SD) prog ab x)) ⟨(SD.F (⟨ar,a1,a2,r,cr,n1,e1,n2,e2,d2,d3,d1⟩:SD) prog ab x).mono (fun _ h=>.inl h) ⟨(As.gr aU.g12),(As.gr aU.g11),(As.gr aU.g10),(As.gf aU.g9)⟩,.inr rfl,((As.gb aU.g0)).lt,cJ.range (As.gb aU.g0)⟩ (fun _ hx=>hx);have kZ:=oN.trans (cQ.fo (F:=fun x=>x=d1) hgv) aac;refine(bz) nD bM.b1<|?_;refine WP .r (PV.func (us:=[.agg ([Value.int .i64 x.ae,.slice a1 n1 e1,.slice a2 n2 e2,.pointer (some ⟨d1,0,none⟩),.pointer (some ⟨wb,0,none⟩)]).toArray]) (vs:=[]) rfl rfl)<|(bz) nD bM.b1<|?_;refine WP .r (PV.func (us:=[.agg ([Value.int .i64 x.ae,.slice a1 n1 e1,.slice a2 n2 e2,.pointer (some ⟨d1,0,none⟩),.pointer (some ⟨wb,0,none⟩)]).toArray]) (vs:=[]) rfl rfl)<|(bz) nD bM.b1<|?_;refine WP .r (PV.func (us:=[.agg ([Value.int .i64 x.ae,.slice a1 n1 e1,.slice a2 n2 e2,.pointer (some ⟨d1,0,none⟩),.pointer (some ⟨wb,0,none⟩)]).toArray]) (vs:=[]) rfl rfl)<|(bz) nD bM.b1<|?_;refine WP .r (PV.func (us:=[.agg ([Value.int .i64 x.ae,.slice a1 n1 e1,.slice a2 n2 e2,.pointer (some ⟨d1,0,none⟩),.pointer (some ⟨wb,0,none⟩)]).toArray]) (vs:=[]) rfl rfl)<|(bz) nD bM.b1<|?_;refine WP .r (PV.func (us:=[.agg ([Value.int .i64 x.ae,.slice a1 n1 e1,.slice a2 n2 e2,.pointer (some ⟨d1,0,none⟩),.pointer (some ⟨wb,0,none⟩)]).toArray]) (vs:=[]) rfl rfl)<|WP .r (PV.Xc (us:=[.func (.func 59) #[.agg ([Value.int .i64 x.ae,.slice a1 n1 e1,.slice a2 n2 e2,.pointer (some ⟨d1,0,none⟩),.pointer (some ⟨wb,0,none⟩)]).toArray] #[],.func (.func 60) #[.agg ([Value.int .i64 x.ae,.slice a1 n1 e1,.slice a2 n2 e2,.pointer (some ⟨d1,0,none⟩),.pointer (some ⟨wb,0,none⟩)]).toArray] #[],.func (.func 61) #[.agg ([Value.int .i64 x.ae,.slice a1 n1 e1,.slice a2 n2 e2,.pointer (some ⟨d1,0,none⟩),.pointer (some ⟨wb,0,none⟩)]).toArray] #[],.func (.func 62) #[.agg ([Value.int .i64 x.ae,.slice a1 n1 e1,.slice a2 n2 e2,.pointer (some ⟨d1,0,none⟩),.pointer (some ⟨wb,0,none⟩)]).toArray] #[],.func (.func 63) #[.agg ([Value.int .i64 x.ae,.slice a1 n1 e1,.slice a2 n2 e2,.pointer (some ⟨d1,0,none⟩),.pointer (some ⟨wb,0,none⟩)]).toArray] #[]]) (places:=[(0,1),(1,1),(2,1),(3,1),(4,1)]) Yn rfl Qb Vo rfl (by simp) rfl rfl)<|dF ?_;refine WC.bQ (σ:=Nat × (List (Key × Value)) × (Option Addr) × Nat × Nat) (eI:=fun(j,ml,lC,jY,mf)=>[(3,.pointer (some ⟨b3,0,none⟩)),(8,.slice lC jY mf),(37,.agg ([.func (.func 59) #[.agg ([Value.int .i64 x.ae,.slice a1 n1 e1,.slice a2 n2 e2,.pointer (some ⟨d1,0,none⟩),.pointer (some ⟨wb,0,none⟩)]).toArray] #[],.func (.func 60) #[.agg ([Value.int .i64 x.ae,.slice a1 n1 e1,.slice a2 n2 e2,.pointer (some ⟨d1,0,none⟩),.pointer (some ⟨wb,0,none⟩)]).toArray] #[],.func (.func 61) #[.agg ([Value.int .i64 x.ae,.slice a1 n1 e1,.slice a2 n2 e2,.pointer (some ⟨d1,0,none⟩),.pointer (some ⟨wb,0,none⟩)]).toArray] #[],.func (.func 62) #[.agg ([Value.int .i64 x.ae,.slice a1 n1 e1,.slice a2 n2 e2,.pointer (some ⟨d1,0,none⟩),.pointer (some ⟨wb,0,none⟩)]).toArray] #[],.func (.func 63) #[.agg ([Value.int .i64 x.ae,.slice a1 n1 e1,.slice a2 n2 e2,.pointer (some ⟨d1,0,none⟩),.pointer (some ⟨wb,0,none⟩)]).toArray] #[]]:List Value).toArray),(38,.int .i64 (j:Int))]) (F:=fun(j,ml,lC,jY,mf)=>[As.os RR.int 3 1 lC jY mf (gZ ab x.ah x.ak j),As.map Key.val d2 ml,As.map Key.val d3 [],As.blk wb 154 (D.cells x),As.map Key.val D.m mD,As.fz (DJ 60 x.ak bs)]) (I:=fun(j,ml,lC,jY,mf)=>(j≤5)∧(ba ab x.ah ml)∧True) (μ:=fun(j,ml,lC,jY,mf)=>5 - j) (0,[],none,0,0) (bM.p4.p4.p4.p6.p6.p8) Sub.t (⟨by omega,ba.nil,trivial⟩)<|?_;rintro⟨j,ml,lC,jY,mf⟩ w9 bO ⟨hj5,hm,_⟩;simp only [CA,NA] at bO hj5 hm ⊢
 have Vd:jY≤5:=by have h1:=((As.gs bO.g0)).len;have h2:=Hz ab x.ah x.ak j;omega
 refine(bp) (fun om=>?_) fun om=>?_
 ·
  simp at om
  have hj4:j<5:=by omega
  refine gp ?_;refine WP .r (PV.aix (i:=j) Qb Vo Yl rfl rfl hj4 (Uw _ hj4))<|(bN) ez (cJ.range (As.gb bO.g8))<|eA ?_;refine WC.bQ (σ:=Nat × (List (Key × Value))) (eI:=fun(q,fq)=>[(3,.pointer (some ⟨b3,0,none⟩)),(8,.slice lC jY mf),(9,.int .i64 (j:Int)),(10,.func (.func (Rf j)) #[.agg ([Value.int .i64 x.ae,.slice a1 n1 e1,.slice a2 n2 e2,.pointer (some ⟨d1,0,none⟩),.pointer (some ⟨wb,0,none⟩)]).toArray] #[]),(37,.agg ([.func (.func 59) #[.agg ([Value.int .i64 x.ae,.slice a1 n1 e1,.slice a2 n2 e2,.pointer (some ⟨d1,0,none⟩),.pointer (some ⟨wb,0,none⟩)]).toArray] #[],.func (.func 60) #[.agg ([Value.int .i64 x.ae,.slice a1 n1 e1,.slice a2 n2 e2,.pointer (some ⟨d1,0,none⟩),.pointer (some ⟨wb,0,none⟩)]).toArray] #[],.func (.func 61) #[.agg ([Value.int .i64 x.ae,.slice a1 n1 e1,.slice a2 n2 e2,.pointer (some ⟨d1,0,none⟩),.pointer (some ⟨wb,0,none⟩)]).toArray] #[],.func (.func 62) #[.agg ([Value.int .i64 x.ae,.slice a1 n1 e1,.slice a2 n2 e2,.pointer (some ⟨d1,0,none⟩),.pointer (some ⟨wb,0,none⟩)]).toArray] #[],.func (.func 63) #[.agg ([Value.int .i64 x.ae,.slice a1 n1 e1,.slice a2 n2 e2,.pointer (some ⟨d1,0,none⟩),.pointer (some ⟨wb,0,none⟩)]).toArray] #[]]:List Value).toArray),(38,.int .i64 (j:Int)),(43,.slice a2 n2 e2),(44,.int .i64 (n2:Int)),(45,.int .i64 (q:Int))]) (F:=fun(q,fq)=>[As.map Key.val d2 fq,As.map Key.val d3 []]) (I:=fun(q,fq)=>(q≤x.ak.length)∧(ba ab x.ah fq)∧((x.ak.take q).all (rL ab x.ah j)=true)∧True) (μ:=fun(q,fq)=>x.ak.length - q) (0,ml) (bO.p2.p2) Sub.t (⟨by omega,hm,rfl,trivial⟩)<|?_;rintro⟨q,fq⟩ kM bD ⟨hq,jg,cy,_⟩;simp only [CA,NA] at bD hq jg cy ⊢;refine(bp) (fun Bl=>?_) fun Bl=>?_
  ·
   simp at Bl
   have zs:q<x.ak.length:=by omega
   refine eA ?_;obtain⟨gE,js,iT,aS,fi,bq,bY,di⟩:=Rd.at (As.gr bD.g10) zs;obtain⟨q1,q2,q3,rfl,pA,oM⟩:=bq;have cx:=bD.fg di bY;have cG:=cx.fr pA;refine nx ?_;refine WP .r (PV.fm iF aS rfl rfl (by omega))<|(bz) dm (As.nh cG.g1)<|(fT) cG fun Cs kN ZZ Z0 cF=>?_;refine(dB) gC cF fun qL r7 mR cM=>?_;refine(bz) dm cM.b0<|?_;have cv:=cM.p8.p8.p8.p7.p7;refine WL.go rfl (OX.qA (Ux j) rfl rfl rfl ((Calls.recv (F8 (S:=(⟨ar,a1,a2,r,cr,n1,e1,n2,e2,d2,d3,d1⟩:SD)) cv.e5 (As.gf cv.g9) jg hR hS (As.gr cv.g13) (As.gr cv.g6) oM hx ll uX (aq zs) j)).mono ?_));rintro _ uN ⟨kK,rfl,KW,_,BN⟩;refine⟨_,rfl,?_⟩;have cI:=St.lr cv BN;refine(bp) (fun V6=>?_) fun V6=>?_
   ·
    have eO:rL ab x.ah j x.ak[q]=false:=by simpa using V6
    have Lf:x.ak.all (rL ab x.ah j)=false:=List.all_eq_false.2 ⟨x.ak[q],List.getElem_mem zs,by simp [eO]⟩
    have Is:gZ ab x.ah x.ak (j+1)=gZ ab x.ah x.ak j++[(j:Int)+1]:=by rw [qd,Lf];simp
    refine eA ?_;refine WL.go rfl (OX.bA (us:=[.int .i64 ((j:Int)+1)]) Ks rfl rfl rfl rfl fun b56 yX amg amh=>?_);have ef:=cI.eW amg amh;refine WL.ap rfl rfl ef.p9 (SR.eP (A:=fun _=>True) (x:=(j:Int)+1) (As.gb ef.g0) trivial rfl (by simp [Value.oneCell']) rfl) fun a57 afX uO atp atq dh=>?_;refine dF ?_;refine EX.ahT rfl<|qC ?_;have eC:=dh.Cl (B:=As.os RR.int 3 1 a57 (jY+1) afX (gZ ab x.ah x.ak (j+1))) (by rw [Is]);refine fx (j+1,kK,a57,(jY+1),afX) ⟨eC.p1.drop.p6.drop.p6.drop.p6.drop,⟨by omega,KW,trivial⟩⟩
   have eO:rL ab x.ah j x.ak[q]=true:=by simpa using V6
   refine gp ?_;refine fx (q+1,kK) ⟨cI.p5.drop.p5.drop.p5.drop.p5.p2.p2,⟨by omega,KW,by rw [List.take_succ_eq_append_getElem zs,List.all_append,cy];simp [eO],trivial⟩⟩
  simp at Bl
  have Lf:x.ak.all (rL ab x.ah j)=true:=by rw [List.take_of_length_le (by omega)] at cy;exact cy
  have Is:gZ ab x.ah x.ak (j+1)=gZ ab x.ah x.ak j:=by rw [qd,Lf];simp
  refine nj ?_;have cx:=bD.p2.Cl (B:=As.os RR.int 3 1 lC jY mf (gZ ab x.ah x.ak (j+1))) (by rw [Is]);refine fx (j+1,fq,lC,jY,mf) ⟨cx,⟨by omega,jg,trivial⟩⟩
 simp at om
 obtain rfl:j=5:=by omega
 refine bC ?_;refine(GH) ?_;exact⟨_,_,_,_,rfl,kZ,bO.k1⟩
set_option maxHeartbeats 400000
theorem St.shrink{w0:World}{Z':Nat→Prop}(h:St w0 M Z' w []) (hz:∀x,Z x→Z' x):St w0 M Z w []:=⟨h.cX,fun x hx=>h.mj x (hz x hx),by simp,by simp,.nil,by simp⟩
theorem Cd(hi:i<ab.length) (hu:iW A w ar r cr ab) (oW:Rd RR.aH 4 Z w a1 n1 e1 x.ah) (hr:Rd RR.fl 8 Z w a2 n2 e2 x.ak) (hR:ay ab) (hx:kT ab x):CR prog 84 #[.slice ar r cr,.agg (x.row a1 n1 e1 a2 n2 e2).toArray,(aQ ab (i:Int)).val] w (.int .i64 0):=by
 have pY:=hR.len;refine enter func84 rfl ntmps84 rfl<|?_;have aW:=St.s0 w;refine(eD) aW fun b4 w1 jS bL st1=>?_;refine(eD) st1 fun b5 w2 nH gI st2=>?_;refine(gw) (sg (hu.ext (St.cg st2)) hR) st2 fun w3 s3 aP=>?_;refine dF ?_;refine WC.iu rfl<|(bz) aN aP.b1<|(gw) (pG (oW.ext (St.cg aP)) (hr.ext (St.cg aP)) hx) aP fun w4 s4 aV=>?_;refine dF ?_;refine WC.iu rfl<|(bz) av aV.b0<|(gw) (CV hi (by omega) (hu.ext (St.cg aV))) aV fun w5 s5 bf=>?_;refine dF ?_;refine WC.iu rfl<|(cm) ?_;exact⟨rfl,(St.cg bf)⟩
theorem Ce(bF:St w M Z w []) (ht:oy prog Z w) (hi:i<ab.length) (hk:k=(aQ ab (i:Int))) (hu:Rd RR.gN 4 Z w ar r cr ab) (oW:Rd RR.aH 4 Z w a1 n1 e1 x.ah) (hr:Rd RR.fl 8 Z w a2 n2 e2 x.ak) (hR:ay ab) (hx:kT ab x) (hS:∀k,(valOf ab x.ah k).size≤1000):Calls prog 46 #[.slice ar r cr,.agg (x.row a1 n1 e1 a2 n2 e2).toArray,k.val] w fun e w'=>e=.returned (.tuple #[.string (valOf ab x.ah k),.int .i64 0])∧St w M Z w' []:=by
 subst hk;have pY:=hR.len;have Dn:gS ab (aQ ab (i:Int)):=.gN hi (by omega);refine enter func46 rfl ntmps46 rfl<|?_;have aW:=bF;have st1:=aW.fr hu;have st2:=st1.fr oW;have aP:=st2.fr hr;have aV:=aP.fact (B:=As.fz (FZ.LH prog)) ht (fun _ hx=>hx);refine(eD) aV fun b4 w1 jS bL bf=>?_;refine(eD) bf fun b5 w2 nH gI br=>?_;refine(bz) aN br.b1<|(bz) av br.b0<|(gw) (Cd hi (As.gr br.g5) (As.gr br.g4) (As.gr br.g3) hR hx) br fun w3 s3 bP=>?_;refine(bp) (fun g14=>?_) fun g14=>?_
 ·
  exact gM g14
 refine dw ?_;refine WC.dq (m:=4) [] [2] [0,1,2,3] [] bP (ax.k4 M0 M1 M2 M3<|ax.cons M4<|ax.cons M5<|ax.nil) mixed (by kernel_rfl) (by kernel_rfl) rfl<|(oz) aN SV.g1<|(jD) (fun w4 Q1 BW bS sj=>?_);simp only [CA,NA] at bS;have bX:=bS;refine OX.call TS rfl rfl ((ou (x:=x) bX.e0).mono ?_);rintro _ w5 ⟨d1,d2,d3,rfl,ja⟩;have aM:=St.lr bX ja;have aT:=aM;have aY:=aT.freeze (B:=As.fz (SD.FV (⟨ar,a1,a2,r,cr,n1,e1,n2,e2,d2,d3,d1⟩:SD) prog ab x)) ⟨(SD.F (⟨ar,a1,a2,r,cr,n1,e1,n2,e2,d2,d3,d1⟩:SD) prog ab x).mono (fun _ h=>.inl h) ⟨(As.gr aT.g8),(As.gr aT.g7),(As.gr aT.g6),(As.gf aT.g5)⟩,.inr rfl,((As.gb aT.g0)).lt,cJ.range (As.gb aT.g0)⟩ (fun _ hx=>hx);refine⟨_,rfl,ja.cX.size,_,rfl,_,_,_,aY,aC.k4<|aC.k4<|aC.cons<|aC.nil,ax.k4 M3 M4 M5 M6<|ax.cons M7<|ax.cons M8<|ax.nil,?_⟩;refine(oz) av SV.g0<|(oa)<|?_;intro w6 lR bG;simp only [CM,NM,CA,NA,lA.it] at bG;have bB:=bG.p2.p2;refine(df) Qh (F2 (D:=(⟨ar,a1,a2,r,cr,n1,e1,n2,e2,d2,d3,d1⟩:SD)) hR hS Dn _ _ _ _ _ bB.e2 (As.gf bB.g2) ba.nil (fun _=>nU.nil _)) ?_;rintro _ w7 ⟨fq,rfl,_,_,ke⟩;have bd:=St.lr bB ke;refine db ?_;refine WL.nil (EX.np ?_);refine(GH) ?_;exact⟨rfl,(bd.k0).shrink fun _ h=>.inl h⟩
theorem sy{ag:Option Addr}{ng eg:Nat}{l:List Key}(bF:St w M Z w []) (ht:oy prog Z w) (hu:Rd RR.gN 4 Z w ar r cr ab) (oW:Rd RR.aH 4 Z w a1 n1 e1 x.ah) (hr:Rd RR.fl 8 Z w a2 n2 e2 x.ak) (hg:Rd RR.key 2 Z w ag ng eg l) (hR:ay ab) (hx:kT ab x) (hS:∀k,(valOf ab x.ah k).size≤1000) (ll:∀y∈x.ak,y.az=x.ae) (hl:∀k∈l,∃i:Nat,i<ab.length∧k=(aQ ab (i:Int))∧(aD x.ak k).isSome=true) (hl4:l.length≤1000000):Calls prog 17 #[.slice ar r cr,.agg (x.row a1 n1 e1 a2 n2 e2).toArray,.slice ag ng eg] w fun e w'=>e=.returned (.bool (l.all (fun k=>decide ((aG x.ak k).value=valOf ab x.ah k))))∧St w M Z w' []:=by
 have pY:=hR.len;have hlen:=hg.len;refine enter func17 rfl ntmps17 rfl<|?_;have aW:=bF;have st1:=aW.fr hu;have st2:=st1.fr oW;have aP:=st2.fr hr;have aV:=aP.fr hg;have bf:=aV.fact (B:=As.fz (FZ.LH prog)) ht (fun _ hx=>hx);refine(eD) bf fun b4 w1 jS bL br=>?_;refine bC ?_;refine WC.bQ (σ:=Nat) (eI:=fun q=>[(0,.slice ar r cr),(4,.pointer (some ⟨b4,0,none⟩)),(13,.slice ag ng eg),(14,.int .i64 (ng:Int)),(15,.int .i64 (q:Int))]) (F:=fun q=>[]) (I:=fun q=>(q≤l.length)∧((l.take q).all (fun k=>decide ((aG x.ak k).value=valOf ab x.ah k))=true)∧True) (μ:=fun q=>l.length - q) (0) (br) Sub.t (⟨by omega,rfl,trivial⟩)<|?_;rintro q w2 bP ⟨hq,cy,_⟩;simp only [CA,NA] at bP hq cy ⊢;refine(bp) (fun g16=>?_) fun g16=>?_
 ·
  simp at g16
  have zs:q<l.length:=by omega
  obtain⟨i,hi,qQ,hfs⟩:=hl _ (List.getElem_mem zs);obtain⟨y,hy⟩:=Option.isSome_iff_exists.1 hfs
  have Ei:aG x.ak l[q]=y:=by unfold aG;rw [hy];rfl
  have hvy:=ll y (bm hy).1
  have gQ:aB l[q]=false:=by rw [qQ];exact dI hi (by omega)
  have Dn:gS ab l[q]:=by rw [qQ];exact .gN hi (by omega)
  refine eA ?_;obtain⟨gE,js,iT,aS,fi,bq,bY,di⟩:=Rd.at (As.gr bP.g2) zs;have bq:=RR.cH bq;subst bq;have bS:=bP.fg di bY;refine nx ?_;refine WP .r (PV.fm fL aS rfl rfl (by omega))<|(bz) av (As.nh bS.g0)<|(fT) bS fun b8 w3 Bn jm bX=>?_;refine(dB) jH bX fun w4 jC jI aM=>?_;refine(bz) aN aM.b2<|(bz) av aM.b0<|?_;have aT:=aM;refine(df) ajG (C6 aT.e0 (As.gr aT.g5) gQ hy hvy) ?_;rintro _ w5 ⟨rfl,ja⟩;have aY:=St.lr aT ja;refine(bz) aN aY.b2<|(bz) av aY.b0<|?_;have bG:=aY;refine(df) ajH (Ce bG.e0 (As.gf bG.g3) hi qQ (As.gr bG.g7) (As.gr bG.g6) (As.gr bG.g5) hR hx hS) ?_;rintro _ w6 ⟨rfl,nL⟩;have bB:=St.lr bG nL;refine kJ ?_;refine WC.fQ (t:=42) (v:=.bool (decide (y.value≠valOf ab x.ah l[q]))) bB ?_<|?_
  ·
   refine dF ?_;refine WL.iB (t:=34) rfl (fun uW=>?_) (fun uW=>?_)
   ·
    exact(dx) (tG uW) (bB)
   refine dF ?_;refine WL.iB (t:=38) rfl (fun uP=>?_) (fun uP=>?_)
   ·
    exact(dx) (tG (aj uW uP)) (bB)
   exact(dx) (tG (aj uW uP)) (bB)
  intro w7 bd;refine(bp) (fun kE=>?_) fun kE=>?_
  ·
   have eO:(fun k=>decide ((aG x.ak k).value=valOf ab x.ah k)) l[q]=false:=by simp at kE;simp [Ei,kE]
   have Lf:l.all (fun k=>decide ((aG x.ak k).value=valOf ab x.ah k))=false:=List.all_eq_false.2 ⟨l[q],List.getElem_mem zs,by simp only [eO];simp⟩;refine(cm) ?_;exact⟨by rw [Lf],bd.k0⟩
  have eO:decide ((aG x.ak l[q]).value=valOf ab x.ah l[q])=true:=by simp at kE;simp [Ei,kE]
  refine gp ?_;refine fx (q+1) ⟨bd.drop.drop,⟨by omega,by rw [List.take_succ_eq_append_getElem zs,List.all_append,cy];simp [eO],trivial⟩⟩
 simp at g16
 have Lf:l.all (fun k=>decide ((aG x.ak k).value=valOf ab x.ah k))=true:=by rw [List.take_of_length_le (by omega)] at cy;exact cy
 refine(cm) ?_;exact⟨by rw [Lf],bP.k0⟩
set_option maxHeartbeats 400000
set_option maxHeartbeats 1600000 in
set_option maxRecDepth 8000 in
theorem wi{l:List Change}{al:Option Addr}{nl el:Nat}(bF:St w M Z w []) (hi:Rd RR.aH 4 Z w a1 n1 e1 x.ah) (hr:Rd RR.fl 8 Z w a2 n2 e2 x.ak) (hl:Rd RR.cX 3 Z w al nl el l) (hb:mB x) (hx:l4 x.ae x.ah) (hs:∀c∈l,c.small) (hl4:l.length≤32):Calls prog 9 #[.agg (x.row a1 n1 e1 a2 n2 e2).toArray,.slice al nl el] w fun e w'=>∃(y:dV) (b1 b2:Option Addr) (m1 d1 m2 d2:Nat) (er:Int) (Z':Nat→Prop),e=.returned (.tuple #[.agg (y.row b1 m1 d1 b2 m2 d2).toArray,.int .i64 er])∧y.ak=x.ak∧x.ae≤y.ae∧y.ae≤1073741824∧l4 y.ae y.ah∧y.ah.length≤64∧y.ae≤x.ae+1∧ApR x l y∧(x.ae+1≤1073741824→er=0)∧Rd RR.aH 4 Z' w' b1 m1 d1 y.ah∧Rd RR.fl 8 Z' w' b2 m2 d2 y.ak∧cQ w.heap.size Z Z'∧St w M Z' w' []:=by
 have hln:=hl.len;have h7a:=hb.2.2.2.2.1;have h6a:=hb.2.2.2.2.2.1
 have h6:x.ak.length≤1000000:=by omega
 have h7:x.ah.length≤1000000:=by omega
 have hv0:=hb.2.2.1;have Jt:=hb.2.2.2.1;refine enter func9 rfl ntmps9 rfl<|?_;have aW:=St.rb bF;have st1:=aW.fr hi;have st2:=st1.fr hr;have aP:=st2.fr hl;refine(eD) aP fun b2 w1 lB eZ aV=>?_;refine(fT) aV fun b4 w2 jS bL bf=>?_;refine(bz) aN bf.b1<|?_;have br:=bf;refine(df) Bc (fO (x:=x) br.e0 (As.gr br.g4) (As.gr br.g3) h6 h7) ?_;rintro _ w3 ⟨f1,f2,f3,f4,f5,f6,Z1,rfl,gP,eG⟩;have bP:=St.lv br eG gP;have ami:=St.cK eG;have amj:=St.cK eG.p1;have fj:=br.size;have oN:=gP.le fj;have amk:=St.fresh bP;have bS:=bP.bV (by omega);have aml:=St.fresh bS.p1;have bX:=bS.p1.bV (by omega);have amm:=(oN.trans (cQ.fo (F:=fun x=>x∈aL f1) ami) fj).trans (cQ.fo (F:=fun x=>x∈aL f4) amj) fj;refine(dB) gg bX.p3 fun w4 jC jI aM=>?_;refine(bz) aN aM.b0<|(df) YB (qq (x:=x) (As.gr aM.g2) (As.gr aM.g1)) ?_;rintro _ w5 ⟨bb,rfl,hbb,s5⟩;have aT:=aM.step s5;obtain rfl:bb=true:=hbb.2 hb;refine(bp) (fun g24=>?_) fun g24=>?_
 ·
  exact gM g24
 ·
  refine(bp) (fun oq=>?_) fun oq=>?_
  ·
   exact gM oq
  refine bC ?_;refine WC.bQ (σ:=Nat) (eI:=fun i=>[(1,.slice al nl el),(2,.pointer (some ⟨b2,0,none⟩)),(4,.pointer (some ⟨b4,0,none⟩)),(34,.slice al nl el),(35,.int .i64 (nl:Int)),(36,.int .i64 (i:Int))]) (F:=fun i=>[]) (I:=fun i=>(i≤l.length)∧True) (μ:=fun i=>l.length - i) (0) (aT) Sub.t (⟨by omega,trivial⟩)<|?_;rintro i w6 aY ⟨gQ,_⟩;simp only [CA,NA] at aY gQ ⊢;refine(bp) (fun vL=>?_) fun vL=>?_
  ·
   simp at vL
   have cV:i<l.length:=by omega
   have En:=hs _ (List.getElem_mem cV);have hsk:=En.ok;have Uc:=En.2;refine eA ?_;obtain⟨gE,js,iT,aS,fi,bq,bY,di⟩:=Rd.at (As.gr aY.g4) cV;have bq:=RR.cH bq;subst bq;have bG:=aY.fg di bY;refine nx ?_;refine WP .r (PV.fm ND aS rfl rfl (by omega))<|(bz) HV (As.nh bG.g0)<|(fT) bG fun b7 w7 tJ nT bB=>?_;refine(dB) P8 bB fun w8 r7 mR bd=>?_;refine(kl) av bd.b0<|?_;refine WL.c1 (u:=.bool true) (kY (k:=l[i].key)) (by rw [hsk.1]) bd fun w9 s9 aU=>?_;refine(kl) av aU.b0<|?_;refine WL.c1 (u:=.bool true) (fM (k:=l[i].key)) (by rw [hsk.2]) aU fun kM pz bM=>?_;refine dF ?_;refine WC.iu rfl<|gp ?_;refine fx (i+1) ⟨bM.drop.drop,⟨by omega,trivial⟩⟩
  skip
  refine bC ?_;refine db ?_;refine WC.bQ (σ:=Nat) (eI:=fun i=>[(1,.slice al nl el),(2,.pointer (some ⟨b2,0,none⟩)),(4,.pointer (some ⟨b4,0,none⟩)),(52,.slice al nl el),(53,.int .i64 (nl:Int)),(54,.int .i64 (i:Int))]) (F:=fun i=>[]) (I:=fun i=>(i≤l.length)∧True) (μ:=fun i=>l.length - i) (0) (aY) Sub.t (⟨by omega,trivial⟩)<|?_;rintro i w7 bG ⟨gQ,_⟩;simp only [CA,NA] at bG gQ ⊢;refine(bp) (fun Be=>?_) fun Be=>?_
  ·
   simp at Be
   have cV:i<l.length:=by omega
   have En:=hs _ (List.getElem_mem cV);have Uc:=En.2;refine eA ?_;obtain⟨gE,js,iT,aS,fi,bq,bY,di⟩:=Rd.at (As.gr bG.g4) cV;have bq:=RR.cH bq;subst bq;have bB:=bG.fg di bY;refine nx ?_;refine WP .r (PV.fm ND aS rfl rfl (by omega))<|(bz) HV (As.nh bB.g0)<|(fT) bB fun b9 w8 QE Bw bd=>?_;refine(dB) P8 bd fun w9 Ej td aU=>?_;refine(bN) iq aU.b0<|(bp) (fun T7=>?_) fun T7=>?_
   ·
    exact gM T7
   refine gp ?_;refine fx (i+1) ⟨aU.drop.drop,⟨by omega,trivial⟩⟩
  skip
  refine(bz) aN bG.b0<|?_;have bB:=bG;refine(df) Bc (fO (x:=x) bB.e0 (As.gr bB.g2) (As.gr bB.g1) h6 h7) ?_;rintro _ w8 ⟨k1,k2,k3,k4,k5,k6,Z2,rfl,BL,kF⟩;have bd:=St.lv bB kF BL;have amn:=St.cK kF;have amo:=St.cK kF.p1;have pC:=bB.size;have kZ:=amm.trans BL pC;have amp:=St.fresh bd;have aU:=bd.bV (by omega);have amq:=St.fresh aU.p1;have bM:=aU.p1.bV (by omega);have amr:=(kZ.trans (cQ.fo (F:=fun x=>x∈aL k1) amn) pC).trans (cQ.fo (F:=fun x=>x∈aL k4) amo) pC;refine(fT) bM fun jd w9 ma fP bO=>?_;refine(dB) gg bO fun kM RZ wX bD=>?_;refine(bN) aX bD.b0<|db ?_;refine WL.s1 bD fun kN _ cx=>?_;refine bC ?_;refine dF ?_;refine WC.kj (σ:=Nat × Bool × (List dE) × (Option Addr) × Nat × Nat × (Nat→Prop)) (eI:=fun(i,ch,li,ai,ni,ei,Z3)=>[(1,.slice al nl el),(2,.pointer (some ⟨b2,0,none⟩)),(4,.pointer (some ⟨b4,0,none⟩)),(10,.pointer (some ⟨jd,0,none⟩)),(11,.bool ch),(70,.slice al nl el),(71,.int .i64 (nl:Int)),(72,.int .i64 (i:Int))]) (F:=fun(i,ch,li,ai,ni,ei,Z3)=>[As.blk jd 31 [.int .i64 (x.ae+1),.slice ai ni ei,.slice k4 k5 k6],As.ro RR.aH 4 ai ni ei li]) (I:=fun(i,ch,li,ai,ni,ei,Z3)=>(i≤l.length)∧(l4 (x.ae+1) li)∧(li.length≤x.ah.length+i)∧(∀k,(∀c∈l,c.key≠k)→ek li k=ek x.ah k)∧(∀k,ek li k=ek x.ah k∨(ek li k).changed=x.ae+1)∧(cQ w.heap.size Z Z3)∧True) (μ:=fun(i,ch,li,ai,ni,ei,Z3)=>l.length - i) (Zf:=fun(i,ch,li,ai,ni,ei,Z3)=>Z3) (0,false,x.ah,k1,k2,k3,_) (cx.p2.p1) Sub.t (⟨by omega,hx.mono (by omega),by omega,fun _ _=>rfl,fun _=>.inl rfl,amr,trivial⟩)<|?_;rintro⟨i,ch,li,ai,ni,ei,Z3⟩ qL cG ⟨gQ,hG,ams,UT,hfc,qN,_⟩;simp only [CA,NA] at cG gQ hG ams UT hfc qN ⊢;refine(bp) (fun R8=>?_) fun R8=>?_
  ·
   have amt:=((As.gr cG.g1)).len
   simp at R8
   have cV:i<l.length:=by omega
   have En:=hs _ (List.getElem_mem cV);refine eA ?_;obtain⟨gE,js,iT,aS,fi,bq,bY,di⟩:=Rd.at (As.gr cG.g7) cV;have bq:=RR.cH bq;subst bq;have cF:=cG.fg di bY;refine db ?_;refine WP .r (PV.fm ND aS rfl rfl (by omega))<|(bz) HV (As.nh cF.g0)<|(fT) cF fun sZ uN NX ae7 cM=>?_;refine(dB) P8 cM fun yX R6 Hf cv=>?_;refine bC ?_;refine nx ?_;refine WP .r (PV.zN ND (i:=i+1) (As.gr cv.g9) rfl rfl (by omega))<|dw ?_;have cI:=cv.fr (SR.drop (i:=i+1) (As.gr cv.g9) (by omega));refine db ?_;refine WC.bQ (σ:=Nat × Bool) (eI:=fun(q,la)=>[(1,.slice al nl el),(2,.pointer (some ⟨b2,0,none⟩)),(4,.pointer (some ⟨b4,0,none⟩)),(10,.pointer (some ⟨jd,0,none⟩)),(11,.bool ch),(13,.pointer (some ⟨sZ,0,none⟩)),(14,.bool la),(70,.slice al nl el),(71,.int .i64 (nl:Int)),(72,.int .i64 (i:Int)),(80,.slice (kR al (i+1) 3 el) (nl - (i+1)) (el - (i+1))),(81,.int .i64 ((nl - (i+1):Nat):Int)),(82,.int .i64 (q:Int))]) (F:=fun(q,la)=>[]) (I:=fun(q,la)=>(q≤nl - (i+1))∧True) (μ:=fun(q,la)=>nl - (i+1) - q) (0,true) (cI) Sub.t (⟨by omega,trivial⟩)<|?_;rintro⟨q,la⟩ uO ef ⟨hq,_⟩;simp only [CA,NA] at ef hq ⊢;refine(bp) (fun g83=>?_) fun g83=>?_
   ·
    simp at g83
    have zs:q<(l.drop (i+1)).length:=by rw [List.length_drop];omega
    refine eA ?_;obtain⟨uM,Ih,CN,ft,tK,gk,jO,pB⟩:=Rd.at (As.gr ef.g0) zs;have gk:=RR.cH gk;subst gk;have dh:=ef.fg pB jO;refine nx ?_;refine WP .r (PV.fm ND ft rfl rfl (by omega))<|(bz) HV (As.nh dh.g0)<|(fT) dh fun wv yY QP Ud eC=>?_;refine(dB) P8 eC fun El VW VX cT=>?_;refine db ?_;have dO:=cT;refine WC.nk (σ:=Bool) [] (fun ZX=>[(1,.slice al nl el),(2,.pointer (some ⟨b2,0,none⟩)),(4,.pointer (some ⟨b4,0,none⟩)),(10,.pointer (some ⟨jd,0,none⟩)),(11,.bool ch),(13,.pointer (some ⟨sZ,0,none⟩)),(14,.bool ZX),(70,.slice al nl el),(71,.int .i64 (nl:Int)),(72,.int .i64 (i:Int)),(80,.slice (kR al (i+1) 3 el) (nl - (i+1)) (el - (i+1))),(81,.int .i64 ((nl - (i+1):Nat):Int)),(82,.int .i64 (q:Int))]) (fun ZX=>[]) (fun ZX=>True) dO ?_ ?_
    ·
     refine(dT) (fun QX=>?_) (fun QX=>?_)
     ·
      refine(kl) av dO.b0<|(kl) av dO.b3<|?_;refine WP .r (PV.OT gB (p:=(l.drop (i+1))[q].key) (q:=l[i].key) rfl rfl)<|dw ?_;exact tw (_) ⟨dO,trivial⟩
     refine kJ ?_;exact tw (_) ⟨dO,trivial⟩
    rintro ZX Cr cU _;simp only [CA,NA] at cU ⊢;refine jo ?_;refine fx (q+1,_) ⟨cU.drop.drop,⟨by omega,trivial⟩⟩
   skip
   refine gp ?_;refine WC.fQ (t:=105) (v:=.bool (!la || decide ((ek x.ah l[i].key).value=l[i].value))) ef ?_<|?_
   ·
    have atv:=ef.dc;refine WC.fc (m:=9) (E:=dy [(6,fun v _=>v=.string (ek x.ah l[i].key).value)]) ef (bT (⟨fun _ _ _ _ _ _ _ h=>h,trivial⟩)) mixed (by kernel_rfl)<|(tf) (fun g97=>?_) (fun g97=>?_)
    ·
     refine(ey) ?_;rintro yY ⟨afY,dh⟩ _;exact(dx) (tG g97) (dh)
    refine(jA) aN St.g6<|(Cm) av St.g1<|?_;refine DW.c0 (fun wx hC hF=>xB (x:=x) (k:=l[i].key) (As.gr hC.2.g8) (As.gr hC.2.g7))<|(lF) iq St.g1<|(ey)<|?_;rintro yY ⟨afY,dh⟩ ⟨_,_⟩;exact(dx) (tG g97) (dh)
   intro yY dh;refine(bp) (fun Rg=>?_) fun Rg=>?_
   ·
    refine kJ ?_;refine fx (i+1,ch,li,ai,ni,ei,Z3) ⟨dh.drop.drop.drop,⟨by omega,hG,by show li.length≤x.ah.length+(i+1);omega,UT,hfc,qN,trivial⟩⟩
   refine bC ?_;refine(bN) pw dh.b3<|eA ?_;have eC:=dh.eX RR.aH 83 4;refine WC.bQ (σ:=Nat × Bool × (List dE) × (Option Addr) × Nat × Nat) (eI:=fun(q,put,acc,mO,mh,nO)=>[(1,.slice al nl el),(2,.pointer (some ⟨b2,0,none⟩)),(4,.pointer (some ⟨b4,0,none⟩)),(10,.pointer (some ⟨jd,0,none⟩)),(11,.bool true),(13,.pointer (some ⟨sZ,0,none⟩)),(17,.slice mO mh nO),(18,.bool put),(70,.slice al nl el),(71,.int .i64 (nl:Int)),(72,.int .i64 (i:Int)),(107,.slice ai ni ei),(108,.int .i64 (ni:Int)),(109,.int .i64 (q:Int))]) (F:=fun(q,put,acc,mO,mh,nO)=>[As.os RR.aH 83 4 mO mh nO (acc)]) (I:=fun(q,put,acc,mO,mh,nO)=>(q≤li.length)∧(acc++ji (⟨l[i].key,l[i].value,x.ae+1⟩:dE) (li.drop q) put=ji (⟨l[i].key,l[i].value,x.ae+1⟩:dE) li false)∧True) (μ:=fun(q,put,acc,mO,mh,nO)=>li.length - q) (0,false,[],none,0,0) (eC) Sub.t (⟨by omega,rfl,trivial⟩)<|?_;rintro⟨q,put,acc,mO,mh,nO⟩ El cT ⟨hq,I4,_⟩;simp only [CA,NA] at cT hq I4 ⊢;have afZ:=SJ I4;have amu:=((As.gs cT.g0)).len;refine(bp) (fun pD=>?_) fun pD=>?_
   ·
    simp at pD
    have zs:q<li.length:=by omega
    have NU:=SI zs I4
    dsimp only at NU
    refine eA ?_;obtain⟨NV,atw,afb,kz,V4,Em,Mv,af0⟩:=Rd.at (As.gr cT.g5) zs;have Em:=RR.cH Em;subst Em;have dO:=cT.fg af0 Mv;refine nx ?_;refine WP .r (PV.fm yR kz rfl rfl (by omega))<|(bz) qJ (As.nh dO.g0)<|(fT) dO fun b20 Cr YP YQ cU=>?_;refine(dB) H0 cU fun Ip Zo Zp dz=>?_;refine(kl) av dz.b0<|(kl) av dz.b4<|(gw) (mW (k:=li[q].key) (q:=l[i].key)) dz fun Mt s20 dt=>?_;refine eA ?_;have eK:=dt;refine WC.nk (σ:=Bool) [] (fun N7=>[(1,.slice al nl el),(2,.pointer (some ⟨b2,0,none⟩)),(4,.pointer (some ⟨b4,0,none⟩)),(10,.pointer (some ⟨jd,0,none⟩)),(11,.bool true),(13,.pointer (some ⟨sZ,0,none⟩)),(17,.slice mO mh nO),(18,.bool put),(20,.pointer (some ⟨b20,0,none⟩)),(21,.int .i64 (cE li[q].key l[i].key)),(70,.slice al nl el),(71,.int .i64 (nl:Int)),(72,.int .i64 (i:Int)),(107,.slice ai ni ei),(108,.int .i64 (ni:Int)),(109,.int .i64 (q:Int)),(123,.bool N7)]) (fun N7=>[]) (fun N7=>(N7=(decide (0≤cE li[q].key l[i].key) && !put))∧True) eK ?_ ?_
    ·
     refine(dT) (fun aae=>?_) (fun aae=>?_)
     ·
      refine dF ?_;exact tw (!put) ⟨eK,⟨by rw [decide_eq_true (show 0≤cE li[q].key l[i].key by simp at aae;omega)];rfl,trivial⟩⟩
     refine dF ?_;exact tw (false) ⟨eK,⟨by rw [decide_eq_false (show ¬0≤cE li[q].key l[i].key by simp at aae;omega)];rfl,trivial⟩⟩
    rintro N7 My dD ⟨aaf,_⟩;simp only [CA,NA] at dD aaf ⊢;refine nx ?_;have ew:=dD.p2;refine WC.nk (σ:=Bool × (List dE) × (Option Addr) × Nat × Nat) [_] (fun(pu2,jJ,mO,mh,nO)=>[(1,.slice al nl el),(2,.pointer (some ⟨b2,0,none⟩)),(4,.pointer (some ⟨b4,0,none⟩)),(10,.pointer (some ⟨jd,0,none⟩)),(11,.bool true),(13,.pointer (some ⟨sZ,0,none⟩)),(17,.slice mO mh nO),(18,.bool pu2),(20,.pointer (some ⟨b20,0,none⟩)),(21,.int .i64 (cE li[q].key l[i].key)),(70,.slice al nl el),(71,.int .i64 (nl:Int)),(72,.int .i64 (i:Int)),(107,.slice ai ni ei),(108,.int .i64 (ni:Int)),(109,.int .i64 (q:Int))]) (fun(pu2,jJ,mO,mh,nO)=>[As.os RR.aH 83 4 mO mh nO (jJ)]) (fun(pu2,jJ,mO,mh,nO)=>(jJ++(if cE li[q].key l[i].key=0 then [] else [li[q]])++ji (⟨l[i].key,l[i].value,x.ae+1⟩:dE) (li.drop (q+1)) pu2=ji (⟨l[i].key,l[i].value,x.ae+1⟩:dE) li false)∧True) ew ?_ ?_
    ·
     refine(bp) (fun K4=>?_) fun K4=>?_
     ·
      refine(kl) av ew.b4<|(bN) iq ew.b4<|(bN) aX (cJ.range (As.gb ew.g6))<|?_;refine WP .r (PV.cD (us:=(⟨l[i].key,l[i].value,x.ae+1⟩:dE).cells) Tk rfl rfl rfl)<|?_;refine WL.go rfl (OX.bA (us:=(⟨l[i].key,l[i].value,x.ae+1⟩:dE).cells) Ku rfl rfl rfl rfl fun atx Ur af1 af2=>?_);have fk:=ew.eW af1 af2;refine WL.ap rfl rfl fk.p1 (SR.eP (A:=fun _=>True) (x:=(⟨l[i].key,l[i].value,x.ae+1⟩:dE)) (As.gb fk.g0) trivial rfl (by simp [dE.cells,Value.oneCell']) rfl) fun amv af3 w23 apn apo eY=>?_;refine dw ?_;exact tw (true,acc++[(⟨l[i].key,l[i].value,x.ae+1⟩:dE)],amv,(mh+1),af3) ⟨eY.p1.drop,⟨by have h2:(decide (0≤cE li[q].key l[i].key) && !put)=true:=(by rw [← aaf];simpa using K4);have h3:(put || decide (0≤cE li[q].key l[i].key))=true:=(by revert h2;cases put <;> simp);rw [if_pos h2,h3] at NU;exact NU,trivial⟩⟩
     refine nx ?_;exact tw (put,acc,mO,mh,nO) ⟨ew,⟨by have h2:(decide (0≤cE li[q].key l[i].key) && !put)=false:=(by rw [← aaf];simpa using K4);have h3:(put || decide (0≤cE li[q].key l[i].key))=put:=(by revert h2;cases put <;> simp);rw [if_neg (by rw [h2];simp),h3,List.append_nil] at NU;exact NU,trivial⟩⟩
    rintro⟨pu2,jJ,mO,mh,nO⟩ Ur fk ⟨qP,_⟩;simp only [CA,NA] at fk qP ⊢
    have apq:jJ.length≤li.length+1:=by have h1:=congrArg List.length qP;rw [List.length_append,List.length_append] at h1;have:=rK (⟨l[i].key,l[i].value,x.ae+1⟩:dE) li false;omega
    have apr:=((As.gs fk.g0)).len;refine(bp) (fun Rh=>?_) fun Rh=>?_
    ·
     simp at Rh
     refine(bz) qJ fk.b1<|?_;refine WL.go rfl (OX.bA (us:=li[q].cells) Ku rfl rfl rfl rfl fun aty w23 af4 af5=>?_);have eY:=fk.eW af4 af5;refine WL.ap rfl rfl eY.p1 (SR.eP (A:=fun _=>True) (x:=li[q]) (As.gb eY.g0) trivial rfl (by simp [dE.cells,Value.oneCell']) rfl) fun a139 af6 w24 aps apt gu=>?_;refine kJ ?_;refine fx (q+1,pu2,jJ++[li[q]],a139,(mh+1),af6) ⟨gu.p1.drop.p1.drop.p1.drop,⟨by omega,by rw [← qP,if_neg Rh],trivial⟩⟩
    simp at Rh
    refine gp ?_;refine fx (q+1,pu2,jJ,mO,mh,nO) ⟨fk.p1.drop.p1.drop,⟨by omega,by rw [← qP,if_pos Rh,List.append_nil],trivial⟩⟩
   simp at pD
   rw [List.drop_eq_nil_of_le (by omega)] at I4;refine bC ?_;have dO:=cT;refine WC.nk (σ:=(List dE) × (Option Addr) × Nat × Nat) [_] (fun(jJ,mO,mh,nO)=>[(1,.slice al nl el),(2,.pointer (some ⟨b2,0,none⟩)),(4,.pointer (some ⟨b4,0,none⟩)),(10,.pointer (some ⟨jd,0,none⟩)),(11,.bool true),(17,.slice mO mh nO),(70,.slice al nl el),(71,.int .i64 (nl:Int)),(72,.int .i64 (i:Int))]) (fun(jJ,mO,mh,nO)=>[As.os RR.aH 83 4 mO mh nO (jJ)]) (fun(jJ,mO,mh,nO)=>(jJ=ji (⟨l[i].key,l[i].value,x.ae+1⟩:dE) li false)∧True) dO ?_ ?_
   ·
    refine(bp) (fun aah=>?_) fun aah=>?_
    ·
     refine(kl) av dO.b2<|(bN) iq dO.b2<|(bN) aX dO.b4<|?_;refine WP .r (PV.cD (us:=(⟨l[i].key,l[i].value,x.ae+1⟩:dE).cells) Tk rfl rfl rfl)<|?_;refine WL.go rfl (OX.bA (us:=(⟨l[i].key,l[i].value,x.ae+1⟩:dE).cells) Ku rfl rfl rfl rfl fun atz Cr af7 af8=>?_);have cU:=dO.eW af7 af8;refine WL.ap rfl rfl cU.p1 (SR.eP (A:=fun _=>True) (x:=(⟨l[i].key,l[i].value,x.ae+1⟩:dE)) (As.gb cU.g0) trivial rfl (by simp [dE.cells,Value.oneCell']) rfl) fun a152 af9 Ip apu apv dz=>?_;refine db ?_;exact tw (acc++[(⟨l[i].key,l[i].value,x.ae+1⟩:dE)],a152,(mh+1),af9) ⟨dz.p1.drop,⟨by have hp:put=false:=(by simpa using aah);rw [hp] at I4;exact I4,trivial⟩⟩
    refine nx ?_;exact tw (acc,mO,mh,nO) ⟨dO,⟨by have hp:put=true:=(by simpa using aah);rw [hp] at I4;exact(List.append_nil acc).symm.trans I4,trivial⟩⟩
   rintro⟨jJ,mO,mh,nO⟩ Cr cU ⟨N8,_⟩;simp only [CA,NA] at cU N8 ⊢;refine nx ?_;have afZ:=rK (⟨l[i].key,l[i].value,x.ae+1⟩:dE) li false;have amu:=((As.gs cU.g0)).len;rw [← N8] at afZ;have aai:=St.fresh cU;have dz:=cU.bV (by omega);have xE:=qN.trans (cQ.fo (F:=fun x=>x∈aL mO) aai) (Nat.le_refl _);have dt:=dz.p5.drop;refine dw ?_;refine WL.s1 dt.p4 fun Ip _ eK=>?_;refine gp ?_;refine fx (i+1,true,jJ,mO,mh,nO,_) ⟨eK.p2.drop.p2.drop.p2.drop,⟨by omega,by rw [N8];exact hG.put En (by omega),by show jJ.length≤x.ah.length+(i+1);rw [N8];have:=rK (⟨l[i].key,l[i].value,x.ae+1⟩:dE) li false;omega,fun k hk=>by rw [N8,DM (hk _ (List.getElem_mem cV))];exact UT k hk,by rw [N8];exact S2 hfc _ rfl,xE,trivial⟩⟩
  have amt:=((As.gr cG.g1)).len
  simp at R8
  refine bC ?_;refine(bp) (fun amw=>?_) fun amw=>?_
  ·
   refine(bz) aN cG.b3<|(dB) gg cG.p6 fun uN ss7 hs7 cF=>?_;refine jo ?_;refine EX.je rfl (RS.cell aN rfl cF.b0 rfl<|RS.tmp rfl<|RS.nil) rfl<|?_;exact⟨x,_,_,_,_,_,_,_,_,rfl,rfl,Int.le_refl _,Jt,hx,h7a,by omega,.refl _ _,fun _=>rfl,(As.gr cF.g6),(As.gr cF.g5),qN,(St.wk cF.k0)⟩
  refine(bN) pw cG.b0<|(bp) (fun aaj=>?_) fun aaj=>?_
  ·
   refine(bz) aN cG.b3<|(dB) gg cG.p6 fun uN ss8 hs8 cF=>?_;refine jo ?_;refine EX.je rfl (RS.cell aN rfl cF.b0 rfl<|RS.tmp rfl<|RS.nil) rfl<|?_;exact absurd aaj (by have:=hG.len;simp;omega)
  refine(bN) aX cG.b0<|(bp) (fun aak=>?_) fun aak=>?_
  ·
   refine(bz) aN cG.b3<|(dB) gg cG.p6 fun uN ss9 hs9 cF=>?_;refine jo ?_;refine EX.je rfl (RS.cell aN rfl cF.b0 rfl<|RS.tmp rfl<|RS.nil) rfl<|?_;exact⟨x,_,_,_,_,_,_,_,_,rfl,rfl,Int.le_refl _,Jt,hx,h7a,by omega,.refl _ _,fun h=>by(simp at aak;omega),(As.gr cF.g6),(As.gr cF.g5),qN,(St.wk cF.k0)⟩
  refine(bz) aN cG.b0<|(dB) gg cG.p6 fun uN amx amy cF=>?_;refine dF ?_;refine EX.je rfl (RS.cell aN rfl cF.b0 rfl<|RS.tmp rfl<|RS.nil) rfl<|?_;exact⟨⟨x.ae+1,li,x.ak⟩,_,_,_,_,_,_,_,_,rfl,rfl,by show x.ae≤x.ae+1;omega,by simp at aak;show x.ae+1≤_;omega,hG,by simp at aaj;show li.length≤64;omega,Int.le_refl _,⟨UT,.inr ⟨rfl,hfc⟩⟩,fun _=>rfl,(As.gr cF.g2),(As.gr cF.g3),qN,(St.wk cF.k0)⟩
 -- xz ky C49
end Go.Rc

