/- Walks over the program, part WI. Conditions: as each theorem says. -/
import Derived.Test.YtpoiojafnnaccaaGreatDoorTFacts
import Derived.Test.YtpoiojafnnaccaaGreatDoorTWH
import Derived.Test.YtpoiojafnnaccaaGreatDoorTBe
set_option linter.all false
namespace Go.Rc
open Go Go.Proofs Go.Proofs.Tryz
variable {x:dT}{w:World}{M Z:Nat→Prop}{ab:List aJ}{D:SD}{ml:List (Key × Value)}
set_option maxHeartbeats 400000
theorem BW{ar a1 a2:Option Addr}{r cr n1 c1 n2 c2:Nat}(bF:St w M Z w []):Calls prog 39 #[.slice ar r cr,.agg (x.row a1 n1 c1 a2 n2 c2).toArray] w fun e w'=>∃s m q,e=.returned (.pointer (some ⟨s,0,none⟩))∧St w M Z w' [As.blk s 144 (SD.cells ⟨ar,a1,a2,r,cr,n1,c1,n2,c2,m,q,s⟩ x),As.map Key.val m [],As.map Key.val q []]:=by
 refine enter func39 rfl ntmps39 rfl<|?_;have aW:=bF;refine(ef) aW fun b3 w1 gO dB st1=>?_;refine(bA) aM st1.b0<|?_;refine WL.mm Key.val st1 fun b7 w2 uR hm7 st2=>?_;refine WL.mm Key.val st2 fun b8 w3 zM hm8 aP=>?_;refine WP .r (PV.cD (us:=(SD.cells ⟨ar,a1,a2,r,cr,n1,c1,n2,c2,b7,b8,0⟩ x)) adt rfl rfl rfl)<|(ef) aP fun iI w4 lV fN aU=>?_;refine(cj) ?_;exact⟨_,_,_,rfl,aU.p3.drop.p2.p1⟩
def Od(ab:List aJ) (x:dT) (D:SD) (k:Key):Prop:=∀(w:World) (M Z:Nat→Prop) (ml:List (Key × Value)),St w M Z w [As.blk D.s 144 (D.cells x),As.map Key.val D.m ml]→(D.F prog ab x).p Z w→bd ab x.ah ml→
 Calls prog 157 #[.pointer (some ⟨D.s,0,none⟩),k.val] w fun e w'=>∃ed,e=.returned (.string (valOf ab x.ah k))∧bd ab x.ah ed∧iJ ml ed∧St w M Z w' [As.blk D.s 144 (D.cells x),As.map Key.val D.m ed]
def ak2(ab:List aJ) (x:dT) (D:SD) (k:Key):Prop:=∀(w:World) (M Z:Nat→Prop) (ml:List (Key × Value)),St w M Z w [As.blk D.s 144 (D.cells x),As.map Key.val D.m ml]→(D.F prog ab x).p Z w→bd ab x.ah ml→
 Calls prog 181 #[.pointer (some ⟨D.s,0,none⟩),k.val] w fun e w'=>∃ed,e=.returned (.tuple #[])∧bd ab x.ah ed∧iJ ml ed∧cq ed k=some (.string (valOf ab x.ah k))∧St w M Z w' [As.blk D.s 144 (D.cells x),As.map Key.val D.m ed]
theorem o8{k:Key}(bF:St w M Z w [As.blk D.s 144 (D.cells x),As.map Key.val D.m ml]) (hf:(D.F prog ab x).p Z w) (hm:bd ab x.ah ml) (hk:aB k=true):Calls prog 157 #[.pointer (some ⟨D.s,0,none⟩),k.val] w fun e w'=>∃ed,e=.returned (.string (valOf ab x.ah k))∧bd ab x.ah ed∧iJ ml ed∧St w M Z w' [As.blk D.s 144 (D.cells x),As.map Key.val D.m ed]:=by
 refine enter func157 rfl ntmps157 rfl<|?_;have aW:=bF;have st1:=aW.fact (B:=As.fz (D.F prog ab x)) hf (fun _ hx=>hx);refine(ef) st1 fun b3 w1 gO dB st2=>?_;refine(bA) av st2.b0<|(gg) (fM (k:=k)) st2 fun w2 s2 aP=>?_;refine(br) (fun g10=>?_) fun g10=>?_
 ·
  refine nx ?_;have QX:=aP.dc;refine WC.dS (m:=5) aP mixed<|(CS) aM St.g2<|(ju) av St.g0<|(eu)<|?_;rintro w3 ⟨pK,aU⟩ _;refine(gg) (xQ (k:=k) (SD.hi (As.gf aU.g1)) (SD.hr (As.gf aU.g1))) aU fun w4 s4 aY=>?_;refine(cj) ?_;exact⟨ml,by unfold valOf cellOf;rw [if_pos hk],hm,iJ.refl _,aY.drop.drop⟩
 rw [hk] at g10;cases g10
theorem FW{i:Nat}(bF:St w M Z w [As.blk D.s 144 (D.cells x),As.map Key.val D.m ml]) (hf:(D.F prog ab x).p Z w) (hm:bd ab x.ah ml) (hR:ay ab) (hi:i<ab.length) (afi:aC (aS ab (i:Int))=true→ak2 ab x D (aS ab (i:Int))) (ih:∀a,gB ab i a→aC (aS ab (i:Int))=false→Od ab x D a):Calls prog 157 #[.pointer (some ⟨D.s,0,none⟩),(aS ab (i:Int)).val] w fun e w'=>∃ed,e=.returned (.string (valOf ab x.ah (aS ab (i:Int))))∧bd ab x.ah ed∧iJ ml ed∧St w M Z w' [As.blk D.s 144 (D.cells x),As.map Key.val D.m ed]:=by
 have qf:=hR.len
 have lZ:i≤99:=by omega
 obtain⟨k,hk⟩:∃k,aS ab (i:Int)=k:=⟨_,rfl⟩;have gk:=dI hi lZ;have ha6:=l7 hR hi;rw [hk] at gk afi ih ⊢;refine enter func157 rfl ntmps157 rfl<|?_;have aW:=bF;have st1:=aW.fact (B:=As.fz (D.F prog ab x)) hf (fun _ hx=>hx);refine(ef) st1 fun b3 w1 gO dB st2=>?_;refine(bA) av st2.b0<|(gg) (fM (k:=k)) st2 fun w2 s2 aP=>?_;refine(br) (fun g10=>?_) fun g10=>?_
 ·
  rw [gk] at g10;cases g10
 refine dC ?_;have Iy:=aP.dc;refine WC.dS (m:=10) aP mixed<|(lX) jj St.g2<|(ju) av St.g0<|?_;refine DP .r (fun _ hC=>PV.wY eD fD qu (As.gm hC.2.g3) rfl rfl)<|(eu) ?_;rintro w3 ⟨eQ,aU⟩ _;refine(br) (fun kX=>?_) fun kX=>?_
 ·
  obtain⟨vv,MH⟩:=Option.isSome_iff_exists.1 kX;have Zm:=hm k vv MH;refine(cj) ?_;exact⟨ml,by rw [MH,Zm];rfl,hm,iJ.refl _,aU.drop.drop⟩
 refine(bA) av aU.b0<|(gg) (eA (k:=k)) aU fun w4 s4 aY=>?_;refine(br) (fun n0=>?_) fun n0=>?_
 ·
  refine(bA) av aY.b0<|?_;have bj:=aY.p3.p3;refine(cW) aeN (afi n0 _ _ _ _ bj.e2 (As.gf bj.g3) hm) ?_;rintro _ w5 ⟨fm,rfl,jf,fT,pU,ic⟩;have bP:=St.lr bj ic;refine dy ?_;have hN8:=bP.dc;refine WC.dS (m:=5) bP mixed<|(lX) jj St.g0<|(ju) av St.g2<|(eu)<|?_;rintro w6 ⟨ru,bQ⟩ _;refine WP .r (PV.look eD fD qu (As.gm bQ.g1) rfl rfl)<|(cj) ?_;exact⟨fm,by rw [pU];rfl,jf,fT,bQ.p2.drop.p2.drop⟩
 have bj:=aY.fc RR.str 9 1;refine kE ?_;refine WC.bU (σ:=Nat × (List (Key × Value)) × (List ByteArray) × (Option Addr) × Nat × Nat) (eI:=fun(n,ry,acc,iE,fR,iF)=>[(0,.pointer (some ⟨D.s,0,none⟩)),(3,.pointer (some ⟨b3,0,none⟩)),(7,.slice iE fR iF)]) (F:=fun(n,ry,acc,iE,fR,iF)=>[As.os RR.str 9 1 iE fR iF (acc),As.map Key.val D.m ry]) (I:=fun(n,ry,acc,iE,fR,iF)=>(n≤dY ab i)∧(bd ab x.ah ry)∧(iJ ml ry)∧(acc=(gy (dN ab k) (valOf ab x.ah) n).2)∧True) (μ:=fun(n,ry,acc,iE,fR,iF)=>dY ab i - n) (0,ml,[],none,0,0) (bj.p4.p1) Sub.t (⟨by omega,hm,iJ.refl _,rfl,trivial⟩)<|?_;rintro⟨n,ry,acc,iE,fR,iF⟩ w5 bP ⟨hn,CK,su,eJ,_⟩;simp only [CA,NA] at bP hn CK su eJ ⊢;have l8:=((As.gs bP.g0)).len
 have uq:acc.length=n:=by rw [eJ];exact(iZ _ _ n).2
 obtain⟨t,wX⟩:∃t,bf ab k acc=t:=⟨_,rfl⟩
 have SF:dN ab k acc=t:=by rw [← wX,← hk,il hi lZ]
 refine cV ?_;have C7:=bP.dc;have Iz:=bP.mx;have IA:=bP.size;refine WC.eU (m:=8) (E:=dx [(6,fun v _=>v=t.val),(7,PB w5.heap.size 174 [.bool false,.string ⟨#[]⟩,.int .i64 0,.string ⟨#[]⟩])]) bP (bS (⟨fun _ _ _ _ _ _ _ h=>h,⟨fun _ _ _ _ _ _ c h=>PB.st C7 c h,trivial⟩⟩)) mixed (by kernel_rfl)<|(lX) nQ St.g4<|(ju) av St.g2<|nx ?_;refine DW.c1 (fun wx hC hF=>ie (k:=k) (SD.ht (As.gf hC.2.g3)) (SD.hu (As.gf hC.2.g3)) (Ow.rd (As.gs hC.2.g0) (by omega)) hR.hb (hk ▸ iK hi lZ)) (by rw [wX])<|?_;refine DW.e rfl rfl rfl rfl rfl (fun wx hC hF=>OX.alloc vO rfl fun b wy nw hb=>⟨⟨Nat.le_trans hC.1 nw.ext.size,hC.2.step nw.ext⟩,nw.ext.p0,_,rfl,_,rfl,Nat.le_trans hC.1 nw.ge,hb⟩)<|?_;rintro _ wz _ ⟨b8,rfl,_,_⟩;refine(eu) ?_;rintro w6 ⟨BX,bQ⟩ ⟨Zn,⟨_,_⟩⟩;have bV:=bQ.y5 Zn C7 Iz IA;refine(dA) jn bV fun w7 jv jC aL=>?_;refine(bO) fH aL.b0<|(br) (fun Zo=>?_) fun Zo=>?_
 ·
  have DL:n=dY ab i:=by
   rcases Nat.lt_or_ge n (dY ab i) with h | h
   ·
    obtain⟨a,h1,_⟩:=fJ hR hi (ak:=acc) (by omega);rw [hk,SF] at h1;rw [h1] at Zo;cases Zo
   omega
  have iH:t.value=valOf ab x.ah k:=by
   have h1:=jz (aH:=x.ah) hR hi;rw [hk,← DL,← eJ,SF] at h1;rw [h1]
  refine nx ?_;have afj:=aL.dc;refine WC.dS (m:=7) aL mixed<|(lX) jj St.g5<|(ju) av St.g3<|(lX) iq St.g0<|(eu)<|?_;rintro w8 ⟨MI,aQ⟩ _;refine WL.go rfl (OX.put eD fD (As.gm aQ.g2) rfl rfl rfl fun w9 FX BZ=>?_);have aV:=aQ.p2.mS FX BZ;refine(bO) iq aV.b1<|(cj) ?_;exact⟨_,by rw [iH],by rw [iH];exact CK.put k,by rw [iH];exact su.trans (iJ.put CK k),aV.p5.k2⟩
 have DL:n<dY ab i:=by
  rcases Nat.lt_or_ge n (dY ab i) with h | h
  ·
   exact h
  have h1:=jy hR hi (ak:=acc) (by omega);rw [hk,SF] at h1;rw [h1] at Zo;cases Zo
 obtain⟨a,oX,CJ,_⟩:=fJ hR hi (ak:=acc) (by omega);rw [hk,SF] at oX
 have OO:t.ask=a:=by rw [oX]
 refine(kF) av aL.b0<|?_;have aQ:=aL.p2.p5;refine(cW) ME (ih t.ask (by rw [OO];exact CJ) n0 _ _ _ _ aQ.e2 (As.gf aQ.g5) CK) ?_;rintro _ w8 ⟨fm,rfl,jf,fT,jU⟩;have aV:=St.lr aQ jU;refine WL.go rfl (OX.bB (us:=[.string (valOf ab x.ah t.ask)]) qq rfl rfl rfl rfl fun b62 w9 ak3 ak4=>?_);have bD:=aV.fb ak3 ak4;refine WL.ap rfl rfl bD.p4 (SR.eP (A:=fun _=>True) (x:=valOf ab x.ah t.ask) (As.gb bD.g0) trivial rfl (by simp [Value.oneCell']) rfl) fun a63 ak5 kN asA asB bp=>?_;refine dy ?_;refine fx (n+1,fm,acc++[valOf ab x.ah t.ask],a63,(fR+1),ak5) ⟨bp.p1.drop.p3.drop.p4.p4.p4.p3,⟨by omega,jf,su.trans fT,by simp only [gy];rw [← eJ,SF],trivial⟩⟩
set_option maxHeartbeats 1600000 in
theorem IB{i0:Nat}(bF:St w M Z w [As.blk D.s 144 (D.cells x),As.map Key.val D.m ml]) (hf:(D.F prog ab x).p Z w) (hm:bd ab x.ah ml) (hR:ay ab) (hi:i0<ab.length) (Sh:aI ab i0=true) (hv:∀j a,eb ab i0 j→gB ab j a→aC a=false→Od ab x D a):Calls prog 181 #[.pointer (some ⟨D.s,0,none⟩),(aS ab (i0:Int)).val] w fun e w'=>∃ed,e=.returned (.tuple #[])∧bd ab x.ah ed∧iJ ml ed∧cq ed (aS ab (i0:Int))=some (.string (valOf ab x.ah (aS ab (i0:Int))))∧St w M Z w' [As.blk D.s 144 (D.cells x),As.map Key.val D.m ed]:=by
 have qf:=hR.len
 have lZ:i0≤99:=by omega
 have Zp:=ym hi lZ Sh;refine enter func181 rfl ntmps181 rfl<|?_;have aW:=bF;have st1:=aW.fact (B:=As.fz (D.F prog ab x)) hf (fun _ hx=>hx);refine(ef) st1 fun b3 w1 gO dB st2=>?_;refine dy ?_;have zo:=st2.dc;have ak6:=st2.mx;have ak7:=st2.size;refine WC.eU (m:=4) (E:=dx [(0,PM Key.val w1.heap.size),(3,fun v _=>v=.string ⟨#[48]⟩)]) st2 (bS (⟨fun _ _ _ _ _ _ c h=>PM.st zo c h,⟨fun _ _ _ _ _ _ _ h=>h,trivial⟩⟩)) mixed (by kernel_rfl)<|?_;refine DW.e rfl rfl rfl rfl rfl (fun wx hC hF=>OX.makeMap Key.val rfl fun b wy nw hb=>⟨⟨Nat.le_trans hC.1 nw.ext.size,hC.2.step nw.ext⟩,nw.ext.p0,_,rfl,_,rfl,Nat.le_trans hC.1 nw.ge,hb⟩)<|?_;rintro _ wz _ ⟨tB,rfl,_,_⟩;refine(ju) av St.g0<|(ju) av St.g0<|?_;refine DW.c1 (fun wx hC hF=>vT (k:=(aS ab (i0:Int)))) (by rw [Zp])<|(eu) ?_;rintro w2 ⟨fh,aP⟩ ⟨_,⟨hF0,_⟩⟩;have aU:=aP.aiV hF0 zo ak6 ak7;refine WL.go rfl (OX.ins eD fD (As.gm aU.g0) rfl rfl rfl fun w3 QY Li=>?_);have aY:=aU.mS QY Li;refine(bA) av aY.b1<|?_;refine WL.go rfl (OX.bB (us:=(aS ab (i0:Int)).cells) fS rfl rfl rfl rfl fun b22 w4 Oe QZ=>?_);have bj:=St.xf (R:=RR.key) (E:=58) (k:=2) (a:=some ⟨b22,0,none⟩) (n:=1) (c:=1) (xs:=[(aS ab (i0:Int))]) aY Oe.ext (OR.eP QZ (Nat.zero_le _) rfl (by simp [Key.cells,Value.oneCell']) rfl) (fun x hx=>by simp [aO] at hx;subst hx;exact Oe.ge);refine mT ?_;refine WC.bU (σ:=(List Nat) × (Nat→Nat) × (List (Key × Value)) × Bool × (List (Key × Value)) × (Option Addr) × Nat × Nat) (eI:=fun(L,u,am,ch,ry,bK,bH,bL)=>[(0,.pointer (some ⟨D.s,0,none⟩)),(4,.map (some tB)),(5,.slice bK bH bL),(6,.bool ch)]) (F:=fun(L,u,am,ch,ry,bK,bH,bL)=>[As.os RR.key 58 2 bK bH bL (L.map fun j:Nat=>aS ab (j:Int)),As.map Key.val D.m ry,As.map Key.val tB am]) (I:=fun(L,u,am,ch,ry,bK,bH,bL)=>(eV ab x.ah i0 L u)∧(oN ab x.ah L u ry)∧(rj ab L u am)∧(bd ab x.ah ry)∧(iJ ml ry)∧(ch=false→∀j∈L,sX ab x.ah L u j)∧True) (μ:=fun(L,u,am,ch,ry,bK,bH,bL)=>2*tJ ab L u+(if ch then 1 else 0)) ([i0],fun _=>0,dH [] (aS ab (i0:Int)) (.string ⟨#[48]⟩),true,ml,(some ⟨b22,0,none⟩),1,1) (bj.p1.p5.p2) Sub.t (⟨eV.start hi Sh,oN.start,⟨fun j hj=>by simp at hj;subst hj;rw [show itoa ((0:Nat):Int)=⟨#[48]⟩ by decide +kernel];simp [dH,cq],fun k hk=>by simp [dH,cq];intro e;exact hk i0 (by simp) e.symm⟩,hm,iJ.refl _,(fun h=>by cases h),trivial⟩)<|?_;rintro⟨L,u,am,ch,ry,bK,bH,bL⟩ w5 bP ⟨oR,j8,Wa,CK,su,rD,_⟩;simp only [CA,NA] at bP oR j8 Wa CK su rD ⊢;refine(br) (fun g23=>?_) fun g23=>?_
 ·
  have g23:ch=true:=g23;subst g23
  clear rD
  refine bC ?_;refine cV ?_;refine WC.bU (σ:=Nat × (List Nat) × (Nat→Nat) × (List (Key × Value)) × Bool × (List (Key × Value)) × (Option Addr) × Nat × Nat) (eI:=fun(idx,L1,u1,AD,oO,fm,bK,bH,bL)=>[(0,.pointer (some ⟨D.s,0,none⟩)),(4,.map (some tB)),(5,.slice bK bH bL),(6,.bool oO),(7,.int .i64 (idx:Int))]) (F:=fun(idx,L1,u1,AD,oO,fm,bK,bH,bL)=>[As.os RR.key 58 2 bK bH bL (L1.map fun j:Nat=>aS ab (j:Int)),As.map Key.val D.m fm,As.map Key.val tB AD]) (I:=fun(idx,L1,u1,AD,oO,fm,bK,bH,bL)=>(idx≤L1.length)∧(eV ab x.ah i0 L1 u1)∧(oN ab x.ah L1 u1 fm)∧(rj ab L1 u1 AD)∧(bd ab x.ah fm)∧(iJ ml fm)∧(tJ ab L1 u1≤tJ ab L u∧(oO=true→tJ ab L1 u1<tJ ab L u))∧(oO=false→∀m j,m<idx→L1[m]?=some j→sX ab x.ah L1 u1 j)∧True) (μ:=fun(idx,L1,u1,AD,oO,fm,bK,bH,bL)=>ab.length - idx) (0,L,u,am,false,ry,bK,bH,bL) (bP.p2.p2.p2) Sub.t (⟨by omega,oR,j8,Wa,CK,su,⟨Nat.le_refl _,(fun h=>by cases h)⟩,fun _ m j h=>by omega,trivial⟩)<|?_;rintro⟨idx,L1,u1,AD,oO,fm,bK,bH,bL⟩ w6 bQ ⟨Zq,xS,FY,IC,jf,fT,Of,B0,_⟩;simp only [CA,NA] at bQ Zq xS FY IC jf fT Of B0 ⊢;have l8:=((As.gs bQ.g0)).len;rw [List.length_map] at l8;have hL1:=xS.len;refine(br) (fun CL=>?_) fun CL=>?_
  ·
   simp at CL
   have k7:idx<L1.length:=by omega
   obtain⟨j,ID⟩:∃j,L1[idx]=j:=⟨_,rfl⟩
   have jt:L1[idx]?=some j:=by rw [aq k7,ID]
   have qL:j∈L1:=ID ▸ List.getElem_mem k7;obtain⟨mB,AB⟩:=xS.ring j qL
   have zq:j≤99:=by omega
   have hja:=l7 hR mB;rw [fY mB] at hja;have bV:=bQ.fc RR.str 9 1;refine mT ?_;obtain⟨t,wX⟩:∃t,bf ab (aS ab (j:Int)) []=t:=⟨_,rfl⟩
   have hx1:(L1.map fun j:Nat=>aS ab (j:Int))[idx]?=some (aS ab (j:Int)):=by rw [List.getElem?_map,jt];rfl
   obtain⟨gF,aT⟩:=Ow.addr (As.gs bV.g1) hx1;have C7:=bV.dc;have Iz:=bV.mx;have IA:=bV.size;refine WC.eU (m:=11) (E:=dx [(9,fun v _=>v=t.val),(10,PB w6.heap.size 174 [.bool false,.string ⟨#[]⟩,.int .i64 0,.string ⟨#[]⟩])]) bV (bS (⟨fun _ _ _ _ _ _ _ h=>h,⟨fun _ _ _ _ _ _ c h=>PB.st C7 c h,trivial⟩⟩)) mixed (by kernel_rfl)<|(lX) nQ St.g6<|cV ?_;refine DP .r (fun _ hC=>PV.fC fP aT rfl rfl (by omega))<|DP .r (fun _ hC=>VA av (Ow.rS (As.gs hC.2.g1) (by rw [List.length_map];omega) aT hx1) .r)<|nx ?_;refine DW.c1 (fun wx hC hF=>ie (k:=(aS ab (j:Int))) (SD.ht (As.gf hC.2.g5)) (SD.hu (As.gf hC.2.g5)) (Ow.rd (As.gs hC.2.g0) (by simp)) hR.hb (iK mB zq)) (by rw [wX])<|?_;refine DW.e rfl rfl rfl rfl rfl (fun wx hC hF=>OX.alloc vO rfl fun b wy nw hb=>⟨⟨Nat.le_trans hC.1 nw.ext.size,hC.2.step nw.ext⟩,nw.ext.p0,_,rfl,_,rfl,Nat.le_trans hC.1 nw.ge,hb⟩)<|?_;rintro _ wz _ ⟨b9,rfl,_,_⟩;refine(eu) ?_;rintro w7 ⟨BX,aL⟩ ⟨B1,⟨_,_⟩⟩;have aQ:=aL.y5 B1 C7 Iz IA;refine(dA) jn aQ fun w8 sr nc aV=>?_;refine dC ?_;refine WC.bU (σ:=Nat × Hn × (List Nat) × (List (Key × Value)) × Bool × (List (Key × Value)) × (List ByteArray) × (Option Addr) × Nat × Nat × (Option Addr) × Nat × Nat) (eI:=fun(n,t,L2,nJ,qP,kM,acc,bK,bH,bL,iE,fR,iF)=>[(0,.pointer (some ⟨D.s,0,none⟩)),(4,.map (some tB)),(5,.slice bK bH bL),(6,.bool qP),(7,.int .i64 (idx:Int)),(8,.slice iE fR iF),(9,.pointer (some ⟨b9,0,none⟩))]) (F:=fun(n,t,L2,nJ,qP,kM,acc,bK,bH,bL,iE,fR,iF)=>[As.os RR.key 58 2 bK bH bL (L2.map fun j:Nat=>aS ab (j:Int)),As.os RR.str 9 1 iE fR iF (acc),As.map Key.val D.m kM,As.map Key.val tB nJ,As.blk b9 174 [.bool t.done,.string t.value,.int .i64 t.ask.kind,.string t.ask.text]]) (I:=fun(n,t,L2,nJ,qP,kM,acc,bK,bH,bL,iE,fR,iF)=>(n≤ab[j].asks.length)∧(eV ab x.ah i0 L2 u1)∧(oN ab x.ah L2 u1 kM)∧(rj ab L2 u1 nJ)∧(bd ab x.ah kM)∧(iJ fm kM)∧(tJ ab L2 u1≤tJ ab L1 u1∧(qP=true→oO=true∨tJ ab L2 u1<tJ ab L1 u1))∧(qP=false→L2=L1∧oO=false)∧(L1 <+: L2)∧(Ev ab x.ah u1 L2 fm kM ab[j].asks n acc)∧(dN ab (aS ab (j:Int)) acc=t)∧True) (μ:=fun(n,t,L2,nJ,qP,kM,acc,bK,bH,bL,iE,fR,iF)=>ab[j].asks.length - n) (0,t,L1,AD,oO,fm,[],bK,bH,bL,none,0,0) (aV.p4.p4.p3.p4) Sub.t (⟨by omega,xS,FY,IC,jf,iJ.refl _,⟨Nat.le_refl _,fun h=>.inl h⟩,fun h=>⟨rfl,h⟩,List.prefix_refl _,Ev.start,by rw [← wX,il mB zq],trivial⟩)<|?_;rintro⟨n,t,L2,nJ,qP,kM,acc,bK,bH,bL,iE,fR,iF⟩ w9 bD ⟨hn,nO,Fv,zs,IE,zt,qZ,Si,jq,dP,ht,_⟩;simp only [CA,NA] at bD hn nO Fv zs IE zt qZ Si jq dP ht ⊢;have Lj:=((As.gs bD.g0)).len;rw [List.length_map] at Lj;have CY:=((As.gs bD.g1)).len;have hL2:=nO.len;have uq:=dP.len;have asE:=jq.length_le;have Zr:tJ ab L2 u1≤tJ ab L u∧(qP=true→tJ ab L2 u1<tJ ab L u):=⟨by omega,fun h=>by rcases qZ.2 h with h1 | h1;have:=Of.2 h1;omega;omega⟩;refine(bO) fH bD.b4<|(br) (fun jP=>?_) fun jP=>?_
   ·
    simp at jP
    have DL:n<ab[j].asks.length:=by
     rcases Nat.lt_or_ge n ab[j].asks.length with h | h
     ·
      exact h
     have h1:=jy hR mB (ak:=acc) (by rw [fY mB];omega);rw [ht] at h1;rw [h1] at jP;cases jP
    obtain⟨a,oX,CJ,ha3⟩:=fJ hR mB (ak:=acc) (by rw [fY mB];omega);obtain⟨xq,Zs,hax⟩:=ha3 AB;rw [uq,aq DL] at Zs
    simp at Zs
    rw [ht] at oX
    have OO:t.ask=a:=by rw [oX]
    have OG:cJ ab ab[j].asks[n]=t.ask:=by rw [OO,hax,Zs]
    have ly:ab[j].asks[n]∈ab[j].asks:=List.getElem_mem DL;have Uo:=xS.reach j qL;refine dC ?_;have afj:=bD.dc;refine WC.dS (m:=11) bD mixed<|(lX) jj St.g7<|(CS) av St.g4<|?_;refine DP .r (fun _ hC=>PV.wY eD fD qu (As.gm hC.2.g2) rfl rfl)<|(eu) ?_;rintro kN ⟨MI,bp⟩ _;refine(br) (fun QS=>?_) fun QS=>?_
    ·
     obtain⟨vv,MH⟩:=Option.isSome_iff_exists.1 QS;have Zm:=IE _ vv MH;obtain⟨sv,Og⟩:∃s,s=valOf ab x.ah t.ask:=⟨_,rfl⟩
     have Lk:=dP.snoc sv (fun _ _=>by rw [OG];exact Og) (fun h ho k hk=>.inl (by
      obtain⟨tL,og,yn⟩:=lM hR mB AB ly ho hk;rw [OG] at yn;rw [yn] at MH Og;exact⟨by rw [Og,jG hR tL,ky hR tL og],by rw [MH];rfl⟩))
     refine WC.eqv (t:=10) (v':=.string sv) rfl (by rw [MH,Zm,Og];rfl)<|gp ?_;refine WL.go rfl (OX.bB (us:=[.string sv]) qq rfl rfl rfl rfl fun b90 kO Ll Lm=>?_);have ba:=bp.fb Ll Lm;refine WL.ap rfl rfl ba.p2 (SR.eP (A:=fun _=>True) (x:=sv) (As.gb ba.g0) trivial rfl (by simp [Value.oneCell']) rfl) fun a91 Ln qW Zt Zu aX=>?_;refine dy ?_;obtain⟨t2,Nv⟩:∃t,bf ab (aS ab (j:Int)) (acc++[sv])=t:=⟨_,rfl⟩
     have B2:∀Lx:List Nat,L1 <+: Lx→(Lx.map fun j:Nat=>aS ab (j:Int))[idx]?=some (aS ab (j:Int)):=fun Lx h=>by
      rw [List.getElem?_map]
      have:=h.getElem k7
      obtain⟨q,rfl⟩:=h;rw [List.getElem?_append_left k7,jt];rfl
     obtain⟨vV,fO⟩:=Ow.addr (As.gs aX.g2) (B2 _ (by first | exact jq | exact jq.trans (List.prefix_append _ _)));have Zv:=aX.dc;refine WC.dS (m:=9) aX mixed<|(lX) nQ St.g8<|cV ?_;refine DP .r (fun _ hC=>PV.fC fP fO rfl rfl (by omega))<|DP .r (fun _ hC=>VA av (Ow.rS (As.gs hC.2.g2) (by simp only [List.length_map,List.length_append,List.length_cons,List.length_nil];omega) fO (B2 _ (by first | exact jq | exact jq.trans (List.prefix_append _ _)))) .r)<|(eu) ?_;rintro uX ⟨Q0,bN⟩ _;refine WL.c1 (u:=t2.val) (ie (k:=(aS ab (j:Int))) (SD.ht (As.gf bN.g7)) (SD.hu (As.gf bN.g7)) (Ow.rd (As.gs bN.g0) (by simp;omega)) hR.hb (iK mB zq)) (by rw [Nv]) bN fun zN Zw bR=>?_;refine(dA) jn bR.p5 fun uY ED tj bE=>?_;refine cV ?_;refine fx (n+1,t2,L2,nJ,qP,kM,_,bK,bH,bL,a91,(fR+1),Ln) ⟨bE.p2.drop.p4.p4.p3.p4,⟨by omega,nO,Fv,zs,IE,zt,qZ,Si,jq,Lk,by rw [← Nv,il mB zq],trivial⟩⟩
    have QS:cq kM t.ask=none:=by simpa using QS
    refine(kF) av bp.b4<|(gg) (eA (k:=t.ask)) bp fun kO xN ba=>?_;refine(br) (fun Zy=>?_) fun Zy=>?_
    ·
     simp at Zy
     refine(kF) av ba.b4<|?_;have aX:=ba.p2.p7;refine(cW) ME (hv j t.ask Uo (by rw [OO];exact CJ) Zy _ _ _ _ aX.e2 (As.gf aX.g7) IE) ?_;rintro _ qW ⟨SX,rfl,hm4,Q1,tR⟩;have bN:=St.lr aX tR;refine cV ?_;obtain⟨sv,Og⟩:∃s,s=valOf ab x.ah t.ask:=⟨_,rfl⟩
     have Lk:=(dP.mono (fun _ h=>h) Q1).snoc sv (fun _ _=>by rw [OG];exact Og) (fun h ho k hk=>by
      obtain⟨tL,og,yn⟩:=lM hR mB AB ly ho hk;rw [OG] at yn;rw [yn,cA tL (by omega),og] at Zy;cases Zy)
     refine EX.eqv (t:=10) (v':=.string sv) rfl (by rw [Og])<|jx ?_;refine WL.go rfl (OX.bB (us:=[.string sv]) qq rfl rfl rfl rfl fun b90 uX Ll Lm=>?_);have bR:=bN.fb Ll Lm;refine WL.ap rfl rfl bR.p4 (SR.eP (A:=fun _=>True) (x:=sv) (As.gb bR.g0) trivial rfl (by simp [Value.oneCell']) rfl) fun a91 Ln zN Zt Zu bE=>?_;refine dy ?_;obtain⟨t2,Nv⟩:∃t,bf ab (aS ab (j:Int)) (acc++[sv])=t:=⟨_,rfl⟩
     have B2:∀Lx:List Nat,L1 <+: Lx→(Lx.map fun j:Nat=>aS ab (j:Int))[idx]?=some (aS ab (j:Int)):=fun Lx h=>by
      rw [List.getElem?_map]
      have:=h.getElem k7
      obtain⟨q,rfl⟩:=h;rw [List.getElem?_append_left k7,jt];rfl
     obtain⟨vV,fO⟩:=Ow.addr (As.gs bE.g4) (B2 _ (by first | exact jq | exact jq.trans (List.prefix_append _ _)));have Zv:=bE.dc;refine WC.dS (m:=9) bE mixed<|(lX) nQ St.g2<|cV ?_;refine DP .r (fun _ hC=>PV.fC fP fO rfl rfl (by omega))<|DP .r (fun _ hC=>VA av (Ow.rS (As.gs hC.2.g4) (by simp only [List.length_map,List.length_append,List.length_cons,List.length_nil];omega) fO (B2 _ (by first | exact jq | exact jq.trans (List.prefix_append _ _)))) .r)<|(eu) ?_;rintro uY ⟨Q0,bZ⟩ _;refine WL.c1 (u:=t2.val) (ie (k:=(aS ab (j:Int))) (SD.ht (As.gf bZ.g8)) (SD.hu (As.gf bZ.g8)) (Ow.rd (As.gs bZ.g0) (by simp;omega)) hR.hb (iK mB zq)) (by rw [Nv]) bZ fun zw s16 cG=>?_;refine(dA) jn cG.p6 fun C9 Sj xt cF=>?_;refine cV ?_;refine fx (n+1,t2,L2,nJ,qP,SX,_,bK,bH,bL,a91,(fR+1),Ln) ⟨cF.p2.drop.p7.p7.p2.p7.p6.p5.p7,⟨by omega,nO,Fv.mono hR nO Q1,zs,hm4,zt.trans Q1,qZ,Si,jq,Lk,by rw [← Nv,il mB zq],trivial⟩⟩
    simp at Zy
    have gX:outside ab ab[j].asks[n]=false:=by
     cases ho:outside ab ab[j].asks[n]
     ·
      rfl
     have:=lL hR mB AB ly ho;rw [OG,Zy] at this;cases this
    obtain⟨kk,L8,qQ,oh⟩:=kf hR mB AB ly gX;rw [OG] at qQ;have xm:=L8.lt.2.2.2
    have Fg:cq fm (aS ab (kk:Int))=none:=by
     cases h:cq fm (aS ab (kk:Int)) with
     | none=>rfl
     | some v=>have:=zt _ _ h;rw [← qQ,QS] at this;cases this
    have CP:∀k:Nat,ab[j].asks[n].n=k→k=kk:=fun k hk=>by
     obtain⟨tL,og,yn⟩:=lM hR mB AB ly gX hk;rw [OG,qQ] at yn;exact(fG hR oh tL yn).symm
    refine(kF) av ba.b4<|?_;refine WP .r (PV.wY eD fD qu (As.gm ba.g3) rfl rfl)<|?_;refine bC ?_;refine(br) (fun Up=>?_) fun Up=>?_
    ·
     simp at Up
     have HB:kk∉L2:=fun h=>by have:=zs.1 kk h;rw [← qQ,Up] at this;cases this
     have OH:=nO.out kk HB;have PI:eb ab i0 kk:=.step (nO.reach j (jq.subset qL)) L8;have Xu:=nO.meet oh xm HB PI;have ee:=nO.L5 oh xm HB PI;have Sv:=HA (v:=u1) (j:=kk) ee;have Zz:=zs.meet hR (fun k hk=>(nO.ring k hk).1) oh HB OH;rw [← qQ] at Zz
     have Uq:uk t.ask=⟨#[48]⟩:=by rw [qQ];exact ym oh (by omega) xm
     refine nx ?_;have asF:=ba.dc;refine WC.eU (m:=6) (E:=dx [(5,fun v _=>v=.string ⟨#[48]⟩)]) ba (bS (⟨fun _ _ _ _ _ _ _ h=>h,trivial⟩)) mixed (by kernel_rfl)<|(CS) av St.g4<|(CS) av St.g4<|?_;refine DW.c1 (fun wx hC hF=>vT (k:=t.ask)) (by rw [Uq])<|(eu) ?_;rintro qW ⟨aph,aX⟩ ⟨_,_⟩;refine WL.go rfl (OX.put eD fD (As.gm aX.g3) rfl rfl rfl fun uX ZA ZB=>?_);have bN:=aX.p3.mS ZA ZB;refine(kF) av bN.b4<|?_;refine WL.go rfl (OX.bB (us:=t.ask.cells) fS rfl rfl rfl rfl fun b71 zN ZC ZD=>?_);have bR:=bN.fb ZC ZD;refine WL.ap rfl rfl bR.p2 (SR.eP (A:=fun _=>True) (x:=t.ask) (As.gb bR.g0) trivial rfl (by simp [Key.cells,Value.oneCell']) rfl) fun a72 alc uY asH asI bE=>?_;refine dy ?_;have bZ:=bE.Xb (show(L2.map fun j:Nat=>aS ab (j:Int))++[t.ask]=(L2++[kk]).map fun j:Nat=>aS ab (j:Int) by rw [List.map_append,qQ];rfl);have B3:=Zz.1 kk (by simp);rw [← qQ] at B3;have hsn:∀s,s=itoa (u1 kk:Int)→Ev ab x.ah u1 (L2++[kk]) fm kM ab[j].asks (n+1) (acc++[s]):=fun s hs=>(dP.mono (fun _ h=>by simp [h]) (iJ.refl _)).snoc s (fun h ho=>by rw [gX] at ho;cases ho) (fun h ho k hk=>by have:=CP k hk;subst this;exact .inr ⟨hs,by simp,Fg⟩);refine(kF) av bZ.b5<|?_;refine WP .r (PV.dG eD fD qu (As.gm bZ.g2) (B3) rfl rfl)<|cV ?_;obtain⟨sv,Og⟩:∃s,s=itoa (u1 kk:Int):=⟨_,rfl⟩;have Lk:=hsn sv Og;refine EX.eqv (t:=10) (v':=.string sv) rfl (by rw [Og])<|jx ?_;refine WL.go rfl (OX.bB (us:=[.string sv]) qq rfl rfl rfl rfl fun b90 zw Ll Lm=>?_);have cG:=bZ.fb Ll Lm;refine WL.ap rfl rfl cG.p4 (SR.eP (A:=fun _=>True) (x:=sv) (As.gb cG.g0) trivial rfl (by simp [Value.oneCell']) rfl) fun a91 Ln C9 Zt Zu cF=>?_;refine dy ?_;obtain⟨t2,Nv⟩:∃t,bf ab (aS ab (j:Int)) (acc++[sv])=t:=⟨_,rfl⟩
     have B2:∀Lx:List Nat,L1 <+: Lx→(Lx.map fun j:Nat=>aS ab (j:Int))[idx]?=some (aS ab (j:Int)):=fun Lx h=>by
      rw [List.getElem?_map]
      have:=h.getElem k7
      obtain⟨q,rfl⟩:=h;rw [List.getElem?_append_left k7,jt];rfl
     obtain⟨vV,fO⟩:=Ow.addr (As.gs cF.g2) (B2 _ (by first | exact jq | exact jq.trans (List.prefix_append _ _)));have Zv:=cF.dc;refine WC.dS (m:=9) cF mixed<|(lX) nQ St.g9<|cV ?_;refine DP .r (fun _ hC=>PV.fC fP fO rfl rfl (by omega))<|DP .r (fun _ hC=>VA av (Ow.rS (As.gs hC.2.g2) (by simp only [List.length_map,List.length_append,List.length_cons,List.length_nil];omega) fO (B2 _ (by first | exact jq | exact jq.trans (List.prefix_append _ _)))) .r)<|(eu) ?_;rintro CN ⟨Q0,cP⟩ _;refine WL.c1 (u:=t2.val) (ie (k:=(aS ab (j:Int))) (SD.ht (As.gf cP.g8)) (SD.hu (As.gf cP.g8)) (Ow.rd (As.gs cP.g0) (by simp;omega)) hR.hb (iK mB zq)) (by rw [Nv]) cP fun IF s19 cv=>?_;refine(dA) jn cv.p6 fun MJ Wb Wc cK=>?_;refine cV ?_;refine fx (n+1,t2,L2++[kk],_,true,kM,_,a72,(bH+1),alc,a91,(fR+1),Ln) ⟨cK.p2.drop.p3.drop.p3.p4.p3.p4,⟨by omega,Xu,Fv.meet OH,Zz,IE,zt,⟨Nat.le_of_lt (Nat.lt_of_lt_of_le Sv qZ.1),fun _=>.inr (Nat.lt_of_lt_of_le Sv qZ.1)⟩,(fun h=>by cases h),jq.trans (List.prefix_append _ _),Lk,by rw [← Nv,il mB zq],trivial⟩⟩
    simp at Up
    have HB:kk∈L2:=by
     by_cases h:kk∈L2
     ·
      exact h
     have:=zs.2 (aS ab (kk:Int)) (fun k hk e=>h (by have:=fG hR oh (nO.ring k hk).1 e;rw [this];exact hk));rw [← qQ] at this;rw [this] at Up;cases Up
    have B3:=zs.1 kk HB;rw [← qQ] at B3;have hsn:∀s,s=itoa (u1 kk:Int)→Ev ab x.ah u1 L2 fm kM ab[j].asks (n+1) (acc++[s]):=fun s hs=>dP.snoc s (fun h ho=>by rw [gX] at ho;cases ho) (fun h ho k hk=>by have:=CP k hk;subst this;exact .inr ⟨hs,HB,Fg⟩);refine(kF) av ba.b4<|?_;refine WP .r (PV.dG eD fD qu (As.gm ba.g3) (B3) rfl rfl)<|cV ?_;obtain⟨sv,Og⟩:∃s,s=itoa (u1 kk:Int):=⟨_,rfl⟩;have Lk:=hsn sv Og;refine EX.eqv (t:=10) (v':=.string sv) rfl (by rw [Og])<|jx ?_;refine WL.go rfl (OX.bB (us:=[.string sv]) qq rfl rfl rfl rfl fun b90 qW Ll Lm=>?_);have aX:=ba.fb Ll Lm;refine WL.ap rfl rfl aX.p2 (SR.eP (A:=fun _=>True) (x:=sv) (As.gb aX.g0) trivial rfl (by simp [Value.oneCell']) rfl) fun a91 Ln uX Zt Zu bN=>?_;refine dy ?_;obtain⟨t2,Nv⟩:∃t,bf ab (aS ab (j:Int)) (acc++[sv])=t:=⟨_,rfl⟩
    have B2:∀Lx:List Nat,L1 <+: Lx→(Lx.map fun j:Nat=>aS ab (j:Int))[idx]?=some (aS ab (j:Int)):=fun Lx h=>by
     rw [List.getElem?_map]
     have:=h.getElem k7
     obtain⟨q,rfl⟩:=h;rw [List.getElem?_append_left k7,jt];rfl
    obtain⟨vV,fO⟩:=Ow.addr (As.gs bN.g2) (B2 _ (by first | exact jq | exact jq.trans (List.prefix_append _ _)));have Zv:=bN.dc;refine WC.dS (m:=9) bN mixed<|(lX) nQ St.g8<|cV ?_;refine DP .r (fun _ hC=>PV.fC fP fO rfl rfl (by omega))<|DP .r (fun _ hC=>VA av (Ow.rS (As.gs hC.2.g2) (by simp only [List.length_map,List.length_append,List.length_cons,List.length_nil];omega) fO (B2 _ (by first | exact jq | exact jq.trans (List.prefix_append _ _)))) .r)<|(eu) ?_;rintro zN ⟨Q0,bR⟩ _;refine WL.c1 (u:=t2.val) (ie (k:=(aS ab (j:Int))) (SD.ht (As.gf bR.g7)) (SD.hu (As.gf bR.g7)) (Ow.rd (As.gs bR.g0) (by simp;omega)) hR.hb (iK mB zq)) (by rw [Nv]) bR fun uY s15 bE=>?_;refine(dA) jn bE.p5 fun zw ZE ZF bZ=>?_;refine cV ?_;refine fx (n+1,t2,L2,nJ,qP,kM,_,bK,bH,bL,a91,(fR+1),Ln) ⟨bZ.p2.drop.p4.p4.p3.p4,⟨by omega,nO,Fv,zs,IE,zt,qZ,Si,jq,Lk,by rw [← Nv,il mB zq],trivial⟩⟩
   simp at jP
   have DL:n=ab[j].asks.length:=by
    rcases Nat.lt_or_ge n ab[j].asks.length with h | h
    ·
     obtain⟨a,h1,_⟩:=fJ hR mB (ak:=acc) (by rw [fY mB];omega);rw [ht] at h1;rw [h1] at jP;cases jP
    omega
   subst DL;obtain⟨GX,Q2,ZG,Qi,FO⟩:=dP.val hR nO mB AB;have ZH:gC (u1 j) (gL ab[j].c.toNat (acc.map eh)):=fun b hb=>ZG b (FY j qL b hb);obtain⟨val,iH⟩:∃v,gL ab[j].c.toNat (acc.map eh)=v:=⟨_,rfl⟩;rw [iH] at GX Q2 ZH Qi FO
   have htv:t.value=itoa (val:Int):=by
    have h1:=jy hR mB (ak:=acc) (by rw [fY mB];omega);rw [ht] at h1;rw [h1,(Az hR mB AB).1,← iH];rfl
   have lF:j∈L2:=jq.subset qL;have Sk:=jq.length_le
   have ZI:L2[idx]?=some j:=by obtain⟨q,rfl⟩:=jq;rw [List.getElem?_append_left k7];exact jt
   have Ur:(L2.map fun j:Nat=>aS ab (j:Int))[idx]?=some (aS ab (j:Int)):=by rw [List.getElem?_map,ZI];rfl
   refine jx ?_;obtain⟨Q3,mN⟩:=Ow.addr (As.gs bD.g0) Ur;have asK:=bD.dc;refine WC.dS (m:=8) bD mixed<|dy ?_;refine DP .r (fun _ hC=>PV.fC fP mN rfl rfl (by omega))<|DP .r (fun _ hC=>VA av (Ow.rS (As.gs hC.2.g0) (by rw [List.length_map];omega) mN Ur) .r)<|DP .r (fun _ hC=>PV.dG eD fD qu (As.gm hC.2.g3) (zs.1 j lF) rfl rfl)<|(lX) iq St.g4<|(eu)<|?_;rintro kN ⟨apj,bp⟩ _;refine(br) (fun tq=>?_) fun tq=>?_
   ·
    simp at tq
    rw [htv] at tq;have ku:u1 j≠val:=fun e=>tq (by rw [e]);have OK:=L6 nO lF GX ZH ku;obtain⟨afl,yL⟩:=Ow.addr (As.gs bp.g0) Ur;have asL:=bp.dc;refine WC.eU (m:=9) (E:=dx [(7,fun v w'=>∃vv st,v=.tuple #[vv,.int .i64 ((st:Nat):Int)]∧KE Key.val w' tB nJ (aS ab (j:Int)) st)]) bp (pq (⟨⟨trivial,trivial⟩,trivial⟩)) mixed (by kernel_rfl)<|dy ?_;refine DP .r (fun _ hC=>PV.fC fP yL rfl rfl (by omega))<|DP .r (fun _ hC=>VA av (Ow.rS (As.gs hC.2.g0) (by rw [List.length_map];omega) yL Ur) .r)<|(lX) iq St.g4<|?_;refine DW.e rfl rfl rfl rfl rfl (fun wx hC hF=>OX.W7 eD fD qu (As.gm hC.2.g3) rfl rfl rfl fun wy st vv sx hsz Us=>?_)<|?_
    ·
     have hg:=zs.1 j lF;rw [hg] at Us;rw [Option.getD_some,DY hg] at Us;exact⟨⟨Nat.le_trans hC.1 sx.size,hC.2.same (A:=As.map Key.val tB nJ) (by simp) (sx.p.mono fun x _ hx=>by simpa [As.map] using hx) Us.km⟩,sx.p.mono (fun x _ hx=>LV (A:=As.map Key.val tB nJ) (by simp) (by simpa [As.map] using hx)),_,rfl,_,_,rfl,Us⟩
    rintro _ wz _ ⟨ale,cv,rfl,_⟩;refine(eu) ?_;rintro kO ⟨afm,ba⟩ ⟨Zn,_⟩;obtain⟨_,_,Q4,II⟩:=Zn;simp only [Value.tuple.injEq,Array.mk.injEq,List.cons.injEq,Value.int.injEq,true_and,and_true] at Q4;have ZJ:=Int.natCast_inj.1 Q4.2;rw [← ZJ] at II;refine WL.go rfl (OX.J1 II rfl rfl rfl fun qW ZK _ ZL=>?_);have aX:=ba.p3.mS ZK ZL;rw [htv] at aX;refine pQ ?_;refine fx (idx+1,L2,qg u1 j val,dH nJ (aS ab (j:Int)) (.string (itoa (val:Int))),true,kM,bK,bH,bL) ⟨aX.p2.drop.p3.drop.p2.p2,⟨Nat.le_trans k7 Sk,nO.set lF GX Q2,Fv.set hR nO lF GX Q2 ZH Qi,zs.set hR (fun k hk=>(nO.ring k hk).1) lF val,IE,fT.trans zt,⟨Nat.le_of_lt (Nat.lt_of_lt_of_le OK Zr.1),fun _=>Nat.lt_of_lt_of_le OK Zr.1⟩,(fun h=>by cases h),trivial⟩⟩
   simp at tq
   rw [htv] at tq;have tq:u1 j=val:=Hw (by have:=nO.le j;omega) (by omega) tq;refine kE ?_
   refine fx (idx+1,L2,u1,nJ,qP,kM,bK,bH,bL) ⟨bp.p1.drop.p3.drop,⟨Nat.le_trans k7 Sk,nO,Fv,zs,IE,fT.trans zt,Zr,fun h m k hm hk=>by
      obtain⟨e1,e2⟩:=Si h;subst e1
      by_cases e:m=idx
      ·
       subst e;rw [jt] at hk
       simp at hk;subst hk
       exact FO (tq ▸ rfl)
      exact B0 e2 m k (by omega) hk,trivial⟩⟩
  simp at CL
  refine ew ?_;refine EX.again (L1,u1,AD,oO,fm,bK,bH,bL) Sub.t ⟨bQ,⟨xS,FY,IC,jf,fT,fun h j hj=>by obtain⟨m,hm,rfl⟩:=List.mem_iff_getElem.1 (show j∈L1 from hj);exact B0 h m _ (by omega) (aq hm),trivial⟩⟩ (by simp only [];cases oO <;> simp at Of ⊢ <;> omega)
 have g23:ch=false:=g23;have zZ:=rD g23;have yM:=oR.done hR zZ;refine jx ?_;have alf:=((As.gs bP.g0)).len;rw [List.length_map] at alf;have hL7:=oR.len;refine gp ?_;refine WC.bU (σ:=Nat × (List (Key × Value))) (eI:=fun(i7,Ut)=>[(0,.pointer (some ⟨D.s,0,none⟩)),(4,.map (some tB)),(120,.slice bK bH bL),(121,.int .i64 (bH:Int)),(122,.int .i64 (i7:Int))]) (F:=fun(i7,Ut)=>[As.map Key.val D.m Ut]) (I:=fun(i7,Ut)=>(i7≤L.length)∧(bd ab x.ah Ut)∧(iJ ml Ut)∧(∀m j,m<i7→L[m]?=some j→cq Ut (aS ab (j:Int))=some (.string (valOf ab x.ah (aS ab (j:Int)))))∧True) (μ:=fun(i7,Ut)=>L.length - i7) (0,ry) (bP.p1) Sub.t (⟨by omega,CK,su,fun m j h=>by omega,trivial⟩)<|?_;rintro⟨i7,Ut⟩ w6 bQ ⟨hi7,hm7,ZM,hd7,_⟩;simp only [CA,NA] at bQ hi7 hm7 ZM hd7 ⊢;refine(br) (fun Lo=>?_) fun Lo=>?_
 ·
  simp at Lo
  have afn:i7<L.length:=by omega
  obtain⟨j,ID⟩:∃j,L[i7]=j:=⟨_,rfl⟩
  have jt:L[i7]?=some j:=by rw [aq afn,ID]
  have qL:j∈L:=ID ▸ List.getElem_mem afn;obtain⟨mB,AB⟩:=oR.ring j qL;have afo:=Wa.1 j qL;rw [yM j qL,← ky hR mB AB,← jG hR mB] at afo;refine ew ?_
  have hx7:(L.map fun j:Nat=>aS ab (j:Int))[i7]?=some (aS ab (j:Int)):=by rw [List.getElem?_map,jt];rfl
  obtain⟨asN,Wd⟩:=Ow.addr (As.gs bQ.g1) hx7;refine nx ?_;refine WP .r (PV.fC fP Wd rfl rfl (by omega))<|(bA) av (Ow.rS (As.gs bQ.g1) (by rw [List.length_map];omega) Wd hx7)<|(fU) bQ fun GY w7 Ul Um bV=>?_;refine(dA) jT bV fun w8 ss7 hs7 aL=>?_;refine cV ?_;have asO:=aL.dc;refine WC.dS (m:=8) aL mixed<|(lX) jj St.g6<|(ju) av St.g0<|(ju) av St.g0<|?_;refine DP .r (fun _ hC=>PV.dG eD fD qu (As.gm hC.2.g3) (afo) rfl rfl)<|(eu)<|?_;rintro w9 ⟨afr,aQ⟩ _;refine WL.go rfl (OX.put eD fD (As.gm aQ.g1) rfl rfl rfl fun kN alh ali=>?_);have aV:=aQ.p1.mS alh ali;refine gp ?_
  refine fx (i7+1,_) ⟨aV.p1.drop,⟨by omega,hm7.put _,ZM.trans (iJ.put hm7 _),fun m k hm hk=>by
     rw [eR]
     split
     ·
      rename_i e;rw [e]
     rename_i e
     refine hd7 m k ?_ hk
     rcases Nat.lt_or_ge m i7 with h | h
     ·
      exact h
     have:m=i7:=by omega
     subst this;rw [jt] at hk;simp at hk;subst hk;exact absurd rfl e,trivial⟩⟩
 simp at Lo
 obtain⟨mm,Sl,R6⟩:=List.mem_iff_getElem.1 oR.first;have CQ:=hd7 mm i0 (by omega) (by rw [aq Sl,R6]);refine dC ?_;refine EX.zR (.inr rfl) rfl<|?_;exact⟨Ut,rfl,hm7,ZM,CQ,bQ.p5.k2⟩
theorem Q5(hR:ay ab):∀i,i<ab.length→Od ab x D (aS ab (i:Int)):=by
 intro i
 induction i using Nat.strongRecOn with
 | _ i ih=>
  intro hi;have qf:=hR.len
  have CZ:∀a,aC a=false→(aB a=true∨∃m,m<i∧m<ab.length∧a=aS ab (m:Int))→Od ab x D a:=fun a _ ha w M Z ml h1 h2 h3=>by
   rcases ha with ha | ⟨m,hm,jV,rfl⟩
   ·
    exact o8 h1 h2 h3 ha
   exact ih m hm jV w M Z ml h1 h2 h3
  have JF:∀a,(aB a=true∨∃m,m<i∧m<ab.length∧a=aS ab (m:Int))→Od ab x D a:=fun a ha w M Z ml h1 h2 h3=>by
   rcases ha with ha | ⟨m,hm,jV,rfl⟩
   ·
    exact o8 h1 h2 h3 ha
   exact ih m hm jV w M Z ml h1 h2 h3
  intro w M Z ml h1 h2 h3;refine FW h1 h2 h3 hR hi (fun hc w M Z ml h1 h2 h3=>?_) fun a ha hc=>JF a ?_
  ·
   rw [cA hi (by omega)] at hc;refine IB h1 h2 h3 hR hi hc fun j a PI hma ux=>CZ a ux ?_;have hj:=lK hi hc PI;have JF:=nH hR PI;have hle:=iN ab i
   rcases hma with⟨n,h4,rfl⟩ | ⟨m,h4,rfl,_,_,_,h5⟩
   ·
    exact .inl (dj (by omega))
   rw [cA h4 (by omega)] at ux;exact .inr ⟨m,by have:=h5 ux hj.2;omega,h4,rfl⟩
  rw [cA hi (by omega)] at hc
  rcases ha with⟨n,h4,rfl⟩ | ⟨m,h4,rfl,_,h5,_⟩
  ·
   exact .inl (dj (by omega))
  exact .inr ⟨m,h5 hc,h4,rfl⟩
theorem Oh(hR:ay ab) {k:Key}(hk:gH ab k):Od ab x D k:=by
 cases hk with
 | cell h=>exact fun w M Z ml h1 h2 h3=>o8 h1 h2 h3 (dj h)
 | gx h _=>exact Q5 hR _ h
end Go.Rc

