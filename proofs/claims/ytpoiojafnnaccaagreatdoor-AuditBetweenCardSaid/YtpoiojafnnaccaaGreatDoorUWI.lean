/- Walks over the program, part WI. Conditions: as each theorem says. -/
import Derived.Test.YtpoiojafnnaccaaGreatDoorUFacts
import Derived.Test.YtpoiojafnnaccaaGreatDoorUWH
import Derived.Test.YtpoiojafnnaccaaGreatDoorUBe
set_option linter.all false
namespace Go.Rc
open Go Go.Proofs Go.Proofs.Tryz
variable {x:dV}{w:World}{M Z:Nat→Prop}{ab:List aJ}{D:SD}{ml:List (Key × Value)}
set_option maxHeartbeats 400000
theorem BC{ar a1 a2:Option Addr}{r cr n1 c1 n2 c2:Nat}(bF:St w M Z w []):Calls prog 39 #[.slice ar r cr,.agg (x.row a1 n1 c1 a2 n2 c2).toArray] w fun e w'=>∃s m q,e=.returned (.pointer (some ⟨s,0,none⟩))∧St w M Z w' [As.blk s 144 (SD.cells ⟨ar,a1,a2,r,cr,n1,c1,n2,c2,m,q,s⟩ x),As.map Key.val m [],As.map Key.val q []]:=by
 refine enter func39 rfl ntmps39 rfl<|?_;have aW:=bF;refine(eD) aW fun b3 w1 ic dA st1=>?_;refine(bz) aN st1.b0<|?_;refine WL.mm Key.val st1 fun b7 w2 tJ hm7 st2=>?_;refine WL.mm Key.val st2 fun b8 w3 Bn hm8 aP=>?_;refine WP .r (PV.cD (us:=(SD.cells ⟨ar,a1,a2,r,cr,n1,c1,n2,c2,b7,b8,0⟩ x)) adg rfl rfl rfl)<|(eD) aP fun jd w4 ma fP aV=>?_;refine(cm) ?_;exact⟨_,_,_,rfl,aV.p3.drop.p2.p1⟩
def NS(ab:List aJ) (x:dV) (D:SD) (k:Key):Prop:=∀(w:World) (M Z:Nat→Prop) (ml:List (Key × Value)),St w M Z w [As.blk D.s 144 (D.cells x),As.map Key.val D.m ml]→(D.F prog ab x).p Z w→ba ab x.ah ml→
 Calls prog 157 #[.pointer (some ⟨D.s,0,none⟩),k.val] w fun e w'=>∃eb,e=.returned (.string (valOf ab x.ah k))∧ba ab x.ah eb∧iI ml eb∧St w M Z w' [As.blk D.s 144 (D.cells x),As.map Key.val D.m eb]
def akA(ab:List aJ) (x:dV) (D:SD) (k:Key):Prop:=∀(w:World) (M Z:Nat→Prop) (ml:List (Key × Value)),St w M Z w [As.blk D.s 144 (D.cells x),As.map Key.val D.m ml]→(D.F prog ab x).p Z w→ba ab x.ah ml→
 Calls prog 181 #[.pointer (some ⟨D.s,0,none⟩),k.val] w fun e w'=>∃eb,e=.returned (.tuple #[])∧ba ab x.ah eb∧iI ml eb∧ck eb k=some (.string (valOf ab x.ah k))∧St w M Z w' [As.blk D.s 144 (D.cells x),As.map Key.val D.m eb]
theorem oQ{k:Key}(bF:St w M Z w [As.blk D.s 144 (D.cells x),As.map Key.val D.m ml]) (hf:(D.F prog ab x).p Z w) (hm:ba ab x.ah ml) (hk:aB k=true):Calls prog 157 #[.pointer (some ⟨D.s,0,none⟩),k.val] w fun e w'=>∃eb,e=.returned (.string (valOf ab x.ah k))∧ba ab x.ah eb∧iI ml eb∧St w M Z w' [As.blk D.s 144 (D.cells x),As.map Key.val D.m eb]:=by
 refine enter func157 rfl ntmps157 rfl<|?_;have aW:=bF;have st1:=aW.fact (B:=As.fz (D.F prog ab x)) hf (fun _ hx=>hx);refine(eD) st1 fun b3 w1 ic dA st2=>?_;refine(bz) av st2.b0<|(gw) (fM (k:=k)) st2 fun w2 s2 aP=>?_;refine(bp) (fun g10=>?_) fun g10=>?_
 ·
  refine nx ?_;have QI:=aP.dc;refine WC.dS (m:=5) aP mixed<|(Cm) aN St.g2<|(jA) av St.g0<|(ey)<|?_;rintro w3 ⟨pC,aV⟩ _;refine(gw) (xB (k:=k) (SD.hi (As.gf aV.g1)) (SD.hr (As.gf aV.g1))) aV fun w4 s4 bf=>?_;refine(cm) ?_;exact⟨ml,by unfold valOf cellOf;rw [if_pos hk],hm,iI.refl _,bf.drop.drop⟩
 rw [hk] at g10;cases g10
theorem FC{i:Nat}(bF:St w M Z w [As.blk D.s 144 (D.cells x),As.map Key.val D.m ml]) (hf:(D.F prog ab x).p Z w) (hm:ba ab x.ah ml) (hR:ay ab) (hi:i<ab.length) (ae1:aA (aQ ab (i:Int))=true→akA ab x D (aQ ab (i:Int))) (ih:∀a,gx ab i a→aA (aQ ab (i:Int))=false→NS ab x D a):Calls prog 157 #[.pointer (some ⟨D.s,0,none⟩),(aQ ab (i:Int)).val] w fun e w'=>∃eb,e=.returned (.string (valOf ab x.ah (aQ ab (i:Int))))∧ba ab x.ah eb∧iI ml eb∧St w M Z w' [As.blk D.s 144 (D.cells x),As.map Key.val D.m eb]:=by
 have pY:=hR.len
 have mn:i≤99:=by omega
 obtain⟨k,hk⟩:∃k,aQ ab (i:Int)=k:=⟨_,rfl⟩;have gQ:=dI hi mn;have ha6:=lZ hR hi;rw [hk] at gQ ae1 ih ⊢;refine enter func157 rfl ntmps157 rfl<|?_;have aW:=bF;have st1:=aW.fact (B:=As.fz (D.F prog ab x)) hf (fun _ hx=>hx);refine(eD) st1 fun b3 w1 ic dA st2=>?_;refine(bz) av st2.b0<|(gw) (fM (k:=k)) st2 fun w2 s2 aP=>?_;refine(bp) (fun g10=>?_) fun g10=>?_
 ·
  rw [gQ] at g10;cases g10
 refine dF ?_;have Ii:=aP.dc;refine WC.dS (m:=10) aP mixed<|(lF) jj St.g2<|(jA) av St.g0<|?_;refine DP .r (fun _ hC=>PV.wL eF fD qk (As.gm hC.2.g3) rfl rfl)<|(ey) ?_;rintro w3 ⟨eN,aV⟩ _;refine(bp) (fun kX=>?_) fun kX=>?_
 ·
  obtain⟨vv,Mr⟩:=Option.isSome_iff_exists.1 kX;have Y6:=hm k vv Mr;refine(cm) ?_;exact⟨ml,by rw [Mr,Y6];rfl,hm,iI.refl _,aV.drop.drop⟩
 refine(bz) av aV.b0<|(gw) (eB (k:=k)) aV fun w4 s4 bf=>?_;refine(bp) (fun oq=>?_) fun oq=>?_
 ·
  refine(bz) av bf.b0<|?_;have br:=bf.p3.p3;refine(df) aex (ae1 oq _ _ _ _ br.e2 (As.gf br.g3) hm) ?_;rintro _ w5 ⟨fq,rfl,jg,fU,pN,ja⟩;have bP:=St.lr br ja;refine dw ?_;have hN8:=bP.dc;refine WC.dS (m:=5) bP mixed<|(lF) jj St.g0<|(jA) av St.g2<|(ey)<|?_;rintro w6 ⟨r9,bS⟩ _;refine WP .r (PV.look eF fD qk (As.gm bS.g1) rfl rfl)<|(cm) ?_;exact⟨fq,by rw [pN];rfl,jg,fU,bS.p2.drop.p2.drop⟩
 have br:=bf.eX RR.str 9 1;refine kJ ?_;refine WC.bQ (σ:=Nat × (List (Key × Value)) × (List ByteArray) × (Option Addr) × Nat × Nat) (eI:=fun(n,qZ,acc,iG,fS,iH)=>[(0,.pointer (some ⟨D.s,0,none⟩)),(3,.pointer (some ⟨b3,0,none⟩)),(7,.slice iG fS iH)]) (F:=fun(n,qZ,acc,iG,fS,iH)=>[As.os RR.str 9 1 iG fS iH (acc),As.map Key.val D.m qZ]) (I:=fun(n,qZ,acc,iG,fS,iH)=>(n≤dW ab i)∧(ba ab x.ah qZ)∧(iI ml qZ)∧(acc=(gq (dP ab k) (valOf ab x.ah) n).2)∧True) (μ:=fun(n,qZ,acc,iG,fS,iH)=>dW ab i - n) (0,ml,[],none,0,0) (br.p4.p1) Sub.t (⟨by omega,hm,iI.refl _,rfl,trivial⟩)<|?_;rintro⟨n,qZ,acc,iG,fS,iH⟩ w5 bP ⟨hn,Cp,sa,ee,_⟩;simp only [CA,NA] at bP hn Cp sa ee ⊢;have l3:=((As.gs bP.g0)).len
 have tC:acc.length=n:=by rw [ee];exact(iZ _ _ n).2
 obtain⟨t,wK⟩:∃t,aZ ab k acc=t:=⟨_,rfl⟩
 have Sk:dP ab k acc=t:=by rw [← wK,← hk,im hi mn]
 refine db ?_;have CO:=bP.dc;have Ij:=bP.mj;have Ik:=bP.size;refine WC.fc (m:=8) (E:=dy [(6,fun v _=>v=t.val),(7,PB w5.heap.size 174 [.bool false,.string ⟨#[]⟩,.int .i64 0,.string ⟨#[]⟩])]) bP (bT (⟨fun _ _ _ _ _ _ _ h=>h,⟨fun _ _ _ _ _ _ c h=>PB.st CO c h,trivial⟩⟩)) mixed (by kernel_rfl)<|(lF) nE St.g4<|(jA) av St.g2<|nx ?_;refine DW.c1 (fun wx hC hF=>ie (k:=k) (SD.ht (As.gf hC.2.g3)) (SD.hu (As.gf hC.2.g3)) (Ow.rd (As.gs hC.2.g0) (by omega)) hR.hb (hk ▸ iJ hi mn)) (by rw [wK])<|?_;refine DW.e rfl rfl rfl rfl rfl (fun wx hC hF=>OX.alloc vI rfl fun b wy nw hb=>⟨⟨Nat.le_trans hC.1 nw.ext.size,hC.2.step nw.ext⟩,nw.ext.p0,_,rfl,_,rfl,Nat.le_trans hC.1 nw.ge,hb⟩)<|?_;rintro _ wz _ ⟨b8,rfl,_,_⟩;refine(ey) ?_;rintro w6 ⟨BD,bS⟩ ⟨Y7,⟨_,_⟩⟩;have bX:=bS.yI Y7 CO Ij Ik;refine(dB) jk bX fun w7 jC jI aM=>?_;refine(bN) fG aM.b0<|(bp) (fun Y8=>?_) fun Y8=>?_
 ·
  have Dq:n=dW ab i:=by
   rcases Nat.lt_or_ge n (dW ab i) with h | h
   ·
    obtain⟨a,h1,_⟩:=fI hR hi (ao:=acc) (by omega);rw [hk,Sk] at h1;rw [h1] at Y8;cases Y8
   omega
  have iD:t.value=valOf ab x.ah k:=by
   have h1:=jw (aH:=x.ah) hR hi;rw [hk,← Dq,← ee,Sk] at h1;rw [h1]
  refine nx ?_;have ae2:=aM.dc;refine WC.dS (m:=7) aM mixed<|(lF) jj St.g5<|(jA) av St.g3<|(lF) iq St.g0<|(ey)<|?_;rintro w8 ⟨Ms,aT⟩ _;refine WL.go rfl (OX.put eF fD (As.gm aT.g2) rfl rfl rfl fun w9 FD BE=>?_);have aY:=aT.p2.mH FD BE;refine(bN) iq aY.b1<|(cm) ?_;exact⟨_,by rw [iD],by rw [iD];exact Cp.put k,by rw [iD];exact sa.trans (iI.put Cp k),aY.p5.k2⟩
 have Dq:n<dW ab i:=by
  rcases Nat.lt_or_ge n (dW ab i) with h | h
  ·
   exact h
  have h1:=jv hR hi (ao:=acc) (by omega);rw [hk,Sk] at h1;rw [h1] at Y8;cases Y8
 obtain⟨a,oK,Co,_⟩:=fI hR hi (ao:=acc) (by omega);rw [hk,Sk] at oK
 have Om:t.ask=a:=by rw [oK]
 refine(kl) av aM.b0<|?_;have aT:=aM.p2.p5;refine(df) Mn (ih t.ask (by rw [Om];exact Co) oq _ _ _ _ aT.e2 (As.gf aT.g5) Cp) ?_;rintro _ w8 ⟨fq,rfl,jg,fU,kF⟩;have aY:=St.lr aT kF;refine WL.go rfl (OX.bA (us:=[.string (valOf ab x.ah t.ask)]) qj rfl rfl rfl rfl fun b62 w9 akB akC=>?_);have bG:=aY.eW akB akC;refine WL.ap rfl rfl bG.p4 (SR.eP (A:=fun _=>True) (x:=valOf ab x.ah t.ask) (As.gb bG.g0) trivial rfl (by simp [Value.oneCell']) rfl) fun a63 akD kM ar9 asa bB=>?_;refine dw ?_;refine fx (n+1,fq,acc++[valOf ab x.ah t.ask],a63,(fS+1),akD) ⟨bB.p1.drop.p3.drop.p4.p4.p4.p3,⟨by omega,jg,sa.trans fU,by simp only [gq];rw [← ee,Sk],trivial⟩⟩
set_option maxHeartbeats 1600000 in
theorem Il{i0:Nat}(bF:St w M Z w [As.blk D.s 144 (D.cells x),As.map Key.val D.m ml]) (hf:(D.F prog ab x).p Z w) (hm:ba ab x.ah ml) (hR:ay ab) (hi:i0<ab.length) (RX:aI ab i0=true) (hv:∀j a,dZ ab i0 j→gx ab j a→aA a=false→NS ab x D a):Calls prog 181 #[.pointer (some ⟨D.s,0,none⟩),(aQ ab (i0:Int)).val] w fun e w'=>∃eb,e=.returned (.tuple #[])∧ba ab x.ah eb∧iI ml eb∧ck eb (aQ ab (i0:Int))=some (.string (valOf ab x.ah (aQ ab (i0:Int))))∧St w M Z w' [As.blk D.s 144 (D.cells x),As.map Key.val D.m eb]:=by
 have pY:=hR.len
 have mn:i0≤99:=by omega
 have Y9:=xX hi mn RX;refine enter func181 rfl ntmps181 rfl<|?_;have aW:=bF;have st1:=aW.fact (B:=As.fz (D.F prog ab x)) hf (fun _ hx=>hx);refine(eD) st1 fun b3 w1 ic dA st2=>?_;refine dw ?_;have zq:=st2.dc;have akE:=st2.mj;have akF:=st2.size;refine WC.fc (m:=4) (E:=dy [(0,PM Key.val w1.heap.size),(3,fun v _=>v=.string ⟨#[48]⟩)]) st2 (bT (⟨fun _ _ _ _ _ _ c h=>PM.st zq c h,⟨fun _ _ _ _ _ _ _ h=>h,trivial⟩⟩)) mixed (by kernel_rfl)<|?_;refine DW.e rfl rfl rfl rfl rfl (fun wx hC hF=>OX.makeMap Key.val rfl fun b wy nw hb=>⟨⟨Nat.le_trans hC.1 nw.ext.size,hC.2.step nw.ext⟩,nw.ext.p0,_,rfl,_,rfl,Nat.le_trans hC.1 nw.ge,hb⟩)<|?_;rintro _ wz _ ⟨wv,rfl,_,_⟩;refine(jA) av St.g0<|(jA) av St.g0<|?_;refine DW.c1 (fun wx hC hF=>vM (k:=(aQ ab (i0:Int)))) (by rw [Y9])<|(ey) ?_;rintro w2 ⟨fj,aP⟩ ⟨_,⟨hF0,_⟩⟩;have aV:=aP.aim hF0 zq akE akF;refine WL.go rfl (OX.ins eF fD (As.gm aV.g0) rfl rfl rfl fun w3 QJ KU=>?_);have bf:=aV.mH QJ KU;refine(bz) av bf.b1<|?_;refine WL.go rfl (OX.bA (us:=(aQ ab (i0:Int)).cells) fK rfl rfl rfl rfl fun b22 w4 NT QK=>?_);have br:=St.wR (R:=RR.key) (E:=58) (k:=2) (a:=some ⟨b22,0,none⟩) (n:=1) (c:=1) (xs:=[(aQ ab (i0:Int))]) bf NT.ext (OR.eP QK (Nat.zero_le _) rfl (by simp [Key.cells,Value.oneCell']) rfl) (fun x hx=>by simp [aL] at hx;subst hx;exact NT.ge);refine nj ?_;refine WC.bQ (σ:=(List Nat) × (Nat→Nat) × (List (Key × Value)) × Bool × (List (Key × Value)) × (Option Addr) × Nat × Nat) (eI:=fun(L,u,am,ch,qZ,bJ,bH,bK)=>[(0,.pointer (some ⟨D.s,0,none⟩)),(4,.map (some wv)),(5,.slice bJ bH bK),(6,.bool ch)]) (F:=fun(L,u,am,ch,qZ,bJ,bH,bK)=>[As.os RR.key 58 2 bJ bH bK (L.map fun j:Nat=>aQ ab (j:Int)),As.map Key.val D.m qZ,As.map Key.val wv am]) (I:=fun(L,u,am,ch,qZ,bJ,bH,bK)=>(eT ab x.ah i0 L u)∧(oA ab x.ah L u qZ)∧(qV ab L u am)∧(ba ab x.ah qZ)∧(iI ml qZ)∧(ch=false→∀j∈L,sO ab x.ah L u j)∧True) (μ:=fun(L,u,am,ch,qZ,bJ,bH,bK)=>2*tA ab L u+(if ch then 1 else 0)) ([i0],fun _=>0,dH [] (aQ ab (i0:Int)) (.string ⟨#[48]⟩),true,ml,(some ⟨b22,0,none⟩),1,1) (br.p1.p5.p2) Sub.t (⟨eT.start hi RX,oA.start,⟨fun j hj=>by simp at hj;subst hj;rw [show itoa ((0:Nat):Int)=⟨#[48]⟩ by decide +kernel];simp [dH,ck],fun k hk=>by simp [dH,ck];intro e;exact hk i0 (by simp) e.symm⟩,hm,iI.refl _,(fun h=>by cases h),trivial⟩)<|?_;rintro⟨L,u,am,ch,qZ,bJ,bH,bK⟩ w5 bP ⟨oE,ll,VU,Cp,sa,ru,_⟩;simp only [CA,NA] at bP oE ll VU Cp sa ru ⊢;refine(bp) (fun g23=>?_) fun g23=>?_
 ·
  have g23:ch=true:=g23;subst g23
  clear ru
  refine bC ?_;refine db ?_;refine WC.bQ (σ:=Nat × (List Nat) × (Nat→Nat) × (List (Key × Value)) × Bool × (List (Key × Value)) × (Option Addr) × Nat × Nat) (eI:=fun(idx,L1,u1,Aj,oB,fq,bJ,bH,bK)=>[(0,.pointer (some ⟨D.s,0,none⟩)),(4,.map (some wv)),(5,.slice bJ bH bK),(6,.bool oB),(7,.int .i64 (idx:Int))]) (F:=fun(idx,L1,u1,Aj,oB,fq,bJ,bH,bK)=>[As.os RR.key 58 2 bJ bH bK (L1.map fun j:Nat=>aQ ab (j:Int)),As.map Key.val D.m fq,As.map Key.val wv Aj]) (I:=fun(idx,L1,u1,Aj,oB,fq,bJ,bH,bK)=>(idx≤L1.length)∧(eT ab x.ah i0 L1 u1)∧(oA ab x.ah L1 u1 fq)∧(qV ab L1 u1 Aj)∧(ba ab x.ah fq)∧(iI ml fq)∧(tA ab L1 u1≤tA ab L u∧(oB=true→tA ab L1 u1<tA ab L u))∧(oB=false→∀m j,m<idx→L1[m]?=some j→sO ab x.ah L1 u1 j)∧True) (μ:=fun(idx,L1,u1,Aj,oB,fq,bJ,bH,bK)=>ab.length - idx) (0,L,u,am,false,qZ,bJ,bH,bK) (bP.p2.p2.p2) Sub.t (⟨by omega,oE,ll,VU,Cp,sa,⟨Nat.le_refl _,(fun h=>by cases h)⟩,fun _ m j h=>by omega,trivial⟩)<|?_;rintro⟨idx,L1,u1,Aj,oB,fq,bJ,bH,bK⟩ w6 bS ⟨Za,xD,FE,Im,jg,fU,NU,BF,_⟩;simp only [CA,NA] at bS Za xD FE Im jg fU NU BF ⊢;have l3:=((As.gs bS.g0)).len;rw [List.length_map] at l3;have hL1:=xD.len;refine(bp) (fun Cq=>?_) fun Cq=>?_
  ·
   simp at Cq
   have k7:idx<L1.length:=by omega
   obtain⟨j,Io⟩:∃j,L1[idx]=j:=⟨_,rfl⟩
   have jt:L1[idx]?=some j:=by rw [aq k7,Io]
   have qz:j∈L1:=Io ▸ List.getElem_mem k7;obtain⟨mu,Ah⟩:=xD.ring j qz
   have yU:j≤99:=by omega
   have hja:=lZ hR mu;rw [fY mu] at hja;have bX:=bS.eX RR.str 9 1;refine nj ?_;obtain⟨t,wK⟩:∃t,aZ ab (aQ ab (j:Int)) []=t:=⟨_,rfl⟩
   have hx1:(L1.map fun j:Nat=>aQ ab (j:Int))[idx]?=some (aQ ab (j:Int)):=by rw [List.getElem?_map,jt];rfl
   obtain⟨gE,aS⟩:=Ow.addr (As.gs bX.g1) hx1;have CO:=bX.dc;have Ij:=bX.mj;have Ik:=bX.size;refine WC.fc (m:=11) (E:=dy [(9,fun v _=>v=t.val),(10,PB w6.heap.size 174 [.bool false,.string ⟨#[]⟩,.int .i64 0,.string ⟨#[]⟩])]) bX (bT (⟨fun _ _ _ _ _ _ _ h=>h,⟨fun _ _ _ _ _ _ c h=>PB.st CO c h,trivial⟩⟩)) mixed (by kernel_rfl)<|(lF) nE St.g6<|db ?_;refine DP .r (fun _ hC=>PV.fm fL aS rfl rfl (by omega))<|DP .r (fun _ hC=>VA av (Ow.rE (As.gs hC.2.g1) (by rw [List.length_map];omega) aS hx1) .r)<|nx ?_;refine DW.c1 (fun wx hC hF=>ie (k:=(aQ ab (j:Int))) (SD.ht (As.gf hC.2.g5)) (SD.hu (As.gf hC.2.g5)) (Ow.rd (As.gs hC.2.g0) (by simp)) hR.hb (iJ mu yU)) (by rw [wK])<|?_;refine DW.e rfl rfl rfl rfl rfl (fun wx hC hF=>OX.alloc vI rfl fun b wy nw hb=>⟨⟨Nat.le_trans hC.1 nw.ext.size,hC.2.step nw.ext⟩,nw.ext.p0,_,rfl,_,rfl,Nat.le_trans hC.1 nw.ge,hb⟩)<|?_;rintro _ wz _ ⟨b9,rfl,_,_⟩;refine(ey) ?_;rintro w7 ⟨BD,aM⟩ ⟨BG,⟨_,_⟩⟩;have aT:=aM.yI BG CO Ij Ik;refine(dB) jk aT fun w8 r7 mR aY=>?_;refine dF ?_;refine WC.bQ (σ:=Nat × Hb × (List Nat) × (List (Key × Value)) × Bool × (List (Key × Value)) × (List ByteArray) × (Option Addr) × Nat × Nat × (Option Addr) × Nat × Nat) (eI:=fun(n,t,L2,nv,qD,kK,acc,bJ,bH,bK,iG,fS,iH)=>[(0,.pointer (some ⟨D.s,0,none⟩)),(4,.map (some wv)),(5,.slice bJ bH bK),(6,.bool qD),(7,.int .i64 (idx:Int)),(8,.slice iG fS iH),(9,.pointer (some ⟨b9,0,none⟩))]) (F:=fun(n,t,L2,nv,qD,kK,acc,bJ,bH,bK,iG,fS,iH)=>[As.os RR.key 58 2 bJ bH bK (L2.map fun j:Nat=>aQ ab (j:Int)),As.os RR.str 9 1 iG fS iH (acc),As.map Key.val D.m kK,As.map Key.val wv nv,As.blk b9 174 [.bool t.done,.string t.value,.int .i64 t.ask.kind,.string t.ask.text]]) (I:=fun(n,t,L2,nv,qD,kK,acc,bJ,bH,bK,iG,fS,iH)=>(n≤ab[j].asks.length)∧(eT ab x.ah i0 L2 u1)∧(oA ab x.ah L2 u1 kK)∧(qV ab L2 u1 nv)∧(ba ab x.ah kK)∧(iI fq kK)∧(tA ab L2 u1≤tA ab L1 u1∧(qD=true→oB=true∨tA ab L2 u1<tA ab L1 u1))∧(qD=false→L2=L1∧oB=false)∧(L1 <+: L2)∧(Ev ab x.ah u1 L2 fq kK ab[j].asks n acc)∧(dP ab (aQ ab (j:Int)) acc=t)∧True) (μ:=fun(n,t,L2,nv,qD,kK,acc,bJ,bH,bK,iG,fS,iH)=>ab[j].asks.length - n) (0,t,L1,Aj,oB,fq,[],bJ,bH,bK,none,0,0) (aY.p4.p4.p3.p4) Sub.t (⟨by omega,xD,FE,Im,jg,iI.refl _,⟨Nat.le_refl _,fun h=>.inl h⟩,fun h=>⟨rfl,h⟩,List.prefix_refl _,Ev.start,by rw [← wK,im mu yU],trivial⟩)<|?_;rintro⟨n,t,L2,nv,qD,kK,acc,bJ,bH,bK,iG,fS,iH⟩ w9 bG ⟨hn,nC,Ff,yV,KW,yW,qP,RY,jq,dR,ht,_⟩;simp only [CA,NA] at bG hn nC Ff yV KW yW qP RY jq dR ht ⊢;have KX:=((As.gs bG.g0)).len;rw [List.length_map] at KX;have CC:=((As.gs bG.g1)).len;have hL2:=nC.len;have tC:=dR.len;have asd:=jq.length_le;have Zc:tA ab L2 u1≤tA ab L u∧(qD=true→tA ab L2 u1<tA ab L u):=⟨by omega,fun h=>by rcases qP.2 h with h1 | h1;have:=NU.2 h1;omega;omega⟩;refine(bN) fG bG.b4<|(bp) (fun kE=>?_) fun kE=>?_
   ·
    simp at kE
    have Dq:n<ab[j].asks.length:=by
     rcases Nat.lt_or_ge n ab[j].asks.length with h | h
     ·
      exact h
     have h1:=jv hR mu (ao:=acc) (by rw [fY mu];omega);rw [ht] at h1;rw [h1] at kE;cases kE
    obtain⟨a,oK,Co,ha3⟩:=fI hR mu (ao:=acc) (by rw [fY mu];omega);obtain⟨xq,Zd,hax⟩:=ha3 Ah;rw [tC,aq Dq] at Zd
    simp at Zd
    rw [ht] at oK
    have Om:t.ask=a:=by rw [oK]
    have Of:cL ab ab[j].asks[n]=t.ask:=by rw [Om,hax,Zd]
    have lx:ab[j].asks[n]∈ab[j].asks:=List.getElem_mem Dq;have T6:=xD.reach j qz;refine dF ?_;have ae2:=bG.dc;refine WC.dS (m:=11) bG mixed<|(lF) jj St.g7<|(Cm) av St.g4<|?_;refine DP .r (fun _ hC=>PV.wL eF fD qk (As.gm hC.2.g2) rfl rfl)<|(ey) ?_;rintro kM ⟨Ms,bB⟩ _;refine(bp) (fun QD=>?_) fun QD=>?_
    ·
     obtain⟨vv,Mr⟩:=Option.isSome_iff_exists.1 QD;have Y6:=KW _ vv Mr;obtain⟨sv,KY⟩:∃s,s=valOf ab x.ah t.ask:=⟨_,rfl⟩
     have KZ:=dR.snoc sv (fun _ _=>by rw [Of];exact KY) (fun h ho k hk=>.inl (by
      obtain⟨tD,nQ,xY⟩:=lI hR mu Ah lx ho hk;rw [Of] at xY;rw [xY] at Mr KY;exact⟨by rw [KY,jE hR tD,kn hR tD nQ],by rw [Mr];rfl⟩))
     refine WC.eqv (t:=10) (v':=.string sv) rfl (by rw [Mr,Y6,KY];rfl)<|gp ?_;refine WL.go rfl (OX.bA (us:=[.string sv]) qj rfl rfl rfl rfl fun b90 kN K1 K2=>?_);have bd:=bB.eW K1 K2;refine WL.ap rfl rfl bd.p2 (SR.eP (A:=fun _=>True) (x:=sv) (As.gb bd.g0) trivial rfl (by simp [Value.oneCell']) rfl) fun a91 K3 qL Ze Zg aU=>?_;refine dw ?_;obtain⟨t2,Nc⟩:∃t,aZ ab (aQ ab (j:Int)) (acc++[sv])=t:=⟨_,rfl⟩
     have BH:∀Lx:List Nat,L1 <+: Lx→(Lx.map fun j:Nat=>aQ ab (j:Int))[idx]?=some (aQ ab (j:Int)):=fun Lx h=>by
      rw [List.getElem?_map]
      have:=h.getElem k7
      obtain⟨q,rfl⟩:=h;rw [List.getElem?_append_left k7,jt];rfl
     obtain⟨uM,ft⟩:=Ow.addr (As.gs aU.g2) (BH _ (by first | exact jq | exact jq.trans (List.prefix_append _ _)));have Zh:=aU.dc;refine WC.dS (m:=9) aU mixed<|(lF) nE St.g8<|db ?_;refine DP .r (fun _ hC=>PV.fm fL ft rfl rfl (by omega))<|DP .r (fun _ hC=>VA av (Ow.rE (As.gs hC.2.g2) (by simp only [List.length_map,List.length_append,List.length_cons,List.length_nil];omega) ft (BH _ (by first | exact jq | exact jq.trans (List.prefix_append _ _)))) .r)<|(ey) ?_;rintro uN ⟨QL,bM⟩ _;refine WL.c1 (u:=t2.val) (ie (k:=(aQ ab (j:Int))) (SD.ht (As.gf bM.g7)) (SD.hu (As.gf bM.g7)) (Ow.rd (As.gs bM.g0) (by simp;omega)) hR.hb (iJ mu yU)) (by rw [Nc]) bM fun yX VV bO=>?_;refine(dB) jk bO.p5 fun uO Ej td bD=>?_;refine db ?_;refine fx (n+1,t2,L2,nv,qD,kK,_,bJ,bH,bK,a91,(fS+1),K3) ⟨bD.p2.drop.p4.p4.p3.p4,⟨by omega,nC,Ff,yV,KW,yW,qP,RY,jq,KZ,by rw [← Nc,im mu yU],trivial⟩⟩
    have QD:ck kK t.ask=none:=by simpa using QD
    refine(kl) av bB.b4<|(gw) (eB (k:=t.ask)) bB fun kN xy bd=>?_;refine(bp) (fun Zi=>?_) fun Zi=>?_
    ·
     simp at Zi
     refine(kl) av bd.b4<|?_;have aU:=bd.p2.p7;refine(df) Mn (hv j t.ask T6 (by rw [Om];exact Co) Zi _ _ _ _ aU.e2 (As.gf aU.g7) KW) ?_;rintro _ qL ⟨Sy,rfl,hm4,QM,qM⟩;have bM:=St.lr aU qM;refine db ?_;obtain⟨sv,KY⟩:∃s,s=valOf ab x.ah t.ask:=⟨_,rfl⟩
     have KZ:=(dR.mono (fun _ h=>h) QM).snoc sv (fun _ _=>by rw [Of];exact KY) (fun h ho k hk=>by
      obtain⟨tD,nQ,xY⟩:=lI hR mu Ah lx ho hk;rw [Of] at xY;rw [xY,cA tD (by omega),nQ] at Zi;cases Zi)
     refine EX.eqv (t:=10) (v':=.string sv) rfl (by rw [KY])<|jo ?_;refine WL.go rfl (OX.bA (us:=[.string sv]) qj rfl rfl rfl rfl fun b90 uN K1 K2=>?_);have bO:=bM.eW K1 K2;refine WL.ap rfl rfl bO.p4 (SR.eP (A:=fun _=>True) (x:=sv) (As.gb bO.g0) trivial rfl (by simp [Value.oneCell']) rfl) fun a91 K3 yX Ze Zg bD=>?_;refine dw ?_;obtain⟨t2,Nc⟩:∃t,aZ ab (aQ ab (j:Int)) (acc++[sv])=t:=⟨_,rfl⟩
     have BH:∀Lx:List Nat,L1 <+: Lx→(Lx.map fun j:Nat=>aQ ab (j:Int))[idx]?=some (aQ ab (j:Int)):=fun Lx h=>by
      rw [List.getElem?_map]
      have:=h.getElem k7
      obtain⟨q,rfl⟩:=h;rw [List.getElem?_append_left k7,jt];rfl
     obtain⟨uM,ft⟩:=Ow.addr (As.gs bD.g4) (BH _ (by first | exact jq | exact jq.trans (List.prefix_append _ _)));have Zh:=bD.dc;refine WC.dS (m:=9) bD mixed<|(lF) nE St.g2<|db ?_;refine DP .r (fun _ hC=>PV.fm fL ft rfl rfl (by omega))<|DP .r (fun _ hC=>VA av (Ow.rE (As.gs hC.2.g4) (by simp only [List.length_map,List.length_append,List.length_cons,List.length_nil];omega) ft (BH _ (by first | exact jq | exact jq.trans (List.prefix_append _ _)))) .r)<|(ey) ?_;rintro uO ⟨QL,cx⟩ _;refine WL.c1 (u:=t2.val) (ie (k:=(aQ ab (j:Int))) (SD.ht (As.gf cx.g8)) (SD.hu (As.gf cx.g8)) (Ow.rd (As.gs cx.g0) (by simp;omega)) hR.hb (iJ mu yU)) (by rw [Nc]) cx fun yY s16 cG=>?_;refine(dB) jk cG.p6 fun El RZ wX cF=>?_;refine db ?_;refine fx (n+1,t2,L2,nv,qD,Sy,_,bJ,bH,bK,a91,(fS+1),K3) ⟨cF.p2.drop.p7.p7.p2.p7.p6.p5.p7,⟨by omega,nC,Ff.mono hR nC QM,yV,hm4,yW.trans QM,qP,RY,jq,KZ,by rw [← Nc,im mu yU],trivial⟩⟩
    simp at Zi
    have gX:outside ab ab[j].asks[n]=false:=by
     cases ho:outside ab ab[j].asks[n]
     ·
      rfl
     have:=lH hR mu Ah lx ho;rw [Of,Zi] at this;cases this
    obtain⟨kk,LM,qE,nS⟩:=j6 hR mu Ah lx gX;rw [Of] at qE;have vm:=LM.lt.2.2.2
    have EV:ck fq (aQ ab (kk:Int))=none:=by
     cases h:ck fq (aQ ab (kk:Int)) with
     | none=>rfl
     | some v=>have:=yW _ _ h;rw [← qE,QD] at this;cases this
    have Dn:∀k:Nat,ab[j].asks[n].n=k→k=kk:=fun k hk=>by
     obtain⟨tD,nQ,xY⟩:=lI hR mu Ah lx gX hk;rw [Of,qE] at xY;exact(fF hR nS tD xY).symm
    refine(kl) av bd.b4<|?_;refine WP .r (PV.wL eF fD qk (As.gm bd.g3) rfl rfl)<|?_;refine bC ?_;refine(bp) (fun T7=>?_) fun T7=>?_
    ·
     simp at T7
     have Hp:kk∉L2:=fun h=>by have:=yV.1 kk h;rw [← qE,T7] at this;cases this
     have Og:=nC.out kk Hp;have Pj:dZ ab i0 kk:=.step (nC.reach j (jq.subset qz)) LM;have Xi:=nC.meet nS vm Hp Pj;have ed:=nC.LJ nS vm Hp Pj;have Sc:=Ho (v:=u1) (j:=kk) ed;have Zj:=yV.meet hR (fun k hk=>(nC.ring k hk).1) nS Hp Og;rw [← qE] at Zj
     have T8:ub t.ask=⟨#[48]⟩:=by rw [qE];exact xX nS (by omega) vm
     refine nx ?_;have ase:=bd.dc;refine WC.fc (m:=6) (E:=dy [(5,fun v _=>v=.string ⟨#[48]⟩)]) bd (bT (⟨fun _ _ _ _ _ _ _ h=>h,trivial⟩)) mixed (by kernel_rfl)<|(Cm) av St.g4<|(Cm) av St.g4<|?_;refine DW.c1 (fun wx hC hF=>vM (k:=t.ask)) (by rw [T8])<|(ey) ?_;rintro qL ⟨aoO,aU⟩ ⟨_,_⟩;refine WL.go rfl (OX.put eF fD (As.gm aU.g3) rfl rfl rfl fun uN Zk Zl=>?_);have bM:=aU.p3.mH Zk Zl;refine(kl) av bM.b4<|?_;refine WL.go rfl (OX.bA (us:=t.ask.cells) fK rfl rfl rfl rfl fun b71 yX Zm Zn=>?_);have bO:=bM.eW Zm Zn;refine WL.ap rfl rfl bO.p2 (SR.eP (A:=fun _=>True) (x:=t.ask) (As.gb bO.g0) trivial rfl (by simp [Key.cells,Value.oneCell']) rfl) fun a72 akJ uO asg ash bD=>?_;refine dw ?_;have cx:=bD.WZ (show(L2.map fun j:Nat=>aQ ab (j:Int))++[t.ask]=(L2++[kk]).map fun j:Nat=>aQ ab (j:Int) by rw [List.map_append,qE];rfl);have BI:=Zj.1 kk (by simp);rw [← qE] at BI;have hsn:∀s,s=itoa (u1 kk:Int)→Ev ab x.ah u1 (L2++[kk]) fq kK ab[j].asks (n+1) (acc++[s]):=fun s hs=>(dR.mono (fun _ h=>by simp [h]) (iI.refl _)).snoc s (fun h ho=>by rw [gX] at ho;cases ho) (fun h ho k hk=>by have:=Dn k hk;subst this;exact .inr ⟨hs,by simp,EV⟩);refine(kl) av cx.b5<|?_;refine WP .r (PV.dG eF fD qk (As.gm cx.g2) (BI) rfl rfl)<|db ?_;obtain⟨sv,KY⟩:∃s,s=itoa (u1 kk:Int):=⟨_,rfl⟩;have KZ:=hsn sv KY;refine EX.eqv (t:=10) (v':=.string sv) rfl (by rw [KY])<|jo ?_;refine WL.go rfl (OX.bA (us:=[.string sv]) qj rfl rfl rfl rfl fun b90 yY K1 K2=>?_);have cG:=cx.eW K1 K2;refine WL.ap rfl rfl cG.p4 (SR.eP (A:=fun _=>True) (x:=sv) (As.gb cG.g0) trivial rfl (by simp [Value.oneCell']) rfl) fun a91 K3 El Ze Zg cF=>?_;refine dw ?_;obtain⟨t2,Nc⟩:∃t,aZ ab (aQ ab (j:Int)) (acc++[sv])=t:=⟨_,rfl⟩
     have BH:∀Lx:List Nat,L1 <+: Lx→(Lx.map fun j:Nat=>aQ ab (j:Int))[idx]?=some (aQ ab (j:Int)):=fun Lx h=>by
      rw [List.getElem?_map]
      have:=h.getElem k7
      obtain⟨q,rfl⟩:=h;rw [List.getElem?_append_left k7,jt];rfl
     obtain⟨uM,ft⟩:=Ow.addr (As.gs cF.g2) (BH _ (by first | exact jq | exact jq.trans (List.prefix_append _ _)));have Zh:=cF.dc;refine WC.dS (m:=9) cF mixed<|(lF) nE St.g9<|db ?_;refine DP .r (fun _ hC=>PV.fm fL ft rfl rfl (by omega))<|DP .r (fun _ hC=>VA av (Ow.rE (As.gs hC.2.g2) (by simp only [List.length_map,List.length_append,List.length_cons,List.length_nil];omega) ft (BH _ (by first | exact jq | exact jq.trans (List.prefix_append _ _)))) .r)<|(ey) ?_;rintro Cr ⟨QL,cM⟩ _;refine WL.c1 (u:=t2.val) (ie (k:=(aQ ab (j:Int))) (SD.ht (As.gf cM.g8)) (SD.hu (As.gf cM.g8)) (Ow.rd (As.gs cM.g0) (by simp;omega)) hR.hb (iJ mu yU)) (by rw [Nc]) cM fun Ip s19 cv=>?_;refine(dB) jk cv.p6 fun Mt VW VX cI=>?_;refine db ?_;refine fx (n+1,t2,L2++[kk],_,true,kK,_,a72,(bH+1),akJ,a91,(fS+1),K3) ⟨cI.p2.drop.p3.drop.p3.p4.p3.p4,⟨by omega,Xi,Ff.meet Og,Zj,KW,yW,⟨Nat.le_of_lt (Nat.lt_of_lt_of_le Sc qP.1),fun _=>.inr (Nat.lt_of_lt_of_le Sc qP.1)⟩,(fun h=>by cases h),jq.trans (List.prefix_append _ _),KZ,by rw [← Nc,im mu yU],trivial⟩⟩
    simp at T7
    have Hp:kk∈L2:=by
     by_cases h:kk∈L2
     ·
      exact h
     have:=yV.2 (aQ ab (kk:Int)) (fun k hk e=>h (by have:=fF hR nS (nC.ring k hk).1 e;rw [this];exact hk));rw [← qE] at this;rw [this] at T7;cases T7
    have BI:=yV.1 kk Hp;rw [← qE] at BI;have hsn:∀s,s=itoa (u1 kk:Int)→Ev ab x.ah u1 L2 fq kK ab[j].asks (n+1) (acc++[s]):=fun s hs=>dR.snoc s (fun h ho=>by rw [gX] at ho;cases ho) (fun h ho k hk=>by have:=Dn k hk;subst this;exact .inr ⟨hs,Hp,EV⟩);refine(kl) av bd.b4<|?_;refine WP .r (PV.dG eF fD qk (As.gm bd.g3) (BI) rfl rfl)<|db ?_;obtain⟨sv,KY⟩:∃s,s=itoa (u1 kk:Int):=⟨_,rfl⟩;have KZ:=hsn sv KY;refine EX.eqv (t:=10) (v':=.string sv) rfl (by rw [KY])<|jo ?_;refine WL.go rfl (OX.bA (us:=[.string sv]) qj rfl rfl rfl rfl fun b90 qL K1 K2=>?_);have aU:=bd.eW K1 K2;refine WL.ap rfl rfl aU.p2 (SR.eP (A:=fun _=>True) (x:=sv) (As.gb aU.g0) trivial rfl (by simp [Value.oneCell']) rfl) fun a91 K3 uN Ze Zg bM=>?_;refine dw ?_;obtain⟨t2,Nc⟩:∃t,aZ ab (aQ ab (j:Int)) (acc++[sv])=t:=⟨_,rfl⟩
    have BH:∀Lx:List Nat,L1 <+: Lx→(Lx.map fun j:Nat=>aQ ab (j:Int))[idx]?=some (aQ ab (j:Int)):=fun Lx h=>by
     rw [List.getElem?_map]
     have:=h.getElem k7
     obtain⟨q,rfl⟩:=h;rw [List.getElem?_append_left k7,jt];rfl
    obtain⟨uM,ft⟩:=Ow.addr (As.gs bM.g2) (BH _ (by first | exact jq | exact jq.trans (List.prefix_append _ _)));have Zh:=bM.dc;refine WC.dS (m:=9) bM mixed<|(lF) nE St.g8<|db ?_;refine DP .r (fun _ hC=>PV.fm fL ft rfl rfl (by omega))<|DP .r (fun _ hC=>VA av (Ow.rE (As.gs hC.2.g2) (by simp only [List.length_map,List.length_append,List.length_cons,List.length_nil];omega) ft (BH _ (by first | exact jq | exact jq.trans (List.prefix_append _ _)))) .r)<|(ey) ?_;rintro yX ⟨QL,bO⟩ _;refine WL.c1 (u:=t2.val) (ie (k:=(aQ ab (j:Int))) (SD.ht (As.gf bO.g7)) (SD.hu (As.gf bO.g7)) (Ow.rd (As.gs bO.g0) (by simp;omega)) hR.hb (iJ mu yU)) (by rw [Nc]) bO fun uO s15 bD=>?_;refine(dB) jk bD.p5 fun yY Zo Zp cx=>?_;refine db ?_;refine fx (n+1,t2,L2,nv,qD,kK,_,bJ,bH,bK,a91,(fS+1),K3) ⟨cx.p2.drop.p4.p4.p3.p4,⟨by omega,nC,Ff,yV,KW,yW,qP,RY,jq,KZ,by rw [← Nc,im mu yU],trivial⟩⟩
   simp at kE
   have Dq:n=ab[j].asks.length:=by
    rcases Nat.lt_or_ge n ab[j].asks.length with h | h
    ·
     obtain⟨a,h1,_⟩:=fI hR mu (ao:=acc) (by rw [fY mu];omega);rw [ht] at h1;rw [h1] at kE;cases kE
    omega
   subst Dq;obtain⟨Jt,R0,Zq,Oo,Fw⟩:=dR.val hR nC mu Ah;have Zr:gy (u1 j) (gK ab[j].c.toNat (acc.map eh)):=fun b hb=>Zq b (FE j qz b hb);obtain⟨val,iD⟩:∃v,gK ab[j].c.toNat (acc.map eh)=v:=⟨_,rfl⟩;rw [iD] at Jt R0 Zr Oo Fw
   have htv:t.value=itoa (val:Int):=by
    have h1:=jv hR mu (ao:=acc) (by rw [fY mu];omega);rw [ht] at h1;rw [h1,(Af hR mu Ah).1,← iD];rfl
   have kL:j∈L2:=jq.subset qz;have VY:=jq.length_le
   have Zs:L2[idx]?=some j:=by obtain⟨q,rfl⟩:=jq;rw [List.getElem?_append_left k7];exact jt
   have T9:(L2.map fun j:Nat=>aQ ab (j:Int))[idx]?=some (aQ ab (j:Int)):=by rw [List.getElem?_map,Zs];rfl
   refine jo ?_;obtain⟨NV,kz⟩:=Ow.addr (As.gs bG.g0) T9;have asi:=bG.dc;refine WC.dS (m:=8) bG mixed<|dw ?_;refine DP .r (fun _ hC=>PV.fm fL kz rfl rfl (by omega))<|DP .r (fun _ hC=>VA av (Ow.rE (As.gs hC.2.g0) (by rw [List.length_map];omega) kz T9) .r)<|DP .r (fun _ hC=>PV.dG eF fD qk (As.gm hC.2.g3) (yV.1 j kL) rfl rfl)<|(lF) iq St.g4<|(ey)<|?_;rintro kM ⟨aoQ,bB⟩ _;refine(bp) (fun pD=>?_) fun pD=>?_
   ·
    simp at pD
    rw [htv] at pD;have kh:u1 j≠val:=fun e=>pD (by rw [e]);have Oj:=LK nC kL Jt Zr kh;obtain⟨Zt,tL⟩:=Ow.addr (As.gs bB.g0) T9;have asj:=bB.dc;refine WC.fc (m:=9) (E:=dy [(7,fun v w'=>∃vv st,v=.tuple #[vv,.int .i64 ((st:Nat):Int)]∧KE Key.val w' wv nv (aQ ab (j:Int)) st)]) bB (o9 (⟨⟨trivial,trivial⟩,trivial⟩)) mixed (by kernel_rfl)<|dw ?_;refine DP .r (fun _ hC=>PV.fm fL tL rfl rfl (by omega))<|DP .r (fun _ hC=>VA av (Ow.rE (As.gs hC.2.g0) (by rw [List.length_map];omega) tL T9) .r)<|(lF) iq St.g4<|?_;refine DW.e rfl rfl rfl rfl rfl (fun wx hC hF=>OX.WT eF fD qk (As.gm hC.2.g3) rfl rfl rfl fun wy st vv sx hsz Ua=>?_)<|?_
    ·
     have hg:=yV.1 j kL;rw [hg] at Ua;rw [Option.getD_some,DB hg] at Ua;exact⟨⟨Nat.le_trans hC.1 sx.size,hC.2.same (A:=As.map Key.val wv nv) (by simp) (sx.p.mono fun x _ hx=>by simpa [As.map] using hx) Ua.km⟩,sx.p.mono (fun x _ hx=>Ly (A:=As.map Key.val wv nv) (by simp) (by simpa [As.map] using hx)),_,rfl,_,_,rfl,Ua⟩
    rintro _ wz _ ⟨akL,cv,rfl,_⟩;refine(ey) ?_;rintro kN ⟨aoR,bd⟩ ⟨Y7,_⟩;obtain⟨_,_,QN,Iq⟩:=Y7;simp only [Value.tuple.injEq,Array.mk.injEq,List.cons.injEq,Value.int.injEq,true_and,and_true] at QN;have Zu:=Int.natCast_inj.1 QN.2;rw [← Zu] at Iq;refine WL.go rfl (OX.JI Iq rfl rfl rfl fun qL Zv _ Zw=>?_);have aU:=bd.p3.mH Zv Zw;rw [htv] at aU;refine qC ?_;refine fx (idx+1,L2,pZ u1 j val,dH nv (aQ ab (j:Int)) (.string (itoa (val:Int))),true,kK,bJ,bH,bK) ⟨aU.p2.drop.p3.drop.p2.p2,⟨Nat.le_trans k7 VY,nC.set kL Jt R0,Ff.set hR nC kL Jt R0 Zr Oo,yV.set hR (fun k hk=>(nC.ring k hk).1) kL val,KW,fU.trans yW,⟨Nat.le_of_lt (Nat.lt_of_lt_of_le Oj Zc.1),fun _=>Nat.lt_of_lt_of_le Oj Zc.1⟩,(fun h=>by cases h),trivial⟩⟩
   simp at pD
   rw [htv] at pD;have pD:u1 j=val:=Hk (by have:=nC.le j;omega) (by omega) pD;refine kJ ?_
   refine fx (idx+1,L2,u1,nv,qD,kK,bJ,bH,bK) ⟨bB.p1.drop.p3.drop,⟨Nat.le_trans k7 VY,nC,Ff,yV,KW,fU.trans yW,Zc,fun h m k hm hk=>by
      obtain⟨e1,e2⟩:=RY h;subst e1
      by_cases e:m=idx
      ·
       subst e;rw [jt] at hk
       simp at hk;subst hk
       exact Fw (pD ▸ rfl)
      exact BF e2 m k (by omega) hk,trivial⟩⟩
  simp at Cq
  refine eA ?_;refine EX.again (L1,u1,Aj,oB,fq,bJ,bH,bK) Sub.t ⟨bS,⟨xD,FE,Im,jg,fU,fun h j hj=>by obtain⟨m,hm,rfl⟩:=List.mem_iff_getElem.1 (show j∈L1 from hj);exact BF h m _ (by omega) (aq hm),trivial⟩⟩ (by simp only [];cases oB <;> simp at NU ⊢ <;> omega)
 have g23:ch=false:=g23;have wI:=ru g23;have yw:=oE.done hR wI;refine jo ?_;have akM:=((As.gs bP.g0)).len;rw [List.length_map] at akM;have hL7:=oE.len;refine gp ?_;refine WC.bQ (σ:=Nat × (List (Key × Value))) (eI:=fun(i7,Ub)=>[(0,.pointer (some ⟨D.s,0,none⟩)),(4,.map (some wv)),(120,.slice bJ bH bK),(121,.int .i64 (bH:Int)),(122,.int .i64 (i7:Int))]) (F:=fun(i7,Ub)=>[As.map Key.val D.m Ub]) (I:=fun(i7,Ub)=>(i7≤L.length)∧(ba ab x.ah Ub)∧(iI ml Ub)∧(∀m j,m<i7→L[m]?=some j→ck Ub (aQ ab (j:Int))=some (.string (valOf ab x.ah (aQ ab (j:Int)))))∧True) (μ:=fun(i7,Ub)=>L.length - i7) (0,qZ) (bP.p1) Sub.t (⟨by omega,Cp,sa,fun m j h=>by omega,trivial⟩)<|?_;rintro⟨i7,Ub⟩ w6 bS ⟨hi7,hm7,Zy,hd7,_⟩;simp only [CA,NA] at bS hi7 hm7 Zy hd7 ⊢;refine(bp) (fun K4=>?_) fun K4=>?_
 ·
  simp at K4
  have ae4:i7<L.length:=by omega
  obtain⟨j,Io⟩:∃j,L[i7]=j:=⟨_,rfl⟩
  have jt:L[i7]?=some j:=by rw [aq ae4,Io]
  have qz:j∈L:=Io ▸ List.getElem_mem ae4;obtain⟨mu,Ah⟩:=oE.ring j qz;have ae5:=VU.1 j qz;rw [yw j qz,← kn hR mu Ah,← jE hR mu] at ae5;refine eA ?_
  have hx7:(L.map fun j:Nat=>aQ ab (j:Int))[i7]?=some (aQ ab (j:Int)):=by rw [List.getElem?_map,jt];rfl
  obtain⟨asm,VZ⟩:=Ow.addr (As.gs bS.g1) hx7;refine nx ?_;refine WP .r (PV.fm fL VZ rfl rfl (by omega))<|(bz) av (Ow.rE (As.gs bS.g1) (by rw [List.length_map];omega) VZ hx7)<|(fT) bS fun Ju w7 Qu Qv bX=>?_;refine(dB) jH bX fun w8 ss7 hs7 aM=>?_;refine db ?_;have asn:=aM.dc;refine WC.dS (m:=8) aM mixed<|(lF) jj St.g6<|(jA) av St.g0<|(jA) av St.g0<|?_;refine DP .r (fun _ hC=>PV.dG eF fD qk (As.gm hC.2.g3) (ae5) rfl rfl)<|(ey)<|?_;rintro w9 ⟨aoT,aT⟩ _;refine WL.go rfl (OX.put eF fD (As.gm aT.g1) rfl rfl rfl fun kM akO akP=>?_);have aY:=aT.p1.mH akO akP;refine gp ?_
  refine fx (i7+1,_) ⟨aY.p1.drop,⟨by omega,hm7.put _,Zy.trans (iI.put hm7 _),fun m k hm hk=>by
     rw [eQ]
     split
     ·
      rename_i e;rw [e]
     rename_i e
     refine hd7 m k ?_ hk
     rcases Nat.lt_or_ge m i7 with h | h
     ·
      exact h
     have:m=i7:=by omega
     subst this;rw [jt] at hk;simp at hk;subst hk;exact absurd rfl e,trivial⟩⟩
 simp at K4
 obtain⟨mm,R1,RH⟩:=List.mem_iff_getElem.1 oE.first;have Ct:=hd7 mm i0 (by omega) (by rw [aq R1,RH]);refine dF ?_;refine EX.zy (.inr rfl) rfl<|?_;exact⟨Ub,rfl,hm7,Zy,Ct,bS.p5.k2⟩
theorem QO(hR:ay ab):∀i,i<ab.length→NS ab x D (aQ ab (i:Int)):=by
 intro i
 induction i using Nat.strongRecOn with
 | _ i ih=>
  intro hi;have pY:=hR.len
  have CD:∀a,aA a=false→(aB a=true∨∃m,m<i∧m<ab.length∧a=aQ ab (m:Int))→NS ab x D a:=fun a _ ha w M Z ml h1 h2 h3=>by
   rcases ha with ha | ⟨m,hm,jT,rfl⟩
   ·
    exact oQ h1 h2 h3 ha
   exact ih m hm jT w M Z ml h1 h2 h3
  have Jo:∀a,(aB a=true∨∃m,m<i∧m<ab.length∧a=aQ ab (m:Int))→NS ab x D a:=fun a ha w M Z ml h1 h2 h3=>by
   rcases ha with ha | ⟨m,hm,jT,rfl⟩
   ·
    exact oQ h1 h2 h3 ha
   exact ih m hm jT w M Z ml h1 h2 h3
  intro w M Z ml h1 h2 h3;refine FC h1 h2 h3 hR hi (fun hc w M Z ml h1 h2 h3=>?_) fun a ha hc=>Jo a ?_
  ·
   rw [cA hi (by omega)] at hc;refine Il h1 h2 h3 hR hi hc fun j a Pj hma ui=>CD a ui ?_;have hj:=lG hi hc Pj;have Jo:=nt hR Pj;have hle:=iL ab i
   rcases hma with⟨n,h4,rfl⟩ | ⟨m,h4,rfl,_,_,_,h5⟩
   ·
    exact .inl (dj (by omega))
   rw [cA h4 (by omega)] at ui;exact .inr ⟨m,by have:=h5 ui hj.2;omega,h4,rfl⟩
  rw [cA hi (by omega)] at hc
  rcases ha with⟨n,h4,rfl⟩ | ⟨m,h4,rfl,_,h5,_⟩
  ·
   exact .inl (dj (by omega))
  exact .inr ⟨m,h5 hc,h4,rfl⟩
theorem NW(hR:ay ab) {k:Key}(hk:gS ab k):NS ab x D k:=by
 cases hk with
 | cell h=>exact fun w M Z ml h1 h2 h3=>oQ h1 h2 h3 (dj h)
 | gN h _=>exact QO hR _ h
end Go.Rc

