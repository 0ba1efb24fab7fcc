/- Walks over the program, part WI. Conditions: as each theorem says. -/
import Derived.Test.YtjpagoacbadijaaGreatDoorNFacts
import Derived.Test.YtjpagoacbadijaaGreatDoorNWH
import Derived.Test.YtjpagoacbadijaaGreatDoorNBe
set_option linter.all false
namespace Go.Rc
open Go Go.Proofs Go.Proofs.Tryz
variable {x:dQ}{w:World}{M Z:Nat→Prop}{ab:List aG}{D:SD}{ml:List (Key × Value)}
set_option maxHeartbeats 400000
theorem Az{ar a1 a2:Option Addr}{r cr n1 c1 n2 c2:Nat}(bJ:St w M Z w []):Calls prog 32 #[.slice ar r cr,.agg (x.row a1 n1 c1 a2 n2 c2).toArray] w fun e w'=>∃s m q,e=.returned (.pointer (some ⟨s,0,none⟩))∧St w M Z w' [As.blk s 134 (SD.cells ⟨ar,a1,a2,r,cr,n1,c1,n2,c2,m,q,s⟩ x),As.map Key.val m [],As.map Key.val q []]:=by
 refine enter func32 rfl ntmps32 rfl<|?_;have bd:=bJ;refine(fo) bd fun b3 w1 iR dL st1=>?_;refine(bz) aP st1.b0<|?_;refine WL.mm Key.val st1 fun b7 w2 vq hm7 st2=>?_;refine WL.mm Key.val st2 fun b8 w3 BN hm8 aW=>?_;refine WP .r (PV.bW (us:=(SD.cells ⟨ar,a1,a2,r,cr,n1,c1,n2,c2,b7,b8,0⟩ x)) acr rfl rfl rfl)<|(fo) aW fun iJ w4 lz fE ba=>?_;refine(cA) ?_;exact⟨_,_,_,rfl,ba.p3.drop.p2.p1⟩
def MM(ab:List aG) (x:dQ) (D:SD) (k:Key):Prop:=∀(w:World) (M Z:Nat→Prop) (ml:List (Key × Value)),St w M Z w [As.blk D.s 134 (D.cells x),As.map Key.val D.m ml]→(D.F prog ab x).p Z w→bq ab x.ae ml→
 Calls prog 49 #[.pointer (some ⟨D.s,0,none⟩),k.val] w fun e w'=>∃fj,e=.returned (.string (valOf ab x.ae k))∧bq ab x.ae fj∧jk ml fj∧St w M Z w' [As.blk D.s 134 (D.cells x),As.map Key.val D.m fj]
def ajI(ab:List aG) (x:dQ) (D:SD) (k:Key):Prop:=∀(w:World) (M Z:Nat→Prop) (ml:List (Key × Value)),St w M Z w [As.blk D.s 134 (D.cells x),As.map Key.val D.m ml]→(D.F prog ab x).p Z w→bq ab x.ae ml→
 Calls prog 74 #[.pointer (some ⟨D.s,0,none⟩),k.val] w fun e w'=>∃fj,e=.returned (.tuple #[])∧bq ab x.ae fj∧jk ml fj∧bZ fj k=some (.string (valOf ab x.ae k))∧St w M Z w' [As.blk D.s 134 (D.cells x),As.map Key.val D.m fj]
theorem om{k:Key}(bJ:St w M Z w [As.blk D.s 134 (D.cells x),As.map Key.val D.m ml]) (hf:(D.F prog ab x).p Z w) (hm:bq ab x.ae ml) (hk:az k=true):Calls prog 49 #[.pointer (some ⟨D.s,0,none⟩),k.val] w fun e w'=>∃fj,e=.returned (.string (valOf ab x.ae k))∧bq ab x.ae fj∧jk ml fj∧St w M Z w' [As.blk D.s 134 (D.cells x),As.map Key.val D.m fj]:=by
 refine enter func49 rfl ntmps49 rfl<|?_;have bd:=bJ;have st1:=bd.fact (B:=As.fz (D.F prog ab x)) hf (fun _ hx=>hx);refine(fo) st1 fun b3 w1 iR dL st2=>?_;refine(bz) aq st2.b0<|(iz) (fD (k:=k)) st2 fun w2 s2 aW=>?_;refine(aZ) (fun g10=>?_) fun g10=>?_
 ·
  refine nx ?_;have Q3:=aW.cY;refine WC.dS (m:=5) aW mixed<|(Cy) aP St.g2<|(jj) aq St.g0<|(eh)<|?_;rintro w3 ⟨pA,ba⟩ _;refine(iz) (wt (k:=k) (SD.hi (As.gf ba.g1)) (SD.hr (As.gf ba.g1))) ba fun w4 s4 bw=>?_;refine(cA) ?_;exact⟨ml,by unfold valOf cellOf;rw [if_pos hk],hm,jk.refl _,bw.drop.drop⟩
 rw [hk] at g10;cases g10
theorem Eu{i:Nat}(bJ:St w M Z w [As.blk D.s 134 (D.cells x),As.map Key.val D.m ml]) (hf:(D.F prog ab x).p Z w) (hm:bq ab x.ae ml) (hR:aw ab) (hi:i<ab.length) (ad6:aA (aN ab (i:Int))=true→ajI ab x D (aN ab (i:Int))) (ih:∀a,gi ab i a→aA (aN ab (i:Int))=false→MM ab x D a):Calls prog 49 #[.pointer (some ⟨D.s,0,none⟩),(aN ab (i:Int)).val] w fun e w'=>∃fj,e=.returned (.string (valOf ab x.ae (aN ab (i:Int))))∧bq ab x.ae fj∧jk ml fj∧St w M Z w' [As.blk D.s 134 (D.cells x),As.map Key.val D.m fj]:=by
 have rT:=hR.len
 have lC:i≤99:=by omega
 obtain⟨k,hk⟩:∃k,aN ab (i:Int)=k:=⟨_,rfl⟩;have iB:=eG hi lC;have ha6:=qw hR hi;rw [hk] at iB ad6 ih ⊢;refine enter func49 rfl ntmps49 rfl<|?_;have bd:=bJ;have st1:=bd.fact (B:=As.fz (D.F prog ab x)) hf (fun _ hx=>hx);refine(fo) st1 fun b3 w1 iR dL st2=>?_;refine(bz) aq st2.b0<|(iz) (fD (k:=k)) st2 fun w2 s2 aW=>?_;refine(aZ) (fun g10=>?_) fun g10=>?_
 ·
  rw [iB] at g10;cases g10
 refine dW ?_;have Hi:=aW.cY;refine WC.dS (m:=10) aW mixed<|(lI) iO St.g2<|(jj) aq St.g0<|?_;refine DP .r (fun _ hC=>PV.vz eI fl pr (As.gm hC.2.g3) rfl rfl)<|(eh) ?_;rintro w3 ⟨eB,ba⟩ _;refine(aZ) (fun kz=>?_) fun kz=>?_
 ·
  obtain⟨vv,Lj⟩:=Option.isSome_iff_exists.1 kz;have Yi:=hm k vv Lj;refine(cA) ?_;exact⟨ml,by rw [Lj,Yi];rfl,hm,jk.refl _,ba.drop.drop⟩
 refine(bz) aq ba.b0<|(iz) (ef (k:=k)) ba fun w4 s4 bw=>?_;refine(aZ) (fun qj=>?_) fun qj=>?_
 ·
  refine(bz) aq bw.b0<|?_;have bj:=bw.p3.p3;refine(dj) ai3 (ad6 qj _ _ _ _ bj.e2 (As.gf bj.g3) hm) ?_;rintro _ w5 ⟨fS,rfl,kM,iS,o4,jF⟩;have bX:=St.lr bj jF;refine dE ?_;have hN8:=bX.cY;refine WC.dS (m:=5) bX mixed<|(lI) iO St.g0<|(jj) aq St.g2<|(eh)<|?_;rintro w6 ⟨qR,bV⟩ _;refine WP .r (PV.look eI fl pr (As.gm bV.g1) rfl rfl)<|(cA) ?_;exact⟨fS,by rw [o4];rfl,kM,iS,bV.p2.drop.p2.drop⟩
 have bj:=bw.eP RR.str 9 1;refine kQ ?_;refine WC.ct (σ:=Nat × (List (Key × Value)) × (List ByteArray) × (Option Addr) × Nat × Nat) (eJ:=fun(n,qc,acc,ic,fG,ie)=>[(0,.pointer (some ⟨D.s,0,none⟩)),(3,.pointer (some ⟨b3,0,none⟩)),(7,.slice ic fG ie)]) (F:=fun(n,qc,acc,ic,fG,ie)=>[As.os RR.str 9 1 ic fG ie (acc),As.map Key.val D.m qc]) (I:=fun(n,qc,acc,ic,fG,ie)=>(n≤dV ab i)∧(bq ab x.ae qc)∧(jk ml qc)∧(acc=(gh (dw ab k) (valOf ab x.ae) n).2)∧True) (μ:=fun(n,qc,acc,ic,fG,ie)=>dV ab i - n) (0,ml,[],none,0,0) (bj.p4.p1) Sub.t (⟨by omega,hm,jk.refl _,rfl,trivial⟩)<|?_;rintro⟨n,qc,acc,ic,fG,ie⟩ w5 bX ⟨hn,Bu,tT,eu,_⟩;simp only [CA,NA] at bX hn Bu tT eu ⊢;have l4:=((As.gs bX.g0)).len
 have th:acc.length=n:=by rw [eu];exact(iD _ _ n).2
 obtain⟨t,sU⟩:∃t,aM ab k acc=t:=⟨_,rfl⟩
 have LA:dw ab k acc=t:=by rw [← sU,← hk,gR hi lC]
 refine cS ?_;have BQ:=bX.cY;have Hj:=bX.ma;have Hk:=bX.size;refine WC.eQ (m:=8) (E:=dr [(6,fun v _=>v=t.val),(7,PB w5.heap.size 144 [.bool false,.string ⟨#[]⟩,.int .i64 0,.string ⟨#[]⟩])]) bX (bM (⟨fun _ _ _ _ _ _ _ h=>h,⟨fun _ _ _ _ _ _ c h=>PB.st BQ c h,trivial⟩⟩)) mixed (by kernel_rfl)<|(lI) mf St.g4<|(jj) aq St.g2<|nx ?_;refine DW.c1 (fun wx hC hF=>gM (k:=k) (SD.ht (As.gf hC.2.g3)) (SD.hu (As.gf hC.2.g3)) (Ow.rd (As.gs hC.2.g0) (by omega)) hR.hb (hk ▸ im hi lC)) (by rw [sU])<|?_;refine DW.e rfl rfl rfl rfl rfl (fun wx hC hF=>OX.alloc uN rfl fun b wy nw hb=>⟨⟨Nat.le_trans hC.1 nw.ext.size,hC.2.step nw.ext⟩,nw.ext.p0,_,rfl,_,rfl,Nat.le_trans hC.1 nw.ge,hb⟩)<|?_;rintro _ wz _ ⟨b8,rfl,_,_⟩;refine(eh) ?_;rintro w6 ⟨Dl,bV⟩ ⟨Yj,⟨_,_⟩⟩;have cq:=bV.xW Yj BQ Hj Hk;refine(dD) iU cq fun w7 jY j7 aL=>?_;refine(bL) ft aL.b0<|(aZ) (fun Yk=>?_) fun Yk=>?_
 ·
  have Cs:n=dV ab i:=by
   rcases Nat.lt_or_ge n (dV ab i) with h | h
   ·
    obtain⟨a,h1,_⟩:=fA hR hi (ah:=acc) (by omega);rw [hk,LA] at h1;rw [h1] at Yk;cases Yk
   omega
  have ig:t.value=valOf ab x.ae k:=by
   have h1:=jd (aF:=x.ae) hR hi;rw [hk,← Cs,← eu,LA] at h1;rw [h1]
  refine nx ?_;have ad7:=aL.cY;refine WC.dS (m:=7) aL mixed<|(lI) iO St.g5<|(jj) aq St.g3<|(lI) iG St.g0<|(eh)<|?_;rintro w8 ⟨Lk,aO⟩ _;refine WL.go rfl (OX.put eI fl (As.gm aO.g2) rfl rfl rfl fun w9 PR JR=>?_);have aS:=aO.p2.nv PR JR;refine(bL) iG aS.b1<|(cA) ?_;exact⟨_,by rw [ig],by rw [ig];exact Bu.put k,by rw [ig];exact tT.trans (jk.put Bu k),aS.p5.k2⟩
 have Cs:n<dV ab i:=by
  rcases Nat.lt_or_ge n (dV ab i) with h | h
  ·
   exact h
  have h1:=jc hR hi (ah:=acc) (by omega);rw [hk,LA] at h1;rw [h1] at Yk;cases Yk
 obtain⟨a,oa,Bt,_⟩:=fA hR hi (ah:=acc) (by omega);rw [hk,LA] at oa
 have Nw:t.ask=a:=by rw [oa]
 refine(j3) aq aL.b0<|?_;have aO:=aL.p2.p5;refine(dj) S5 (ih t.ask (by rw [Nw];exact Bt) qj _ _ _ _ aO.e2 (As.gf aO.g5) Bu) ?_;rintro _ w8 ⟨fS,rfl,kM,iS,jZ⟩;have aS:=St.lr aO jZ;refine WL.go rfl (OX.aR (us:=[.string (valOf ab x.ae t.ask)]) mn rfl rfl rfl rfl fun b62 w9 ajJ ajK=>?_);have bE:=aS.eF ajJ ajK;refine WL.ap rfl rfl bE.p4 (SR.ew (A:=fun _=>True) (x:=valOf ab x.ae t.ask) (As.gb bE.g0) trivial rfl (by simp [Value.oneCell']) rfl) fun a63 ajL kB ari arj bs=>?_;refine dE ?_;refine fH (n+1,fS,acc++[valOf ab x.ae t.ask],a63,(fG+1),ajL) ⟨bs.p1.drop.p3.drop.p4.p4.p4.p3,⟨by omega,kM,tT.trans iS,by simp only [gh];rw [← eu,LA],trivial⟩⟩
set_option maxHeartbeats 1600000 in
theorem Hl{i0:Nat}(bJ:St w M Z w [As.blk D.s 134 (D.cells x),As.map Key.val D.m ml]) (hf:(D.F prog ab x).p Z w) (hm:bq ab x.ae ml) (hR:aw ab) (hi:i0<ab.length) (Q4:aD ab i0=true) (hv:∀j a,dU ab i0 j→gi ab j a→aA a=false→MM ab x D a):Calls prog 74 #[.pointer (some ⟨D.s,0,none⟩),(aN ab (i0:Int)).val] w fun e w'=>∃fj,e=.returned (.tuple #[])∧bq ab x.ae fj∧jk ml fj∧bZ fj (aN ab (i0:Int))=some (.string (valOf ab x.ae (aN ab (i0:Int))))∧St w M Z w' [As.blk D.s 134 (D.cells x),As.map Key.val D.m fj]:=by
 have rT:=hR.len
 have lC:i0≤99:=by omega
 have Yl:=wZ hi lC Q4;refine enter func74 rfl ntmps74 rfl<|?_;have bd:=bJ;have st1:=bd.fact (B:=As.fz (D.F prog ab x)) hf (fun _ hx=>hx);refine(fo) st1 fun b3 w1 iR dL st2=>?_;refine dE ?_;have AA:=st2.cY;have ajM:=st2.ma;have ajN:=st2.size;refine WC.eQ (m:=4) (E:=dr [(0,PM Key.val w1.heap.size),(3,fun v _=>v=.string ⟨#[48]⟩)]) st2 (bM (⟨fun _ _ _ _ _ _ c h=>PM.st AA c h,⟨fun _ _ _ _ _ _ _ h=>h,trivial⟩⟩)) mixed (by kernel_rfl)<|?_;refine DW.e rfl rfl rfl rfl rfl (fun wx hC hF=>OX.makeMap Key.val rfl fun b wy nw hb=>⟨⟨Nat.le_trans hC.1 nw.ext.size,hC.2.step nw.ext⟩,nw.ext.p0,_,rfl,_,rfl,Nat.le_trans hC.1 nw.ge,hb⟩)<|?_;rintro _ wz _ ⟨xR,rfl,_,_⟩;refine(jj) aq St.g0<|(jj) aq St.g0<|?_;refine DW.c1 (fun wx hC hF=>uR (k:=(aN ab (i0:Int)))) (by rw [Yl])<|(eh) ?_;rintro w2 ⟨fx,aW⟩ ⟨_,⟨hF0,_⟩⟩;have ba:=aW.ahn hF0 AA ajM ajN;refine WL.go rfl (OX.ins eI fl (As.gm ba.g0) rfl rfl rfl fun w3 PT JS=>?_);have bw:=ba.nv PT JS;refine(bz) aq bw.b1<|?_;refine WL.go rfl (OX.aR (us:=(aN ab (i0:Int)).cells) eT rfl rfl rfl rfl fun b22 w4 MN PU=>?_);have bj:=St.tc (R:=RR.key) (E:=39) (k:=2) (a:=some ⟨b22,0,none⟩) (n:=1) (c:=1) (xs:=[(aN ab (i0:Int))]) bw MN.ext (OR.ew PU (Nat.zero_le _) rfl (by simp [Key.cells,Value.oneCell']) rfl) (fun x hx=>by simp [aI] at hx;subst hx;exact MN.ge);refine nT ?_;refine WC.ct (σ:=(List Nat) × (Nat→Nat) × (List (Key × Value)) × Bool × (List (Key × Value)) × (Option Addr) × Nat × Nat) (eJ:=fun(L,u,am,ch,qc,bA,bm,bB)=>[(0,.pointer (some ⟨D.s,0,none⟩)),(4,.map (some xR)),(5,.slice bA bm bB),(6,.bool ch)]) (F:=fun(L,u,am,ch,qc,bA,bm,bB)=>[As.os RR.key 39 2 bA bm bB (L.map fun j:Nat=>aN ab (j:Int)),As.map Key.val D.m qc,As.map Key.val xR am]) (I:=fun(L,u,am,ch,qc,bA,bm,bB)=>(eL ab x.ae i0 L u)∧(nW ab x.ae L u qc)∧(pY ab L u am)∧(bq ab x.ae qc)∧(jk ml qc)∧(ch=false→∀j∈L,rB ab x.ae L u j)∧True) (μ:=fun(L,u,am,ch,qc,bA,bm,bB)=>2*sj ab L u+(if ch then 1 else 0)) ([i0],fun _=>0,dF [] (aN ab (i0:Int)) (.string ⟨#[48]⟩),true,ml,(some ⟨b22,0,none⟩),1,1) (bj.p1.p5.p2) Sub.t (⟨eL.start hi Q4,nW.start,⟨fun j hj=>by simp at hj;subst hj;rw [show itoa ((0:Nat):Int)=⟨#[48]⟩ by decide +kernel];simp [dF,bZ],fun k hk=>by simp [dF,bZ];intro e;exact hk i0 (by simp) e.symm⟩,hm,jk.refl _,(fun h=>by cases h),trivial⟩)<|?_;rintro⟨L,u,am,ch,qc,bA,bm,bB⟩ w5 bX ⟨rU,mB,U1,Bu,tT,pU,_⟩;simp only [CA,NA] at bX rU mB U1 Bu tT pU ⊢;refine(aZ) (fun g23=>?_) fun g23=>?_
 ·
  have g23:ch=true:=g23;subst g23
  clear pU
  refine bf ?_;refine cS ?_;refine WC.ct (σ:=Nat × (List Nat) × (Nat→Nat) × (List (Key × Value)) × Bool × (List (Key × Value)) × (Option Addr) × Nat × Nat) (eJ:=fun(idx,L1,u1,zn,nX,fS,bA,bm,bB)=>[(0,.pointer (some ⟨D.s,0,none⟩)),(4,.map (some xR)),(5,.slice bA bm bB),(6,.bool nX),(7,.int .i64 (idx:Int))]) (F:=fun(idx,L1,u1,zn,nX,fS,bA,bm,bB)=>[As.os RR.key 39 2 bA bm bB (L1.map fun j:Nat=>aN ab (j:Int)),As.map Key.val D.m fS,As.map Key.val xR zn]) (I:=fun(idx,L1,u1,zn,nX,fS,bA,bm,bB)=>(idx≤L1.length)∧(eL ab x.ae i0 L1 u1)∧(nW ab x.ae L1 u1 fS)∧(pY ab L1 u1 zn)∧(bq ab x.ae fS)∧(jk ml fS)∧(sj ab L1 u1≤sj ab L u∧(nX=true→sj ab L1 u1<sj ab L u))∧(nX=false→∀m j,m<idx→L1[m]?=some j→rB ab x.ae L1 u1 j)∧True) (μ:=fun(idx,L1,u1,zn,nX,fS,bA,bm,bB)=>ab.length - idx) (0,L,u,am,false,qc,bA,bm,bB) (bX.p2.p2.p2) Sub.t (⟨by omega,rU,mB,U1,Bu,tT,⟨Nat.le_refl _,(fun h=>by cases h)⟩,fun _ m j h=>by omega,trivial⟩)<|?_;rintro⟨idx,L1,u1,zn,nX,fS,bA,bm,bB⟩ w6 bV ⟨Ym,wA,Ew,Hm,kM,iS,MO,AB,_⟩;simp only [CA,NA] at bV Ym wA Ew Hm kM iS MO AB ⊢;have l4:=((As.gs bV.g0)).len;rw [List.length_map] at l4;have hL1:=wA.len;refine(aZ) (fun ye=>?_) fun ye=>?_
  ·
   simp at ye
   have kE:idx<L1.length:=by omega
   obtain⟨j,Hn⟩:∃j,L1[idx]=j:=⟨_,rfl⟩
   have iZ:L1[idx]?=some j:=by rw [ao kE,Hn]
   have pI:j∈L1:=Hn ▸ List.getElem_mem kE;obtain⟨mL,zl⟩:=wA.ring j pI
   have yg:j≤99:=by omega
   have hja:=qw hR mL;rw [fN mL] at hja;have cq:=bV.eP RR.str 9 1;refine nT ?_;obtain⟨t,sU⟩:∃t,aM ab (aN ab (j:Int)) []=t:=⟨_,rfl⟩
   have hx1:(L1.map fun j:Nat=>aN ab (j:Int))[idx]?=some (aN ab (j:Int)):=by rw [List.getElem?_map,iZ];rfl
   obtain⟨ik,aU⟩:=Ow.addr (As.gs cq.g1) hx1;have BQ:=cq.cY;have Hj:=cq.ma;have Hk:=cq.size;refine WC.eQ (m:=11) (E:=dr [(9,fun v _=>v=t.val),(10,PB w6.heap.size 144 [.bool false,.string ⟨#[]⟩,.int .i64 0,.string ⟨#[]⟩])]) cq (bM (⟨fun _ _ _ _ _ _ _ h=>h,⟨fun _ _ _ _ _ _ c h=>PB.st BQ c h,trivial⟩⟩)) mixed (by kernel_rfl)<|(lI) mf St.g6<|cS ?_;refine DP .r (fun _ hC=>PV.fI fP aU rfl rfl (by omega))<|DP .r (fun _ hC=>VA aq (Ow.qu (As.gs hC.2.g1) (by rw [List.length_map];omega) aU hx1) .r)<|nx ?_;refine DW.c1 (fun wx hC hF=>gM (k:=(aN ab (j:Int))) (SD.ht (As.gf hC.2.g5)) (SD.hu (As.gf hC.2.g5)) (Ow.rd (As.gs hC.2.g0) (by simp)) hR.hb (im mL yg)) (by rw [sU])<|?_;refine DW.e rfl rfl rfl rfl rfl (fun wx hC hF=>OX.alloc uN rfl fun b wy nw hb=>⟨⟨Nat.le_trans hC.1 nw.ext.size,hC.2.step nw.ext⟩,nw.ext.p0,_,rfl,_,rfl,Nat.le_trans hC.1 nw.ge,hb⟩)<|?_;rintro _ wz _ ⟨b9,rfl,_,_⟩;refine(eh) ?_;rintro w7 ⟨Dl,aL⟩ ⟨AD,⟨_,_⟩⟩;have aO:=aL.xW AD BQ Hj Hk;refine(dD) iU aO fun w8 sC nt aS=>?_;refine dW ?_;refine WC.ct (σ:=Nat × Gg × (List Nat) × (List (Key × Value)) × Bool × (List (Key × Value)) × (List ByteArray) × (Option Addr) × Nat × Nat × (Option Addr) × Nat × Nat) (eJ:=fun(n,t,L2,mQ,pM,kN,acc,bA,bm,bB,ic,fG,ie)=>[(0,.pointer (some ⟨D.s,0,none⟩)),(4,.map (some xR)),(5,.slice bA bm bB),(6,.bool pM),(7,.int .i64 (idx:Int)),(8,.slice ic fG ie),(9,.pointer (some ⟨b9,0,none⟩))]) (F:=fun(n,t,L2,mQ,pM,kN,acc,bA,bm,bB,ic,fG,ie)=>[As.os RR.key 39 2 bA bm bB (L2.map fun j:Nat=>aN ab (j:Int)),As.os RR.str 9 1 ic fG ie (acc),As.map Key.val D.m kN,As.map Key.val xR mQ,As.blk b9 144 [.bool t.done,.string t.value,.int .i64 t.ask.kind,.string t.ask.text]]) (I:=fun(n,t,L2,mQ,pM,kN,acc,bA,bm,bB,ic,fG,ie)=>(n≤ab[j].asks.length)∧(eL ab x.ae i0 L2 u1)∧(nW ab x.ae L2 u1 kN)∧(pY ab L2 u1 mQ)∧(bq ab x.ae kN)∧(jk fS kN)∧(sj ab L2 u1≤sj ab L1 u1∧(pM=true→nX=true∨sj ab L2 u1<sj ab L1 u1))∧(pM=false→L2=L1∧nX=false)∧(L1 <+: L2)∧(Ev ab x.ae u1 L2 fS kN ab[j].asks n acc)∧(dw ab (aN ab (j:Int)) acc=t)∧True) (μ:=fun(n,t,L2,mQ,pM,kN,acc,bA,bm,bB,ic,fG,ie)=>ab[j].asks.length - n) (0,t,L1,zn,nX,fS,[],bA,bm,bB,none,0,0) (aS.p4.p4.p3.p4) Sub.t (⟨by omega,wA,Ew,Hm,kM,jk.refl _,⟨Nat.le_refl _,fun h=>.inl h⟩,fun h=>⟨rfl,h⟩,List.prefix_refl _,Ev.start,by rw [← sU,gR mL yg],trivial⟩)<|?_;rintro⟨n,t,L2,mQ,pM,kN,acc,bA,bm,bB,ic,fG,ie⟩ w9 bE ⟨hn,mU,D3,yh,Ny,yj,pT,hc2,iW,dO,ht,_⟩;simp only [CA,NA] at bE hn mU D3 yh Ny yj pT hc2 iW dO ht ⊢;have JT:=((As.gs bE.g0)).len;rw [List.length_map] at JT;have BF:=((As.gs bE.g1)).len;have hL2:=mU.len;have th:=dO.len;have arn:=iW.length_le;have Yn:sj ab L2 u1≤sj ab L u∧(pM=true→sj ab L2 u1<sj ab L u):=⟨by omega,fun h=>by rcases pT.2 h with h1 | h1;have:=MO.2 h1;omega;omega⟩;refine(bL) ft bE.b4<|(aZ) (fun lW=>?_) fun lW=>?_
   ·
    simp at lW
    have Cs:n<ab[j].asks.length:=by
     rcases Nat.lt_or_ge n ab[j].asks.length with h | h
     ·
      exact h
     have h1:=jc hR mL (ah:=acc) (by rw [fN mL];omega);rw [ht] at h1;rw [h1] at lW;cases lW
    obtain⟨a,oa,Bt,ha3⟩:=fA hR mL (ah:=acc) (by rw [fN mL];omega);obtain⟨xq,Yo,hax⟩:=ha3 zl;rw [th,ao Cs] at Yo
    simp at Yo
    rw [ht] at oa
    have Nw:t.ask=a:=by rw [oa]
    have Nq:cB ab ab[j].asks[n]=t.ask:=by rw [Nw,hax,Yo]
    have kL:ab[j].asks[n]∈ab[j].asks:=List.getElem_mem Cs;have Tg:=wA.reach j pI;refine dW ?_;have ad7:=bE.cY;refine WC.dS (m:=11) bE mixed<|(lI) iO St.g7<|(Cy) aq St.g4<|?_;refine DP .r (fun _ hC=>PV.vz eI fl pr (As.gm hC.2.g2) rfl rfl)<|(eh) ?_;rintro kB ⟨Lk,bs⟩ _;refine(aZ) (fun PN=>?_) fun PN=>?_
    ·
     obtain⟨vv,Lj⟩:=Option.isSome_iff_exists.1 PN;have Yi:=Ny _ vv Lj;obtain⟨sv,MP⟩:∃s,s=valOf ab x.ae t.ask:=⟨_,rfl⟩
     have JU:=dO.snoc sv (fun _ _=>by rw [Nq];exact MP) (fun h ho k hk=>.inl (by
      obtain⟨sn,nj,xa⟩:=k8 hR mL zl kL ho hk;rw [Nq] at xa;rw [xa] at Lj MP;exact⟨by rw [MP,jn hR sn,j4 hR sn nj],by rw [Lj];rfl⟩))
     refine WC.eqv (t:=10) (v':=.string sv) rfl (by rw [Lj,Yi,MP];rfl)<|gN ?_;refine WL.go rfl (OX.aR (us:=[.string sv]) mn rfl rfl rfl rfl fun b90 kC JV JW=>?_);have aY:=bs.eF JV JW;refine WL.ap rfl rfl aY.p2 (SR.ew (A:=fun _=>True) (x:=sv) (As.gb aY.g0) trivial rfl (by simp [Value.oneCell']) rfl) fun a91 JX qb Yp Yq aQ=>?_;refine dE ?_;obtain⟨t2,LZ⟩:∃t,aM ab (aN ab (j:Int)) (acc++[sv])=t:=⟨_,rfl⟩
     have AE:∀Lx:List Nat,L1 <+: Lx→(Lx.map fun j:Nat=>aN ab (j:Int))[idx]?=some (aN ab (j:Int)):=fun Lx h=>by
      rw [List.getElem?_map]
      have:=h.getElem kE
      obtain⟨q,rfl⟩:=h;rw [List.getElem?_append_left kE,iZ];rfl
     obtain⟨wv,fQ⟩:=Ow.addr (As.gs aQ.g2) (AE _ (by first | exact iW | exact iW.trans (List.prefix_append _ _)));have Yr:=aQ.cY;refine WC.dS (m:=9) aQ mixed<|(lI) mf St.g8<|cS ?_;refine DP .r (fun _ hC=>PV.fI fP fQ rfl rfl (by omega))<|DP .r (fun _ hC=>VA aq (Ow.qu (As.gs hC.2.g2) (by simp only [List.length_map,List.length_append,List.length_cons,List.length_nil];omega) fQ (AE _ (by first | exact iW | exact iW.trans (List.prefix_append _ _)))) .r)<|(eh) ?_;rintro tU ⟨PW,bF⟩ _;refine WL.c1 (u:=t2.val) (gM (k:=(aN ab (j:Int))) (SD.ht (As.gf bF.g7)) (SD.hu (As.gf bF.g7)) (Ow.rd (As.gs bF.g0) (by simp;omega)) hR.hb (im mL yg)) (by rw [LZ]) bF fun yB Ys bK=>?_;refine(dD) iU bK.p5 fun tV BO ry br=>?_;refine cS ?_;refine fH (n+1,t2,L2,mQ,pM,kN,_,bA,bm,bB,a91,(fG+1),JX) ⟨br.p2.drop.p4.p4.p3.p4,⟨by omega,mU,D3,yh,Ny,yj,pT,hc2,iW,JU,by rw [← LZ,gR mL yg],trivial⟩⟩
    have PN:bZ kN t.ask=none:=by simpa using PN
    refine(j3) aq bs.b4<|(iz) (ef (k:=t.ask)) bs fun kC wm aY=>?_;refine(aZ) (fun Yt=>?_) fun Yt=>?_
    ·
     simp at Yt
     refine(j3) aq aY.b4<|?_;have aQ:=aY.p2.p7;refine(dj) S5 (hv j t.ask Tg (by rw [Nw];exact Bt) Yt _ _ _ _ aQ.e2 (As.gf aQ.g7) Ny) ?_;rintro _ qb ⟨RG,rfl,hm4,PX,sD⟩;have bF:=St.lr aQ sD;refine cS ?_;obtain⟨sv,MP⟩:∃s,s=valOf ab x.ae t.ask:=⟨_,rfl⟩
     have JU:=(dO.mono (fun _ h=>h) PX).snoc sv (fun _ _=>by rw [Nq];exact MP) (fun h ho k hk=>by
      obtain⟨sn,nj,xa⟩:=k8 hR mL zl kL ho hk;rw [Nq] at xa;rw [xa,ck sn (by omega),nj] at Yt;cases Yt)
     refine EX.eqv (t:=10) (v':=.string sv) rfl (by rw [MP])<|ji ?_;refine WL.go rfl (OX.aR (us:=[.string sv]) mn rfl rfl rfl rfl fun b90 tU JV JW=>?_);have bK:=bF.eF JV JW;refine WL.ap rfl rfl bK.p4 (SR.ew (A:=fun _=>True) (x:=sv) (As.gb bK.g0) trivial rfl (by simp [Value.oneCell']) rfl) fun a91 JX yB Yp Yq br=>?_;refine dE ?_;obtain⟨t2,LZ⟩:∃t,aM ab (aN ab (j:Int)) (acc++[sv])=t:=⟨_,rfl⟩
     have AE:∀Lx:List Nat,L1 <+: Lx→(Lx.map fun j:Nat=>aN ab (j:Int))[idx]?=some (aN ab (j:Int)):=fun Lx h=>by
      rw [List.getElem?_map]
      have:=h.getElem kE
      obtain⟨q,rfl⟩:=h;rw [List.getElem?_append_left kE,iZ];rfl
     obtain⟨wv,fQ⟩:=Ow.addr (As.gs br.g4) (AE _ (by first | exact iW | exact iW.trans (List.prefix_append _ _)));have Yr:=br.cY;refine WC.dS (m:=9) br mixed<|(lI) mf St.g2<|cS ?_;refine DP .r (fun _ hC=>PV.fI fP fQ rfl rfl (by omega))<|DP .r (fun _ hC=>VA aq (Ow.qu (As.gs hC.2.g4) (by simp only [List.length_map,List.length_append,List.length_cons,List.length_nil];omega) fQ (AE _ (by first | exact iW | exact iW.trans (List.prefix_append _ _)))) .r)<|(eh) ?_;rintro tV ⟨PW,bT⟩ _;refine WL.c1 (u:=t2.val) (gM (k:=(aN ab (j:Int))) (SD.ht (As.gf bT.g8)) (SD.hu (As.gf bT.g8)) (Ow.rd (As.gs bT.g0) (by simp;omega)) hR.hb (im mL yg)) (by rw [LZ]) bT fun xE Yu cz=>?_;refine(dD) iU cz.p6 fun BR Q5 vJ cv=>?_;refine cS ?_;refine fH (n+1,t2,L2,mQ,pM,RG,_,bA,bm,bB,a91,(fG+1),JX) ⟨cv.p2.drop.p7.p7.p2.p7.p6.p5.p7,⟨by omega,mU,D3.mono hR mU PX,yh,hm4,yj.trans PX,pT,hc2,iW,JU,by rw [← LZ,gR mL yg],trivial⟩⟩
    simp at Yt
    have gH:outside ab ab[j].asks[n]=false:=by
     cases ho:outside ab ab[j].asks[n]
     ·
      rfl
     have:=k7 hR mL zl kL ho;rw [Nq,Yt] at this;cases this
    obtain⟨kk,KC,pN,ny⟩:=jR hR mL zl kL gH;rw [Nq] at pN;have yy:=KC.lt.2.2.2
    have ti:bZ fS (aN ab (kk:Int))=none:=by
     cases h:bZ fS (aN ab (kk:Int)) with
     | none=>rfl
     | some v=>have:=yj _ _ h;rw [← pN,PN] at this;cases this
    have FD:∀k:Nat,ab[j].asks[n].n=k→k=kk:=fun k hk=>by
     obtain⟨sn,nj,xa⟩:=k8 hR mL zl kL gH hk;rw [Nq,pN] at xa;exact(fq hR ny sn xa).symm
    refine(j3) aq aY.b4<|?_;refine WP .r (PV.vz eI fl pr (As.gm aY.g3) rfl rfl)<|?_;refine bf ?_;refine(aZ) (fun Th=>?_) fun Th=>?_
    ·
     simp at Th
     have Gw:kk∉L2:=fun h=>by have:=yh.1 kk h;rw [← pN,Th] at this;cases this
     have QT:=mU.out kk Gw;have Ot:dU ab i0 kk:=.step (mU.reach j (iW.subset pI)) KC;have Wd:=mU.meet ny yy Gw Ot;have ee:=mU.Kz ny yy Gw Ot;have Ri:=Gv (v:=u1) (j:=kk) ee;have Yv:=yh.meet hR (fun k hk=>(mU.ring k hk).1) ny Gw QT;rw [← pN] at Yv
     have Ti:te t.ask=⟨#[48]⟩:=by rw [pN];exact wZ ny (by omega) yy
     refine nx ?_;have aro:=aY.cY;refine WC.eQ (m:=6) (E:=dr [(5,fun v _=>v=.string ⟨#[48]⟩)]) aY (bM (⟨fun _ _ _ _ _ _ _ h=>h,trivial⟩)) mixed (by kernel_rfl)<|(Cy) aq St.g4<|(Cy) aq St.g4<|?_;refine DW.c1 (fun wx hC hF=>uR (k:=t.ask)) (by rw [Ti])<|(eh) ?_;rintro qb ⟨anS,aQ⟩ ⟨_,_⟩;refine WL.go rfl (OX.put eI fl (As.gm aQ.g3) rfl rfl rfl fun tU Yw Yx=>?_);have bF:=aQ.p3.nv Yw Yx;refine(j3) aq bF.b4<|?_;refine WL.go rfl (OX.aR (us:=t.ask.cells) eT rfl rfl rfl rfl fun b71 yB ajS ajT=>?_);have bK:=bF.eF ajS ajT;refine WL.ap rfl rfl bK.p2 (SR.ew (A:=fun _=>True) (x:=t.ask) (As.gb bK.g0) trivial rfl (by simp [Key.cells,Value.oneCell']) rfl) fun a72 ajU tV arp arq br=>?_;refine dE ?_;have bT:=br.Ub (show(L2.map fun j:Nat=>aN ab (j:Int))++[t.ask]=(L2++[kk]).map fun j:Nat=>aN ab (j:Int) by rw [List.map_append,pN];rfl);have AF:=Yv.1 kk (by simp);rw [← pN] at AF;have hsn:∀s,s=itoa (u1 kk:Int)→Ev ab x.ae u1 (L2++[kk]) fS kN ab[j].asks (n+1) (acc++[s]):=fun s hs=>(dO.mono (fun _ h=>by simp [h]) (jk.refl _)).snoc s (fun h ho=>by rw [gH] at ho;cases ho) (fun h ho k hk=>by have:=FD k hk;subst this;exact .inr ⟨hs,by simp,ti⟩);refine(j3) aq bT.b5<|?_;refine WP .r (PV.dJ eI fl pr (As.gm bT.g2) (AF) rfl rfl)<|cS ?_;obtain⟨sv,MP⟩:∃s,s=itoa (u1 kk:Int):=⟨_,rfl⟩;have JU:=hsn sv MP;refine EX.eqv (t:=10) (v':=.string sv) rfl (by rw [MP])<|ji ?_;refine WL.go rfl (OX.aR (us:=[.string sv]) mn rfl rfl rfl rfl fun b90 xE JV JW=>?_);have cz:=bT.eF JV JW;refine WL.ap rfl rfl cz.p4 (SR.ew (A:=fun _=>True) (x:=sv) (As.gb cz.g0) trivial rfl (by simp [Value.oneCell']) rfl) fun a91 JX BR Yp Yq cv=>?_;refine dE ?_;obtain⟨t2,LZ⟩:∃t,aM ab (aN ab (j:Int)) (acc++[sv])=t:=⟨_,rfl⟩
     have AE:∀Lx:List Nat,L1 <+: Lx→(Lx.map fun j:Nat=>aN ab (j:Int))[idx]?=some (aN ab (j:Int)):=fun Lx h=>by
      rw [List.getElem?_map]
      have:=h.getElem kE
      obtain⟨q,rfl⟩:=h;rw [List.getElem?_append_left kE,iZ];rfl
     obtain⟨wv,fQ⟩:=Ow.addr (As.gs cv.g2) (AE _ (by first | exact iW | exact iW.trans (List.prefix_append _ _)));have Yr:=cv.cY;refine WC.dS (m:=9) cv mixed<|(lI) mf St.g9<|cS ?_;refine DP .r (fun _ hC=>PV.fI fP fQ rfl rfl (by omega))<|DP .r (fun _ hC=>VA aq (Ow.qu (As.gs hC.2.g2) (by simp only [List.length_map,List.length_append,List.length_cons,List.length_nil];omega) fQ (AE _ (by first | exact iW | exact iW.trans (List.prefix_append _ _)))) .r)<|(eh) ?_;rintro Bw ⟨PW,cR⟩ _;refine WL.c1 (u:=t2.val) (gM (k:=(aN ab (j:Int))) (SD.ht (As.gf cR.g8)) (SD.hu (As.gf cR.g8)) (Ow.rd (As.gs cR.g0) (by simp;omega)) hR.hb (im mL yg)) (by rw [LZ]) cR fun Il s19 bY=>?_;refine(dD) iU bY.p6 fun Nz U3 U4 cM=>?_;refine cS ?_;refine fH (n+1,t2,L2++[kk],_,true,kN,_,a72,(bm+1),ajU,a91,(fG+1),JX) ⟨cM.p2.drop.p3.drop.p3.p4.p3.p4,⟨by omega,Wd,D3.meet QT,Yv,Ny,yj,⟨Nat.le_of_lt (Nat.lt_of_lt_of_le Ri pT.1),fun _=>.inr (Nat.lt_of_lt_of_le Ri pT.1)⟩,(fun h=>by cases h),iW.trans (List.prefix_append _ _),JU,by rw [← LZ,gR mL yg],trivial⟩⟩
    simp at Th
    have Gw:kk∈L2:=by
     by_cases h:kk∈L2
     ·
      exact h
     have:=yh.2 (aN ab (kk:Int)) (fun k hk e=>h (by have:=fq hR ny (mU.ring k hk).1 e;rw [this];exact hk));rw [← pN] at this;rw [this] at Th;cases Th
    have AF:=yh.1 kk Gw;rw [← pN] at AF;have hsn:∀s,s=itoa (u1 kk:Int)→Ev ab x.ae u1 L2 fS kN ab[j].asks (n+1) (acc++[s]):=fun s hs=>dO.snoc s (fun h ho=>by rw [gH] at ho;cases ho) (fun h ho k hk=>by have:=FD k hk;subst this;exact .inr ⟨hs,Gw,ti⟩);refine(j3) aq aY.b4<|?_;refine WP .r (PV.dJ eI fl pr (As.gm aY.g3) (AF) rfl rfl)<|cS ?_;obtain⟨sv,MP⟩:∃s,s=itoa (u1 kk:Int):=⟨_,rfl⟩;have JU:=hsn sv MP;refine EX.eqv (t:=10) (v':=.string sv) rfl (by rw [MP])<|ji ?_;refine WL.go rfl (OX.aR (us:=[.string sv]) mn rfl rfl rfl rfl fun b90 qb JV JW=>?_);have aQ:=aY.eF JV JW;refine WL.ap rfl rfl aQ.p2 (SR.ew (A:=fun _=>True) (x:=sv) (As.gb aQ.g0) trivial rfl (by simp [Value.oneCell']) rfl) fun a91 JX tU Yp Yq bF=>?_;refine dE ?_;obtain⟨t2,LZ⟩:∃t,aM ab (aN ab (j:Int)) (acc++[sv])=t:=⟨_,rfl⟩
    have AE:∀Lx:List Nat,L1 <+: Lx→(Lx.map fun j:Nat=>aN ab (j:Int))[idx]?=some (aN ab (j:Int)):=fun Lx h=>by
     rw [List.getElem?_map]
     have:=h.getElem kE
     obtain⟨q,rfl⟩:=h;rw [List.getElem?_append_left kE,iZ];rfl
    obtain⟨wv,fQ⟩:=Ow.addr (As.gs bF.g2) (AE _ (by first | exact iW | exact iW.trans (List.prefix_append _ _)));have Yr:=bF.cY;refine WC.dS (m:=9) bF mixed<|(lI) mf St.g8<|cS ?_;refine DP .r (fun _ hC=>PV.fI fP fQ rfl rfl (by omega))<|DP .r (fun _ hC=>VA aq (Ow.qu (As.gs hC.2.g2) (by simp only [List.length_map,List.length_append,List.length_cons,List.length_nil];omega) fQ (AE _ (by first | exact iW | exact iW.trans (List.prefix_append _ _)))) .r)<|(eh) ?_;rintro yB ⟨PW,bK⟩ _;refine WL.c1 (u:=t2.val) (gM (k:=(aN ab (j:Int))) (SD.ht (As.gf bK.g7)) (SD.hu (As.gf bK.g7)) (Ow.rd (As.gs bK.g0) (by simp;omega)) hR.hb (im mL yg)) (by rw [LZ]) bK fun tV s15 br=>?_;refine(dD) iU br.p5 fun xE Yy Yz bT=>?_;refine cS ?_;refine fH (n+1,t2,L2,mQ,pM,kN,_,bA,bm,bB,a91,(fG+1),JX) ⟨bT.p2.drop.p4.p4.p3.p4,⟨by omega,mU,D3,yh,Ny,yj,pT,hc2,iW,JU,by rw [← LZ,gR mL yg],trivial⟩⟩
   simp at lW
   have Cs:n=ab[j].asks.length:=by
    rcases Nat.lt_or_ge n ab[j].asks.length with h | h
    ·
     obtain⟨a,h1,_⟩:=fA hR mL (ah:=acc) (by rw [fN mL];omega);rw [ht] at h1;rw [h1] at lW;cases lW
    omega
   subst Cs;obtain⟨Im,Q6,YA,Nx,En⟩:=dO.val hR mU mL zl;have YB:gj (u1 j) (gz ab[j].c.toNat (acc.map dH)):=fun b hb=>YA b (Ew j pI b hb);obtain⟨val,ig⟩:∃v,gz ab[j].c.toNat (acc.map dH)=v:=⟨_,rfl⟩;rw [ig] at Im Q6 YB Nx En
   have htv:t.value=itoa (val:Int):=by
    have h1:=jc hR mL (ah:=acc) (by rw [fN mL];omega);rw [ht] at h1;rw [h1,(zj hR mL zl).1,← ig];rfl
   have kR:j∈L2:=iW.subset pI;have U5:=iW.length_le
   have YC:L2[idx]?=some j:=by obtain⟨q,rfl⟩:=iW;rw [List.getElem?_append_left kE];exact iZ
   have Tj:(L2.map fun j:Nat=>aN ab (j:Int))[idx]?=some (aN ab (j:Int)):=by rw [List.getElem?_map,YC];rfl
   refine ji ?_;obtain⟨MQ,kT⟩:=Ow.addr (As.gs bE.g0) Tj;have ars:=bE.cY;refine WC.dS (m:=8) bE mixed<|dE ?_;refine DP .r (fun _ hC=>PV.fI fP kT rfl rfl (by omega))<|DP .r (fun _ hC=>VA aq (Ow.qu (As.gs hC.2.g0) (by rw [List.length_map];omega) kT Tj) .r)<|DP .r (fun _ hC=>PV.dJ eI fl pr (As.gm hC.2.g3) (yh.1 j kR) rfl rfl)<|(lI) iG St.g4<|(eh)<|?_;rintro kB ⟨anU,bs⟩ _;refine(aZ) (fun rY=>?_) fun rY=>?_
   ·
    simp at rY
    rw [htv] at rY;have kW:u1 j≠val:=fun e=>rY (by rw [e]);have Nu:=KA mU kR Im YB kW;obtain⟨ad9,xF⟩:=Ow.addr (As.gs bs.g0) Tj;have art:=bs.cY;refine WC.eQ (m:=9) (E:=dr [(7,fun v w'=>∃vv st,v=.tuple #[vv,.int .i64 ((st:Nat):Int)]∧KE Key.val w' xR mQ (aN ab (j:Int)) st)]) bs (oB (⟨⟨trivial,trivial⟩,trivial⟩)) mixed (by kernel_rfl)<|dE ?_;refine DP .r (fun _ hC=>PV.fI fP xF rfl rfl (by omega))<|DP .r (fun _ hC=>VA aq (Ow.qu (As.gs hC.2.g0) (by rw [List.length_map];omega) xF Tj) .r)<|(lI) iG St.g4<|?_;refine DW.e rfl rfl rfl rfl rfl (fun wx hC hF=>OX.VP eI fl pr (As.gm hC.2.g3) rfl rfl rfl fun wy st vv sx hsz Tk=>?_)<|?_
    ·
     have hg:=yh.1 j kR;rw [hg] at Tk;rw [Option.getD_some,CD hg] at Tk;exact⟨⟨Nat.le_trans hC.1 sx.size,hC.2.same (A:=As.map Key.val xR mQ) (by simp) (sx.p.mono fun x _ hx=>by simpa [As.map] using hx) Tk.km⟩,sx.p.mono (fun x _ hx=>Kt (A:=As.map Key.val xR mQ) (by simp) (by simpa [As.map] using hx)),_,rfl,_,_,rfl,Tk⟩
    rintro _ wz _ ⟨ajW,bY,rfl,_⟩;refine(eh) ?_;rintro kC ⟨anV,aY⟩ ⟨Yj,_⟩;obtain⟨_,_,PY,Ho⟩:=Yj;simp only [Value.tuple.injEq,Array.mk.injEq,List.cons.injEq,Value.int.injEq,true_and,and_true] at PY;have YD:=Int.natCast_inj.1 PY.2;rw [← YD] at Ho;refine WL.go rfl (OX.IC Ho rfl rfl rfl fun qb YE _ YF=>?_);have aQ:=aY.p3.nv YE YF;rw [htv] at aQ;refine qi ?_;refine fH (idx+1,L2,pf u1 j val,dF mQ (aN ab (j:Int)) (.string (itoa (val:Int))),true,kN,bA,bm,bB) ⟨aQ.p2.drop.p3.drop.p2.p2,⟨Nat.le_trans kE U5,mU.set kR Im Q6,D3.set hR mU kR Im Q6 YB Nx,yh.set hR (fun k hk=>(mU.ring k hk).1) kR val,Ny,iS.trans yj,⟨Nat.le_of_lt (Nat.lt_of_lt_of_le Nu Yn.1),fun _=>Nat.lt_of_lt_of_le Nu Yn.1⟩,(fun h=>by cases h),trivial⟩⟩
   simp at rY
   rw [htv] at rY;have rY:u1 j=val:=Gq (by have:=mU.le j;omega) (by omega) rY;refine kQ ?_
   refine fH (idx+1,L2,u1,mQ,pM,kN,bA,bm,bB) ⟨bs.p1.drop.p3.drop,⟨Nat.le_trans kE U5,mU,D3,yh,Ny,iS.trans yj,Yn,fun h m k hm hk=>by
      obtain⟨e1,e2⟩:=hc2 h;subst e1
      by_cases e:m=idx
      ·
       subst e;rw [iZ] at hk
       simp at hk;subst hk
       exact En (rY ▸ rfl)
      exact AB e2 m k (by omega) hk,trivial⟩⟩
  simp at ye
  refine ek ?_;refine EX.again (L1,u1,zn,nX,fS,bA,bm,bB) Sub.t ⟨bV,⟨wA,Ew,Hm,kM,iS,fun h j hj=>by obtain⟨m,hm,rfl⟩:=List.mem_iff_getElem.1 (show j∈L1 from hj);exact AB h m _ (by omega) (ao hm),trivial⟩⟩ (by simp only [];cases nX <;> simp at MO ⊢ <;> omega)
 have g23:ch=false:=g23;have yN:=pU g23;have xG:=rU.done hR yN;refine ji ?_;have ajX:=((As.gs bX.g0)).len;rw [List.length_map] at ajX;have hL7:=rU.len;refine gN ?_;refine WC.ct (σ:=Nat × (List (Key × Value))) (eJ:=fun(i7,Tl)=>[(0,.pointer (some ⟨D.s,0,none⟩)),(4,.map (some xR)),(120,.slice bA bm bB),(121,.int .i64 (bm:Int)),(122,.int .i64 (i7:Int))]) (F:=fun(i7,Tl)=>[As.map Key.val D.m Tl]) (I:=fun(i7,Tl)=>(i7≤L.length)∧(bq ab x.ae Tl)∧(jk ml Tl)∧(∀m j,m<i7→L[m]?=some j→bZ Tl (aN ab (j:Int))=some (.string (valOf ab x.ae (aN ab (j:Int)))))∧True) (μ:=fun(i7,Tl)=>L.length - i7) (0,qc) (bX.p1) Sub.t (⟨by omega,Bu,tT,fun m j h=>by omega,trivial⟩)<|?_;rintro⟨i7,Tl⟩ w6 bV ⟨hi7,hm7,YG,hd7,_⟩;simp only [CA,NA] at bV hi7 hm7 YG hd7 ⊢;refine(aZ) (fun JY=>?_) fun JY=>?_
 ·
  simp at JY
  have aea:i7<L.length:=by omega
  obtain⟨j,Hn⟩:∃j,L[i7]=j:=⟨_,rfl⟩
  have iZ:L[i7]?=some j:=by rw [ao aea,Hn]
  have pI:j∈L:=Hn ▸ List.getElem_mem aea;obtain⟨mL,zl⟩:=rU.ring j pI;have aeb:=U1.1 j pI;rw [xG j pI,← j4 hR mL zl,← jn hR mL] at aeb;refine ek ?_
  have hx7:(L.map fun j:Nat=>aN ab (j:Int))[i7]?=some (aN ab (j:Int)):=by rw [List.getElem?_map,iZ];rfl
  obtain⟨arv,U6⟩:=Ow.addr (As.gs bV.g1) hx7;refine nx ?_;refine WP .r (PV.fI fP U6 rfl rfl (by omega))<|(bz) aq (Ow.qu (As.gs bV.g1) (by rw [List.length_map];omega) U6 hx7)<|(gu) bV fun Bq w7 Ep Hc cq=>?_;refine(dD) jx cq fun w8 ss7 hs7 aL=>?_;refine cS ?_;have arw:=aL.cY;refine WC.dS (m:=8) aL mixed<|(lI) iO St.g6<|(jj) aq St.g0<|(jj) aq St.g0<|?_;refine DP .r (fun _ hC=>PV.dJ eI fl pr (As.gm hC.2.g3) (aeb) rfl rfl)<|(eh)<|?_;rintro w9 ⟨aee,aO⟩ _;refine WL.go rfl (OX.put eI fl (As.gm aO.g1) rfl rfl rfl fun kB ajZ aj0=>?_);have aS:=aO.p1.nv ajZ aj0;refine gN ?_
  refine fH (i7+1,_) ⟨aS.p1.drop,⟨by omega,hm7.put _,YG.trans (jk.put hm7 _),fun m k hm hk=>by
     rw [fy]
     split
     ·
      rename_i e;rw [e]
     rename_i e
     refine hd7 m k ?_ hk
     rcases Nat.lt_or_ge m i7 with h | h
     ·
      exact h
     have:m=i7:=by omega
     subst this;rw [iZ] at hk;simp at hk;subst hk;exact absurd rfl e,trivial⟩⟩
 simp at JY
 obtain⟨mm,Q7,QQ⟩:=List.mem_iff_getElem.1 rU.first;have rM:=hd7 mm i0 (by omega) (by rw [ao Q7,QQ]);refine dW ?_;refine EX.yF (.inr rfl) rfl<|?_;exact⟨Tl,rfl,hm7,YG,rM,bV.p5.k2⟩
theorem PZ(hR:aw ab):∀i,i<ab.length→MM ab x D (aN ab (i:Int)):=by
 intro i
 induction i using Nat.strongRecOn with
 | _ i ih=>
  intro hi;have rT:=hR.len
  have BG:∀a,aA a=false→(az a=true∨∃m,m<i∧m<ab.length∧a=aN ab (m:Int))→MM ab x D a:=fun a _ ha w M Z ml h1 h2 h3=>by
   rcases ha with ha | ⟨m,hm,jH,rfl⟩
   ·
    exact om h1 h2 h3 ha
   exact ih m hm jH w M Z ml h1 h2 h3
  have Ib:∀a,(az a=true∨∃m,m<i∧m<ab.length∧a=aN ab (m:Int))→MM ab x D a:=fun a ha w M Z ml h1 h2 h3=>by
   rcases ha with ha | ⟨m,hm,jH,rfl⟩
   ·
    exact om h1 h2 h3 ha
   exact ih m hm jH w M Z ml h1 h2 h3
  intro w M Z ml h1 h2 h3;refine Eu h1 h2 h3 hR hi (fun hc w M Z ml h1 h2 h3=>?_) fun a ha hc=>Ib a ?_
  ·
   rw [ck hi (by omega)] at hc;refine Hl h1 h2 h3 hR hi hc fun j a Ot hma tq=>BG a tq ?_;have hj:=kZ hi hc Ot;have Ib:=mP hR Ot;have hle:=iv ab i
   rcases hma with⟨n,h4,rfl⟩ | ⟨m,h4,rfl,_,_,_,h5⟩
   ·
    exact .inl (cE (by omega))
   rw [ck h4 (by omega)] at tq;exact .inr ⟨m,by have:=h5 tq hj.2;omega,h4,rfl⟩
  rw [ck hi (by omega)] at hc
  rcases ha with⟨n,h4,rfl⟩ | ⟨m,h4,rfl,_,h5,_⟩
  ·
   exact .inl (cE (by omega))
  exact .inr ⟨m,h5 hc,h4,rfl⟩
theorem MR(hR:aw ab) {k:Key}(hk:gA ab k):MM ab x D k:=by
 cases hk with
 | cell h=>exact fun w M Z ml h1 h2 h3=>om h1 h2 h3 (cE h)
 | gQ h _=>exact PZ hR _ h
end Go.Rc

