/- Walks over the program, part WI. Conditions: as each theorem says. -/
import Derived.Test.YtjpagoacbadijaaGreatDoorVFacts
import Derived.Test.YtjpagoacbadijaaGreatDoorVWH
import Derived.Test.YtjpagoacbadijaaGreatDoorVBe
set_option linter.all false
namespace Go.Rc
open Go Go.Proofs Go.Proofs.Tryz
variable {x:dP}{w:World}{M Z:Nat→Prop}{ab:List aG}{D:SD}{ml:List (Key × Value)}
set_option maxHeartbeats 400000
theorem Ar{ar a1 a2:Option Addr}{r cr n1 c1 n2 c2:Nat}(bJ:St w M Z w []):Calls prog 32 #[.slice ar r cr,.agg (x.row a1 n1 c1 a2 n2 c2).toArray] w fun e w'=>∃s m q,e=.returned (.pointer (some ⟨s,0,none⟩))∧St w M Z w' [As.blk s 134 (SD.cells ⟨ar,a1,a2,r,cr,n1,c1,n2,c2,m,q,s⟩ x),As.map Key.val m [],As.map Key.val q []]:=by
 refine enter func32 rfl ntmps32 rfl<|?_;have bd:=bJ;refine(fm) bd fun b3 w1 iO dJ st1=>?_;refine(bA) aP st1.b0<|?_;refine WL.mm Key.val st1 fun b7 w2 vZ hm7 st2=>?_;refine WL.mm Key.val st2 fun b8 w3 Da hm8 aW=>?_;refine WP .r (PV.bU (us:=(SD.cells ⟨ar,a1,a2,r,cr,n1,c1,n2,c2,b7,b8,0⟩ x)) acg rfl rfl rfl)<|(fm) aW fun iA w4 kL ft ba=>?_;refine(cy) ?_;exact⟨_,_,_,rfl,ba.p3.drop.p2.p1⟩
def MI(ab:List aG) (x:dP) (D:SD) (k:Key):Prop:=∀(w:World) (M Z:Nat→Prop) (ml:List (Key × Value)),St w M Z w [As.blk D.s 134 (D.cells x),As.map Key.val D.m ml]→(D.F prog ab x).p Z w→bq ab x.ad ml→
 Calls prog 49 #[.pointer (some ⟨D.s,0,none⟩),k.val] w fun e w'=>∃fh,e=.returned (.string (valOf ab x.ad k))∧bq ab x.ad fh∧ji ml fh∧St w M Z w' [As.blk D.s 134 (D.cells x),As.map Key.val D.m fh]
def ajz(ab:List aG) (x:dP) (D:SD) (k:Key):Prop:=∀(w:World) (M Z:Nat→Prop) (ml:List (Key × Value)),St w M Z w [As.blk D.s 134 (D.cells x),As.map Key.val D.m ml]→(D.F prog ab x).p Z w→bq ab x.ad ml→
 Calls prog 74 #[.pointer (some ⟨D.s,0,none⟩),k.val] w fun e w'=>∃fh,e=.returned (.tuple #[])∧bq ab x.ad fh∧ji ml fh∧bX fh k=some (.string (valOf ab x.ad k))∧St w M Z w' [As.blk D.s 134 (D.cells x),As.map Key.val D.m fh]
theorem oc{k:Key}(bJ:St w M Z w [As.blk D.s 134 (D.cells x),As.map Key.val D.m ml]) (hf:(D.F prog ab x).p Z w) (hm:bq ab x.ad ml) (hk:az k=true):Calls prog 49 #[.pointer (some ⟨D.s,0,none⟩),k.val] w fun e w'=>∃fh,e=.returned (.string (valOf ab x.ad k))∧bq ab x.ad fh∧ji ml fh∧St w M Z w' [As.blk D.s 134 (D.cells x),As.map Key.val D.m fh]:=by
 refine enter func49 rfl ntmps49 rfl<|?_;have bd:=bJ;have st1:=bd.fact (B:=As.fz (D.F prog ab x)) hf (fun _ hx=>hx);refine(fm) st1 fun b3 w1 iO dJ st2=>?_;refine(bA) aq st2.b0<|(iu) (fD (k:=k)) st2 fun w2 s2 aW=>?_;refine(aZ) (fun g10=>?_) fun g10=>?_
 ·
  refine nx ?_;have QU:=aW.cX;refine WC.dS (m:=5) aW mixed<|(Cp) aP St.g2<|(iX) aq St.g0<|(eb)<|?_;rintro w3 ⟨pw,ba⟩ _;refine(iu) (we (k:=k) (SD.hi (As.gf ba.g1)) (SD.hr (As.gf ba.g1))) ba fun w4 s4 bs=>?_;refine(cy) ?_;exact⟨ml,by unfold valOf cellOf;rw [if_pos hk],hm,ji.refl _,bs.drop.drop⟩
 rw [hk] at g10;cases g10
theorem El{i:Nat}(bJ:St w M Z w [As.blk D.s 134 (D.cells x),As.map Key.val D.m ml]) (hf:(D.F prog ab x).p Z w) (hm:bq ab x.ad ml) (hR:aw ab) (hi:i<ab.length) (adU:aA (aL ab (i:Int))=true→ajz ab x D (aL ab (i:Int))) (ih:∀a,gg ab i a→aA (aL ab (i:Int))=false→MI ab x D a):Calls prog 49 #[.pointer (some ⟨D.s,0,none⟩),(aL ab (i:Int)).val] w fun e w'=>∃fh,e=.returned (.string (valOf ab x.ad (aL ab (i:Int))))∧bq ab x.ad fh∧ji ml fh∧St w M Z w' [As.blk D.s 134 (D.cells x),As.map Key.val D.m fh]:=by
 have rS:=hR.len
 have lB:i≤99:=by omega
 obtain⟨k,hk⟩:∃k,aL ab (i:Int)=k:=⟨_,rfl⟩;have ij:=eh hi lB;have ha6:=qu hR hi;rw [hk] at ij adU ih ⊢;refine enter func49 rfl ntmps49 rfl<|?_;have bd:=bJ;have st1:=bd.fact (B:=As.fz (D.F prog ab x)) hf (fun _ hx=>hx);refine(fm) st1 fun b3 w1 iO dJ st2=>?_;refine(bA) aq st2.b0<|(iu) (fD (k:=k)) st2 fun w2 s2 aW=>?_;refine(aZ) (fun g10=>?_) fun g10=>?_
 ·
  rw [ij] at g10;cases g10
 refine dV ?_;have G9:=aW.cX;refine WC.dS (m:=10) aW mixed<|(kQ) iL St.g2<|(iX) aq St.g0<|?_;refine DP .r (fun _ hC=>PV.vw eG fj pj (As.gm hC.2.g3) rfl rfl)<|(eb) ?_;rintro w3 ⟨ez,ba⟩ _;refine(aZ) (fun kq=>?_) fun kq=>?_
 ·
  obtain⟨vv,Li⟩:=Option.isSome_iff_exists.1 kq;have X4:=hm k vv Li;refine(cy) ?_;exact⟨ml,by rw [Li,X4];rfl,hm,ji.refl _,ba.drop.drop⟩
 refine(bA) aq ba.b0<|(iu) (ee (k:=k)) ba fun w4 s4 bs=>?_;refine(aZ) (fun qg=>?_) fun qg=>?_
 ·
  refine(bA) aq bs.b0<|?_;have bj:=bs.p3.p3;refine(dh) aiS (adU qg _ _ _ _ bj.e2 (As.gf bj.g3) hm) ?_;rintro _ w5 ⟨fQ,rfl,kI,iP,oW,jB⟩;have bV:=St.lr bj jB;refine dA ?_;have hN8:=bV.cX;refine WC.dS (m:=5) bV mixed<|(kQ) iL St.g0<|(iX) aq St.g2<|(eb)<|?_;rintro w6 ⟨qP,bT⟩ _;refine WP .r (PV.look eG fj pj (As.gm bT.g1) rfl rfl)<|(cy) ?_;exact⟨fQ,by rw [oW];rfl,kI,iP,bT.p2.drop.p2.drop⟩
 have bj:=bs.eR RR.str 9 1;refine kP ?_;refine WC.cq (σ:=Nat × (List (Key × Value)) × (List ByteArray) × (Option Addr) × Nat × Nat) (eP:=fun(n,pY,acc,ia,fG,ib)=>[(0,.pointer (some ⟨D.s,0,none⟩)),(3,.pointer (some ⟨b3,0,none⟩)),(7,.slice ia fG ib)]) (F:=fun(n,pY,acc,ia,fG,ib)=>[As.os RR.str 9 1 ia fG ib (acc),As.map Key.val D.m pY]) (I:=fun(n,pY,acc,ia,fG,ib)=>(n≤dU ab i)∧(bq ab x.ad pY)∧(ji ml pY)∧(acc=(fZ (dt ab k) (valOf ab x.ad) n).2)∧True) (μ:=fun(n,pY,acc,ia,fG,ib)=>dU ab i - n) (0,ml,[],none,0,0) (bj.p4.p1) Sub.t (⟨by omega,hm,ji.refl _,rfl,trivial⟩)<|?_;rintro⟨n,pY,acc,ia,fG,ib⟩ w5 bV ⟨hn,Bk,tP,eu,_⟩;simp only [CA,NA] at bV hn Bk tP eu ⊢;have l4:=((As.gs bV.g0)).len
 have td:acc.length=n:=by rw [eu];exact(iD _ _ n).2
 obtain⟨t,sR⟩:∃t,aN ab k acc=t:=⟨_,rfl⟩
 have Lz:dt ab k acc=t:=by rw [← sR,← hk,gP hi lB]
 refine cS ?_;have BE:=bV.cX;have Ha:=bV.ma;have Hb:=bV.size;refine WC.eJ (m:=8) (E:=dm [(6,fun v _=>v=t.val),(7,PB w5.heap.size 144 [.bool false,.string ⟨#[]⟩,.int .i64 0,.string ⟨#[]⟩])]) bV (bK (⟨fun _ _ _ _ _ _ _ h=>h,⟨fun _ _ _ _ _ _ c h=>PB.st BE c h,trivial⟩⟩)) mixed (by kernel_rfl)<|(kQ) me St.g4<|(iX) aq St.g2<|nx ?_;refine DW.c1 (fun wx hC hF=>gL (k:=k) (SD.ht (As.gf hC.2.g3)) (SD.hu (As.gf hC.2.g3)) (Ow.rd (As.gs hC.2.g0) (by omega)) hR.hb (hk ▸ il hi lB)) (by rw [sR])<|?_;refine DW.e rfl rfl rfl rfl rfl (fun wx hC hF=>OX.alloc uI rfl fun b wy nw hb=>⟨⟨Nat.le_trans hC.1 nw.ext.size,hC.2.step nw.ext⟩,nw.ext.p0,_,rfl,_,rfl,Nat.le_trans hC.1 nw.ge,hb⟩)<|?_;rintro _ wz _ ⟨b8,rfl,_,_⟩;refine(eb) ?_;rintro w6 ⟨Dd,bT⟩ ⟨X5,⟨_,_⟩⟩;have cm:=bT.xN X5 BE Ha Hb;refine(dB) iS cm fun w7 jV j0 aM=>?_;refine(bM) fq aM.b0<|(aZ) (fun X6=>?_) fun X6=>?_
 ·
  have Cj:n=dU ab i:=by
   rcases Nat.lt_or_ge n (dU ab i) with h | h
   ·
    obtain⟨a,h1,_⟩:=fA hR hi (ah:=acc) (by omega);rw [hk,Lz] at h1;rw [h1] at X6;cases X6
   omega
  have ie:t.value=valOf ab x.ad k:=by
   have h1:=jd (aF:=x.ad) hR hi;rw [hk,← Cj,← eu,Lz] at h1;rw [h1]
  refine nx ?_;have adV:=aM.cX;refine WC.dS (m:=7) aM mixed<|(kQ) iL St.g5<|(iX) aq St.g3<|(kQ) iF St.g0<|(eb)<|?_;rintro w8 ⟨Lj,aO⟩ _;refine WL.go rfl (OX.put eG fj (As.gm aO.g2) rfl rfl rfl fun w9 PN JM=>?_);have aS:=aO.p2.nq PN JM;refine(bM) iF aS.b1<|(cy) ?_;exact⟨_,by rw [ie],by rw [ie];exact Bk.put k,by rw [ie];exact tP.trans (ji.put Bk k),aS.p5.k2⟩
 have Cj:n<dU ab i:=by
  rcases Nat.lt_or_ge n (dU ab i) with h | h
  ·
   exact h
  have h1:=jc hR hi (ah:=acc) (by omega);rw [hk,Lz] at h1;rw [h1] at X6;cases X6
 obtain⟨a,nY,Bj,_⟩:=fA hR hi (ah:=acc) (by omega);rw [hk,Lz] at nY
 have Nr:t.ask=a:=by rw [nY]
 refine(kB) aq aM.b0<|?_;have aO:=aM.p2.p5;refine(dh) SX (ih t.ask (by rw [Nr];exact Bj) qg _ _ _ _ aO.e2 (As.gf aO.g5) Bk) ?_;rintro _ w8 ⟨fQ,rfl,kI,iP,kM⟩;have aS:=St.lr aO kM;refine WL.go rfl (OX.aR (us:=[.string (valOf ab x.ad t.ask)]) mn rfl rfl rfl rfl fun b62 w9 ajA ajB=>?_);have bC:=aS.eI ajA ajB;refine WL.ap rfl rfl bC.p4 (SR.ek (A:=fun _=>True) (x:=valOf ab x.ad t.ask) (As.gb bC.g0) trivial rfl (by simp [Value.oneCell']) rfl) fun a63 ajC kE ara arb br=>?_;refine dA ?_;refine fJ (n+1,fQ,acc++[valOf ab x.ad t.ask],a63,(fG+1),ajC) ⟨br.p1.drop.p3.drop.p4.p4.p4.p3,⟨by omega,kI,tP.trans iP,by simp only [fZ];rw [← eu,Lz],trivial⟩⟩
set_option maxHeartbeats 1600000 in
theorem Hc{i0:Nat}(bJ:St w M Z w [As.blk D.s 134 (D.cells x),As.map Key.val D.m ml]) (hf:(D.F prog ab x).p Z w) (hm:bq ab x.ad ml) (hR:aw ab) (hi:i0<ab.length) (QV:aD ab i0=true) (hv:∀j a,dT ab i0 j→gg ab j a→aA a=false→MI ab x D a):Calls prog 74 #[.pointer (some ⟨D.s,0,none⟩),(aL ab (i0:Int)).val] w fun e w'=>∃fh,e=.returned (.tuple #[])∧bq ab x.ad fh∧ji ml fh∧bX fh (aL ab (i0:Int))=some (.string (valOf ab x.ad (aL ab (i0:Int))))∧St w M Z w' [As.blk D.s 134 (D.cells x),As.map Key.val D.m fh]:=by
 have rS:=hR.len
 have lB:i0≤99:=by omega
 have X7:=wS hi lB QV;refine enter func74 rfl ntmps74 rfl<|?_;have bd:=bJ;have st1:=bd.fact (B:=As.fz (D.F prog ab x)) hf (fun _ hx=>hx);refine(fm) st1 fun b3 w1 iO dJ st2=>?_;refine dA ?_;have Au:=st2.cX;have ajD:=st2.ma;have ajE:=st2.size;refine WC.eJ (m:=4) (E:=dm [(0,PM Key.val w1.heap.size),(3,fun v _=>v=.string ⟨#[48]⟩)]) st2 (bK (⟨fun _ _ _ _ _ _ c h=>PM.st Au c h,⟨fun _ _ _ _ _ _ _ h=>h,trivial⟩⟩)) mixed (by kernel_rfl)<|?_;refine DW.e rfl rfl rfl rfl rfl (fun wx hC hF=>OX.makeMap Key.val rfl fun b wy nw hb=>⟨⟨Nat.le_trans hC.1 nw.ext.size,hC.2.step nw.ext⟩,nw.ext.p0,_,rfl,_,rfl,Nat.le_trans hC.1 nw.ge,hb⟩)<|?_;rintro _ wz _ ⟨xI,rfl,_,_⟩;refine(iX) aq St.g0<|(iX) aq St.g0<|?_;refine DW.c1 (fun wx hC hF=>uM (k:=(aL ab (i0:Int)))) (by rw [X7])<|(eb) ?_;rintro w2 ⟨fx,aW⟩ ⟨_,⟨hF0,_⟩⟩;have ba:=aW.ahc hF0 Au ajD ajE;refine WL.go rfl (OX.ins eG fj (As.gm ba.g0) rfl rfl rfl fun w3 PO JN=>?_);have bs:=ba.nq PO JN;refine(bA) aq bs.b1<|?_;refine WL.go rfl (OX.aR (us:=(aL ab (i0:Int)).cells) eM rfl rfl rfl rfl fun b22 w4 MJ PQ=>?_);have bj:=St.rP (R:=RR.key) (E:=39) (k:=2) (a:=some ⟨b22,0,none⟩) (n:=1) (c:=1) (xs:=[(aL ab (i0:Int))]) bs MJ.ext (OR.ek PQ (Nat.zero_le _) rfl (by simp [Key.cells,Value.oneCell']) rfl) (fun x hx=>by simp [aI] at hx;subst hx;exact MJ.ge);refine oC ?_;refine WC.cq (σ:=(List Nat) × (Nat→Nat) × (List (Key × Value)) × Bool × (List (Key × Value)) × (Option Addr) × Nat × Nat) (eP:=fun(L,u,am,ch,pY,bw,bm,bz)=>[(0,.pointer (some ⟨D.s,0,none⟩)),(4,.map (some xI)),(5,.slice bw bm bz),(6,.bool ch)]) (F:=fun(L,u,am,ch,pY,bw,bm,bz)=>[As.os RR.key 39 2 bw bm bz (L.map fun j:Nat=>aL ab (j:Int)),As.map Key.val D.m pY,As.map Key.val xI am]) (I:=fun(L,u,am,ch,pY,bw,bm,bz)=>(eK ab x.ad i0 L u)∧(nR ab x.ad L u pY)∧(pU ab L u am)∧(bq ab x.ad pY)∧(ji ml pY)∧(ch=false→∀j∈L,rz ab x.ad L u j)∧True) (μ:=fun(L,u,am,ch,pY,bw,bm,bz)=>2*si ab L u+(if ch then 1 else 0)) ([i0],fun _=>0,dC [] (aL ab (i0:Int)) (.string ⟨#[48]⟩),true,ml,(some ⟨b22,0,none⟩),1,1) (bj.p1.p5.p2) Sub.t (⟨eK.start hi QV,nR.start,⟨fun j hj=>by simp at hj;subst hj;rw [show itoa ((0:Nat):Int)=⟨#[48]⟩ by decide +kernel];simp [dC,bX],fun k hk=>by simp [dC,bX];intro e;exact hk i0 (by simp) e.symm⟩,hm,ji.refl _,(fun h=>by cases h),trivial⟩)<|?_;rintro⟨L,u,am,ch,pY,bw,bm,bz⟩ w5 bV ⟨rT,mA,UJ,Bk,tP,pP,_⟩;simp only [CA,NA] at bV rT mA UJ Bk tP pP ⊢;refine(aZ) (fun g23=>?_) fun g23=>?_
 ·
  have g23:ch=true:=g23;subst g23
  clear pP
  refine bf ?_;refine cS ?_;refine WC.cq (σ:=Nat × (List Nat) × (Nat→Nat) × (List (Key × Value)) × Bool × (List (Key × Value)) × (Option Addr) × Nat × Nat) (eP:=fun(idx,L1,u1,zc,nS,fQ,bw,bm,bz)=>[(0,.pointer (some ⟨D.s,0,none⟩)),(4,.map (some xI)),(5,.slice bw bm bz),(6,.bool nS),(7,.int .i64 (idx:Int))]) (F:=fun(idx,L1,u1,zc,nS,fQ,bw,bm,bz)=>[As.os RR.key 39 2 bw bm bz (L1.map fun j:Nat=>aL ab (j:Int)),As.map Key.val D.m fQ,As.map Key.val xI zc]) (I:=fun(idx,L1,u1,zc,nS,fQ,bw,bm,bz)=>(idx≤L1.length)∧(eK ab x.ad i0 L1 u1)∧(nR ab x.ad L1 u1 fQ)∧(pU ab L1 u1 zc)∧(bq ab x.ad fQ)∧(ji ml fQ)∧(si ab L1 u1≤si ab L u∧(nS=true→si ab L1 u1<si ab L u))∧(nS=false→∀m j,m<idx→L1[m]?=some j→rz ab x.ad L1 u1 j)∧True) (μ:=fun(idx,L1,u1,zc,nS,fQ,bw,bm,bz)=>ab.length - idx) (0,L,u,am,false,pY,bw,bm,bz) (bV.p2.p2.p2) Sub.t (⟨by omega,rT,mA,UJ,Bk,tP,⟨Nat.le_refl _,(fun h=>by cases h)⟩,fun _ m j h=>by omega,trivial⟩)<|?_;rintro⟨idx,L1,u1,zc,nS,fQ,bw,bm,bz⟩ w6 bT ⟨X8,wi,Em,Hd,kI,iP,MK,Av,_⟩;simp only [CA,NA] at bT X8 wi Em Hd kI iP MK Av ⊢;have l4:=((As.gs bT.g0)).len;rw [List.length_map] at l4;have hL1:=wi.len;refine(aZ) (fun Bl=>?_) fun Bl=>?_
  ·
   simp at Bl
   have kx:idx<L1.length:=by omega
   obtain⟨j,He⟩:∃j,L1[idx]=j:=⟨_,rfl⟩
   have iW:L1[idx]?=some j:=by rw [ao kx,He]
   have pD:j∈L1:=He ▸ List.getElem_mem kx;obtain⟨mK,y8⟩:=wi.ring j pD
   have xZ:j≤99:=by omega
   have hja:=qu hR mK;rw [fL mK] at hja;have cm:=bT.eR RR.str 9 1;refine oC ?_;obtain⟨t,sR⟩:∃t,aN ab (aL ab (j:Int)) []=t:=⟨_,rfl⟩
   have ZS:(L1.map fun j:Nat=>aL ab (j:Int))[idx]?=some (aL ab (j:Int)):=by rw [List.getElem?_map,iW];rfl
   obtain⟨iz,aX⟩:=Ow.addr (As.gs cm.g1) ZS;have BE:=cm.cX;have Ha:=cm.ma;have Hb:=cm.size;refine WC.eJ (m:=11) (E:=dm [(9,fun v _=>v=t.val),(10,PB w6.heap.size 144 [.bool false,.string ⟨#[]⟩,.int .i64 0,.string ⟨#[]⟩])]) cm (bK (⟨fun _ _ _ _ _ _ _ h=>h,⟨fun _ _ _ _ _ _ c h=>PB.st BE c h,trivial⟩⟩)) mixed (by kernel_rfl)<|(kQ) me St.g6<|cS ?_;refine DP .r (fun _ hC=>PV.fO fV aX rfl rfl (by omega))<|DP .r (fun _ hC=>VA aq (Ow.qq (As.gs hC.2.g1) (by rw [List.length_map];omega) aX ZS) .r)<|nx ?_;refine DW.c1 (fun wx hC hF=>gL (k:=(aL ab (j:Int))) (SD.ht (As.gf hC.2.g5)) (SD.hu (As.gf hC.2.g5)) (Ow.rd (As.gs hC.2.g0) (by simp)) hR.hb (il mK xZ)) (by rw [sR])<|?_;refine DW.e rfl rfl rfl rfl rfl (fun wx hC hF=>OX.alloc uI rfl fun b wy nw hb=>⟨⟨Nat.le_trans hC.1 nw.ext.size,hC.2.step nw.ext⟩,nw.ext.p0,_,rfl,_,rfl,Nat.le_trans hC.1 nw.ge,hb⟩)<|?_;rintro _ wz _ ⟨b9,rfl,_,_⟩;refine(eb) ?_;rintro w7 ⟨Dd,aM⟩ ⟨Aw,⟨_,_⟩⟩;have aO:=aM.xN Aw BE Ha Hb;refine(dB) iS aO fun w8 sC nj aS=>?_;refine dV ?_;refine WC.cq (σ:=Nat × F9 × (List Nat) × (List (Key × Value)) × Bool × (List (Key × Value)) × (List ByteArray) × (Option Addr) × Nat × Nat × (Option Addr) × Nat × Nat) (eP:=fun(n,t,L2,mP,pH,kJ,acc,bw,bm,bz,ia,fG,ib)=>[(0,.pointer (some ⟨D.s,0,none⟩)),(4,.map (some xI)),(5,.slice bw bm bz),(6,.bool pH),(7,.int .i64 (idx:Int)),(8,.slice ia fG ib),(9,.pointer (some ⟨b9,0,none⟩))]) (F:=fun(n,t,L2,mP,pH,kJ,acc,bw,bm,bz,ia,fG,ib)=>[As.os RR.key 39 2 bw bm bz (L2.map fun j:Nat=>aL ab (j:Int)),As.os RR.str 9 1 ia fG ib (acc),As.map Key.val D.m kJ,As.map Key.val xI mP,As.blk b9 144 [.bool t.done,.string t.value,.int .i64 t.ask.kind,.string t.ask.text]]) (I:=fun(n,t,L2,mP,pH,kJ,acc,bw,bm,bz,ia,fG,ib)=>(n≤ab[j].asks.length)∧(eK ab x.ad i0 L2 u1)∧(nR ab x.ad L2 u1 kJ)∧(pU ab L2 u1 mP)∧(bq ab x.ad kJ)∧(ji fQ kJ)∧(si ab L2 u1≤si ab L1 u1∧(pH=true→nS=true∨si ab L2 u1<si ab L1 u1))∧(pH=false→L2=L1∧nS=false)∧(L1 <+: L2)∧(Ev ab x.ad u1 L2 fQ kJ ab[j].asks n acc)∧(dt ab (aL ab (j:Int)) acc=t)∧True) (μ:=fun(n,t,L2,mP,pH,kJ,acc,bw,bm,bz,ia,fG,ib)=>ab[j].asks.length - n) (0,t,L1,zc,nS,fQ,[],bw,bm,bz,none,0,0) (aS.p4.p4.p3.p4) Sub.t (⟨by omega,wi,Em,Hd,kI,ji.refl _,⟨Nat.le_refl _,fun h=>.inl h⟩,fun h=>⟨rfl,h⟩,List.prefix_refl _,Ev.start,by rw [← sR,gP mK xZ],trivial⟩)<|?_;rintro⟨n,t,L2,mP,pH,kJ,acc,bw,bm,bz,ia,fG,ib⟩ w9 bC ⟨hn,mS,DU,x7,Nt,x8,pO,hc2,iU,dL,ht,_⟩;simp only [CA,NA] at bC hn mS DU x7 Nt x8 pO hc2 iU dL ht ⊢;have JO:=((As.gs bC.g0)).len;rw [List.length_map] at JO;have Bu:=((As.gs bC.g1)).len;have hL2:=mS.len;have td:=dL.len;have arf:=iU.length_le;have X9:si ab L2 u1≤si ab L u∧(pH=true→si ab L2 u1<si ab L u):=⟨by omega,fun h=>by rcases pO.2 h with h1 | h1;have:=MK.2 h1;omega;omega⟩;refine(bM) fq bC.b4<|(aZ) (fun lW=>?_) fun lW=>?_
   ·
    simp at lW
    have Cj:n<ab[j].asks.length:=by
     rcases Nat.lt_or_ge n ab[j].asks.length with h | h
     ·
      exact h
     have h1:=jc hR mK (ah:=acc) (by rw [fL mK];omega);rw [ht] at h1;rw [h1] at lW;cases lW
    obtain⟨a,nY,Bj,ha3⟩:=fA hR mK (ah:=acc) (by rw [fL mK];omega);obtain⟨xq,Ya,hax⟩:=ha3 y8;rw [td,ao Cj] at Ya
    simp at Ya
    rw [ht] at nY
    have Nr:t.ask=a:=by rw [nY]
    have Nj:cz ab ab[j].asks[n]=t.ask:=by rw [Nr,hax,Ya]
    have kH:ab[j].asks[n]∈ab[j].asks:=List.getElem_mem Cj;have S6:=wi.reach j pD;refine dV ?_;have adV:=bC.cX;refine WC.dS (m:=11) bC mixed<|(kQ) iL St.g7<|(Cp) aq St.g4<|?_;refine DP .r (fun _ hC=>PV.vw eG fj pj (As.gm hC.2.g2) rfl rfl)<|(eb) ?_;rintro kE ⟨Lj,br⟩ _;refine(aZ) (fun PH=>?_) fun PH=>?_
    ·
     obtain⟨vv,Li⟩:=Option.isSome_iff_exists.1 PH;have X4:=Nt _ vv Li;obtain⟨sv,ML⟩:∃s,s=valOf ab x.ad t.ask:=⟨_,rfl⟩
     have JP:=dL.snoc sv (fun _ _=>by rw [Nj];exact ML) (fun h ho k hk=>.inl (by
      obtain⟨sk,nc,wT⟩:=kZ hR mK y8 kH ho hk;rw [Nj] at wT;rw [wT] at Li ML;exact⟨by rw [ML,jl hR sk,jX hR sk nc],by rw [Li];rfl⟩))
     refine WC.eqv (t:=10) (v':=.string sv) rfl (by rw [Li,X4,ML];rfl)<|gM ?_;refine WL.go rfl (OX.aR (us:=[.string sv]) mn rfl rfl rfl rfl fun b90 kF JQ JR=>?_);have aY:=br.eI JQ JR;refine WL.ap rfl rfl aY.p2 (SR.ek (A:=fun _=>True) (x:=sv) (As.gb aY.g0) trivial rfl (by simp [Value.oneCell']) rfl) fun a91 JS qf Yb Yc aQ=>?_;refine dA ?_;obtain⟨t2,LY⟩:∃t,aN ab (aL ab (j:Int)) (acc++[sv])=t:=⟨_,rfl⟩
     have Ax:∀Lx:List Nat,L1 <+: Lx→(Lx.map fun j:Nat=>aL ab (j:Int))[idx]?=some (aL ab (j:Int)):=fun Lx h=>by
      rw [List.getElem?_map]
      have:=h.getElem kx
      obtain⟨q,rfl⟩:=h;rw [List.getElem?_append_left kx,iW];rfl
     obtain⟨xX,gp⟩:=Ow.addr (As.gs aQ.g2) (Ax _ (by first | exact iU | exact iU.trans (List.prefix_append _ _)));have Yd:=aQ.cX;refine WC.dS (m:=9) aQ mixed<|(kQ) me St.g8<|cS ?_;refine DP .r (fun _ hC=>PV.fO fV gp rfl rfl (by omega))<|DP .r (fun _ hC=>VA aq (Ow.qq (As.gs hC.2.g2) (by simp only [List.length_map,List.length_append,List.length_cons,List.length_nil];omega) gp (Ax _ (by first | exact iU | exact iU.trans (List.prefix_append _ _)))) .r)<|(eb) ?_;rintro tU ⟨PR,bB⟩ _;refine WL.c1 (u:=t2.val) (gL (k:=(aL ab (j:Int))) (SD.ht (As.gf bB.g7)) (SD.hu (As.gf bB.g7)) (Ow.rd (As.gs bB.g0) (by simp;omega)) hR.hb (il mK xZ)) (by rw [LY]) bB fun Ay Ye bL=>?_;refine(dB) iS bL.p5 fun uP BC rq bG=>?_;refine cS ?_;refine fJ (n+1,t2,L2,mP,pH,kJ,_,bw,bm,bz,a91,(fG+1),JS) ⟨bG.p2.drop.p4.p4.p3.p4,⟨by omega,mS,DU,x7,Nt,x8,pO,hc2,iU,JP,by rw [← LY,gP mK xZ],trivial⟩⟩
    have PH:bX kJ t.ask=none:=by simpa using PH
    refine(kB) aq br.b4<|(iu) (ee (k:=t.ask)) br fun kF vY aY=>?_;refine(aZ) (fun Yf=>?_) fun Yf=>?_
    ·
     simp at Yf
     refine(kB) aq aY.b4<|?_;have aQ:=aY.p2.p7;refine(dh) SX (hv j t.ask S6 (by rw [Nr];exact Bj) Yf _ _ _ _ aQ.e2 (As.gf aQ.g7) Nt) ?_;rintro _ qf ⟨Rw,rfl,hm4,PT,xt⟩;have bB:=St.lr aQ xt;refine cS ?_;obtain⟨sv,ML⟩:∃s,s=valOf ab x.ad t.ask:=⟨_,rfl⟩
     have JP:=(dL.mono (fun _ h=>h) PT).snoc sv (fun _ _=>by rw [Nj];exact ML) (fun h ho k hk=>by
      obtain⟨sk,nc,wT⟩:=kZ hR mK y8 kH ho hk;rw [Nj] at wT;rw [wT,bZ sk (by omega),nc] at Yf;cases Yf)
     refine EX.eqv (t:=10) (v':=.string sv) rfl (by rw [ML])<|jo ?_;refine WL.go rfl (OX.aR (us:=[.string sv]) mn rfl rfl rfl rfl fun b90 tU JQ JR=>?_);have bL:=bB.eI JQ JR;refine WL.ap rfl rfl bL.p4 (SR.ek (A:=fun _=>True) (x:=sv) (As.gb bL.g0) trivial rfl (by simp [Value.oneCell']) rfl) fun a91 JS Ay Yb Yc bG=>?_;refine dA ?_;obtain⟨t2,LY⟩:∃t,aN ab (aL ab (j:Int)) (acc++[sv])=t:=⟨_,rfl⟩
     have Ax:∀Lx:List Nat,L1 <+: Lx→(Lx.map fun j:Nat=>aL ab (j:Int))[idx]?=some (aL ab (j:Int)):=fun Lx h=>by
      rw [List.getElem?_map]
      have:=h.getElem kx
      obtain⟨q,rfl⟩:=h;rw [List.getElem?_append_left kx,iW];rfl
     obtain⟨xX,gp⟩:=Ow.addr (As.gs bG.g4) (Ax _ (by first | exact iU | exact iU.trans (List.prefix_append _ _)));have Yd:=bG.cX;refine WC.dS (m:=9) bG mixed<|(kQ) me St.g2<|cS ?_;refine DP .r (fun _ hC=>PV.fO fV gp rfl rfl (by omega))<|DP .r (fun _ hC=>VA aq (Ow.qq (As.gs hC.2.g4) (by simp only [List.length_map,List.length_append,List.length_cons,List.length_nil];omega) gp (Ax _ (by first | exact iU | exact iU.trans (List.prefix_append _ _)))) .r)<|(eb) ?_;rintro uP ⟨PR,ck⟩ _;refine WL.c1 (u:=t2.val) (gL (k:=(aL ab (j:Int))) (SD.ht (As.gf ck.g8)) (SD.hu (As.gf ck.g8)) (Ow.rd (As.gs ck.g0) (by simp;omega)) hR.hb (il mK xZ)) (by rw [LY]) ck fun yq s16 cw=>?_;refine(dB) iS cw.p6 fun En QW vE cx=>?_;refine cS ?_;refine fJ (n+1,t2,L2,mP,pH,Rw,_,bw,bm,bz,a91,(fG+1),JS) ⟨cx.p2.drop.p7.p7.p2.p7.p6.p5.p7,⟨by omega,mS,DU.mono hR mS PT,x7,hm4,x8.trans PT,pO,hc2,iU,JP,by rw [← LY,gP mK xZ],trivial⟩⟩
    simp at Yf
    have gE:outside ab ab[j].asks[n]=false:=by
     cases ho:outside ab ab[j].asks[n]
     ·
      rfl
     have:=kY hR mK y8 kH ho;rw [Nj,Yf] at this;cases this
    obtain⟨kk,Ky,pI,nt⟩:=jL hR mK y8 kH gE;rw [Nj] at pI;have Bp:=Ky.lt.2.2.2
    have te:bX fQ (aL ab (kk:Int))=none:=by
     cases h:bX fQ (aL ab (kk:Int)) with
     | none=>rfl
     | some v=>have:=x8 _ _ h;rw [← pI,PH] at this;cases this
    have FQ:∀k:Nat,ab[j].asks[n].n=k→k=kk:=fun k hk=>by
     obtain⟨sk,nc,wT⟩:=kZ hR mK y8 kH gE hk;rw [Nj,pI] at wT;exact(fo hR nt sk wT).symm
    refine(kB) aq aY.b4<|?_;refine WP .r (PV.vw eG fj pj (As.gm aY.g3) rfl rfl)<|?_;refine bf ?_;refine(aZ) (fun S7=>?_) fun S7=>?_
    ·
     simp at S7
     have Gp:kk∉L2:=fun h=>by have:=x7.1 kk h;rw [← pI,S7] at this;cases this
     have QN:=mS.out kk Gp;have Om:dT ab i0 kk:=.step (mS.reach j (iU.subset pD)) Ky;have VY:=mS.meet nt Bp Gp Om;have dZ:=mS.Kv nt Bp Gp Om;have Q8:=Gn (v:=u1) (j:=kk) dZ;have Yg:=x7.meet hR (fun k hk=>(mS.ring k hk).1) nt Gp QN;rw [← pI] at Yg
     have S8:sY t.ask=⟨#[48]⟩:=by rw [pI];exact wS nt (by omega) Bp
     refine nx ?_;have ajJ:=aY.cX;refine WC.eJ (m:=6) (E:=dm [(5,fun v _=>v=.string ⟨#[48]⟩)]) aY (bK (⟨fun _ _ _ _ _ _ _ h=>h,trivial⟩)) mixed (by kernel_rfl)<|(Cp) aq St.g4<|(Cp) aq St.g4<|?_;refine DW.c1 (fun wx hC hF=>uM (k:=t.ask)) (by rw [S8])<|(eb) ?_;rintro qf ⟨UK,aQ⟩ ⟨_,_⟩;refine WL.go rfl (OX.put eG fj (As.gm aQ.g3) rfl rfl rfl fun tU Yh Yi=>?_);have bB:=aQ.p3.nq Yh Yi;refine(kB) aq bB.b4<|?_;refine WL.go rfl (OX.aR (us:=t.ask.cells) eM rfl rfl rfl rfl fun b71 Ay ajK ajL=>?_);have bL:=bB.eI ajK ajL;refine WL.ap rfl rfl bL.p2 (SR.ek (A:=fun _=>True) (x:=t.ask) (As.gb bL.g0) trivial rfl (by simp [Key.cells,Value.oneCell']) rfl) fun a72 ajM uP arh ari bG=>?_;refine dA ?_;have ck:=bG.VF (show(L2.map fun j:Nat=>aL ab (j:Int))++[t.ask]=(L2++[kk]).map fun j:Nat=>aL ab (j:Int) by rw [List.map_append,pI];rfl);have Az:=Yg.1 kk (by simp);rw [← pI] at Az;have hsn:∀s,s=itoa (u1 kk:Int)→Ev ab x.ad u1 (L2++[kk]) fQ kJ ab[j].asks (n+1) (acc++[s]):=fun s hs=>(dL.mono (fun _ h=>by simp [h]) (ji.refl _)).snoc s (fun h ho=>by rw [gE] at ho;cases ho) (fun h ho k hk=>by have:=FQ k hk;subst this;exact .inr ⟨hs,by simp,te⟩);refine(kB) aq ck.b5<|?_;refine WP .r (PV.dH eG fj pj (As.gm ck.g2) (Az) rfl rfl)<|cS ?_;obtain⟨sv,ML⟩:∃s,s=itoa (u1 kk:Int):=⟨_,rfl⟩;have JP:=hsn sv ML;refine EX.eqv (t:=10) (v':=.string sv) rfl (by rw [ML])<|jo ?_;refine WL.go rfl (OX.aR (us:=[.string sv]) mn rfl rfl rfl rfl fun b90 yq JQ JR=>?_);have cw:=ck.eI JQ JR;refine WL.ap rfl rfl cw.p4 (SR.ek (A:=fun _=>True) (x:=sv) (As.gb cw.g0) trivial rfl (by simp [Value.oneCell']) rfl) fun a91 JS En Yb Yc cx=>?_;refine dA ?_;obtain⟨t2,LY⟩:∃t,aN ab (aL ab (j:Int)) (acc++[sv])=t:=⟨_,rfl⟩
     have Ax:∀Lx:List Nat,L1 <+: Lx→(Lx.map fun j:Nat=>aL ab (j:Int))[idx]?=some (aL ab (j:Int)):=fun Lx h=>by
      rw [List.getElem?_map]
      have:=h.getElem kx
      obtain⟨q,rfl⟩:=h;rw [List.getElem?_append_left kx,iW];rfl
     obtain⟨xX,gp⟩:=Ow.addr (As.gs cx.g2) (Ax _ (by first | exact iU | exact iU.trans (List.prefix_append _ _)));have Yd:=cx.cX;refine WC.dS (m:=9) cx mixed<|(kQ) me St.g9<|cS ?_;refine DP .r (fun _ hC=>PV.fO fV gp rfl rfl (by omega))<|DP .r (fun _ hC=>VA aq (Ow.qq (As.gs hC.2.g2) (by simp only [List.length_map,List.length_append,List.length_cons,List.length_nil];omega) gp (Ax _ (by first | exact iU | exact iU.trans (List.prefix_append _ _)))) .r)<|(eb) ?_;rintro De ⟨PR,cU⟩ _;refine WL.c1 (u:=t2.val) (gL (k:=(aL ab (j:Int))) (SD.ht (As.gf cU.g8)) (SD.hu (As.gf cU.g8)) (Ow.rd (As.gs cU.g0) (by simp;omega)) hR.hb (il mK xZ)) (by rw [LY]) cU fun JT s19 ct=>?_;refine(dB) iS ct.p6 fun MM Yj Yk cN=>?_;refine cS ?_;refine fJ (n+1,t2,L2++[kk],_,true,kJ,_,a72,(bm+1),ajM,a91,(fG+1),JS) ⟨cN.p2.drop.p3.drop.p3.p4.p3.p4,⟨by omega,VY,DU.meet QN,Yg,Nt,x8,⟨Nat.le_of_lt (Nat.lt_of_lt_of_le Q8 pO.1),fun _=>.inr (Nat.lt_of_lt_of_le Q8 pO.1)⟩,(fun h=>by cases h),iU.trans (List.prefix_append _ _),JP,by rw [← LY,gP mK xZ],trivial⟩⟩
    simp at S7
    have Gp:kk∈L2:=by
     by_cases h:kk∈L2
     ·
      exact h
     have:=x7.2 (aL ab (kk:Int)) (fun k hk e=>h (by have:=fo hR nt (mS.ring k hk).1 e;rw [this];exact hk));rw [← pI] at this;rw [this] at S7;cases S7
    have Az:=x7.1 kk Gp;rw [← pI] at Az;have hsn:∀s,s=itoa (u1 kk:Int)→Ev ab x.ad u1 L2 fQ kJ ab[j].asks (n+1) (acc++[s]):=fun s hs=>dL.snoc s (fun h ho=>by rw [gE] at ho;cases ho) (fun h ho k hk=>by have:=FQ k hk;subst this;exact .inr ⟨hs,Gp,te⟩);refine(kB) aq aY.b4<|?_;refine WP .r (PV.dH eG fj pj (As.gm aY.g3) (Az) rfl rfl)<|cS ?_;obtain⟨sv,ML⟩:∃s,s=itoa (u1 kk:Int):=⟨_,rfl⟩;have JP:=hsn sv ML;refine EX.eqv (t:=10) (v':=.string sv) rfl (by rw [ML])<|jo ?_;refine WL.go rfl (OX.aR (us:=[.string sv]) mn rfl rfl rfl rfl fun b90 qf JQ JR=>?_);have aQ:=aY.eI JQ JR;refine WL.ap rfl rfl aQ.p2 (SR.ek (A:=fun _=>True) (x:=sv) (As.gb aQ.g0) trivial rfl (by simp [Value.oneCell']) rfl) fun a91 JS tU Yb Yc bB=>?_;refine dA ?_;obtain⟨t2,LY⟩:∃t,aN ab (aL ab (j:Int)) (acc++[sv])=t:=⟨_,rfl⟩
    have Ax:∀Lx:List Nat,L1 <+: Lx→(Lx.map fun j:Nat=>aL ab (j:Int))[idx]?=some (aL ab (j:Int)):=fun Lx h=>by
     rw [List.getElem?_map]
     have:=h.getElem kx
     obtain⟨q,rfl⟩:=h;rw [List.getElem?_append_left kx,iW];rfl
    obtain⟨xX,gp⟩:=Ow.addr (As.gs bB.g2) (Ax _ (by first | exact iU | exact iU.trans (List.prefix_append _ _)));have Yd:=bB.cX;refine WC.dS (m:=9) bB mixed<|(kQ) me St.g8<|cS ?_;refine DP .r (fun _ hC=>PV.fO fV gp rfl rfl (by omega))<|DP .r (fun _ hC=>VA aq (Ow.qq (As.gs hC.2.g2) (by simp only [List.length_map,List.length_append,List.length_cons,List.length_nil];omega) gp (Ax _ (by first | exact iU | exact iU.trans (List.prefix_append _ _)))) .r)<|(eb) ?_;rintro Ay ⟨PR,bL⟩ _;refine WL.c1 (u:=t2.val) (gL (k:=(aL ab (j:Int))) (SD.ht (As.gf bL.g7)) (SD.hu (As.gf bL.g7)) (Ow.rd (As.gs bL.g0) (by simp;omega)) hR.hb (il mK xZ)) (by rw [LY]) bL fun uP s15 bG=>?_;refine(dB) iS bG.p5 fun yq ss6 hs6 ck=>?_;refine cS ?_;refine fJ (n+1,t2,L2,mP,pH,kJ,_,bw,bm,bz,a91,(fG+1),JS) ⟨ck.p2.drop.p4.p4.p3.p4,⟨by omega,mS,DU,x7,Nt,x8,pO,hc2,iU,JP,by rw [← LY,gP mK xZ],trivial⟩⟩
   simp at lW
   have Cj:n=ab[j].asks.length:=by
    rcases Nat.lt_or_ge n ab[j].asks.length with h | h
    ·
     obtain⟨a,h1,_⟩:=fA hR mK (ah:=acc) (by rw [fL mK];omega);rw [ht] at h1;rw [h1] at lW;cases lW
    omega
   subst Cj;obtain⟨Ic,QX,Yl,Ns,Ef⟩:=dL.val hR mS mK y8;have Ym:gh (u1 j) (gx ab[j].c.toNat (acc.map dE)):=fun b hb=>Yl b (Em j pD b hb);obtain⟨val,ie⟩:∃v,gx ab[j].c.toNat (acc.map dE)=v:=⟨_,rfl⟩;rw [ie] at Ic QX Ym Ns Ef
   have htv:t.value=itoa (val:Int):=by
    have h1:=jc hR mK (ah:=acc) (by rw [fL mK];omega);rw [ht] at h1;rw [h1,(y5 hR mK y8).1,← ie];rfl
   have lV:j∈L2:=iU.subset pD;have UL:=iU.length_le
   have Yn:L2[idx]?=some j:=by obtain⟨q,rfl⟩:=iU;rw [List.getElem?_append_left kx];exact iW
   have S9:(L2.map fun j:Nat=>aL ab (j:Int))[idx]?=some (aL ab (j:Int)):=by rw [List.getElem?_map,Yn];rfl
   refine jo ?_;obtain⟨PU,mf⟩:=Ow.addr (As.gs bC.g0) S9;have arj:=bC.cX;refine WC.dS (m:=8) bC mixed<|dA ?_;refine DP .r (fun _ hC=>PV.fO fV mf rfl rfl (by omega))<|DP .r (fun _ hC=>VA aq (Ow.qq (As.gs hC.2.g0) (by rw [List.length_map];omega) mf S9) .r)<|DP .r (fun _ hC=>PV.dH eG fj pj (As.gm hC.2.g3) (x7.1 j lV) rfl rfl)<|(kQ) iF St.g4<|(eb)<|?_;rintro kE ⟨anM,br⟩ _;refine(aZ) (fun rX=>?_) fun rX=>?_
   ·
    simp at rX
    rw [htv] at rX;have kV:u1 j≠val:=fun e=>rX (by rw [e]);have Np:=Kw mS lV Ic Ym kV;obtain⟨adX,xu⟩:=Ow.addr (As.gs br.g0) S9;have ark:=br.cX;refine WC.eJ (m:=9) (E:=dm [(7,fun v w'=>∃vv st,v=.tuple #[vv,.int .i64 ((st:Nat):Int)]∧KE Key.val w' xI mP (aL ab (j:Int)) st)]) br (ov (⟨⟨trivial,trivial⟩,trivial⟩)) mixed (by kernel_rfl)<|dA ?_;refine DP .r (fun _ hC=>PV.fO fV xu rfl rfl (by omega))<|DP .r (fun _ hC=>VA aq (Ow.qq (As.gs hC.2.g0) (by rw [List.length_map];omega) xu S9) .r)<|(kQ) iF St.g4<|?_;refine DW.e rfl rfl rfl rfl rfl (fun wx hC hF=>OX.Vz eG fj pj (As.gm hC.2.g3) rfl rfl rfl fun wy st vv sx hsz Ta=>?_)<|?_
    ·
     have hg:=x7.1 j lV;rw [hg] at Ta;rw [Option.getD_some,Ct hg] at Ta;exact⟨⟨Nat.le_trans hC.1 sx.size,hC.2.same (A:=As.map Key.val xI mP) (by simp) (sx.p.mono fun x _ hx=>by simpa [As.map] using hx) Ta.km⟩,sx.p.mono (fun x _ hx=>Kp (A:=As.map Key.val xI mP) (by simp) (by simpa [As.map] using hx)),_,rfl,_,_,rfl,Ta⟩
    rintro _ wz _ ⟨ajO,ct,rfl,_⟩;refine(eb) ?_;rintro kF ⟨anN,aY⟩ ⟨X5,_⟩;obtain⟨_,_,PW,Hf⟩:=X5;simp only [Value.tuple.injEq,Array.mk.injEq,List.cons.injEq,Value.int.injEq,true_and,and_true] at PW;have Yo:=Int.natCast_inj.1 PW.2;rw [← Yo] at Hf;refine WL.go rfl (OX.Iu Hf rfl rfl rfl fun qf Yp _ Yq=>?_);have aQ:=aY.p3.nq Yp Yq;rw [htv] at aQ;refine qd ?_;refine fJ (idx+1,L2,o9 u1 j val,dC mP (aL ab (j:Int)) (.string (itoa (val:Int))),true,kJ,bw,bm,bz) ⟨aQ.p2.drop.p3.drop.p2.p2,⟨Nat.le_trans kx UL,mS.set lV Ic QX,DU.set hR mS lV Ic QX Ym Ns,x7.set hR (fun k hk=>(mS.ring k hk).1) lV val,Nt,iP.trans x8,⟨Nat.le_of_lt (Nat.lt_of_lt_of_le Np X9.1),fun _=>Nat.lt_of_lt_of_le Np X9.1⟩,(fun h=>by cases h),trivial⟩⟩
   simp at rX
   rw [htv] at rX;have rX:u1 j=val:=Gi (by have:=mS.le j;omega) (by omega) rX;refine kP ?_
   refine fJ (idx+1,L2,u1,mP,pH,kJ,bw,bm,bz) ⟨br.p1.drop.p3.drop,⟨Nat.le_trans kx UL,mS,DU,x7,Nt,iP.trans x8,X9,fun h m k hm hk=>by
      obtain⟨e1,e2⟩:=hc2 h;subst e1
      by_cases e:m=idx
      ·
       subst e;rw [iW] at hk
       simp at hk;subst hk
       exact Ef (rX ▸ rfl)
      exact Av e2 m k (by omega) hk,trivial⟩⟩
  simp at Bl
  refine eC ?_;refine EX.again (L1,u1,zc,nS,fQ,bw,bm,bz) Sub.t ⟨bT,⟨wi,Em,Hd,kI,iP,fun h j hj=>by obtain⟨m,hm,rfl⟩:=List.mem_iff_getElem.1 (show j∈L1 from hj);exact Av h m _ (by omega) (ao hm),trivial⟩⟩ (by simp only [];cases nS <;> simp at MK ⊢ <;> omega)
 have g23:ch=false:=g23;have yE:=pP g23;have xw:=rT.done hR yE;refine jo ?_;have ajP:=((As.gs bV.g0)).len;rw [List.length_map] at ajP;have hL7:=rT.len;refine gM ?_;refine WC.cq (σ:=Nat × (List (Key × Value))) (eP:=fun(i7,Tb)=>[(0,.pointer (some ⟨D.s,0,none⟩)),(4,.map (some xI)),(120,.slice bw bm bz),(121,.int .i64 (bm:Int)),(122,.int .i64 (i7:Int))]) (F:=fun(i7,Tb)=>[As.map Key.val D.m Tb]) (I:=fun(i7,Tb)=>(i7≤L.length)∧(bq ab x.ad Tb)∧(ji ml Tb)∧(∀m j,m<i7→L[m]?=some j→bX Tb (aL ab (j:Int))=some (.string (valOf ab x.ad (aL ab (j:Int)))))∧True) (μ:=fun(i7,Tb)=>L.length - i7) (0,pY) (bV.p1) Sub.t (⟨by omega,Bk,tP,fun m j h=>by omega,trivial⟩)<|?_;rintro⟨i7,Tb⟩ w6 bT ⟨hi7,hm7,Yr,hd7,_⟩;simp only [CA,NA] at bT hi7 hm7 Yr hd7 ⊢;refine(aZ) (fun JU=>?_) fun JU=>?_
 ·
  simp at JU
  have adY:i7<L.length:=by omega
  obtain⟨j,He⟩:∃j,L[i7]=j:=⟨_,rfl⟩
  have iW:L[i7]?=some j:=by rw [ao adY,He]
  have pD:j∈L:=He ▸ List.getElem_mem adY;obtain⟨mK,y8⟩:=rT.ring j pD;have adZ:=UJ.1 j pD;rw [xw j pD,← jX hR mK y8,← jl hR mK] at adZ;refine eC ?_
  have hx7:(L.map fun j:Nat=>aL ab (j:Int))[i7]?=some (aL ab (j:Int)):=by rw [List.getElem?_map,iW];rfl
  obtain⟨arn,UM⟩:=Ow.addr (As.gs bT.g1) hx7;refine nx ?_;refine WP .r (PV.fO fV UM rfl rfl (by omega))<|(bA) aq (Ow.qq (As.gs bT.g1) (by rw [List.length_map];omega) UM hx7)<|(gy) bT fun yu w7 BB Eh cm=>?_;refine(dB) jz cm fun w8 ss7 hs7 aM=>?_;refine cS ?_;have aro:=aM.cX;refine WC.dS (m:=8) aM mixed<|(kQ) iL St.g6<|(iX) aq St.g0<|(iX) aq St.g0<|?_;refine DP .r (fun _ hC=>PV.dH eG fj pj (As.gm hC.2.g3) (adZ) rfl rfl)<|(eb)<|?_;rintro w9 ⟨anP,aO⟩ _;refine WL.go rfl (OX.put eG fj (As.gm aO.g1) rfl rfl rfl fun kE ajR ajS=>?_);have aS:=aO.p1.nq ajR ajS;refine gM ?_
  refine fJ (i7+1,_) ⟨aS.p1.drop,⟨by omega,hm7.put _,Yr.trans (ji.put hm7 _),fun m k hm hk=>by
     rw [fy]
     split
     ·
      rename_i e;rw [e]
     rename_i e
     refine hd7 m k ?_ hk
     rcases Nat.lt_or_ge m i7 with h | h
     ·
      exact h
     have:m=i7:=by omega
     subst this;rw [iW] at hk;simp at hk;subst hk;exact absurd rfl e,trivial⟩⟩
 simp at JU
 obtain⟨mm,QY,QK⟩:=List.mem_iff_getElem.1 rT.first;have rL:=hd7 mm i0 (by omega) (by rw [ao QY,QK]);refine dV ?_;refine EX.yw (.inr rfl) rfl<|?_;exact⟨Tb,rfl,hm7,Yr,rL,bT.p5.k2⟩
theorem PX(hR:aw ab):∀i,i<ab.length→MI ab x D (aL ab (i:Int)):=by
 intro i
 induction i using Nat.strongRecOn with
 | _ i ih=>
  intro hi;have rS:=hR.len
  have Bv:∀a,aA a=false→(az a=true∨∃m,m<i∧m<ab.length∧a=aL ab (m:Int))→MI ab x D a:=fun a _ ha w M Z ml h1 h2 h3=>by
   rcases ha with ha | ⟨m,hm,jD,rfl⟩
   ·
    exact oc h1 h2 h3 ha
   exact ih m hm jD w M Z ml h1 h2 h3
  have H4:∀a,(az a=true∨∃m,m<i∧m<ab.length∧a=aL ab (m:Int))→MI ab x D a:=fun a ha w M Z ml h1 h2 h3=>by
   rcases ha with ha | ⟨m,hm,jD,rfl⟩
   ·
    exact oc h1 h2 h3 ha
   exact ih m hm jD w M Z ml h1 h2 h3
  intro w M Z ml h1 h2 h3;refine El h1 h2 h3 hR hi (fun hc w M Z ml h1 h2 h3=>?_) fun a ha hc=>H4 a ?_
  ·
   rw [bZ hi (by omega)] at hc;refine Hc h1 h2 h3 hR hi hc fun j a Om hma tk=>Bv a tk ?_;have hj:=kX hi hc Om;have H4:=mO hR Om;have hle:=iv ab i
   rcases hma with⟨n,h4,rfl⟩ | ⟨m,h4,rfl,_,_,_,h5⟩
   ·
    exact .inl (cO (by omega))
   rw [bZ h4 (by omega)] at tk;exact .inr ⟨m,by have:=h5 tk hj.2;omega,h4,rfl⟩
  rw [bZ hi (by omega)] at hc
  rcases ha with⟨n,h4,rfl⟩ | ⟨m,h4,rfl,_,h5,_⟩
  ·
   exact .inl (cO (by omega))
  exact .inr ⟨m,h5 hc,h4,rfl⟩
theorem MN(hR:aw ab) {k:Key}(hk:gG ab k):MI ab x D k:=by
 cases hk with
 | cell h=>exact fun w M Z ml h1 h2 h3=>oc h1 h2 h3 (cO h)
 | gF h _=>exact PX hR _ h
end Go.Rc

