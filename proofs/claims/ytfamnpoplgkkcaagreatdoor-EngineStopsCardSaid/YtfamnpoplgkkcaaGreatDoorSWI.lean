/- Walks over the program, part WI. Conditions: as each theorem says. -/
import Derived.Test.YtfamnpoplgkkcaaGreatDoorSFacts
import Derived.Test.YtfamnpoplgkkcaaGreatDoorSWH
import Derived.Test.YtfamnpoplgkkcaaGreatDoorSBe
set_option linter.all false
namespace Go.Rc
open Go Go.Proofs Go.Proofs.Tryz
variable {x:cz}{w:World}{M Z:Nat→Prop}{aa:List aG}{D:SD}{ml:List (Key × Value)}
set_option maxHeartbeats 400000
theorem pH{ar a1 a2:Option Addr}{r cr n1 c1 n2 c2:Nat}(a:St w M Z w []):Calls prog 46 #[.slice ar r cr,.agg (x.row a1 n1 c1 a2 n2 c2).toArray] w fun e w'=>∃s m q,e=.returned (.pointer (some ⟨s,0,none⟩))∧St w M Z w' [As.blk s 137 (SD.cells ⟨ar,a1,a2,r,cr,n1,c1,n2,c2,m,q,s⟩ x),As.map Key.val m [],As.map Key.val q []]:=by
 refine enter func46 rfl ntmps46 rfl<|?_;have aQ:=a;refine(dz) aQ fun b3 w1 g h st1=>?_;refine(aX) aN st1.b0<|?_;refine WL.mm Key.val st1 fun b w2 i j st2=>?_;refine WL.mm Key.val st2 fun c w3 k l d=>?_;refine WP .r (PV.bC (us:=(SD.cells ⟨ar,a1,a2,r,cr,n1,c1,n2,c2,b,c,0⟩ x)) WR rfl rfl rfl)<|(dz) d fun n w4 o p f=>?_;refine(bA) ?_;exact⟨_,_,_,rfl,f.p3.drop.p2.p1⟩
def Ie(aa:List aG) (x:cz) (D:SD) (k:Key):Prop:=∀(w:World) (M Z:Nat→Prop) (ml:List (Key × Value)),St w M Z w [As.blk D.s 137 (D.cells x),As.map Key.val D.m ml]→(D.F prog aa x).p Z w→aV aa x.ab ml→
 Calls prog 47 #[.pointer (some ⟨D.s,0,none⟩),k.val] w fun e w'=>∃mR,e=.returned (.string (valOf aa x.ab k))∧aV aa x.ab mR∧fW ml mR∧St w M Z w' [As.blk D.s 137 (D.cells x),As.map Key.val D.m mR]
def aeF(aa:List aG) (x:cz) (D:SD) (k:Key):Prop:=∀(w:World) (M Z:Nat→Prop) (ml:List (Key × Value)),St w M Z w [As.blk D.s 137 (D.cells x),As.map Key.val D.m ml]→(D.F prog aa x).p Z w→aV aa x.ab ml→
 Calls prog 89 #[.pointer (some ⟨D.s,0,none⟩),k.val] w fun e w'=>∃mR,e=.returned (.tuple #[])∧aV aa x.ab mR∧fW ml mR∧bE mR k=some (.string (valOf aa x.ab k))∧St w M Z w' [As.blk D.s 137 (D.cells x),As.map Key.val D.m mR]
theorem lq{k:Key}(d:St w M Z w [As.blk D.s 137 (D.cells x),As.map Key.val D.m ml]) (f:(D.F prog aa x).p Z w) (hm:aV aa x.ab ml) (hk:ay k=true):Calls prog 47 #[.pointer (some ⟨D.s,0,none⟩),k.val] w fun e w'=>∃a,e=.returned (.string (valOf aa x.ab k))∧aV aa x.ab a∧fW ml a∧St w M Z w' [As.blk D.s 137 (D.cells x),As.map Key.val D.m a]:=by
 refine enter func47 rfl ntmps47 rfl<|?_;have aQ:=d;have st1:=aQ.fact (B:=As.fz (D.F prog aa x)) f (fun _ g=>g);refine(dz) st1 fun b3 w1 i j st2=>?_;refine(aX) ao st2.b0<|(eV) (ei (k:=k)) st2 fun w2 s2 c=>?_;refine(aS) (fun g10=>?_) fun g10=>?_
 ·
  refine nx ?_;have l:=c.bQ;refine WC.dS (m:=5) c mixed<|(tv) aN St.g2<|(gU) ao St.g0<|(cS)<|?_;rintro w3 ⟨n,b⟩ _;refine(eV) (se (k:=k) (SD.hi (As.gf b.g1)) (SD.hr (As.gf b.g1))) b fun w4 o h=>?_;refine(bA) ?_;exact⟨ml,by unfold valOf cellOf;rw [if_pos hk],hm,fW.refl _,h.drop.drop⟩
 rw [hk] at g10;cases g10
theorem zJ{i:Nat}(gp:St w M Z w [As.blk D.s 137 (D.cells x),As.map Key.val D.m ml]) (hf:(D.F prog aa x).p Z w) (hm:aV aa x.ab ml) (g:aq aa) (hi:i<aa.length) (W:ax (aI aa (i:Int))=true→aeF aa x D (aI aa (i:Int))) (X:∀a,eW aa i a→ax (aI aa (i:Int))=false→Ie aa x D a):Calls prog 47 #[.pointer (some ⟨D.s,0,none⟩),(aI aa (i:Int)).val] w fun e w'=>∃O,e=.returned (.string (valOf aa x.ab (aI aa (i:Int))))∧aV aa x.ab O∧fW ml O∧St w M Z w' [As.blk D.s 137 (D.cells x),As.map Key.val D.m O]:=by
 have II:=g.len
 have jo:i≤99:=by omega
 obtain⟨k,hk⟩:∃k,aI aa (i:Int)=k:=⟨_,rfl⟩;have eS:=cj hi jo;have ha6:=nj g hi;rw [hk] at eS W X ⊢;refine enter func47 rfl ntmps47 rfl<|?_;have aQ:=gp;have st1:=aQ.fact (B:=As.fz (D.F prog aa x)) hf (fun _ hx=>hx);refine(dz) st1 fun b3 w1 Ib wO st2=>?_;refine(aX) ao st2.b0<|(eV) (ei (k:=k)) st2 fun w2 s2 Y=>?_;refine(aS) (fun g10=>?_) fun g10=>?_
 ·
  rw [eS] at g10;cases g10
 refine ck ?_;have DU:=Y.bQ;refine WC.dS (m:=10) Y mixed<|(iD) gF St.g2<|(gU) ao St.g0<|?_;refine DP .r (fun _ d=>PV.rC db dU mc (As.gm d.2.g3) rfl rfl)<|(cS) ?_;rintro w3 ⟨pI,P⟩ _;refine(aS) (fun g26=>?_) fun g26=>?_
 ·
  obtain⟨vv,SQ⟩:=Option.isSome_iff_exists.1 g26;have SS:=hm k vv SQ;refine(bA) ?_;exact⟨ml,by rw [SQ,SS];rfl,hm,fW.refl _,P.drop.drop⟩
 refine(aX) ao P.b0<|(eV) (df (k:=k)) P fun w4 s4 Q=>?_;refine(aS) (fun R=>?_) fun R=>?_
 ·
  refine(aX) ao Q.b0<|?_;have y:=Q.p3.p3;refine(bY) aec (W R _ _ _ _ y.e2 (As.gf y.g3) hm) ?_;rintro _ w5 ⟨eO,rfl,S,T,VY,qK⟩;have f:=St.lr y qK;refine cm ?_;have PW:=f.bQ;refine WC.dS (m:=5) f mixed<|(iD) gF St.g0<|(gU) ao St.g2<|(cS)<|?_;rintro w6 ⟨mf,H⟩ _;refine WP .r (PV.look db dU mc (As.gm H.g1) rfl rfl)<|(bA) ?_;exact⟨eO,by rw [VY];rfl,S,T,H.p2.drop.p2.drop⟩
 have y:=Q.dp RR.str 9 1;refine gK ?_;refine WC.bm (σ:=Nat × (List (Key × Value)) × (List ByteArray) × (Option Addr) × Nat × Nat) (dn:=fun(n,j,acc,o,l,q)=>[(0,.pointer (some ⟨D.s,0,none⟩)),(3,.pointer (some ⟨b3,0,none⟩)),(7,.slice o l q)]) (F:=fun(n,j,acc,o,l,q)=>[As.os RR.str 9 1 o l q (acc),As.map Key.val D.m j]) (I:=fun(n,j,acc,o,l,q)=>(n≤cO aa i)∧(aV aa x.ab j)∧(fW ml j)∧(acc=(dX (cy aa k) (valOf aa x.ab) n).2)∧True) (μ:=fun(n,j,acc,o,l,q)=>cO aa i - n) (0,ml,[],none,0,0) (y.p4.p1) Sub.t (⟨by omega,hm,fW.refl _,rfl,trivial⟩)<|?_;rintro⟨n,j,acc,o,l,q⟩ w5 f ⟨hn,J,U,K,_⟩;simp only [CA,NA] at f hn J U K ⊢;have ru:=((As.gs f.g0)).len
 have yo:acc.length=n:=by rw [K];exact(gz _ _ n).2
 obtain⟨t,Oc⟩:∃t,aH aa k acc=t:=⟨_,rfl⟩
 have z:cy aa k acc=t:=by rw [← Oc,← hk,eY hi jo]
 refine bO ?_;have wQ:=f.bQ;have Cy:=f.jG;have Cz:=f.size;refine WC.dD (m:=8) (E:=cF [(6,fun v _=>v=t.val),(7,PB w5.heap.size 140 [.bool false,.string ⟨#[]⟩,.int .i64 0,.string ⟨#[]⟩])]) f (bj (⟨fun _ _ _ _ _ _ _ h=>h,⟨fun _ _ _ _ _ _ c h=>PB.st wQ c h,trivial⟩⟩)) mixed (by kernel_rfl)<|(iD) jy St.g4<|(gU) ao St.g2<|nx ?_;refine DW.c1 (fun wx d hF=>fy (k:=k) (SD.ht (As.gf d.2.g3)) (SD.hu (As.gf d.2.g3)) (Ow.rd (As.gs d.2.g0) (by omega)) g.hb (hk ▸ gg hi jo)) (by rw [Oc])<|?_;refine DW.e rfl rfl rfl rfl rfl (fun wx d hF=>OX.alloc oM rfl fun b wy L hb=>⟨⟨Nat.le_trans d.1 L.ext.size,d.2.step L.ext⟩,L.ext.p0,_,rfl,_,rfl,Nat.le_trans d.1 L.ge,hb⟩)<|?_;rintro _ wz _ ⟨b8,rfl,_,_⟩;refine(cS) ?_;rintro w6 ⟨yp,H⟩ ⟨SU,⟨_,_⟩⟩;have iF:=H.tt SU wQ Cy Cz;refine(cI) gB iF fun w7 jW ka C=>?_;refine(aZ) dA C.b0<|(aS) (fun G=>?_) fun G=>?_
 ·
  have Mz:n=cO aa i:=by
   rcases Nat.lt_or_ge n (cO aa i) with h | h
   ·
    obtain⟨a,h1,_⟩:=ef g hi (ae:=acc) (by omega);rw [hk,z] at h1;rw [h1] at G;cases G
   omega
  have V:t.value=valOf aa x.ab k:=by
   have h1:=fD (aD:=x.ab) g hi;rw [hk,← Mz,← K,z] at h1;rw [h1]
  refine nx ?_;have YB:=C.bQ;refine WC.dS (m:=7) C mixed<|(iD) gF St.g5<|(gU) ao St.g3<|(iD) e7 St.g0<|(cS)<|?_;rintro w8 ⟨CB,u⟩ _;refine WL.go rfl (OX.put db dU (As.gm u.g2) rfl rfl rfl fun w9 zK vF=>?_);have N:=u.p2.jQ zK vF;refine(aZ) e7 N.b1<|(bA) ?_;exact⟨_,by rw [V],by rw [V];exact J.put k,by rw [V];exact U.trans (fW.put J k),N.p5.k2⟩
 have Mz:n<cO aa i:=by
  rcases Nat.lt_or_ge n (cO aa i) with h | h
  ·
   exact h
  have h1:=gN g hi (ae:=acc) (by omega);rw [hk,z] at h1;rw [h1] at G;cases G
 obtain⟨a,Fl,DS,_⟩:=ef g hi (ae:=acc) (by omega);rw [hk,z] at Fl
 have IM:t.ask=a:=by rw [Fl]
 refine(ia) ao C.b0<|?_;have u:=C.p2.p5;refine(bY) KD (X t.ask (by rw [IM];exact DS) R _ _ _ _ u.e2 (As.gf u.g5) J) ?_;rintro _ w8 ⟨eO,rfl,S,T,kG⟩;have N:=St.lr u kG;refine WL.go rfl (OX.aP (us:=[.string (valOf aa x.ab t.ask)]) jq rfl rfl rfl rfl fun b62 w9 aeG Od=>?_);have dm:=N.cZ aeG Od;refine WL.ap rfl rfl dm.p4 (SR.dc (A:=fun _=>True) (x:=valOf aa x.ab t.ask) (As.gb dm.g0) trivial rfl (by simp [Value.oneCell']) rfl) fun a63 aeH iP anE anF cW=>?_;refine cm ?_;refine ez (n+1,eO,acc++[valOf aa x.ab t.ask],a63,(l+1),aeH) ⟨cW.p1.drop.p3.drop.p4.p4.p4.p3,⟨by omega,S,U.trans T,by simp only [dX];rw [← K,z],trivial⟩⟩
set_option maxHeartbeats 1600000 in
theorem CC{i0:Nat}(gp:St w M Z w [As.blk D.s 137 (D.cells x),As.map Key.val D.m ml]) (hf:(D.F prog aa x).p Z w) (hm:aV aa x.ab ml) (i:aq aa) (hi:i0<aa.length) (L4:aF aa i0=true) (hv:∀j a,cV aa i0 j→eW aa j a→ax a=false→Ie aa x D a):Calls prog 89 #[.pointer (some ⟨D.s,0,none⟩),(aI aa (i0:Int)).val] w fun e w'=>∃mR,e=.returned (.tuple #[])∧aV aa x.ab mR∧fW ml mR∧bE mR (aI aa (i0:Int))=some (.string (valOf aa x.ab (aI aa (i0:Int))))∧St w M Z w' [As.blk D.s 137 (D.cells x),As.map Key.val D.m mR]:=by
 have II:=i.len
 have jo:i0≤99:=by omega
 have SX:=sM hi jo L4;refine enter func89 rfl ntmps89 rfl<|?_;have aQ:=gp;have st1:=aQ.fact (B:=As.fz (D.F prog aa x)) hf (fun _ hx=>hx);refine(dz) st1 fun b3 w1 Ib wO st2=>?_;refine cm ?_;have hN1:=st2.bQ;have aeI:=st2.jG;have aeJ:=st2.size;refine WC.dD (m:=4) (E:=cF [(0,PM Key.val w1.heap.size),(3,fun v _=>v=.string ⟨#[48]⟩)]) st2 (bj (⟨fun _ _ _ _ _ _ c h=>PM.st hN1 c h,⟨fun _ _ _ _ _ _ _ h=>h,trivial⟩⟩)) mixed (by kernel_rfl)<|?_;refine DW.e rfl rfl rfl rfl rfl (fun wx d hF=>OX.makeMap Key.val rfl fun b wy nw hb=>⟨⟨Nat.le_trans d.1 nw.ext.size,d.2.step nw.ext⟩,nw.ext.p0,_,rfl,_,rfl,Nat.le_trans d.1 nw.ge,hb⟩)<|?_;rintro _ wz _ ⟨X,rfl,_,_⟩;refine(gU) ao St.g0<|(gU) ao St.g0<|?_;refine DW.c1 (fun wx d hF=>qH (k:=(aI aa (i0:Int)))) (by rw [SX])<|(cS) ?_;rintro w2 ⟨sf,ir⟩ ⟨_,⟨hF0,_⟩⟩;have hJ:=ir.acv hF0 hN1 aeI aeJ;refine WL.go rfl (OX.ins db dU (As.gm hJ.g0) rfl rfl rfl fun w3 KX Fv=>?_);have iY:=hJ.jQ KX Fv;refine(aX) ao iY.b1<|?_;refine WL.go rfl (OX.aP (us:=(aI aa (i0:Int)).cells) dt rfl rfl rfl rfl fun YC w4 Fw Ig=>?_);have hM:=St.qe (R:=RR.key) (E:=41) (k:=2) (a:=some ⟨YC,0,none⟩) (n:=1) (c:=1) (xs:=[(aI aa (i0:Int))]) iY Fw.ext (OR.dc Ig (Nat.zero_le _) rfl (by simp [Key.cells,Value.oneCell']) rfl) (fun x hx=>by simp [aJ] at hx;subst hx;exact Fw.ge);refine i7 ?_;refine WC.bm (σ:=(List Nat) × (Nat→Nat) × (List (Key × Value)) × Bool × (List (Key × Value)) × (Option Addr) × Nat × Nat) (dn:=fun(L,u,am,ch,Y,l,f,o)=>[(0,.pointer (some ⟨D.s,0,none⟩)),(4,.map (some X)),(5,.slice l f o),(6,.bool ch)]) (F:=fun(L,u,am,ch,Y,l,f,o)=>[As.os RR.key 41 2 l f o (L.map fun j:Nat=>aI aa (j:Int)),As.map Key.val D.m Y,As.map Key.val X am]) (I:=fun(L,u,am,ch,Y,l,f,o)=>(dw aa x.ab i0 L u)∧(kX aa x.ab L u Y)∧(mK aa L u am)∧(aV aa x.ab Y)∧(fW ml Y)∧(ch=false→∀j∈L,n9 aa x.ab L u j)∧True) (μ:=fun(L,u,am,ch,Y,l,f,o)=>2*oH aa L u+(if ch then 1 else 0)) ([i0],fun _=>0,cM [] (aI aa (i0:Int)) (.string ⟨#[48]⟩),true,ml,(some ⟨YC,0,none⟩),1,1) (hM.p1.p5.p2) Sub.t (⟨dw.start hi L4,kX.start,⟨fun j hj=>by simp at hj;subst hj;rw [show itoa ((0:Nat):Int)=⟨#[48]⟩ by decide +kernel];simp [cM,bE],fun k hk=>by simp [cM,bE];intro e;exact hk i0 (by simp) e.symm⟩,hm,fW.refl _,(fun h=>by cases h),trivial⟩)<|?_;rintro⟨L,u,am,ch,Y,l,f,o⟩ w5 hh ⟨AW,j8,L5,Ih,Fx,pP,_⟩;simp only [CA,NA] at hh AW j8 L5 Ih Fx pP ⊢;refine(aS) (fun g23=>?_) fun g23=>?_
 ·
  have g23:ch=true:=g23;subst g23
  clear pP
  refine aW ?_;refine bO ?_;refine WC.bm (σ:=Nat × (List Nat) × (Nat→Nat) × (List (Key × Value)) × Bool × (List (Key × Value)) × (Option Addr) × Nat × Nat) (dn:=fun(idx,L1,u1,PX,kY,eO,l,f,o)=>[(0,.pointer (some ⟨D.s,0,none⟩)),(4,.map (some X)),(5,.slice l f o),(6,.bool kY),(7,.int .i64 (idx:Int))]) (F:=fun(idx,L1,u1,PX,kY,eO,l,f,o)=>[As.os RR.key 41 2 l f o (L1.map fun j:Nat=>aI aa (j:Int)),As.map Key.val D.m eO,As.map Key.val X PX]) (I:=fun(idx,L1,u1,PX,kY,eO,l,f,o)=>(idx≤L1.length)∧(dw aa x.ab i0 L1 u1)∧(kX aa x.ab L1 u1 eO)∧(mK aa L1 u1 PX)∧(aV aa x.ab eO)∧(fW ml eO)∧(oH aa L1 u1≤oH aa L u∧(kY=true→oH aa L1 u1<oH aa L u))∧(kY=false→∀m j,m<idx→L1[m]?=some j→n9 aa x.ab L1 u1 j)∧True) (μ:=fun(idx,L1,u1,PX,kY,eO,l,f,o)=>aa.length - idx) (0,L,u,am,false,Y,l,f,o) (hh.p2.p2.p2) Sub.t (⟨by omega,AW,j8,L5,Ih,Fx,⟨Nat.le_refl _,(fun h=>by cases h)⟩,fun _ m j h=>by omega,trivial⟩)<|?_;rintro⟨idx,L1,u1,PX,kY,eO,l,f,o⟩ w6 iI ⟨SY,Ii,ov,zL,AV,vx,Ij,vG,_⟩;simp only [CA,NA] at iI SY Ii ov zL AV vx Ij vG ⊢;have ru:=((As.gs iI.g0)).len;rw [List.length_map] at ru;have hL1:=Ii.len;refine(aS) (fun g27=>?_) fun g27=>?_
  ·
   simp at g27
   have N:idx<L1.length:=by omega
   obtain⟨j,CD⟩:∃j,L1[idx]=j:=⟨_,rfl⟩
   have ts:L1[idx]?=some j:=by rw [ak N,CD]
   have sy:j∈L1:=CD ▸ List.getElem_mem N;obtain⟨g,Ik⟩:=Ii.ring j sy
   have tJ:j≤99:=by omega
   have hja:=nj i g;rw [eI g] at hja;have iF:=iI.dp RR.str 9 1;refine i7 ?_;obtain⟨t,Oc⟩:∃t,aH aa (aI aa (j:Int)) []=t:=⟨_,rfl⟩
   have YD:(L1.map fun j:Nat=>aI aa (j:Int))[idx]?=some (aI aa (j:Int)):=by rw [List.getElem?_map,ts];rfl
   obtain⟨gJ,cR⟩:=Ow.addr (As.gs iF.g1) YD;have wQ:=iF.bQ;have Cy:=iF.jG;have Cz:=iF.size;refine WC.dD (m:=11) (E:=cF [(9,fun v _=>v=t.val),(10,PB w6.heap.size 140 [.bool false,.string ⟨#[]⟩,.int .i64 0,.string ⟨#[]⟩])]) iF (bj (⟨fun _ _ _ _ _ _ _ h=>h,⟨fun _ _ _ _ _ _ c h=>PB.st wQ c h,trivial⟩⟩)) mixed (by kernel_rfl)<|(iD) jy St.g6<|bO ?_;refine DP .r (fun _ d=>PV.dV ey cR rfl rfl (by omega))<|DP .r (fun _ d=>VA ao (Ow.jD (As.gs d.2.g1) (by rw [List.length_map];omega) cR YD) .r)<|nx ?_;refine DW.c1 (fun wx d hF=>fy (k:=(aI aa (j:Int))) (SD.ht (As.gf d.2.g5)) (SD.hu (As.gf d.2.g5)) (Ow.rd (As.gs d.2.g0) (by simp)) i.hb (gg g tJ)) (by rw [Oc])<|?_;refine DW.e rfl rfl rfl rfl rfl (fun wx d hF=>OX.alloc oM rfl fun b wy nw hb=>⟨⟨Nat.le_trans d.1 nw.ext.size,d.2.step nw.ext⟩,nw.ext.p0,_,rfl,_,rfl,Nat.le_trans d.1 nw.ge,hb⟩)<|?_;rintro _ wz _ ⟨b9,rfl,_,_⟩;refine(cS) ?_;rintro w7 ⟨yp,eE⟩ ⟨zM,⟨_,_⟩⟩;have di:=eE.tt zM wQ Cy Cz;refine(cI) gB di fun w8 ry mu cX=>?_;refine ck ?_;refine WC.bm (σ:=Nat × yK × (List Nat) × (List (Key × Value)) × Bool × (List (Key × Value)) × (List ByteArray) × (Option Addr) × Nat × Nat × (Option Addr) × Nat × Nat) (dn:=fun(n,t,L2,kj,l5,iR,acc,l,f,o,yq,oP,yr)=>[(0,.pointer (some ⟨D.s,0,none⟩)),(4,.map (some X)),(5,.slice l f o),(6,.bool l5),(7,.int .i64 (idx:Int)),(8,.slice yq oP yr),(9,.pointer (some ⟨b9,0,none⟩))]) (F:=fun(n,t,L2,kj,l5,iR,acc,l,f,o,yq,oP,yr)=>[As.os RR.key 41 2 l f o (L2.map fun j:Nat=>aI aa (j:Int)),As.os RR.str 9 1 yq oP yr (acc),As.map Key.val D.m iR,As.map Key.val X kj,As.blk b9 140 [.bool t.done,.string t.value,.int .i64 t.ask.kind,.string t.ask.text]]) (I:=fun(n,t,L2,kj,l5,iR,acc,l,f,o,yq,oP,yr)=>(n≤aa[j].asks.length)∧(dw aa x.ab i0 L2 u1)∧(kX aa x.ab L2 u1 iR)∧(mK aa L2 u1 kj)∧(aV aa x.ab iR)∧(fW eO iR)∧(oH aa L2 u1≤oH aa L1 u1∧(l5=true→kY=true∨oH aa L2 u1<oH aa L1 u1))∧(l5=false→L2=L1∧kY=false)∧(L1 <+: L2)∧(Ev aa x.ab u1 L2 eO iR aa[j].asks n acc)∧(cy aa (aI aa (j:Int)) acc=t)∧True) (μ:=fun(n,t,L2,kj,l5,iR,acc,l,f,o,yq,oP,yr)=>aa[j].asks.length - n) (0,t,L1,PX,kY,eO,[],l,f,o,none,0,0) (cX.p4.p4.p3.p4) Sub.t (⟨by omega,Ii,ov,zL,AV,fW.refl _,⟨Nat.le_refl _,fun h=>.inl h⟩,fun h=>⟨rfl,h⟩,List.prefix_refl _,Ev.start,by rw [← Oc,eY g tJ],trivial⟩)<|?_;rintro⟨n,t,L2,kj,l5,iR,acc,l,f,o,yq,oP,yr⟩ w9 dm ⟨hn,C,py,S,Il,tK,wB,YE,y,IW,ht,_⟩;simp only [CA,NA] at dm hn C py S Il tK wB YE y IW ht ⊢;have Fy:=((As.gs dm.g0)).len;rw [List.length_map] at Fy;have Pb:=((As.gs dm.g1)).len;have hL2:=C.len;have yo:=IW.len;have anI:=y.length_le;have SZ:oH aa L2 u1≤oH aa L u∧(l5=true→oH aa L2 u1<oH aa L u):=⟨by omega,fun h=>by rcases wB.2 h with h1 | h1;have:=Ij.2 h1;omega;omega⟩;refine(aZ) dA dm.b4<|(aS) (fun Im=>?_) fun Im=>?_
   ·
    simp at Im
    have Mz:n<aa[j].asks.length:=by
     rcases Nat.lt_or_ge n aa[j].asks.length with h | h
     ·
      exact h
     have h1:=gN i g (ae:=acc) (by rw [eI g];omega);rw [ht] at h1;rw [h1] at Im;cases Im
    obtain⟨a,Fl,DS,Yp⟩:=ef i g (ae:=acc) (by rw [eI g];omega);obtain⟨xq,hxq,hax⟩:=Yp Ik;rw [yo,ak Mz] at hxq
    simp at hxq
    rw [ht] at Fl
    have IM:t.ask=a:=by rw [Fl]
    have L6:bS aa aa[j].asks[n]=t.ask:=by rw [IM,hax,hxq]
    have oY:aa[j].asks[n]∈aa[j].asks:=List.getElem_mem Mz;have Oe:=Ii.reach j sy;refine ck ?_;have YB:=dm.bQ;refine WC.dS (m:=11) dm mixed<|(iD) gF St.g7<|(tv) ao St.g4<|?_;refine DP .r (fun _ d=>PV.rC db dU mc (As.gm d.2.g2) rfl rfl)<|(cS) ?_;rintro iP ⟨CB,cW⟩ _;refine(aS) (fun YF=>?_) fun YF=>?_
    ·
     obtain⟨vv,SQ⟩:=Option.isSome_iff_exists.1 YF;have SS:=Il _ vv SQ;obtain⟨sv,O⟩:∃s,s=valOf aa x.ab t.ask:=⟨_,rfl⟩
     have Fz:=IW.snoc sv (fun _ _=>by rw [L6];exact O) (fun h P k hk=>.inl (by
      obtain⟨DR,GL,IP⟩:=jc i g Ik oY P hk;rw [L6] at IP;rw [IP] at SQ O;exact⟨by rw [O,gV i DR,iu i DR GL],by rw [SQ];rfl⟩))
     refine WC.eqv (t:=10) (v':=.string sv) rfl (by rw [SQ,SS,O];rfl)<|eD ?_;refine WL.go rfl (OX.aP (us:=[.string sv]) jq rfl rfl rfl rfl fun b90 iW FB FC=>?_);have K:=cW.cZ FB FC;refine WL.ap rfl rfl K.p2 (SR.dc (A:=fun _=>True) (x:=sv) (As.gb K.g0) trivial rfl (by simp [Value.oneCell']) rfl) fun a91 FD lB S0 S1 G=>?_;refine cm ?_;obtain⟨t2,U⟩:∃t,aH aa (aI aa (j:Int)) (acc++[sv])=t:=⟨_,rfl⟩
     have V:∀H:List Nat,L1 <+: H→(H.map fun j:Nat=>aI aa (j:Int))[idx]?=some (aI aa (j:Int)):=fun H h=>by
      rw [List.getElem?_map]
      have:=h.getElem N
      obtain⟨q,rfl⟩:=h;rw [List.getElem?_append_left N,ts];rfl
     obtain⟨tH,W⟩:=Ow.addr (As.gs G.g2) (V _ (by first | exact y | exact y.trans (List.prefix_append _ _)));have S2:=G.bQ;refine WC.dS (m:=9) G mixed<|(iD) jy St.g8<|bO ?_;refine DP .r (fun _ d=>PV.dV ey W rfl rfl (by omega))<|DP .r (fun _ d=>VA ao (Ow.jD (As.gs d.2.g2) (by simp only [List.length_map,List.length_append,List.length_cons,List.length_nil];omega) W (V _ (by first | exact y | exact y.trans (List.prefix_append _ _)))) .r)<|(cS) ?_;rintro oh ⟨KY,Q⟩ _;refine WL.c1 (u:=t2.val) (fy (k:=(aI aa (j:Int))) (SD.ht (As.gf Q.g7)) (SD.hu (As.gf Q.g7)) (Ow.rd (As.gs Q.g0) (by simp;omega)) i.hb (gg g tJ)) (by rw [U]) Q fun sg s14 T=>?_;refine(cI) gB T.p5 fun pR zH tR dH=>?_;refine bO ?_;refine ez (n+1,t2,L2,kj,l5,iR,_,l,f,o,a91,(oP+1),FD) ⟨dH.p2.drop.p4.p4.p3.p4,⟨by omega,C,py,S,Il,tK,wB,YE,y,Fz,by rw [← U,eY g tJ],trivial⟩⟩
    have YF:bE iR t.ask=none:=by simpa using YF
    refine(ia) ao cW.b4<|(eV) (df (k:=t.ask)) cW fun iW s11 K=>?_;refine(aS) (fun S3=>?_) fun S3=>?_
    ·
     simp at S3
     refine(ia) ao K.b4<|?_;have G:=K.p2.p7;refine(bY) KD (hv j t.ask Oe (by rw [IM];exact DS) S3 _ _ _ _ G.e2 (As.gf G.g7) Il) ?_;rintro _ lB ⟨ME,rfl,hm4,KZ,kR⟩;have Q:=St.lr G kR;refine bO ?_;obtain⟨sv,O⟩:∃s,s=valOf aa x.ab t.ask:=⟨_,rfl⟩
     have Fz:=(IW.mono (fun _ h=>h) KZ).snoc sv (fun _ _=>by rw [L6];exact O) (fun h P k hk=>by
      obtain⟨DR,GL,IP⟩:=jc i g Ik oY P hk;rw [L6] at IP;rw [IP,bz DR (by omega),GL] at S3;cases S3)
     refine EX.eqv (t:=10) (v':=.string sv) rfl (by rw [O])<|fH ?_;refine WL.go rfl (OX.aP (us:=[.string sv]) jq rfl rfl rfl rfl fun b90 oh FB FC=>?_);have T:=Q.cZ FB FC;refine WL.ap rfl rfl T.p4 (SR.dc (A:=fun _=>True) (x:=sv) (As.gb T.g0) trivial rfl (by simp [Value.oneCell']) rfl) fun a91 FD sg S0 S1 dH=>?_;refine cm ?_;obtain⟨t2,U⟩:∃t,aH aa (aI aa (j:Int)) (acc++[sv])=t:=⟨_,rfl⟩
     have V:∀H:List Nat,L1 <+: H→(H.map fun j:Nat=>aI aa (j:Int))[idx]?=some (aI aa (j:Int)):=fun H h=>by
      rw [List.getElem?_map]
      have:=h.getElem N
      obtain⟨q,rfl⟩:=h;rw [List.getElem?_append_left N,ts];rfl
     obtain⟨tH,W⟩:=Ow.addr (As.gs dH.g4) (V _ (by first | exact y | exact y.trans (List.prefix_append _ _)));have S2:=dH.bQ;refine WC.dS (m:=9) dH mixed<|(iD) jy St.g2<|bO ?_;refine DP .r (fun _ d=>PV.dV ey W rfl rfl (by omega))<|DP .r (fun _ d=>VA ao (Ow.jD (As.gs d.2.g4) (by simp only [List.length_map,List.length_append,List.length_cons,List.length_nil];omega) W (V _ (by first | exact y | exact y.trans (List.prefix_append _ _)))) .r)<|(cS) ?_;rintro pR ⟨KY,dI⟩ _;refine WL.c1 (u:=t2.val) (fy (k:=(aI aa (j:Int))) (SD.ht (As.gf dI.g8)) (SD.hu (As.gf dI.g8)) (Ow.rd (As.gs dI.g0) (by simp;omega)) i.hb (gg g tJ)) (by rw [U]) dI fun tL S4 fb=>?_;refine(cI) gB fb.p6 fun zN L7 L8 dN=>?_;refine bO ?_;refine ez (n+1,t2,L2,kj,l5,ME,_,l,f,o,a91,(oP+1),FD) ⟨dN.p2.drop.p7.p7.p2.p7.p6.p5.p7,⟨by omega,C,py.mono i C KZ,S,hm4,tK.trans KZ,wB,YE,y,Fz,by rw [← U,eY g tJ],trivial⟩⟩
    simp at S3
    have qf:outside aa aa[j].asks[n]=false:=by
     cases P:outside aa aa[j].asks[n]
     ·
      rfl
     have:=jb i g Ik oY P;rw [L6,S3] at this;cases this
    obtain⟨z,UZ,GK,CE⟩:=ik i g Ik oY qf;rw [L6] at GK;have IX:=UZ.lt.2.2.2
    have pJ:bE eO (aI aa (z:Int))=none:=by
     cases h:bE eO (aI aa (z:Int)) with
     | none=>rfl
     | some v=>have:=tK _ _ h;rw [← GK,YF] at this;cases this
    have Of:∀k:Nat,aa[j].asks[n].n=k→k=z:=fun k hk=>by
     obtain⟨DR,GL,IP⟩:=jc i g Ik oY qf hk;rw [L6,GK] at IP;exact(dY i CE DR IP).symm
    refine(ia) ao K.b4<|?_;refine WP .r (PV.rC db dU mc (As.gm K.g3) rfl rfl)<|?_;refine aW ?_;refine(aS) (fun Og=>?_) fun Og=>?_
    ·
     simp at Og
     have S5:z∉L2:=fun h=>by have:=S.1 z h;rw [← GK,Og] at this;cases this
     have hk0:=C.out z S5;have hre:cV aa i0 z:=.step (C.reach j (y.subset sy)) UZ;have aeR:=C.meet CE IX S5 hre;have AM:=C.Gu CE IX S5 hre;have Oh:=BE (v:=u1) (j:=z) AM;have S6:=S.meet i (fun k hk=>(C.ring k hk).1) CE S5 hk0;rw [← GK] at S6
     have Oi:pc t.ask=⟨#[48]⟩:=by rw [GK];exact sM CE (by omega) IX
     refine nx ?_;have anJ:=K.bQ;refine WC.dD (m:=6) (E:=cF [(5,fun v _=>v=.string ⟨#[48]⟩)]) K (bj (⟨fun _ _ _ _ _ _ _ h=>h,trivial⟩)) mixed (by kernel_rfl)<|(tv) ao St.g4<|(tv) ao St.g4<|?_;refine DW.c1 (fun wx d hF=>qH (k:=t.ask)) (by rw [Oi])<|(cS) ?_;rintro lB ⟨PY,G⟩ ⟨_,_⟩;refine WL.go rfl (OX.put db dU (As.gm G.g3) rfl rfl rfl fun oh S7 S8=>?_);have Q:=G.p3.jQ S7 S8;refine(ia) ao Q.b4<|?_;refine WL.go rfl (OX.aP (us:=t.ask.cells) dt rfl rfl rfl rfl fun b71 sg S9 Oj=>?_);have T:=Q.cZ S9 Oj;refine WL.ap rfl rfl T.p2 (SR.dc (A:=fun _=>True) (x:=t.ask) (As.gb T.g0) trivial rfl (by simp [Key.cells,Value.oneCell']) rfl) fun a72 aeS pR anL anM dH=>?_;refine cm ?_;have dI:=dH.VE (show(L2.map fun j:Nat=>aI aa (j:Int))++[t.ask]=(L2++[z]).map fun j:Nat=>aI aa (j:Int) by rw [List.map_append,GK];rfl);have vH:=S6.1 z (by simp);rw [← GK] at vH;have U0:∀s,s=itoa (u1 z:Int)→Ev aa x.ab u1 (L2++[z]) eO iR aa[j].asks (n+1) (acc++[s]):=fun s hs=>(IW.mono (fun _ h=>by simp [h]) (fW.refl _)).snoc s (fun h P=>by rw [qf] at P;cases P) (fun h P k hk=>by have:=Of k hk;subst this;exact .inr ⟨hs,by simp,pJ⟩);refine(ia) ao dI.b5<|?_;refine WP .r (PV.bH db dU mc (As.gm dI.g2) (vH) rfl rfl)<|bO ?_;obtain⟨sv,O⟩:∃s,s=itoa (u1 z:Int):=⟨_,rfl⟩;have Fz:=U0 sv O;refine EX.eqv (t:=10) (v':=.string sv) rfl (by rw [O])<|fH ?_;refine WL.go rfl (OX.aP (us:=[.string sv]) jq rfl rfl rfl rfl fun b90 tL FB FC=>?_);have fb:=dI.cZ FB FC;refine WL.ap rfl rfl fb.p4 (SR.dc (A:=fun _=>True) (x:=sv) (As.gb fb.g0) trivial rfl (by simp [Value.oneCell']) rfl) fun a91 FD zN S0 S1 dN=>?_;refine cm ?_;obtain⟨t2,U⟩:∃t,aH aa (aI aa (j:Int)) (acc++[sv])=t:=⟨_,rfl⟩
     have V:∀H:List Nat,L1 <+: H→(H.map fun j:Nat=>aI aa (j:Int))[idx]?=some (aI aa (j:Int)):=fun H h=>by
      rw [List.getElem?_map]
      have:=h.getElem N
      obtain⟨q,rfl⟩:=h;rw [List.getElem?_append_left N,ts];rfl
     obtain⟨tH,W⟩:=Ow.addr (As.gs dN.g2) (V _ (by first | exact y | exact y.trans (List.prefix_append _ _)));have S2:=dN.bQ;refine WC.dS (m:=9) dN mixed<|(iD) jy St.g9<|bO ?_;refine DP .r (fun _ d=>PV.dV ey W rfl rfl (by omega))<|DP .r (fun _ d=>VA ao (Ow.jD (As.gs d.2.g2) (by simp only [List.length_map,List.length_append,List.length_cons,List.length_nil];omega) W (V _ (by first | exact y | exact y.trans (List.prefix_append _ _)))) .r)<|(cS) ?_;rintro yt ⟨KY,eN⟩ _;refine WL.c1 (u:=t2.val) (fy (k:=(aI aa (j:Int))) (SD.ht (As.gf eN.g8)) (SD.hu (As.gf eN.g8)) (Ow.rd (As.gs eN.g0) (by simp;omega)) i.hb (gg g tJ)) (by rw [U]) eN fun FE s19 fh=>?_;refine(cI) gB fh.p6 fun Io PZ P0 dQ=>?_;refine bO ?_;refine ez (n+1,t2,L2++[z],_,true,iR,_,a72,(f+1),aeS,a91,(oP+1),FD) ⟨dQ.p2.drop.p3.drop.p3.p4.p3.p4,⟨by omega,aeR,py.meet hk0,S6,Il,tK,⟨Nat.le_of_lt (Nat.lt_of_lt_of_le Oh wB.1),fun _=>.inr (Nat.lt_of_lt_of_le Oh wB.1)⟩,(fun h=>by cases h),y.trans (List.prefix_append _ _),Fz,by rw [← U,eY g tJ],trivial⟩⟩
    simp at Og
    have S5:z∈L2:=by
     by_cases h:z∈L2
     ·
      exact h
     have:=S.2 (aI aa (z:Int)) (fun k hk e=>h (by have:=dY i CE (C.ring k hk).1 e;rw [this];exact hk));rw [← GK] at this;rw [this] at Og;cases Og
    have vH:=S.1 z S5;rw [← GK] at vH;have U0:∀s,s=itoa (u1 z:Int)→Ev aa x.ab u1 L2 eO iR aa[j].asks (n+1) (acc++[s]):=fun s hs=>IW.snoc s (fun h P=>by rw [qf] at P;cases P) (fun h P k hk=>by have:=Of k hk;subst this;exact .inr ⟨hs,S5,pJ⟩);refine(ia) ao K.b4<|?_;refine WP .r (PV.bH db dU mc (As.gm K.g3) (vH) rfl rfl)<|bO ?_;obtain⟨sv,O⟩:∃s,s=itoa (u1 z:Int):=⟨_,rfl⟩;have Fz:=U0 sv O;refine EX.eqv (t:=10) (v':=.string sv) rfl (by rw [O])<|fH ?_;refine WL.go rfl (OX.aP (us:=[.string sv]) jq rfl rfl rfl rfl fun b90 lB FB FC=>?_);have G:=K.cZ FB FC;refine WL.ap rfl rfl G.p2 (SR.dc (A:=fun _=>True) (x:=sv) (As.gb G.g0) trivial rfl (by simp [Value.oneCell']) rfl) fun a91 FD oh S0 S1 Q=>?_;refine cm ?_;obtain⟨t2,U⟩:∃t,aH aa (aI aa (j:Int)) (acc++[sv])=t:=⟨_,rfl⟩
    have V:∀H:List Nat,L1 <+: H→(H.map fun j:Nat=>aI aa (j:Int))[idx]?=some (aI aa (j:Int)):=fun H h=>by
     rw [List.getElem?_map]
     have:=h.getElem N
     obtain⟨q,rfl⟩:=h;rw [List.getElem?_append_left N,ts];rfl
    obtain⟨tH,W⟩:=Ow.addr (As.gs Q.g2) (V _ (by first | exact y | exact y.trans (List.prefix_append _ _)));have S2:=Q.bQ;refine WC.dS (m:=9) Q mixed<|(iD) jy St.g8<|bO ?_;refine DP .r (fun _ d=>PV.dV ey W rfl rfl (by omega))<|DP .r (fun _ d=>VA ao (Ow.jD (As.gs d.2.g2) (by simp only [List.length_map,List.length_append,List.length_cons,List.length_nil];omega) W (V _ (by first | exact y | exact y.trans (List.prefix_append _ _)))) .r)<|(cS) ?_;rintro sg ⟨KY,T⟩ _;refine WL.c1 (u:=t2.val) (fy (k:=(aI aa (j:Int))) (SD.ht (As.gf T.g7)) (SD.hu (As.gf T.g7)) (Ow.rd (As.gs T.g0) (by simp;omega)) i.hb (gg g tJ)) (by rw [U]) T fun pR s15 dH=>?_;refine(cI) gB dH.p5 fun tL Ta Tb dI=>?_;refine bO ?_;refine ez (n+1,t2,L2,kj,l5,iR,_,l,f,o,a91,(oP+1),FD) ⟨dI.p2.drop.p4.p4.p3.p4,⟨by omega,C,py,S,Il,tK,wB,YE,y,Fz,by rw [← U,eY g tJ],trivial⟩⟩
   simp at Im
   have Mz:n=aa[j].asks.length:=by
    rcases Nat.lt_or_ge n aa[j].asks.length with h | h
    ·
     obtain⟨a,h1,_⟩:=ef i g (ae:=acc) (by rw [eI g];omega);rw [ht] at h1;rw [h1] at Im;cases Im
    omega
   subst Mz;obtain⟨FH,Ol,Tc,U1,Om⟩:=IW.val i C g Ik;have Ma:eX (u1 j) (fc aa[j].c.toNat (acc.map cG)):=fun b hb=>Tc b (ov j sy b hb);obtain⟨val,vI⟩:∃v,fc aa[j].c.toNat (acc.map cG)=v:=⟨_,rfl⟩;rw [vI] at FH Ol Ma U1 Om
   have htv:t.value=itoa (val:Int):=by
    have h1:=gN i g (ae:=acc) (by rw [eI g];omega);rw [ht] at h1;rw [h1,(uB i g Ik).1,← vI];rfl
   have FJ:j∈L2:=y.subset sy;have P1:=y.length_le
   have Td:L2[idx]?=some j:=by obtain⟨q,rfl⟩:=y;rw [List.getElem?_append_left N];exact ts
   have On:(L2.map fun j:Nat=>aI aa (j:Int))[idx]?=some (aI aa (j:Int)):=by rw [List.getElem?_map,Td];rfl
   refine fH ?_;obtain⟨Ip,kz⟩:=Ow.addr (As.gs dm.g0) On;have anN:=dm.bQ;refine WC.dS (m:=8) dm mixed<|cm ?_;refine DP .r (fun _ d=>PV.dV ey kz rfl rfl (by omega))<|DP .r (fun _ d=>VA ao (Ow.jD (As.gs d.2.g0) (by rw [List.length_map];omega) kz On) .r)<|DP .r (fun _ d=>PV.bH db dU mc (As.gm d.2.g3) (S.1 j FJ) rfl rfl)<|(iD) e7 St.g4<|(cS)<|?_;rintro iP ⟨aj1,cW⟩ _;refine(aS) (fun ox=>?_) fun ox=>?_
   ·
    simp at ox
    rw [htv] at ox;have DJ:u1 j≠val:=fun e=>ox (by rw [e]);have YG:=Gv C FJ FH Ma DJ;obtain⟨YH,tg⟩:=Ow.addr (As.gs cW.g0) On;have anO:=cW.bQ;refine WC.dD (m:=9) (E:=cF [(7,fun v w'=>∃vv st,v=.tuple #[vv,.int .i64 ((st:Nat):Int)]∧KE Key.val w' X kj (aI aa (j:Int)) st)]) cW (lF (⟨⟨trivial,trivial⟩,trivial⟩)) mixed (by kernel_rfl)<|cm ?_;refine DP .r (fun _ d=>PV.dV ey tg rfl rfl (by omega))<|DP .r (fun _ d=>VA ao (Ow.jD (As.gs d.2.g0) (by rw [List.length_map];omega) tg On) .r)<|(iD) e7 St.g4<|?_;refine DW.e rfl rfl rfl rfl rfl (fun wx d hF=>OX.QG db dU mc (As.gm d.2.g3) rfl rfl rfl fun wy st vv sx hsz Oo=>?_)<|?_
    ·
     have hg:=S.1 j FJ;rw [hg] at Oo;rw [Option.getD_some,xI hg] at Oo;exact⟨⟨Nat.le_trans d.1 sx.size,d.2.same (A:=As.map Key.val X kj) (by simp) (sx.p.mono fun x _ hx=>by simpa [As.map] using hx) Oo.km⟩,sx.p.mono (fun x _ hx=>Gp (A:=As.map Key.val X kj) (by simp) (by simpa [As.map] using hx)),_,rfl,_,_,rfl,Oo⟩
    rintro _ wz _ ⟨aeU,fh,rfl,_⟩;refine(cS) ?_;rintro iW ⟨aj2,K⟩ ⟨SU,_⟩;obtain⟨_,_,K2,CH⟩:=SU;simp only [Value.tuple.injEq,Array.mk.injEq,List.cons.injEq,Value.int.injEq,true_and,and_true] at K2;have Te:=Int.natCast_inj.1 K2.2;rw [← Te] at CH;refine WL.go rfl (OX.D7 CH rfl rfl rfl fun lB Tf _ Tg=>?_);have G:=K.p3.jQ Tf Tg;rw [htv] at G;refine kU ?_;refine ez (idx+1,L2,lZ u1 j val,cM kj (aI aa (j:Int)) (.string (itoa (val:Int))),true,iR,l,f,o) ⟨G.p2.drop.p3.drop.p2.p2,⟨Nat.le_trans N P1,C.set FJ FH Ol,py.set i C FJ FH Ol Ma U1,S.set i (fun k hk=>(C.ring k hk).1) FJ val,Il,vx.trans tK,⟨Nat.le_of_lt (Nat.lt_of_lt_of_le YG SZ.1),fun _=>Nat.lt_of_lt_of_le YG SZ.1⟩,(fun h=>by cases h),trivial⟩⟩
   simp at ox
   rw [htv] at ox;have ox:u1 j=val:=BA (by have:=C.le j;omega) (by omega) ox;refine gK ?_
   refine ez (idx+1,L2,u1,kj,l5,iR,l,f,o) ⟨cW.p1.drop.p3.drop,⟨Nat.le_trans N P1,C,py,S,Il,vx.trans tK,SZ,fun h m k hm hk=>by
      obtain⟨e1,e2⟩:=YE h;subst e1
      by_cases e:m=idx
      ·
       subst e;rw [ts] at hk
       simp at hk;subst hk
       exact Om (ox ▸ rfl)
      exact vG e2 m k (by omega) hk,trivial⟩⟩
  simp at g27
  refine dd ?_;refine EX.again (L1,u1,PX,kY,eO,l,f,o) Sub.t ⟨iI,⟨Ii,ov,zL,AV,vx,fun h j hj=>by obtain⟨m,hm,rfl⟩:=List.mem_iff_getElem.1 (show j∈L1 from hj);exact vG h m _ (by omega) (ak hm),trivial⟩⟩ (by simp only [];cases kY <;> simp at Ij ⊢ <;> omega)
 have g23:ch=false:=g23;have JJ:=pP g23;have K3:=AW.done i JJ;refine fH ?_;have aeV:=((As.gs hh.g0)).len;rw [List.length_map] at aeV;have hL7:=AW.len;refine eD ?_;refine WC.bm (σ:=Nat × (List (Key × Value))) (dn:=fun(J,Oq)=>[(0,.pointer (some ⟨D.s,0,none⟩)),(4,.map (some X)),(120,.slice l f o),(121,.int .i64 (f:Int)),(122,.int .i64 (J:Int))]) (F:=fun(J,Oq)=>[As.map Key.val D.m Oq]) (I:=fun(J,Oq)=>(J≤L.length)∧(aV aa x.ab Oq)∧(fW ml Oq)∧(∀m j,m<J→L[m]?=some j→bE Oq (aI aa (j:Int))=some (.string (valOf aa x.ab (aI aa (j:Int)))))∧True) (μ:=fun(J,Oq)=>L.length - J) (0,Y) (hh.p1) Sub.t (⟨by omega,Ih,Fx,fun m j h=>by omega,trivial⟩)<|?_;rintro⟨J,Oq⟩ w6 iI ⟨hi7,hm7,Th,hd7,_⟩;simp only [CA,NA] at iI hi7 hm7 Th hd7 ⊢;refine(aS) (fun FK=>?_) fun FK=>?_
 ·
  simp at FK
  have YI:J<L.length:=by omega
  obtain⟨j,CD⟩:∃j,L[J]=j:=⟨_,rfl⟩
  have ts:L[J]?=some j:=by rw [ak YI,CD]
  have sy:j∈L:=CD ▸ List.getElem_mem YI;obtain⟨g,Ik⟩:=AW.ring j sy;have YJ:=L5.1 j sy;rw [K3 j sy,← iu i g Ik,← gV i g] at YJ;refine dd ?_
  have hx7:(L.map fun j:Nat=>aI aa (j:Int))[J]?=some (aI aa (j:Int)):=by rw [List.getElem?_map,ts];rfl
  obtain⟨anQ,P2⟩:=Ow.addr (As.gs iI.g1) hx7;refine nx ?_;refine WP .r (PV.dV ey P2 rfl rfl (by omega))<|(aX) ao (Ow.jD (As.gs iI.g1) (by rw [List.length_map];omega) P2 hx7)<|(eT) iI fun b15 w7 aeX aeY iF=>?_;refine(cI) gR iF fun w8 YK YL eE=>?_;refine bO ?_;have anR:=eE.bQ;refine WC.dS (m:=8) eE mixed<|(iD) gF St.g6<|(gU) ao St.g0<|(gU) ao St.g0<|?_;refine DP .r (fun _ d=>PV.bH db dU mc (As.gm d.2.g3) (YJ) rfl rfl)<|(cS)<|?_;rintro w9 ⟨aj4,di⟩ _;refine WL.go rfl (OX.put db dU (As.gm di.g1) rfl rfl rfl fun iP aeZ ae0=>?_);have cX:=di.p1.jQ aeZ ae0;refine eD ?_
  refine ez (J+1,_) ⟨cX.p1.drop,⟨by omega,hm7.put _,Th.trans (fW.put hm7 _),fun m k hm hk=>by
     rw [ee]
     split
     ·
      rename_i e;rw [e]
     rename_i e
     refine hd7 m k ?_ hk
     rcases Nat.lt_or_ge m J with h | h
     ·
      exact h
     have:m=J:=by omega
     subst this;rw [ts] at hk;simp at hk;subst hk;exact absurd rfl e,trivial⟩⟩
 simp at FK
 obtain⟨mm,Mb,Ti⟩:=List.mem_iff_getElem.1 AW.first;have Iq:=hd7 mm i0 (by omega) (by rw [ak Mb,Ti]);refine ck ?_;refine EX.mT (.inr rfl) rfl<|?_;exact⟨Oq,rfl,hm7,Th,Iq,iI.p5.k2⟩
theorem K4(f:aq aa):∀i,i<aa.length→Ie aa x D (aI aa (i:Int)):=by
 intro i
 induction i using Nat.strongRecOn with
 | _ i l=>
  intro hi;have t:=f.len
  have q:∀a,ax a=false→(ay a=true∨∃m,m<i∧m<aa.length∧a=aI aa (m:Int))→Ie aa x D a:=fun a _ b w M Z ml h1 c d=>by
   rcases b with b | ⟨m,hm,g,rfl⟩
   ·
    exact lq h1 c d b
   exact l m hm g w M Z ml h1 c d
  have o:∀a,(ay a=true∨∃m,m<i∧m<aa.length∧a=aI aa (m:Int))→Ie aa x D a:=fun a b w M Z ml h1 c d=>by
   rcases b with b | ⟨m,hm,g,rfl⟩
   ·
    exact lq h1 c d b
   exact l m hm g w M Z ml h1 c d
  intro w M Z ml h1 c d;refine zJ h1 c d f hi (fun hc w M Z ml h1 c d=>?_) fun a b hc=>o a ?_
  ·
   rw [bz hi (by omega)] at hc;refine CC h1 c d f hi hc fun j a p r h=>q a h ?_;have s:=ja hi hc p;have o:=ki f p;have hle:=gj aa i
   rcases r with⟨n,e,rfl⟩ | ⟨m,e,rfl,_,_,_,k⟩
   ·
    exact .inl (bd (by omega))
   rw [bz e (by omega)] at h;exact .inr ⟨m,by have:=k h s.2;omega,e,rfl⟩
  rw [bz hi (by omega)] at hc
  rcases b with⟨n,e,rfl⟩ | ⟨m,e,rfl,_,k,_⟩
  ·
   exact .inl (bd (by omega))
  exact .inr ⟨m,k hc,e,rfl⟩
theorem yu(a:aq aa) {k:Key}(hk:eA aa k):Ie aa x D k:=by
 cases hk with
 | cell h=>exact fun w M Z ml h1 b c=>lq h1 b c (bd h)
 | eG h _=>exact K4 a _ h
end Go.Rc

