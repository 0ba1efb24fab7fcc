/- Walks over the program, part WI. Conditions: as each theorem says. -/
import Derived.Test.YtmpkegmkoclbhaaGreatDoorDFacts
import Derived.Test.YtmpkegmkoclbhaaGreatDoorDWH
import Derived.Test.YtmpkegmkoclbhaaGreatDoorDBe
set_option linter.all false
namespace Go.Rc
open Go Go.Proofs Go.Proofs.Tryz
variable {x:bZ}{w:World}{M Z:Nat→Prop}{aa:List aH}{D:SD}{ml:List (Key × Value)}
set_option maxHeartbeats 400000
theorem vx{ar a1 a2:Option Addr}{r cr n1 c1 n2 c2:Nat}(a:St w M Z w []):Calls prog 84 #[.slice ar r cr,.agg (x.row a1 n1 c1 a2 n2 c2).toArray] w fun e w'=>∃s m q,e=.returned (.pointer (some ⟨s,0,none⟩))∧St w M Z w' [As.blk s 176 (SD.cells ⟨ar,a1,a2,r,cr,n1,c1,n2,c2,m,q,s⟩ x),As.map Key.val m [],As.map Key.val q []]:=by
 refine enter func84 rfl ntmps84 rfl<|?_;have aQ:=a;refine(dy) aQ fun b3 w1 g h st1=>?_;refine(aZ) aO st1.b0<|?_;refine WL.mm Key.val st1 fun b w2 i j st2=>?_;refine WL.mm Key.val st2 fun c w3 k l d=>?_;refine WP .r (PV.bB (us:=(SD.cells ⟨ar,a1,a2,r,cr,n1,c1,n2,c2,b,c,0⟩ x)) Wx rfl rfl rfl)<|(dy) d fun n w4 o p f=>?_;refine(bz) ?_;exact⟨_,_,_,rfl,f.p3.drop.p2.p1⟩
def H8(aa:List aH) (x:bZ) (D:SD) (k:Key):Prop:=∀(w:World) (M Z:Nat→Prop) (ml:List (Key × Value)),St w M Z w [As.blk D.s 176 (D.cells x),As.map Key.val D.m ml]→(D.F prog aa x).p Z w→aU aa x.ab ml→
 Calls prog 220 #[.pointer (some ⟨D.s,0,none⟩),k.val] w fun e w'=>∃mT,e=.returned (.string (valOf aa x.ab k))∧aU aa x.ab mT∧gi ml mT∧St w M Z w' [As.blk D.s 176 (D.cells x),As.map Key.val D.m mT]
def aeu(aa:List aH) (x:bZ) (D:SD) (k:Key):Prop:=∀(w:World) (M Z:Nat→Prop) (ml:List (Key × Value)),St w M Z w [As.blk D.s 176 (D.cells x),As.map Key.val D.m ml]→(D.F prog aa x).p Z w→aU aa x.ab ml→
 Calls prog 252 #[.pointer (some ⟨D.s,0,none⟩),k.val] w fun e w'=>∃mT,e=.returned (.tuple #[])∧aU aa x.ab mT∧gi ml mT∧bF mT k=some (.string (valOf aa x.ab k))∧St w M Z w' [As.blk D.s 176 (D.cells x),As.map Key.val D.m mT]
theorem lj{k:Key}(d:St w M Z w [As.blk D.s 176 (D.cells x),As.map Key.val D.m ml]) (f:(D.F prog aa x).p Z w) (hm:aU aa x.ab ml) (hk:aw k=true):Calls prog 220 #[.pointer (some ⟨D.s,0,none⟩),k.val] w fun e w'=>∃a,e=.returned (.string (valOf aa x.ab k))∧aU aa x.ab a∧gi ml a∧St w M Z w' [As.blk D.s 176 (D.cells x),As.map Key.val D.m a]:=by
 refine enter func220 rfl ntmps220 rfl<|?_;have aQ:=d;have st1:=aQ.fact (B:=As.fz (D.F prog aa x)) f (fun _ g=>g);refine(dy) st1 fun b3 w1 i j st2=>?_;refine(aZ) ao st2.b0<|(eP) (ew (k:=k)) st2 fun w2 s2 c=>?_;refine(aS) (fun g10=>?_) fun g10=>?_
 ·
  refine nx ?_;have l:=c.bN;refine WC.dS (m:=5) c mixed<|(tn) aO St.g2<|(gN) ao St.g0<|(cQ)<|?_;rintro w3 ⟨n,b⟩ _;refine(eP) (rW (k:=k) (SD.hi (As.gf b.g1)) (SD.hr (As.gf b.g1))) b fun w4 o h=>?_;refine(bz) ?_;exact⟨ml,by unfold valOf cellOf;rw [if_pos hk],hm,gi.refl _,h.drop.drop⟩
 rw [hk] at g10;cases g10
theorem zA{i:Nat}(gF:St w M Z w [As.blk D.s 176 (D.cells x),As.map Key.val D.m ml]) (hf:(D.F prog aa x).p Z w) (hm:aU aa x.ab ml) (g:aq aa) (hi:i<aa.length) (W:az (aM aa (i:Int))=true→aeu aa x D (aM aa (i:Int))) (X:∀a,eT aa i a→az (aM aa (i:Int))=false→H8 aa x D a):Calls prog 220 #[.pointer (some ⟨D.s,0,none⟩),(aM aa (i:Int)).val] w fun e w'=>∃O,e=.returned (.string (valOf aa x.ab (aM aa (i:Int))))∧aU aa x.ab O∧gi ml O∧St w M Z w' [As.blk D.s 176 (D.cells x),As.map Key.val D.m O]:=by
 have Ho:=g.len
 have jr:i≤99:=by omega
 obtain⟨k,hk⟩:∃k,aM aa (i:Int)=k:=⟨_,rfl⟩;have eK:=di hi jr;have ha6:=nk g hi;rw [hk] at eK W X ⊢;refine enter func220 rfl ntmps220 rfl<|?_;have aQ:=gF;have st1:=aQ.fact (B:=As.fz (D.F prog aa x)) hf (fun _ hx=>hx);refine(dy) st1 fun b3 w1 H6 wK st2=>?_;refine(aZ) ao st2.b0<|(eP) (ew (k:=k)) st2 fun w2 s2 Y=>?_;refine(aS) (fun g10=>?_) fun g10=>?_
 ·
  rw [eK] at g10;cases g10
 refine cy ?_;have DK:=Y.bN;refine WC.dS (m:=10) Y mixed<|(iv) gK St.g2<|(gN) ao St.g0<|?_;refine DP .r (fun _ d=>PV.qY cZ dY l9 (As.gm d.2.g3) rfl rfl)<|(cQ) ?_;rintro w3 ⟨pC,P⟩ _;refine(aS) (fun g26=>?_) fun g26=>?_
 ·
  obtain⟨vv,SG⟩:=Option.isSome_iff_exists.1 g26;have SH:=hm k vv SG;refine(bz) ?_;exact⟨ml,by rw [SG,SH];rfl,hm,gi.refl _,P.drop.drop⟩
 refine(aZ) ao P.b0<|(eP) (de (k:=k)) P fun w4 s4 Q=>?_;refine(aS) (fun R=>?_) fun R=>?_
 ·
  refine(aZ) ao Q.b0<|?_;have y:=Q.p3.p3;refine(bY) X2 (W R _ _ _ _ y.e2 (As.gf y.g3) hm) ?_;rintro _ w5 ⟨eQ,rfl,S,T,VQ,qA⟩;have f:=St.lr y qA;refine cq ?_;have PA:=f.bN;refine WC.dS (m:=5) f mixed<|(iv) gK St.g0<|(gN) ao St.g2<|(cQ)<|?_;rintro w6 ⟨mc,H⟩ _;refine WP .r (PV.look cZ dY l9 (As.gm H.g1) rfl rfl)<|(bz) ?_;exact⟨eQ,by rw [VQ];rfl,S,T,H.p2.drop.p2.drop⟩
 have y:=Q.dp RR.str 9 1;refine gV ?_;refine WC.br (σ:=Nat × (List (Key × Value)) × (List ByteArray) × (Option Addr) × Nat × Nat) (dn:=fun(n,j,acc,o,l,q)=>[(0,.pointer (some ⟨D.s,0,none⟩)),(3,.pointer (some ⟨b3,0,none⟩)),(7,.slice o l q)]) (F:=fun(n,j,acc,o,l,q)=>[As.os RR.str 9 1 o l q (acc),As.map Key.val D.m j]) (I:=fun(n,j,acc,o,l,q)=>(n≤cL aa i)∧(aU aa x.ab j)∧(gi ml j)∧(acc=(dW (cx aa k) (valOf aa x.ab) n).2)∧True) (μ:=fun(n,j,acc,o,l,q)=>cL aa i - n) (0,ml,[],none,0,0) (y.p4.p1) Sub.t (⟨by omega,hm,gi.refl _,rfl,trivial⟩)<|?_;rintro⟨n,j,acc,o,l,q⟩ w5 f ⟨hn,J,U,K,_⟩;simp only [CA,NA] at f hn J U K ⊢;have qT:=((As.gs f.g0)).len
 have yg:acc.length=n:=by rw [K];exact(gC _ _ n).2
 obtain⟨t,NW⟩:∃t,aG aa k acc=t:=⟨_,rfl⟩
 have z:cx aa k acc=t:=by rw [← NW,← hk,dX hi jr]
 refine bO ?_;have wM:=f.bN;have Cu:=f.jL;have Cv:=f.size;refine WC.dB (m:=8) (E:=cB [(6,fun v _=>v=t.val),(7,PB w5.heap.size 152 [.bool false,.string ⟨#[]⟩,.int .i64 0,.string ⟨#[]⟩])]) f (bm (⟨fun _ _ _ _ _ _ _ h=>h,⟨fun _ _ _ _ _ _ c h=>PB.st wM c h,trivial⟩⟩)) mixed (by kernel_rfl)<|(iv) jD St.g4<|(gN) ao St.g2<|nx ?_;refine DW.c1 (fun wx d hF=>fB (k:=k) (SD.ht (As.gf d.2.g3)) (SD.hu (As.gf d.2.g3)) (Ow.rd (As.gs d.2.g0) (by omega)) g.hb (hk ▸ gk hi jr)) (by rw [NW])<|?_;refine DW.e rfl rfl rfl rfl rfl (fun wx d hF=>OX.alloc oL rfl fun b wy L hb=>⟨⟨Nat.le_trans d.1 L.ext.size,d.2.step L.ext⟩,L.ext.p0,_,rfl,_,rfl,Nat.le_trans d.1 L.ge,hb⟩)<|?_;rintro _ wz _ ⟨b8,rfl,_,_⟩;refine(cQ) ?_;rintro w6 ⟨yh,H⟩ ⟨SI,⟨_,_⟩⟩;have iH:=H.tj SI wM Cu Cv;refine(cJ) gE iH fun w7 jU j3 C=>?_;refine(a7) dH C.b0<|(aS) (fun G=>?_) fun G=>?_
 ·
  have Mj:n=cL aa i:=by
   rcases Nat.lt_or_ge n (cL aa i) with h | h
   ·
    obtain⟨a,h1,_⟩:=et g hi (ae:=acc) (by omega);rw [hk,z] at h1;rw [h1] at G;cases G
   omega
  have V:t.value=valOf aa x.ab k:=by
   have h1:=fE (aD:=x.ab) g hi;rw [hk,← Mj,← K,z] at h1;rw [h1]
  refine nx ?_;have Yi:=C.bN;refine WC.dS (m:=7) C mixed<|(iv) gK St.g5<|(gN) ao St.g3<|(iv) fy St.g0<|(cQ)<|?_;rintro w8 ⟨G1,u⟩ _;refine WL.go rfl (OX.put cZ dY (As.gm u.g2) rfl rfl rfl fun w9 zB vy=>?_);have N:=u.p2.jW zB vy;refine(a7) fy N.b1<|(bz) ?_;exact⟨_,by rw [V],by rw [V];exact J.put k,by rw [V];exact U.trans (gi.put J k),N.p5.k2⟩
 have Mj:n<cL aa i:=by
  rcases Nat.lt_or_ge n (cL aa i) with h | h
  ·
   exact h
  have h1:=gD g hi (ae:=acc) (by omega);rw [hk,z] at h1;rw [h1] at G;cases G
 obtain⟨a,Fk,DI,_⟩:=et g hi (ae:=acc) (by omega);rw [hk,z] at Fk
 have IE:t.ask=a:=by rw [Fk]
 refine(hW) ao C.b0<|?_;have u:=C.p2.p5;refine(bY) GZ (X t.ask (by rw [IE];exact DI) R _ _ _ _ u.e2 (As.gf u.g5) J) ?_;rintro _ w8 ⟨eQ,rfl,S,T,kE⟩;have N:=St.lr u kE;refine WL.go rfl (OX.aR (us:=[.string (valOf aa x.ab t.ask)]) js rfl rfl rfl rfl fun b62 w9 aev aew=>?_);have dj:=N.da aev aew;refine WL.ap rfl rfl dj.p4 (SR.dc (A:=fun _=>True) (x:=valOf aa x.ab t.ask) (As.gb dj.g0) trivial rfl (by simp [Value.oneCell']) rfl) fun a63 aex iT anD anE cS=>?_;refine cq ?_;refine eB (n+1,eQ,acc++[valOf aa x.ab t.ask],a63,(l+1),aex) ⟨cS.p1.drop.p3.drop.p4.p4.p4.p3,⟨by omega,S,U.trans T,by simp only [dW];rw [← K,z],trivial⟩⟩
set_option maxHeartbeats 1600000 in
theorem Cw{i0:Nat}(gF:St w M Z w [As.blk D.s 176 (D.cells x),As.map Key.val D.m ml]) (hf:(D.F prog aa x).p Z w) (hm:aU aa x.ab ml) (i:aq aa) (hi:i0<aa.length) (LM:aF aa i0=true) (hv:∀j a,cU aa i0 j→eT aa j a→az a=false→H8 aa x D a):Calls prog 252 #[.pointer (some ⟨D.s,0,none⟩),(aM aa (i0:Int)).val] w fun e w'=>∃mT,e=.returned (.tuple #[])∧aU aa x.ab mT∧gi ml mT∧bF mT (aM aa (i0:Int))=some (.string (valOf aa x.ab (aM aa (i0:Int))))∧St w M Z w' [As.blk D.s 176 (D.cells x),As.map Key.val D.m mT]:=by
 have Ho:=i.len
 have jr:i0≤99:=by omega
 have SJ:=sB hi jr LM;refine enter func252 rfl ntmps252 rfl<|?_;have aQ:=gF;have st1:=aQ.fact (B:=As.fz (D.F prog aa x)) hf (fun _ hx=>hx);refine(dy) st1 fun b3 w1 H6 wK st2=>?_;refine cq ?_;have hN1:=st2.bN;have aey:=st2.jL;have aez:=st2.size;refine WC.dB (m:=4) (E:=cB [(0,PM Key.val w1.heap.size),(3,fun v _=>v=.string ⟨#[48]⟩)]) st2 (bm (⟨fun _ _ _ _ _ _ c h=>PM.st hN1 c h,⟨fun _ _ _ _ _ _ _ h=>h,trivial⟩⟩)) mixed (by kernel_rfl)<|?_;refine DW.e rfl rfl rfl rfl rfl (fun wx d hF=>OX.makeMap Key.val rfl fun b wy nw hb=>⟨⟨Nat.le_trans d.1 nw.ext.size,d.2.step nw.ext⟩,nw.ext.p0,_,rfl,_,rfl,Nat.le_trans d.1 nw.ge,hb⟩)<|?_;rintro _ wz _ ⟨X,rfl,_,_⟩;refine(gN) ao St.g0<|(gN) ao St.g0<|?_;refine DW.c1 (fun wx d hF=>qx (k:=(aM aa (i0:Int)))) (by rw [SJ])<|(cQ) ?_;rintro w2 ⟨rX,iW⟩ ⟨_,⟨hF0,_⟩⟩;have hU:=iW.ab1 hF0 hN1 aey aez;refine WL.go rfl (OX.ins cZ dY (As.gm hU.g0) rfl rfl rfl fun w3 KI Fu=>?_);have ja:=hU.jW KI Fu;refine(aZ) ao ja.b1<|?_;refine WL.go rfl (OX.aR (us:=(aM aa (i0:Int)).cells) dx rfl rfl rfl rfl fun b22 w4 H9 KJ=>?_);have hY:=St.pY (R:=RR.key) (E:=40) (k:=2) (a:=some ⟨b22,0,none⟩) (n:=1) (c:=1) (xs:=[(aM aa (i0:Int))]) ja H9.ext (OR.dc KJ (Nat.zero_le _) rfl (by simp [Key.cells,Value.oneCell']) rfl) (fun x hx=>by simp [aJ] at hx;subst hx;exact H9.ge);refine jM ?_;refine WC.br (σ:=(List Nat) × (Nat→Nat) × (List (Key × Value)) × Bool × (List (Key × Value)) × (Option Addr) × Nat × Nat) (dn:=fun(L,u,am,ch,Y,l,f,o)=>[(0,.pointer (some ⟨D.s,0,none⟩)),(4,.map (some X)),(5,.slice l f o),(6,.bool ch)]) (F:=fun(L,u,am,ch,Y,l,f,o)=>[As.os RR.key 40 2 l f o (L.map fun j:Nat=>aM aa (j:Int)),As.map Key.val D.m Y,As.map Key.val X am]) (I:=fun(L,u,am,ch,Y,l,f,o)=>(dt aa x.ab i0 L u)∧(kU aa x.ab L u Y)∧(mK aa L u am)∧(aU aa x.ab Y)∧(gi ml Y)∧(ch=false→∀j∈L,oc aa x.ab L u j)∧True) (μ:=fun(L,u,am,ch,Y,l,f,o)=>2*oF aa L u+(if ch then 1 else 0)) ([i0],fun _=>0,cM [] (aM aa (i0:Int)) (.string ⟨#[48]⟩),true,ml,(some ⟨b22,0,none⟩),1,1) (hY.p1.p5.p2) Sub.t (⟨dt.start hi LM,kU.start,⟨fun j hj=>by simp at hj;subst hj;rw [show itoa ((0:Nat):Int)=⟨#[48]⟩ by decide +kernel];simp [cM,bF],fun k hk=>by simp [cM,bF];intro e;exact hk i0 (by simp) e.symm⟩,hm,gi.refl _,(fun h=>by cases h),trivial⟩)<|?_;rintro⟨L,u,am,ch,Y,l,f,o⟩ w5 hh ⟨yW,wG,LN,Ia,Fv,oE,_⟩;simp only [CA,NA] at hh yW wG LN Ia Fv oE ⊢;refine(aS) (fun g23=>?_) fun g23=>?_
 ·
  have g23:ch=true:=g23;subst g23
  clear oE
  refine aY ?_;refine bO ?_;refine WC.br (σ:=Nat × (List Nat) × (Nat→Nat) × (List (Key × Value)) × Bool × (List (Key × Value)) × (Option Addr) × Nat × Nat) (dn:=fun(idx,L1,u1,PC,kV,eQ,l,f,o)=>[(0,.pointer (some ⟨D.s,0,none⟩)),(4,.map (some X)),(5,.slice l f o),(6,.bool kV),(7,.int .i64 (idx:Int))]) (F:=fun(idx,L1,u1,PC,kV,eQ,l,f,o)=>[As.os RR.key 40 2 l f o (L1.map fun j:Nat=>aM aa (j:Int)),As.map Key.val D.m eQ,As.map Key.val X PC]) (I:=fun(idx,L1,u1,PC,kV,eQ,l,f,o)=>(idx≤L1.length)∧(dt aa x.ab i0 L1 u1)∧(kU aa x.ab L1 u1 eQ)∧(mK aa L1 u1 PC)∧(aU aa x.ab eQ)∧(gi ml eQ)∧(oF aa L1 u1≤oF aa L u∧(kV=true→oF aa L1 u1<oF aa L u))∧(kV=false→∀m j,m<idx→L1[m]?=some j→oc aa x.ab L1 u1 j)∧True) (μ:=fun(idx,L1,u1,PC,kV,eQ,l,f,o)=>aa.length - idx) (0,L,u,am,false,Y,l,f,o) (hh.p2.p2.p2) Sub.t (⟨by omega,yW,wG,LN,Ia,Fv,⟨Nat.le_refl _,(fun h=>by cases h)⟩,fun _ m j h=>by omega,trivial⟩)<|?_;rintro⟨idx,L1,u1,PC,kV,eQ,l,f,o⟩ w6 iK ⟨SK,Ib,ou,zC,AK,vk,Ic,vz,_⟩;simp only [CA,NA] at iK SK Ib ou zC AK vk Ic vz ⊢;have qT:=((As.gs iK.g0)).len;rw [List.length_map] at qT;have hL1:=Ib.len;refine(aS) (fun g27=>?_) fun g27=>?_
  ·
   simp at g27
   have N:idx<L1.length:=by omega
   obtain⟨j,Cx⟩:∃j,L1[idx]=j:=⟨_,rfl⟩
   have ti:L1[idx]?=some j:=by rw [ak N,Cx]
   have sg:j∈L1:=Cx ▸ List.getElem_mem N;obtain⟨g,Ie⟩:=Ib.ring j sg
   have tz:j≤99:=by omega
   have hja:=nk i g;rw [dQ g] at hja;have iH:=iK.dp RR.str 9 1;refine jM ?_;obtain⟨t,NW⟩:∃t,aG aa (aM aa (j:Int)) []=t:=⟨_,rfl⟩
   have Yj:(L1.map fun j:Nat=>aM aa (j:Int))[idx]?=some (aM aa (j:Int)):=by rw [List.getElem?_map,ti];rfl
   obtain⟨gT,cW⟩:=Ow.addr (As.gs iH.g1) Yj;have wM:=iH.bN;have Cu:=iH.jL;have Cv:=iH.size;refine WC.dB (m:=11) (E:=cB [(9,fun v _=>v=t.val),(10,PB w6.heap.size 152 [.bool false,.string ⟨#[]⟩,.int .i64 0,.string ⟨#[]⟩])]) iH (bm (⟨fun _ _ _ _ _ _ _ h=>h,⟨fun _ _ _ _ _ _ c h=>PB.st wM c h,trivial⟩⟩)) mixed (by kernel_rfl)<|(iv) jD St.g6<|bO ?_;refine DP .r (fun _ d=>PV.dU eA cW rfl rfl (by omega))<|DP .r (fun _ d=>VA ao (Ow.jH (As.gs d.2.g1) (by rw [List.length_map];omega) cW Yj) .r)<|nx ?_;refine DW.c1 (fun wx d hF=>fB (k:=(aM aa (j:Int))) (SD.ht (As.gf d.2.g5)) (SD.hu (As.gf d.2.g5)) (Ow.rd (As.gs d.2.g0) (by simp)) i.hb (gk g tz)) (by rw [NW])<|?_;refine DW.e rfl rfl rfl rfl rfl (fun wx d hF=>OX.alloc oL rfl fun b wy nw hb=>⟨⟨Nat.le_trans d.1 nw.ext.size,d.2.step nw.ext⟩,nw.ext.p0,_,rfl,_,rfl,Nat.le_trans d.1 nw.ge,hb⟩)<|?_;rintro _ wz _ ⟨b9,rfl,_,_⟩;refine(cQ) ?_;rintro w7 ⟨yh,eE⟩ ⟨zD,⟨_,_⟩⟩;have dh:=eE.tj zD wM Cu Cv;refine(cJ) gE dh fun w8 qU mu cX=>?_;refine cy ?_;refine WC.br (σ:=Nat × yB × (List Nat) × (List (Key × Value)) × Bool × (List (Key × Value)) × (List ByteArray) × (Option Addr) × Nat × Nat × (Option Addr) × Nat × Nat) (dn:=fun(n,t,L2,kj,mx,iU,acc,l,f,o,yi,oO,yj)=>[(0,.pointer (some ⟨D.s,0,none⟩)),(4,.map (some X)),(5,.slice l f o),(6,.bool mx),(7,.int .i64 (idx:Int)),(8,.slice yi oO yj),(9,.pointer (some ⟨b9,0,none⟩))]) (F:=fun(n,t,L2,kj,mx,iU,acc,l,f,o,yi,oO,yj)=>[As.os RR.key 40 2 l f o (L2.map fun j:Nat=>aM aa (j:Int)),As.os RR.str 9 1 yi oO yj (acc),As.map Key.val D.m iU,As.map Key.val X kj,As.blk b9 152 [.bool t.done,.string t.value,.int .i64 t.ask.kind,.string t.ask.text]]) (I:=fun(n,t,L2,kj,mx,iU,acc,l,f,o,yi,oO,yj)=>(n≤aa[j].asks.length)∧(dt aa x.ab i0 L2 u1)∧(kU aa x.ab L2 u1 iU)∧(mK aa L2 u1 kj)∧(aU aa x.ab iU)∧(gi eQ iU)∧(oF aa L2 u1≤oF aa L1 u1∧(mx=true→kV=true∨oF aa L2 u1<oF aa L1 u1))∧(mx=false→L2=L1∧kV=false)∧(L1 <+: L2)∧(Ev aa x.ab u1 L2 eQ iU aa[j].asks n acc)∧(cx aa (aM aa (j:Int)) acc=t)∧True) (μ:=fun(n,t,L2,kj,mx,iU,acc,l,f,o,yi,oO,yj)=>aa[j].asks.length - n) (0,t,L1,PC,kV,eQ,[],l,f,o,none,0,0) (cX.p4.p4.p3.p4) Sub.t (⟨by omega,Ib,ou,zC,AK,gi.refl _,⟨Nat.le_refl _,fun h=>.inl h⟩,fun h=>⟨rfl,h⟩,List.prefix_refl _,Ev.start,by rw [← NW,dX g tz],trivial⟩)<|?_;rintro⟨n,t,L2,kj,mx,iU,acc,l,f,o,yi,oO,yj⟩ w9 dj ⟨hn,C,rF,S,Ig,tA,wo,Yk,y,IP,ht,_⟩;simp only [CA,NA] at dj hn C rF S Ig tA wo Yk y IP ht ⊢;have Fw:=((As.gs dj.g0)).len;rw [List.length_map] at Fw;have OT:=((As.gs dj.g1)).len;have hL2:=C.len;have yg:=IP.len;have anH:=y.length_le;have SM:oF aa L2 u1≤oF aa L u∧(mx=true→oF aa L2 u1<oF aa L u):=⟨by omega,fun h=>by rcases wo.2 h with h1 | h1;have:=Ic.2 h1;omega;omega⟩;refine(a7) dH dj.b4<|(aS) (fun Ih=>?_) fun Ih=>?_
   ·
    simp at Ih
    have Mj:n<aa[j].asks.length:=by
     rcases Nat.lt_or_ge n aa[j].asks.length with h | h
     ·
      exact h
     have h1:=gD i g (ae:=acc) (by rw [dQ g];omega);rw [ht] at h1;rw [h1] at Ih;cases Ih
    obtain⟨a,Fk,DI,X8⟩:=et i g (ae:=acc) (by rw [dQ g];omega);obtain⟨xq,hxq,hax⟩:=X8 Ie;rw [yg,ak Mj] at hxq
    simp at hxq
    rw [ht] at Fk
    have IE:t.ask=a:=by rw [Fk]
    have LO:bQ aa aa[j].asks[n]=t.ask:=by rw [IE,hax,hxq]
    have rE:aa[j].asks[n]∈aa[j].asks:=List.getElem_mem Mj;have NX:=Ib.reach j sg;refine cy ?_;have Yi:=dj.bN;refine WC.dS (m:=11) dj mixed<|(iv) gK St.g7<|(tn) ao St.g4<|?_;refine DP .r (fun _ d=>PV.qY cZ dY l9 (As.gm d.2.g2) rfl rfl)<|(cQ) ?_;rintro iT ⟨G1,cS⟩ _;refine(aS) (fun Yl=>?_) fun Yl=>?_
    ·
     obtain⟨vv,SG⟩:=Option.isSome_iff_exists.1 Yl;have SH:=Ig _ vv SG;obtain⟨sv,O⟩:∃s,s=valOf aa x.ab t.ask:=⟨_,rfl⟩
     have Fx:=IP.snoc sv (fun _ _=>by rw [LO];exact O) (fun h P k hk=>.inl (by
      obtain⟨B2,GG,IH⟩:=jf i g Ie rE P hk;rw [LO] at IH;rw [IH] at SG O;exact⟨by rw [O,gW i B2,iw i B2 GG],by rw [SG];rfl⟩))
     refine WC.eqv (t:=10) (v':=.string sv) rfl (by rw [SG,SH,O];rfl)<|ez ?_;refine WL.go rfl (OX.aR (us:=[.string sv]) js rfl rfl rfl rfl fun b90 iY Fy Fz=>?_);have K:=cS.da Fy Fz;refine WL.ap rfl rfl K.p2 (SR.dc (A:=fun _=>True) (x:=sv) (As.gb K.g0) trivial rfl (by simp [Value.oneCell']) rfl) fun a91 FB lx SN SO G=>?_;refine cq ?_;obtain⟨t2,U⟩:∃t,aG aa (aM aa (j:Int)) (acc++[sv])=t:=⟨_,rfl⟩
     have V:∀H:List Nat,L1 <+: H→(H.map fun j:Nat=>aM aa (j:Int))[idx]?=some (aM aa (j:Int)):=fun H h=>by
      rw [List.getElem?_map]
      have:=h.getElem N
      obtain⟨q,rfl⟩:=h;rw [List.getElem?_append_left N,ti];rfl
     obtain⟨tw,W⟩:=Ow.addr (As.gs G.g2) (V _ (by first | exact y | exact y.trans (List.prefix_append _ _)));have SP:=G.bN;refine WC.dS (m:=9) G mixed<|(iv) jD St.g8<|bO ?_;refine DP .r (fun _ d=>PV.dU eA W rfl rfl (by omega))<|DP .r (fun _ d=>VA ao (Ow.jH (As.gs d.2.g2) (by simp only [List.length_map,List.length_append,List.length_cons,List.length_nil];omega) W (V _ (by first | exact y | exact y.trans (List.prefix_append _ _)))) .r)<|(cQ) ?_;rintro nN ⟨KL,Q⟩ _;refine WL.c1 (u:=t2.val) (fB (k:=(aM aa (j:Int))) (SD.ht (As.gf Q.g7)) (SD.hu (As.gf Q.g7)) (Ow.rd (As.gs Q.g0) (by simp;omega)) i.hb (gk g tz)) (by rw [U]) Q fun qV s14 T=>?_;refine(cJ) gE T.p5 fun pD zy tK dR=>?_;refine bO ?_;refine eB (n+1,t2,L2,kj,mx,iU,_,l,f,o,a91,(oO+1),FB) ⟨dR.p2.drop.p4.p4.p3.p4,⟨by omega,C,rF,S,Ig,tA,wo,Yk,y,Fx,by rw [← U,dX g tz],trivial⟩⟩
    have Yl:bF iU t.ask=none:=by simpa using Yl
    refine(hW) ao cS.b4<|(eP) (de (k:=t.ask)) cS fun iY s11 K=>?_;refine(aS) (fun SQ=>?_) fun SQ=>?_
    ·
     simp at SQ
     refine(hW) ao K.b4<|?_;have G:=K.p2.p7;refine(bY) GZ (hv j t.ask NX (by rw [IE];exact DI) SQ _ _ _ _ G.e2 (As.gf G.g7) Ig) ?_;rintro _ lx ⟨Mp,rfl,hm4,KN,nO⟩;have Q:=St.lr G nO;refine bO ?_;obtain⟨sv,O⟩:∃s,s=valOf aa x.ab t.ask:=⟨_,rfl⟩
     have Fx:=(IP.mono (fun _ h=>h) KN).snoc sv (fun _ _=>by rw [LO];exact O) (fun h P k hk=>by
      obtain⟨B2,GG,IH⟩:=jf i g Ie rE P hk;rw [LO] at IH;rw [IH,bf B2 (by omega),GG] at SQ;cases SQ)
     refine EX.eqv (t:=10) (v':=.string sv) rfl (by rw [O])<|fL ?_;refine WL.go rfl (OX.aR (us:=[.string sv]) js rfl rfl rfl rfl fun b90 nN Fy Fz=>?_);have T:=Q.da Fy Fz;refine WL.ap rfl rfl T.p4 (SR.dc (A:=fun _=>True) (x:=sv) (As.gb T.g0) trivial rfl (by simp [Value.oneCell']) rfl) fun a91 FB qV SN SO dR=>?_;refine cq ?_;obtain⟨t2,U⟩:∃t,aG aa (aM aa (j:Int)) (acc++[sv])=t:=⟨_,rfl⟩
     have V:∀H:List Nat,L1 <+: H→(H.map fun j:Nat=>aM aa (j:Int))[idx]?=some (aM aa (j:Int)):=fun H h=>by
      rw [List.getElem?_map]
      have:=h.getElem N
      obtain⟨q,rfl⟩:=h;rw [List.getElem?_append_left N,ti];rfl
     obtain⟨tw,W⟩:=Ow.addr (As.gs dR.g4) (V _ (by first | exact y | exact y.trans (List.prefix_append _ _)));have SP:=dR.bN;refine WC.dS (m:=9) dR mixed<|(iv) jD St.g2<|bO ?_;refine DP .r (fun _ d=>PV.dU eA W rfl rfl (by omega))<|DP .r (fun _ d=>VA ao (Ow.jH (As.gs d.2.g4) (by simp only [List.length_map,List.length_append,List.length_cons,List.length_nil];omega) W (V _ (by first | exact y | exact y.trans (List.prefix_append _ _)))) .r)<|(cQ) ?_;rintro pD ⟨KL,dG⟩ _;refine WL.c1 (u:=t2.val) (fB (k:=(aM aa (j:Int))) (SD.ht (As.gf dG.g8)) (SD.hu (As.gf dG.g8)) (Ow.rd (As.gs dG.g0) (by simp;omega)) i.hb (gk g tz)) (by rw [U]) dG fun tB SS eW=>?_;refine(cJ) gE eW.p6 fun zF LP LQ dO=>?_;refine bO ?_;refine eB (n+1,t2,L2,kj,mx,Mp,_,l,f,o,a91,(oO+1),FB) ⟨dO.p2.drop.p7.p7.p2.p7.p6.p5.p7,⟨by omega,C,rF.mono i C KN,S,hm4,tA.trans KN,wo,Yk,y,Fx,by rw [← U,dX g tz],trivial⟩⟩
    simp at SQ
    have pZ:outside aa aa[j].asks[n]=false:=by
     cases P:outside aa aa[j].asks[n]
     ·
      rfl
     have:=je i g Ie rE P;rw [LO,SQ] at this;cases this
    obtain⟨z,UT,IF,KO⟩:=ij i g Ie rE pZ;rw [LO] at IF;have IQ:=UT.lt.2.2.2
    have pE:bF eQ (aM aa (z:Int))=none:=by
     cases h:bF eQ (aM aa (z:Int)) with
     | none=>rfl
     | some v=>have:=tA _ _ h;rw [← IF,Yl] at this;cases this
    have PD:∀k:Nat,aa[j].asks[n].n=k→k=z:=fun k hk=>by
     obtain⟨B2,GG,IH⟩:=jf i g Ie rE pZ hk;rw [LO,IF] at IH;exact(eb i KO B2 IH).symm
    refine(hW) ao K.b4<|?_;refine WP .r (PV.qY cZ dY l9 (As.gm K.g3) rfl rfl)<|?_;refine aY ?_;refine(aS) (fun IU=>?_) fun IU=>?_
    ·
     simp at IU
     have SU:z∉L2:=fun h=>by have:=S.1 z h;rw [← IF,IU] at this;cases this
     have hk0:=C.out z SU;have hre:cU aa i0 z:=.step (C.reach j (y.subset sg)) UT;have aeH:=C.meet KO IQ SU hre;have AE:=C.Gp KO IQ SU hre;have NY:=BA (v:=u1) (j:=z) AE;have SX:=S.meet i (fun k hk=>(C.ring k hk).1) KO SU hk0;rw [← IF] at SX
     have NZ:o8 t.ask=⟨#[48]⟩:=by rw [IF];exact sB KO (by omega) IQ
     refine nx ?_;have anI:=K.bN;refine WC.dB (m:=6) (E:=cB [(5,fun v _=>v=.string ⟨#[48]⟩)]) K (bm (⟨fun _ _ _ _ _ _ _ h=>h,trivial⟩)) mixed (by kernel_rfl)<|(tn) ao St.g4<|(tn) ao St.g4<|?_;refine DW.c1 (fun wx d hF=>qx (k:=t.ask)) (by rw [NZ])<|(cQ) ?_;rintro lx ⟨PE,G⟩ ⟨_,_⟩;refine WL.go rfl (OX.put cZ dY (As.gm G.g3) rfl rfl rfl fun nN SY SZ=>?_);have Q:=G.p3.jW SY SZ;refine(hW) ao Q.b4<|?_;refine WL.go rfl (OX.aR (us:=t.ask.cells) dx rfl rfl rfl rfl fun b71 qV S0 N0=>?_);have T:=Q.da S0 N0;refine WL.ap rfl rfl T.p2 (SR.dc (A:=fun _=>True) (x:=t.ask) (As.gb T.g0) trivial rfl (by simp [Key.cells,Value.oneCell']) rfl) fun a72 aeI pD anK anL dR=>?_;refine cq ?_;have dG:=dR.Vv (show(L2.map fun j:Nat=>aM aa (j:Int))++[t.ask]=(L2++[z]).map fun j:Nat=>aM aa (j:Int) by rw [List.map_append,IF];rfl);have vA:=SX.1 z (by simp);rw [← IF] at vA;have UU:∀s,s=itoa (u1 z:Int)→Ev aa x.ab u1 (L2++[z]) eQ iU aa[j].asks (n+1) (acc++[s]):=fun s hs=>(IP.mono (fun _ h=>by simp [h]) (gi.refl _)).snoc s (fun h P=>by rw [pZ] at P;cases P) (fun h P k hk=>by have:=PD k hk;subst this;exact .inr ⟨hs,by simp,pE⟩);refine(hW) ao dG.b5<|?_;refine WP .r (PV.bJ cZ dY l9 (As.gm dG.g2) (vA) rfl rfl)<|bO ?_;obtain⟨sv,O⟩:∃s,s=itoa (u1 z:Int):=⟨_,rfl⟩;have Fx:=UU sv O;refine EX.eqv (t:=10) (v':=.string sv) rfl (by rw [O])<|fL ?_;refine WL.go rfl (OX.aR (us:=[.string sv]) js rfl rfl rfl rfl fun b90 tB Fy Fz=>?_);have eW:=dG.da Fy Fz;refine WL.ap rfl rfl eW.p4 (SR.dc (A:=fun _=>True) (x:=sv) (As.gb eW.g0) trivial rfl (by simp [Value.oneCell']) rfl) fun a91 FB zF SN SO dO=>?_;refine cq ?_;obtain⟨t2,U⟩:∃t,aG aa (aM aa (j:Int)) (acc++[sv])=t:=⟨_,rfl⟩
     have V:∀H:List Nat,L1 <+: H→(H.map fun j:Nat=>aM aa (j:Int))[idx]?=some (aM aa (j:Int)):=fun H h=>by
      rw [List.getElem?_map]
      have:=h.getElem N
      obtain⟨q,rfl⟩:=h;rw [List.getElem?_append_left N,ti];rfl
     obtain⟨tw,W⟩:=Ow.addr (As.gs dO.g2) (V _ (by first | exact y | exact y.trans (List.prefix_append _ _)));have SP:=dO.bN;refine WC.dS (m:=9) dO mixed<|(iv) jD St.g9<|bO ?_;refine DP .r (fun _ d=>PV.dU eA W rfl rfl (by omega))<|DP .r (fun _ d=>VA ao (Ow.jH (As.gs d.2.g2) (by simp only [List.length_map,List.length_append,List.length_cons,List.length_nil];omega) W (V _ (by first | exact y | exact y.trans (List.prefix_append _ _)))) .r)<|(cQ) ?_;rintro yk ⟨KL,eR⟩ _;refine WL.c1 (u:=t2.val) (fB (k:=(aM aa (j:Int))) (SD.ht (As.gf eR.g8)) (SD.hu (As.gf eR.g8)) (Ow.rd (As.gs eR.g0) (by simp;omega)) i.hb (gk g tz)) (by rw [U]) eR fun FC s19 fi=>?_;refine(cJ) gE fi.p6 fun Ii S1 S2 eh=>?_;refine bO ?_;refine eB (n+1,t2,L2++[z],_,true,iU,_,a72,(f+1),aeI,a91,(oO+1),FB) ⟨eh.p2.drop.p3.drop.p3.p4.p3.p4,⟨by omega,aeH,rF.meet hk0,SX,Ig,tA,⟨Nat.le_of_lt (Nat.lt_of_lt_of_le NY wo.1),fun _=>.inr (Nat.lt_of_lt_of_le NY wo.1)⟩,(fun h=>by cases h),y.trans (List.prefix_append _ _),Fx,by rw [← U,dX g tz],trivial⟩⟩
    simp at IU
    have SU:z∈L2:=by
     by_cases h:z∈L2
     ·
      exact h
     have:=S.2 (aM aa (z:Int)) (fun k hk e=>h (by have:=eb i KO (C.ring k hk).1 e;rw [this];exact hk));rw [← IF] at this;rw [this] at IU;cases IU
    have vA:=S.1 z SU;rw [← IF] at vA;have UU:∀s,s=itoa (u1 z:Int)→Ev aa x.ab u1 L2 eQ iU aa[j].asks (n+1) (acc++[s]):=fun s hs=>IP.snoc s (fun h P=>by rw [pZ] at P;cases P) (fun h P k hk=>by have:=PD k hk;subst this;exact .inr ⟨hs,SU,pE⟩);refine(hW) ao K.b4<|?_;refine WP .r (PV.bJ cZ dY l9 (As.gm K.g3) (vA) rfl rfl)<|bO ?_;obtain⟨sv,O⟩:∃s,s=itoa (u1 z:Int):=⟨_,rfl⟩;have Fx:=UU sv O;refine EX.eqv (t:=10) (v':=.string sv) rfl (by rw [O])<|fL ?_;refine WL.go rfl (OX.aR (us:=[.string sv]) js rfl rfl rfl rfl fun b90 lx Fy Fz=>?_);have G:=K.da Fy Fz;refine WL.ap rfl rfl G.p2 (SR.dc (A:=fun _=>True) (x:=sv) (As.gb G.g0) trivial rfl (by simp [Value.oneCell']) rfl) fun a91 FB nN SN SO Q=>?_;refine cq ?_;obtain⟨t2,U⟩:∃t,aG aa (aM aa (j:Int)) (acc++[sv])=t:=⟨_,rfl⟩
    have V:∀H:List Nat,L1 <+: H→(H.map fun j:Nat=>aM aa (j:Int))[idx]?=some (aM aa (j:Int)):=fun H h=>by
     rw [List.getElem?_map]
     have:=h.getElem N
     obtain⟨q,rfl⟩:=h;rw [List.getElem?_append_left N,ti];rfl
    obtain⟨tw,W⟩:=Ow.addr (As.gs Q.g2) (V _ (by first | exact y | exact y.trans (List.prefix_append _ _)));have SP:=Q.bN;refine WC.dS (m:=9) Q mixed<|(iv) jD St.g8<|bO ?_;refine DP .r (fun _ d=>PV.dU eA W rfl rfl (by omega))<|DP .r (fun _ d=>VA ao (Ow.jH (As.gs d.2.g2) (by simp only [List.length_map,List.length_append,List.length_cons,List.length_nil];omega) W (V _ (by first | exact y | exact y.trans (List.prefix_append _ _)))) .r)<|(cQ) ?_;rintro qV ⟨KL,T⟩ _;refine WL.c1 (u:=t2.val) (fB (k:=(aM aa (j:Int))) (SD.ht (As.gf T.g7)) (SD.hu (As.gf T.g7)) (Ow.rd (As.gs T.g0) (by simp;omega)) i.hb (gk g tz)) (by rw [U]) T fun pD s15 dR=>?_;refine(cJ) gE dR.p5 fun tB UW UX dG=>?_;refine bO ?_;refine eB (n+1,t2,L2,kj,mx,iU,_,l,f,o,a91,(oO+1),FB) ⟨dG.p2.drop.p4.p4.p3.p4,⟨by omega,C,rF,S,Ig,tA,wo,Yk,y,Fx,by rw [← U,dX g tz],trivial⟩⟩
   simp at Ih
   have Mj:n=aa[j].asks.length:=by
    rcases Nat.lt_or_ge n aa[j].asks.length with h | h
    ·
     obtain⟨a,h1,_⟩:=et i g (ae:=acc) (by rw [dQ g];omega);rw [ht] at h1;rw [h1] at Ih;cases Ih
    omega
   subst Mj;obtain⟨FD,PF,S3,Ym,N1⟩:=IP.val i C g Ie;have KP:eU (u1 j) (fc aa[j].c.toNat (acc.map cD)):=fun b hb=>S3 b (ou j sg b hb);obtain⟨val,vB⟩:∃v,fc aa[j].c.toNat (acc.map cD)=v:=⟨_,rfl⟩;rw [vB] at FD PF KP Ym N1
   have htv:t.value=itoa (val:Int):=by
    have h1:=gD i g (ae:=acc) (by rw [dQ g];omega);rw [ht] at h1;rw [h1,(ur i g Ie).1,← vB];rfl
   have FE:j∈L2:=y.subset sg;have PG:=y.length_le
   have S4:L2[idx]?=some j:=by obtain⟨q,rfl⟩:=y;rw [List.getElem?_append_left N];exact ti
   have N2:(L2.map fun j:Nat=>aM aa (j:Int))[idx]?=some (aM aa (j:Int)):=by rw [List.getElem?_map,S4];rfl
   refine fL ?_;obtain⟨KQ,lO⟩:=Ow.addr (As.gs dj.g0) N2;have anN:=dj.bN;refine WC.dS (m:=8) dj mixed<|cq ?_;refine DP .r (fun _ d=>PV.dU eA lO rfl rfl (by omega))<|DP .r (fun _ d=>VA ao (Ow.jH (As.gs d.2.g0) (by rw [List.length_map];omega) lO N2) .r)<|DP .r (fun _ d=>PV.bJ cZ dY l9 (As.gm d.2.g3) (S.1 j FE) rfl rfl)<|(iv) fy St.g4<|(cQ)<|?_;rintro iT ⟨ajO,cS⟩ _;refine(aS) (fun ov=>?_) fun ov=>?_
   ·
    simp at ov
    rw [htv] at ov;have Bb:u1 j≠val:=fun e=>ov (by rw [e]);have Yn:=Gq C FE FD KP Bb;obtain⟨Yo,sV⟩:=Ow.addr (As.gs cS.g0) N2;have anO:=cS.bN;refine WC.dB (m:=9) (E:=cB [(7,fun v w'=>∃vv st,v=.tuple #[vv,.int .i64 ((st:Nat):Int)]∧KE Key.val w' X kj (aM aa (j:Int)) st)]) cS (lB (⟨⟨trivial,trivial⟩,trivial⟩)) mixed (by kernel_rfl)<|cq ?_;refine DP .r (fun _ d=>PV.dU eA sV rfl rfl (by omega))<|DP .r (fun _ d=>VA ao (Ow.jH (As.gs d.2.g0) (by rw [List.length_map];omega) sV N2) .r)<|(iv) fy St.g4<|?_;refine DW.e rfl rfl rfl rfl rfl (fun wx d hF=>OX.Qr cZ dY l9 (As.gm d.2.g3) rfl rfl rfl fun wy st vv sx hsz N3=>?_)<|?_
    ·
     have hg:=S.1 j FE;rw [hg] at N3;rw [Option.getD_some,xC hg] at N3;exact⟨⟨Nat.le_trans d.1 sx.size,d.2.same (A:=As.map Key.val X kj) (by simp) (sx.p.mono fun x _ hx=>by simpa [As.map] using hx) N3.km⟩,sx.p.mono (fun x _ hx=>Gi (A:=As.map Key.val X kj) (by simp) (by simpa [As.map] using hx)),_,rfl,_,_,rfl,N3⟩
    rintro _ wz _ ⟨aeK,fi,rfl,_⟩;refine(cQ) ?_;rintro iY ⟨ajP,K⟩ ⟨SI,_⟩;obtain⟨_,_,KS,Cy⟩:=SI;simp only [Value.tuple.injEq,Array.mk.injEq,List.cons.injEq,Value.int.injEq,true_and,and_true] at KS;have S5:=Int.natCast_inj.1 KS.2;rw [← S5] at Cy;refine WL.go rfl (OX.D0 Cy rfl rfl rfl fun lx S6 _ S7=>?_);have G:=K.p3.jW S6 S7;rw [htv] at G;refine kS ?_;refine eB (idx+1,L2,lZ u1 j val,cM kj (aM aa (j:Int)) (.string (itoa (val:Int))),true,iU,l,f,o) ⟨G.p2.drop.p3.drop.p2.p2,⟨Nat.le_trans N PG,C.set FE FD PF,rF.set i C FE FD PF KP Ym,S.set i (fun k hk=>(C.ring k hk).1) FE val,Ig,vk.trans tA,⟨Nat.le_of_lt (Nat.lt_of_lt_of_le Yn SM.1),fun _=>Nat.lt_of_lt_of_le Yn SM.1⟩,(fun h=>by cases h),trivial⟩⟩
   simp at ov
   rw [htv] at ov;have ov:u1 j=val:=Bv (by have:=C.le j;omega) (by omega) ov;refine gV ?_
   refine eB (idx+1,L2,u1,kj,mx,iU,l,f,o) ⟨cS.p1.drop.p3.drop,⟨Nat.le_trans N PG,C,rF,S,Ig,vk.trans tA,SM,fun h m k hm hk=>by
      obtain⟨e1,e2⟩:=Yk h;subst e1
      by_cases e:m=idx
      ·
       subst e;rw [ti] at hk
       simp at hk;subst hk
       exact N1 (ov ▸ rfl)
      exact vz e2 m k (by omega) hk,trivial⟩⟩
  simp at g27
  refine dd ?_;refine EX.again (L1,u1,PC,kV,eQ,l,f,o) Sub.t ⟨iK,⟨Ib,ou,zC,AK,vk,fun h j hj=>by obtain⟨m,hm,rfl⟩:=List.mem_iff_getElem.1 (show j∈L1 from hj);exact vz h m _ (by omega) (ak hm),trivial⟩⟩ (by simp only [];cases kV <;> simp at Ic ⊢ <;> omega)
 have g23:ch=false:=g23;have JF:=oE g23;have KT:=yW.done i JF;refine fL ?_;have aeL:=((As.gs hh.g0)).len;rw [List.length_map] at aeL;have hL7:=yW.len;refine ez ?_;refine WC.br (σ:=Nat × (List (Key × Value))) (dn:=fun(J,N4)=>[(0,.pointer (some ⟨D.s,0,none⟩)),(4,.map (some X)),(120,.slice l f o),(121,.int .i64 (f:Int)),(122,.int .i64 (J:Int))]) (F:=fun(J,N4)=>[As.map Key.val D.m N4]) (I:=fun(J,N4)=>(J≤L.length)∧(aU aa x.ab N4)∧(gi ml N4)∧(∀m j,m<J→L[m]?=some j→bF N4 (aM aa (j:Int))=some (.string (valOf aa x.ab (aM aa (j:Int)))))∧True) (μ:=fun(J,N4)=>L.length - J) (0,Y) (hh.p1) Sub.t (⟨by omega,Ia,Fv,fun m j h=>by omega,trivial⟩)<|?_;rintro⟨J,N4⟩ w6 iK ⟨hi7,hm7,S8,hd7,_⟩;simp only [CA,NA] at iK hi7 hm7 S8 hd7 ⊢;refine(aS) (fun FH=>?_) fun FH=>?_
 ·
  simp at FH
  have Yp:J<L.length:=by omega
  obtain⟨j,Cx⟩:∃j,L[J]=j:=⟨_,rfl⟩
  have ti:L[J]?=some j:=by rw [ak Yp,Cx]
  have sg:j∈L:=Cx ▸ List.getElem_mem Yp;obtain⟨g,Ie⟩:=yW.ring j sg;have Yq:=LN.1 j sg;rw [KT j sg,← iw i g Ie,← gW i g] at Yq;refine dd ?_
  have hx7:(L.map fun j:Nat=>aM aa (j:Int))[J]?=some (aM aa (j:Int)):=by rw [List.getElem?_map,ti];rfl
  obtain⟨anQ,PH⟩:=Ow.addr (As.gs iK.g1) hx7;refine nx ?_;refine WP .r (PV.dU eA PH rfl rfl (by omega))<|(aZ) ao (Ow.jH (As.gs iK.g1) (by rw [List.length_map];omega) PH hx7)<|(eZ) iK fun b15 w7 aeN aeO iH=>?_;refine(cJ) hP iH fun w8 ss7 hs7 eE=>?_;refine bO ?_;have anR:=eE.bN;refine WC.dS (m:=8) eE mixed<|(iv) gK St.g6<|(gN) ao St.g0<|(gN) ao St.g0<|?_;refine DP .r (fun _ d=>PV.bJ cZ dY l9 (As.gm d.2.g3) (Yq) rfl rfl)<|(cQ)<|?_;rintro w9 ⟨ajR,dh⟩ _;refine WL.go rfl (OX.put cZ dY (As.gm dh.g1) rfl rfl rfl fun iT aeP aeQ=>?_);have cX:=dh.p1.jW aeP aeQ;refine ez ?_
  refine eB (J+1,_) ⟨cX.p1.drop,⟨by omega,hm7.put _,S8.trans (gi.put hm7 _),fun m k hm hk=>by
     rw [ek]
     split
     ·
      rename_i e;rw [e]
     rename_i e
     refine hd7 m k ?_ hk
     rcases Nat.lt_or_ge m J with h | h
     ·
      exact h
     have:m=J:=by omega
     subst this;rw [ti] at hk;simp at hk;subst hk;exact absurd rfl e,trivial⟩⟩
 simp at FH
 obtain⟨mm,LS,S9⟩:=List.mem_iff_getElem.1 yW.first;have Ij:=hd7 mm i0 (by omega) (by rw [ak LS,S9]);refine cy ?_;refine EX.mV (.inr rfl) rfl<|?_;exact⟨N4,rfl,hm7,S8,Ij,iK.p5.k2⟩
theorem KU(f:aq aa):∀i,i<aa.length→H8 aa x D (aM aa (i:Int)):=by
 intro i
 induction i using Nat.strongRecOn with
 | _ i l=>
  intro hi;have t:=f.len
  have q:∀a,az a=false→(aw a=true∨∃m,m<i∧m<aa.length∧a=aM aa (m:Int))→H8 aa x D a:=fun a _ b w M Z ml h1 c d=>by
   rcases b with b | ⟨m,hm,g,rfl⟩
   ·
    exact lj h1 c d b
   exact l m hm g w M Z ml h1 c d
  have o:∀a,(aw a=true∨∃m,m<i∧m<aa.length∧a=aM aa (m:Int))→H8 aa x D a:=fun a b w M Z ml h1 c d=>by
   rcases b with b | ⟨m,hm,g,rfl⟩
   ·
    exact lj h1 c d b
   exact l m hm g w M Z ml h1 c d
  intro w M Z ml h1 c d;refine zA h1 c d f hi (fun hc w M Z ml h1 c d=>?_) fun a b hc=>o a ?_
  ·
   rw [bf hi (by omega)] at hc;refine Cw h1 c d f hi hc fun j a p r h=>q a h ?_;have s:=jd hi hc p;have o:=ki f p;have hle:=gw aa i
   rcases r with⟨n,e,rfl⟩ | ⟨m,e,rfl,_,_,_,k⟩
   ·
    exact .inl (bD (by omega))
   rw [bf e (by omega)] at h;exact .inr ⟨m,by have:=k h s.2;omega,e,rfl⟩
  rw [bf hi (by omega)] at hc
  rcases b with⟨n,e,rfl⟩ | ⟨m,e,rfl,_,k,_⟩
  ·
   exact .inl (bD (by omega))
  exact .inr ⟨m,k hc,e,rfl⟩
theorem Ik(a:aq aa) {k:Key}(hk:ep aa k):H8 aa x D k:=by
 cases hk with
 | cell h=>exact fun w M Z ml h1 b c=>lj h1 b c (bD h)
 | fb h _=>exact KU a _ h
end Go.Rc

