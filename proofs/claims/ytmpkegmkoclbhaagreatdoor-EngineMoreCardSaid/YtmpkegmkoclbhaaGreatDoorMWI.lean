/- Walks over the program, part WI. Conditions: as each theorem says. -/
import Derived.Test.YtmpkegmkoclbhaaGreatDoorMFacts
import Derived.Test.YtmpkegmkoclbhaaGreatDoorMWH
import Derived.Test.YtmpkegmkoclbhaaGreatDoorMBe
set_option linter.all false
namespace Go.Rc
open Go Go.Proofs Go.Proofs.Tryz
variable {x:cm}{w:World}{M Z:Nat→Prop}{aa:List aG}{D:SD}{ml:List (Key × Value)}
set_option maxHeartbeats 400000
theorem vx{ar a1 a2:Option Addr}{r cr n1 c1 n2 c2:Nat}(a:St w M Z w []):Calls prog 84 #[.slice ar r cr,.agg (x.row a1 n1 c1 a2 n2 c2).toArray] w fun e w'=>∃s m q,e=.returned (.pointer (some ⟨s,0,none⟩))∧St w M Z w' [As.blk s 176 (SD.cells ⟨ar,a1,a2,r,cr,n1,c1,n2,c2,m,q,s⟩ x),As.map Key.val m [],As.map Key.val q []]:=by
 refine enter func84 rfl ntmps84 rfl<|?_;have aP:=a;refine(dy) aP fun b3 w1 g h st1=>?_;refine(aZ) aM st1.b0<|?_;refine WL.mm Key.val st1 fun b w2 i j st2=>?_;refine WL.mm Key.val st2 fun c w3 k l d=>?_;refine WP .r (PV.bB (us:=(SD.cells ⟨ar,a1,a2,r,cr,n1,c1,n2,c2,b,c,0⟩ x)) WT rfl rfl rfl)<|(dy) d fun n w4 o p f=>?_;refine(bw) ?_;exact⟨_,_,_,rfl,f.p3.drop.p2.p1⟩
def H7(aa:List aG) (x:cm) (D:SD) (k:Key):Prop:=∀(w:World) (M Z:Nat→Prop) (ml:List (Key × Value)),St w M Z w [As.blk D.s 176 (D.cells x),As.map Key.val D.m ml]→(D.F prog aa x).p Z w→aU aa x.ab ml→
 Calls prog 220 #[.pointer (some ⟨D.s,0,none⟩),k.val] w fun e w'=>∃mT,e=.returned (.string (valOf aa x.ab k))∧aU aa x.ab mT∧gh ml mT∧St w M Z w' [As.blk D.s 176 (D.cells x),As.map Key.val D.m mT]
def aeR(aa:List aG) (x:cm) (D:SD) (k:Key):Prop:=∀(w:World) (M Z:Nat→Prop) (ml:List (Key × Value)),St w M Z w [As.blk D.s 176 (D.cells x),As.map Key.val D.m ml]→(D.F prog aa x).p Z w→aU aa x.ab ml→
 Calls prog 252 #[.pointer (some ⟨D.s,0,none⟩),k.val] w fun e w'=>∃mT,e=.returned (.tuple #[])∧aU aa x.ab mT∧gh ml mT∧bD mT k=some (.string (valOf aa x.ab k))∧St w M Z w' [As.blk D.s 176 (D.cells x),As.map Key.val D.m mT]
theorem lj{k:Key}(d:St w M Z w [As.blk D.s 176 (D.cells x),As.map Key.val D.m ml]) (f:(D.F prog aa x).p Z w) (hm:aU aa x.ab ml) (hk:ay k=true):Calls prog 220 #[.pointer (some ⟨D.s,0,none⟩),k.val] w fun e w'=>∃a,e=.returned (.string (valOf aa x.ab k))∧aU aa x.ab a∧gh ml a∧St w M Z w' [As.blk D.s 176 (D.cells x),As.map Key.val D.m a]:=by
 refine enter func220 rfl ntmps220 rfl<|?_;have aP:=d;have st1:=aP.fact (B:=As.fz (D.F prog aa x)) f (fun _ g=>g);refine(dy) st1 fun b3 w1 i j st2=>?_;refine(aZ) ao st2.b0<|(eN) (eu (k:=k)) st2 fun w2 s2 c=>?_;refine(aT) (fun g10=>?_) fun g10=>?_
 ·
  refine nx ?_;have l:=c.bO;refine WC.dS (m:=5) c mixed<|(tr) aM St.g2<|(gM) ao St.g0<|(cQ)<|?_;rintro w3 ⟨n,b⟩ _;refine(eN) (r5 (k:=k) (SD.hi (As.gf b.g1)) (SD.hr (As.gf b.g1))) b fun w4 o h=>?_;refine(bw) ?_;exact⟨ml,by unfold valOf cellOf;rw [if_pos hk],hm,gh.refl _,h.drop.drop⟩
 rw [hk] at g10;cases g10
theorem zD{i:Nat}(gE:St w M Z w [As.blk D.s 176 (D.cells x),As.map Key.val D.m ml]) (hf:(D.F prog aa x).p Z w) (hm:aU aa x.ab ml) (g:aq aa) (hi:i<aa.length) (W:ax (aL aa (i:Int))=true→aeR aa x D (aL aa (i:Int))) (X:∀a,eT aa i a→ax (aL aa (i:Int))=false→H7 aa x D a):Calls prog 220 #[.pointer (some ⟨D.s,0,none⟩),(aL aa (i:Int)).val] w fun e w'=>∃O,e=.returned (.string (valOf aa x.ab (aL aa (i:Int))))∧aU aa x.ab O∧gh ml O∧St w M Z w' [As.blk D.s 176 (D.cells x),As.map Key.val D.m O]:=by
 have Hm:=g.len
 have jo:i≤99:=by omega
 obtain⟨k,hk⟩:∃k,aL aa (i:Int)=k:=⟨_,rfl⟩;have eQ:=dj hi jo;have ha6:=nn g hi;rw [hk] at eQ W X ⊢;refine enter func220 rfl ntmps220 rfl<|?_;have aP:=gE;have st1:=aP.fact (B:=As.fz (D.F prog aa x)) hf (fun _ hx=>hx);refine(dy) st1 fun b3 w1 H5 wK st2=>?_;refine(aZ) ao st2.b0<|(eN) (eu (k:=k)) st2 fun w2 s2 Y=>?_;refine(aT) (fun g10=>?_) fun g10=>?_
 ·
  rw [eQ] at g10;cases g10
 refine cj ?_;have DI:=Y.bO;refine WC.dS (m:=10) Y mixed<|(iu) gJ St.g2<|(gM) ao St.g0<|?_;refine DP .r (fun _ d=>PV.rj da dV mf (As.gm d.2.g3) rfl rfl)<|(cQ) ?_;rintro w3 ⟨pJ,P⟩ _;refine(aT) (fun g26=>?_) fun g26=>?_
 ·
  obtain⟨vv,SP⟩:=Option.isSome_iff_exists.1 g26;have SQ:=hm k vv SP;refine(bw) ?_;exact⟨ml,by rw [SP,SQ];rfl,hm,gh.refl _,P.drop.drop⟩
 refine(aZ) ao P.b0<|(eN) (df (k:=k)) P fun w4 s4 Q=>?_;refine(aT) (fun R=>?_) fun R=>?_
 ·
  refine(aZ) ao Q.b0<|?_;have y:=Q.p3.p3;refine(bX) Yd (W R _ _ _ _ y.e2 (As.gf y.g3) hm) ?_;rintro _ w5 ⟨eO,rfl,S,T,V0,qG⟩;have f:=St.lr y qG;refine cq ?_;have Py:=f.bO;refine WC.dS (m:=5) f mixed<|(iu) gJ St.g0<|(gM) ao St.g2<|(cQ)<|?_;rintro w6 ⟨lO,H⟩ _;refine WP .r (PV.look da dV mf (As.gm H.g1) rfl rfl)<|(bw) ?_;exact⟨eO,by rw [V0];rfl,S,T,H.p2.drop.p2.drop⟩
 have y:=Q.dq RR.str 9 1;refine gX ?_;refine WC.bq (σ:=Nat × (List (Key × Value)) × (List ByteArray) × (Option Addr) × Nat × Nat) (dn:=fun(n,j,acc,o,l,q)=>[(0,.pointer (some ⟨D.s,0,none⟩)),(3,.pointer (some ⟨b3,0,none⟩)),(7,.slice o l q)]) (F:=fun(n,j,acc,o,l,q)=>[As.os RR.str 9 1 o l q (acc),As.map Key.val D.m j]) (I:=fun(n,j,acc,o,l,q)=>(n≤cJ aa i)∧(aU aa x.ab j)∧(gh ml j)∧(acc=(dT (cx aa k) (valOf aa x.ab) n).2)∧True) (μ:=fun(n,j,acc,o,l,q)=>cJ aa i - n) (0,ml,[],none,0,0) (y.p4.p1) Sub.t (⟨by omega,hm,gh.refl _,rfl,trivial⟩)<|?_;rintro⟨n,j,acc,o,l,q⟩ w5 f ⟨hn,J,U,K,_⟩;simp only [CA,NA] at f hn J U K ⊢;have qZ:=((As.gs f.g0)).len
 have yk:acc.length=n:=by rw [K];exact(gA _ _ n).2
 obtain⟨t,NK⟩:∃t,aH aa k acc=t:=⟨_,rfl⟩
 have z:cx aa k acc=t:=by rw [← NK,← hk,dU hi jo]
 refine bN ?_;have wM:=f.bO;have Cw:=f.jK;have Cx:=f.size;refine WC.dB (m:=8) (E:=cB [(6,fun v _=>v=t.val),(7,PB w5.heap.size 152 [.bool false,.string ⟨#[]⟩,.int .i64 0,.string ⟨#[]⟩])]) f (bm (⟨fun _ _ _ _ _ _ _ h=>h,⟨fun _ _ _ _ _ _ c h=>PB.st wM c h,trivial⟩⟩)) mixed (by kernel_rfl)<|(iu) jB St.g4<|(gM) ao St.g2<|nx ?_;refine DW.c1 (fun wx d hF=>fy (k:=k) (SD.ht (As.gf d.2.g3)) (SD.hu (As.gf d.2.g3)) (Ow.rd (As.gs d.2.g0) (by omega)) g.hb (hk ▸ gj hi jo)) (by rw [NK])<|?_;refine DW.e rfl rfl rfl rfl rfl (fun wx d hF=>OX.alloc oS rfl fun b wy L hb=>⟨⟨Nat.le_trans d.1 L.ext.size,d.2.step L.ext⟩,L.ext.p0,_,rfl,_,rfl,Nat.le_trans d.1 L.ge,hb⟩)<|?_;rintro _ wz _ ⟨b8,rfl,_,_⟩;refine(cQ) ?_;rintro w6 ⟨yl,H⟩ ⟨SS,⟨_,_⟩⟩;have iH:=H.tn SS wM Cw Cx;refine(cI) gD iH fun w7 jS jZ C=>?_;refine(a8) dH C.b0<|(aT) (fun G=>?_) fun G=>?_
 ·
  have Md:n=cJ aa i:=by
   rcases Nat.lt_or_ge n (cJ aa i) with h | h
   ·
    obtain⟨a,h1,_⟩:=ek g hi (ae:=acc) (by omega);rw [hk,z] at h1;rw [h1] at G;cases G
   omega
  have V:t.value=valOf aa x.ab k:=by
   have h1:=fF (aC:=x.ab) g hi;rw [hk,← Md,← K,z] at h1;rw [h1]
  refine nx ?_;have Ys:=C.bO;refine WC.dS (m:=7) C mixed<|(iu) gJ St.g5<|(gM) ao St.g3<|(iu) fw St.g0<|(cQ)<|?_;rintro w8 ⟨GZ,u⟩ _;refine WL.go rfl (OX.put da dV (As.gm u.g2) rfl rfl rfl fun w9 zF vy=>?_);have N:=u.p2.jU zF vy;refine(a8) fw N.b1<|(bw) ?_;exact⟨_,by rw [V],by rw [V];exact J.put k,by rw [V];exact U.trans (gh.put J k),N.p5.k2⟩
 have Md:n<cJ aa i:=by
  rcases Nat.lt_or_ge n (cJ aa i) with h | h
  ·
   exact h
  have h1:=gB g hi (ae:=acc) (by omega);rw [hk,z] at h1;rw [h1] at G;cases G
 obtain⟨a,Fi,DE,_⟩:=ek g hi (ae:=acc) (by omega);rw [hk,z] at Fi
 have IB:t.ask=a:=by rw [Fi]
 refine(hW) ao C.b0<|?_;have u:=C.p2.p5;refine(bX) GX (X t.ask (by rw [IB];exact DE) R _ _ _ _ u.e2 (As.gf u.g5) J) ?_;rintro _ w8 ⟨eO,rfl,S,T,j0⟩;have N:=St.lr u j0;refine WL.go rfl (OX.aO (us:=[.string (valOf aa x.ab t.ask)]) jq rfl rfl rfl rfl fun b62 w9 aeS NL=>?_);have dm:=N.cX aeS NL;refine WL.ap rfl rfl dm.p4 (SR.dd (A:=fun _=>True) (x:=valOf aa x.ab t.ask) (As.gb dm.g0) trivial rfl (by simp [Value.oneCell']) rfl) fun a63 Yt iS an1 an2 db=>?_;refine cq ?_;refine eC (n+1,eO,acc++[valOf aa x.ab t.ask],a63,(l+1),Yt) ⟨db.p1.drop.p3.drop.p4.p4.p4.p3,⟨by omega,S,U.trans T,by simp only [dT];rw [← K,z],trivial⟩⟩
set_option maxHeartbeats 1600000 in
theorem Cy{i0:Nat}(gE:St w M Z w [As.blk D.s 176 (D.cells x),As.map Key.val D.m ml]) (hf:(D.F prog aa x).p Z w) (hm:aU aa x.ab ml) (i:aq aa) (hi:i0<aa.length) (LF:aF aa i0=true) (hv:∀j a,cU aa i0 j→eT aa j a→ax a=false→H7 aa x D a):Calls prog 252 #[.pointer (some ⟨D.s,0,none⟩),(aL aa (i0:Int)).val] w fun e w'=>∃mT,e=.returned (.tuple #[])∧aU aa x.ab mT∧gh ml mT∧bD mT (aL aa (i0:Int))=some (.string (valOf aa x.ab (aL aa (i0:Int))))∧St w M Z w' [As.blk D.s 176 (D.cells x),As.map Key.val D.m mT]:=by
 have Hm:=i.len
 have jo:i0≤99:=by omega
 have SU:=sE hi jo LF;refine enter func252 rfl ntmps252 rfl<|?_;have aP:=gE;have st1:=aP.fact (B:=As.fz (D.F prog aa x)) hf (fun _ hx=>hx);refine(dy) st1 fun b3 w1 H5 wK st2=>?_;refine cq ?_;have hN1:=st2.bO;have aeT:=st2.jK;have aeU:=st2.size;refine WC.dB (m:=4) (E:=cB [(0,PM Key.val w1.heap.size),(3,fun v _=>v=.string ⟨#[48]⟩)]) st2 (bm (⟨fun _ _ _ _ _ _ c h=>PM.st hN1 c h,⟨fun _ _ _ _ _ _ _ h=>h,trivial⟩⟩)) mixed (by kernel_rfl)<|?_;refine DW.e rfl rfl rfl rfl rfl (fun wx d hF=>OX.makeMap Key.val rfl fun b wy nw hb=>⟨⟨Nat.le_trans d.1 nw.ext.size,d.2.step nw.ext⟩,nw.ext.p0,_,rfl,_,rfl,Nat.le_trans d.1 nw.ge,hb⟩)<|?_;rintro _ wz _ ⟨X,rfl,_,_⟩;refine(gM) ao St.g0<|(gM) ao St.g0<|?_;refine DW.c1 (fun wx d hF=>qD (k:=(aL aa (i0:Int)))) (by rw [SU])<|(cQ) ?_;rintro w2 ⟨r6,iV⟩ ⟨_,⟨hF0,_⟩⟩;have iq:=iV.acs hF0 hN1 aeT aeU;refine WL.go rfl (OX.ins da dV (As.gm iq.g0) rfl rfl rfl fun w3 KC Fs=>?_);have i7:=iq.jU KC Fs;refine(aZ) ao i7.b1<|?_;refine WL.go rfl (OX.aO (us:=(aL aa (i0:Int)).cells) dx rfl rfl rfl rfl fun b22 w4 H8 KD=>?_);have iE:=St.pf (R:=RR.key) (E:=40) (k:=2) (a:=some ⟨b22,0,none⟩) (n:=1) (c:=1) (xs:=[(aL aa (i0:Int))]) i7 H8.ext (OR.dd KD (Nat.zero_le _) rfl (by simp [Key.cells,Value.oneCell']) rfl) (fun x hx=>by simp [aI] at hx;subst hx;exact H8.ge);refine jL ?_;refine WC.bq (σ:=(List Nat) × (Nat→Nat) × (List (Key × Value)) × Bool × (List (Key × Value)) × (Option Addr) × Nat × Nat) (dn:=fun(L,u,am,ch,Y,l,f,o)=>[(0,.pointer (some ⟨D.s,0,none⟩)),(4,.map (some X)),(5,.slice l f o),(6,.bool ch)]) (F:=fun(L,u,am,ch,Y,l,f,o)=>[As.os RR.key 40 2 l f o (L.map fun j:Nat=>aL aa (j:Int)),As.map Key.val D.m Y,As.map Key.val X am]) (I:=fun(L,u,am,ch,Y,l,f,o)=>(dt aa x.ab i0 L u)∧(kT aa x.ab L u Y)∧(mM aa L u am)∧(aU aa x.ab Y)∧(gh ml Y)∧(ch=false→∀j∈L,od aa x.ab L u j)∧True) (μ:=fun(L,u,am,ch,Y,l,f,o)=>2*oM aa L u+(if ch then 1 else 0)) ([i0],fun _=>0,cL [] (aL aa (i0:Int)) (.string ⟨#[48]⟩),true,ml,(some ⟨b22,0,none⟩),1,1) (iE.p1.p5.p2) Sub.t (⟨dt.start hi LF,kT.start,⟨fun j hj=>by simp at hj;subst hj;rw [show itoa ((0:Nat):Int)=⟨#[48]⟩ by decide +kernel];simp [cL,bD],fun k hk=>by simp [cL,bD];intro e;exact hk i0 (by simp) e.symm⟩,hm,gh.refl _,(fun h=>by cases h),trivial⟩)<|?_;rintro⟨L,u,am,ch,Y,l,f,o⟩ w5 hJ ⟨AR,wH,LG,H9,Ft,oL,_⟩;simp only [CA,NA] at hJ AR wH LG H9 Ft oL ⊢;refine(aT) (fun g23=>?_) fun g23=>?_
 ·
  have g23:ch=true:=g23;subst g23
  clear oL
  refine aX ?_;refine bN ?_;refine WC.bq (σ:=Nat × (List Nat) × (Nat→Nat) × (List (Key × Value)) × Bool × (List (Key × Value)) × (Option Addr) × Nat × Nat) (dn:=fun(idx,L1,u1,Pz,kU,eO,l,f,o)=>[(0,.pointer (some ⟨D.s,0,none⟩)),(4,.map (some X)),(5,.slice l f o),(6,.bool kU),(7,.int .i64 (idx:Int))]) (F:=fun(idx,L1,u1,Pz,kU,eO,l,f,o)=>[As.os RR.key 40 2 l f o (L1.map fun j:Nat=>aL aa (j:Int)),As.map Key.val D.m eO,As.map Key.val X Pz]) (I:=fun(idx,L1,u1,Pz,kU,eO,l,f,o)=>(idx≤L1.length)∧(dt aa x.ab i0 L1 u1)∧(kT aa x.ab L1 u1 eO)∧(mM aa L1 u1 Pz)∧(aU aa x.ab eO)∧(gh ml eO)∧(oM aa L1 u1≤oM aa L u∧(kU=true→oM aa L1 u1<oM aa L u))∧(kU=false→∀m j,m<idx→L1[m]?=some j→od aa x.ab L1 u1 j)∧True) (μ:=fun(idx,L1,u1,Pz,kU,eO,l,f,o)=>aa.length - idx) (0,L,u,am,false,Y,l,f,o) (hJ.p2.p2.p2) Sub.t (⟨by omega,AR,wH,LG,H9,Ft,⟨Nat.le_refl _,(fun h=>by cases h)⟩,fun _ m j h=>by omega,trivial⟩)<|?_;rintro⟨idx,L1,u1,Pz,kU,eO,l,f,o⟩ w6 iK ⟨SX,Ia,ox,zG,AQ,vk,Ib,vz,_⟩;simp only [CA,NA] at iK SX Ia ox zG AQ vk Ib vz ⊢;have qZ:=((As.gs iK.g0)).len;rw [List.length_map] at qZ;have hL1:=Ia.len;refine(aT) (fun g27=>?_) fun g27=>?_
  ·
   simp at g27
   have N:idx<L1.length:=by omega
   obtain⟨j,Cz⟩:∃j,L1[idx]=j:=⟨_,rfl⟩
   have tm:L1[idx]?=some j:=by rw [ak N,Cz]
   have sj:j∈L1:=Cz ▸ List.getElem_mem N;obtain⟨g,Ic⟩:=Ia.ring j sj
   have tC:j≤99:=by omega
   have hja:=nn i g;rw [dO g] at hja;have iH:=iK.dq RR.str 9 1;refine jL ?_;obtain⟨t,NK⟩:∃t,aH aa (aL aa (j:Int)) []=t:=⟨_,rfl⟩
   have Rl:(L1.map fun j:Nat=>aL aa (j:Int))[idx]?=some (aL aa (j:Int)):=by rw [List.getElem?_map,tm];rfl
   obtain⟨gV,cW⟩:=Ow.addr (As.gs iH.g1) Rl;have wM:=iH.bO;have Cw:=iH.jK;have Cx:=iH.size;refine WC.dB (m:=11) (E:=cB [(9,fun v _=>v=t.val),(10,PB w6.heap.size 152 [.bool false,.string ⟨#[]⟩,.int .i64 0,.string ⟨#[]⟩])]) iH (bm (⟨fun _ _ _ _ _ _ _ h=>h,⟨fun _ _ _ _ _ _ c h=>PB.st wM c h,trivial⟩⟩)) mixed (by kernel_rfl)<|(iu) jB St.g6<|bN ?_;refine DP .r (fun _ d=>PV.dQ et cW rfl rfl (by omega))<|DP .r (fun _ d=>VA ao (Ow.jI (As.gs d.2.g1) (by rw [List.length_map];omega) cW Rl) .r)<|nx ?_;refine DW.c1 (fun wx d hF=>fy (k:=(aL aa (j:Int))) (SD.ht (As.gf d.2.g5)) (SD.hu (As.gf d.2.g5)) (Ow.rd (As.gs d.2.g0) (by simp)) i.hb (gj g tC)) (by rw [NK])<|?_;refine DW.e rfl rfl rfl rfl rfl (fun wx d hF=>OX.alloc oS rfl fun b wy nw hb=>⟨⟨Nat.le_trans d.1 nw.ext.size,d.2.step nw.ext⟩,nw.ext.p0,_,rfl,_,rfl,Nat.le_trans d.1 nw.ge,hb⟩)<|?_;rintro _ wz _ ⟨b9,rfl,_,_⟩;refine(cQ) ?_;rintro w7 ⟨yl,eD⟩ ⟨zH,⟨_,_⟩⟩;have di:=eD.tn zH wM Cw Cx;refine(cI) gD di fun w8 re mz cY=>?_;refine cj ?_;refine WC.bq (σ:=Nat × yE × (List Nat) × (List (Key × Value)) × Bool × (List (Key × Value)) × (List ByteArray) × (Option Addr) × Nat × Nat × (Option Addr) × Nat × Nat) (dn:=fun(n,t,L2,ki,mB,iT,acc,l,f,o,ym,oV,yn)=>[(0,.pointer (some ⟨D.s,0,none⟩)),(4,.map (some X)),(5,.slice l f o),(6,.bool mB),(7,.int .i64 (idx:Int)),(8,.slice ym oV yn),(9,.pointer (some ⟨b9,0,none⟩))]) (F:=fun(n,t,L2,ki,mB,iT,acc,l,f,o,ym,oV,yn)=>[As.os RR.key 40 2 l f o (L2.map fun j:Nat=>aL aa (j:Int)),As.os RR.str 9 1 ym oV yn (acc),As.map Key.val D.m iT,As.map Key.val X ki,As.blk b9 152 [.bool t.done,.string t.value,.int .i64 t.ask.kind,.string t.ask.text]]) (I:=fun(n,t,L2,ki,mB,iT,acc,l,f,o,ym,oV,yn)=>(n≤aa[j].asks.length)∧(dt aa x.ab i0 L2 u1)∧(kT aa x.ab L2 u1 iT)∧(mM aa L2 u1 ki)∧(aU aa x.ab iT)∧(gh eO iT)∧(oM aa L2 u1≤oM aa L1 u1∧(mB=true→kU=true∨oM aa L2 u1<oM aa L1 u1))∧(mB=false→L2=L1∧kU=false)∧(L1 <+: L2)∧(Ev aa x.ab u1 L2 eO iT aa[j].asks n acc)∧(cx aa (aL aa (j:Int)) acc=t)∧True) (μ:=fun(n,t,L2,ki,mB,iT,acc,l,f,o,ym,oV,yn)=>aa[j].asks.length - n) (0,t,L1,Pz,kU,eO,[],l,f,o,none,0,0) (cY.p4.p4.p3.p4) Sub.t (⟨by omega,Ia,ox,zG,AQ,gh.refl _,⟨Nat.le_refl _,fun h=>.inl h⟩,fun h=>⟨rfl,h⟩,List.prefix_refl _,Ev.start,by rw [← NK,dU g tC],trivial⟩)<|?_;rintro⟨n,t,L2,ki,mB,iT,acc,l,f,o,ym,oV,yn⟩ w9 dm ⟨hn,C,pC,S,Ie,tD,wm,Yu,y,II,ht,_⟩;simp only [CA,NA] at dm hn C pC S Ie tD wm Yu y II ht ⊢;have Fu:=((As.gs dm.g0)).len;rw [List.length_map] at Fu;have OQ:=((As.gs dm.g1)).len;have hL2:=C.len;have yk:=II.len;have an5:=y.length_le;have SY:oM aa L2 u1≤oM aa L u∧(mB=true→oM aa L2 u1<oM aa L u):=⟨by omega,fun h=>by rcases wm.2 h with h1 | h1;have:=Ib.2 h1;omega;omega⟩;refine(a8) dH dm.b4<|(aT) (fun Ig=>?_) fun Ig=>?_
   ·
    simp at Ig
    have Md:n<aa[j].asks.length:=by
     rcases Nat.lt_or_ge n aa[j].asks.length with h | h
     ·
      exact h
     have h1:=gB i g (ae:=acc) (by rw [dO g];omega);rw [ht] at h1;rw [h1] at Ig;cases Ig
    obtain⟨a,Fi,DE,Yj⟩:=ek i g (ae:=acc) (by rw [dO g];omega);obtain⟨xq,hxq,hax⟩:=Yj Ic;rw [yk,ak Md] at hxq
    simp at hxq
    rw [ht] at Fi
    have IB:t.ask=a:=by rw [Fi]
    have LH:bQ aa aa[j].asks[n]=t.ask:=by rw [IB,hax,hxq]
    have rI:aa[j].asks[n]∈aa[j].asks:=List.getElem_mem Md;have NN:=Ia.reach j sj;refine cj ?_;have Ys:=dm.bO;refine WC.dS (m:=11) dm mixed<|(iu) gJ St.g7<|(tr) ao St.g4<|?_;refine DP .r (fun _ d=>PV.rj da dV mf (As.gm d.2.g2) rfl rfl)<|(cQ) ?_;rintro iS ⟨GZ,db⟩ _;refine(aT) (fun Yv=>?_) fun Yv=>?_
    ·
     obtain⟨vv,SP⟩:=Option.isSome_iff_exists.1 Yv;have SQ:=Ie _ vv SP;obtain⟨sv,O⟩:∃s,s=valOf aa x.ab t.ask:=⟨_,rfl⟩
     have Fv:=II.snoc sv (fun _ _=>by rw [LH];exact O) (fun h P k hk=>.inl (by
      obtain⟨B5,DA,ID⟩:=je i g Ic rI P hk;rw [LH] at ID;rw [ID] at SP O;exact⟨by rw [O,gY i B5,iv i B5 DA],by rw [SP];rfl⟩))
     refine WC.eqv (t:=10) (v':=.string sv) rfl (by rw [SP,SQ,O];rfl)<|ez ?_;refine WL.go rfl (OX.aO (us:=[.string sv]) jq rfl rfl rfl rfl fun b90 iX Fw Fx=>?_);have K:=db.cX Fw Fx;refine WL.ap rfl rfl K.p2 (SR.dd (A:=fun _=>True) (x:=sv) (As.gb K.g0) trivial rfl (by simp [Value.oneCell']) rfl) fun a91 Fy ly SZ S0 G=>?_;refine cq ?_;obtain⟨t2,U⟩:∃t,aH aa (aL aa (j:Int)) (acc++[sv])=t:=⟨_,rfl⟩
     have V:∀H:List Nat,L1 <+: H→(H.map fun j:Nat=>aL aa (j:Int))[idx]?=some (aL aa (j:Int)):=fun H h=>by
      rw [List.getElem?_map]
      have:=h.getElem N
      obtain⟨q,rfl⟩:=h;rw [List.getElem?_append_left N,tm];rfl
     obtain⟨tA,W⟩:=Ow.addr (As.gs G.g2) (V _ (by first | exact y | exact y.trans (List.prefix_append _ _)));have S1:=G.bO;refine WC.dS (m:=9) G mixed<|(iu) jB St.g8<|bN ?_;refine DP .r (fun _ d=>PV.dQ et W rfl rfl (by omega))<|DP .r (fun _ d=>VA ao (Ow.jI (As.gs d.2.g2) (by simp only [List.length_map,List.length_append,List.length_cons,List.length_nil];omega) W (V _ (by first | exact y | exact y.trans (List.prefix_append _ _)))) .r)<|(cQ) ?_;rintro oo ⟨KF,Q⟩ _;refine WL.c1 (u:=t2.val) (fy (k:=(aL aa (j:Int))) (SD.ht (As.gf Q.g7)) (SD.hu (As.gf Q.g7)) (Ow.rd (As.gs Q.g0) (by simp;omega)) i.hb (gj g tC)) (by rw [U]) Q fun r7 s14 T=>?_;refine(cI) gD T.p5 fun pU zB sw dG=>?_;refine bN ?_;refine eC (n+1,t2,L2,ki,mB,iT,_,l,f,o,a91,(oV+1),Fy) ⟨dG.p2.drop.p4.p4.p3.p4,⟨by omega,C,pC,S,Ie,tD,wm,Yu,y,Fv,by rw [← U,dU g tC],trivial⟩⟩
    have Yv:bD iT t.ask=none:=by simpa using Yv
    refine(hW) ao db.b4<|(eN) (df (k:=t.ask)) db fun iX s11 K=>?_;refine(aT) (fun S2=>?_) fun S2=>?_
    ·
     simp at S2
     refine(hW) ao K.b4<|?_;have G:=K.p2.p7;refine(bX) GX (hv j t.ask NN (by rw [IB];exact DE) S2 _ _ _ _ G.e2 (As.gf G.g7) Ie) ?_;rintro _ ly ⟨Mj,rfl,hm4,KG,nP⟩;have Q:=St.lr G nP;refine bN ?_;obtain⟨sv,O⟩:∃s,s=valOf aa x.ab t.ask:=⟨_,rfl⟩
     have Fv:=(II.mono (fun _ h=>h) KG).snoc sv (fun _ _=>by rw [LH];exact O) (fun h P k hk=>by
      obtain⟨B5,DA,ID⟩:=je i g Ic rI P hk;rw [LH] at ID;rw [ID,bd B5 (by omega),DA] at S2;cases S2)
     refine EX.eqv (t:=10) (v':=.string sv) rfl (by rw [O])<|fO ?_;refine WL.go rfl (OX.aO (us:=[.string sv]) jq rfl rfl rfl rfl fun b90 oo Fw Fx=>?_);have T:=Q.cX Fw Fx;refine WL.ap rfl rfl T.p4 (SR.dd (A:=fun _=>True) (x:=sv) (As.gb T.g0) trivial rfl (by simp [Value.oneCell']) rfl) fun a91 Fy r7 SZ S0 dG=>?_;refine cq ?_;obtain⟨t2,U⟩:∃t,aH aa (aL aa (j:Int)) (acc++[sv])=t:=⟨_,rfl⟩
     have V:∀H:List Nat,L1 <+: H→(H.map fun j:Nat=>aL aa (j:Int))[idx]?=some (aL aa (j:Int)):=fun H h=>by
      rw [List.getElem?_map]
      have:=h.getElem N
      obtain⟨q,rfl⟩:=h;rw [List.getElem?_append_left N,tm];rfl
     obtain⟨tA,W⟩:=Ow.addr (As.gs dG.g4) (V _ (by first | exact y | exact y.trans (List.prefix_append _ _)));have S1:=dG.bO;refine WC.dS (m:=9) dG mixed<|(iu) jB St.g2<|bN ?_;refine DP .r (fun _ d=>PV.dQ et W rfl rfl (by omega))<|DP .r (fun _ d=>VA ao (Ow.jI (As.gs d.2.g4) (by simp only [List.length_map,List.length_append,List.length_cons,List.length_nil];omega) W (V _ (by first | exact y | exact y.trans (List.prefix_append _ _)))) .r)<|(cQ) ?_;rintro pU ⟨KF,dP⟩ _;refine WL.c1 (u:=t2.val) (fy (k:=(aL aa (j:Int))) (SD.ht (As.gf dP.g8)) (SD.hu (As.gf dP.g8)) (Ow.rd (As.gs dP.g0) (by simp;omega)) i.hb (gj g tC)) (by rw [U]) dP fun tE S3 fA=>?_;refine(cI) gD fA.p6 fun zI LI LJ dI=>?_;refine bN ?_;refine eC (n+1,t2,L2,ki,mB,Mj,_,l,f,o,a91,(oV+1),Fy) ⟨dI.p2.drop.p7.p7.p2.p7.p6.p5.p7,⟨by omega,C,pC.mono i C KG,S,hm4,tD.trans KG,wm,Yu,y,Fv,by rw [← U,dU g tC],trivial⟩⟩
    simp at S2
    have qh:outside aa aa[j].asks[n]=false:=by
     cases P:outside aa aa[j].asks[n]
     ·
      rfl
     have:=jd i g Ic rI P;rw [LH,S2] at this;cases this
    obtain⟨z,U2,IC,KH⟩:=ij i g Ic rI qh;rw [LH] at IC;have IJ:=U2.lt.2.2.2
    have pK:bD eO (aL aa (z:Int))=none:=by
     cases h:bD eO (aL aa (z:Int)) with
     | none=>rfl
     | some v=>have:=tD _ _ h;rw [← IC,Yv] at this;cases this
    have PA:∀k:Nat,aa[j].asks[n].n=k→k=z:=fun k hk=>by
     obtain⟨B5,DA,ID⟩:=je i g Ic rI qh hk;rw [LH,IC] at ID;exact(dY i KH B5 ID).symm
    refine(hW) ao K.b4<|?_;refine WP .r (PV.rj da dV mf (As.gm K.g3) rfl rfl)<|?_;refine aX ?_;refine(aT) (fun NQ=>?_) fun NQ=>?_
    ·
     simp at NQ
     have S4:z∉L2:=fun h=>by have:=S.1 z h;rw [← IC,NQ] at this;cases this
     have hk0:=C.out z S4;have hre:cU aa i0 z:=.step (C.reach j (y.subset sj)) U2;have ae2:=C.meet KH IJ S4 hre;have AH:=C.Gm KH IJ S4 hre;have NR:=BE (v:=u1) (j:=z) AH;have S5:=S.meet i (fun k hk=>(C.ring k hk).1) KH S4 hk0;rw [← IC] at S5
     have NS:ph t.ask=⟨#[48]⟩:=by rw [IC];exact sE KH (by omega) IJ
     refine nx ?_;have an6:=K.bO;refine WC.dB (m:=6) (E:=cB [(5,fun v _=>v=.string ⟨#[48]⟩)]) K (bm (⟨fun _ _ _ _ _ _ _ h=>h,trivial⟩)) mixed (by kernel_rfl)<|(tr) ao St.g4<|(tr) ao St.g4<|?_;refine DW.c1 (fun wx d hF=>qD (k:=t.ask)) (by rw [NS])<|(cQ) ?_;rintro ly ⟨PC,G⟩ ⟨_,_⟩;refine WL.go rfl (OX.put da dV (As.gm G.g3) rfl rfl rfl fun oo S6 S7=>?_);have Q:=G.p3.jU S6 S7;refine(hW) ao Q.b4<|?_;refine WL.go rfl (OX.aO (us:=t.ask.cells) dx rfl rfl rfl rfl fun b71 r7 S8 NT=>?_);have T:=Q.cX S8 NT;refine WL.ap rfl rfl T.p2 (SR.dd (A:=fun _=>True) (x:=t.ask) (As.gb T.g0) trivial rfl (by simp [Key.cells,Value.oneCell']) rfl) fun a72 ae3 pU an8 an9 dG=>?_;refine cq ?_;have dP:=dG.VG (show(L2.map fun j:Nat=>aL aa (j:Int))++[t.ask]=(L2++[z]).map fun j:Nat=>aL aa (j:Int) by rw [List.map_append,IC];rfl);have vA:=S5.1 z (by simp);rw [← IC] at vA;have U3:∀s,s=itoa (u1 z:Int)→Ev aa x.ab u1 (L2++[z]) eO iT aa[j].asks (n+1) (acc++[s]):=fun s hs=>(II.mono (fun _ h=>by simp [h]) (gh.refl _)).snoc s (fun h P=>by rw [qh] at P;cases P) (fun h P k hk=>by have:=PA k hk;subst this;exact .inr ⟨hs,by simp,pK⟩);refine(hW) ao dP.b5<|?_;refine WP .r (PV.bJ da dV mf (As.gm dP.g2) (vA) rfl rfl)<|bN ?_;obtain⟨sv,O⟩:∃s,s=itoa (u1 z:Int):=⟨_,rfl⟩;have Fv:=U3 sv O;refine EX.eqv (t:=10) (v':=.string sv) rfl (by rw [O])<|fO ?_;refine WL.go rfl (OX.aO (us:=[.string sv]) jq rfl rfl rfl rfl fun b90 tE Fw Fx=>?_);have fA:=dP.cX Fw Fx;refine WL.ap rfl rfl fA.p4 (SR.dd (A:=fun _=>True) (x:=sv) (As.gb fA.g0) trivial rfl (by simp [Value.oneCell']) rfl) fun a91 Fy zI SZ S0 dI=>?_;refine cq ?_;obtain⟨t2,U⟩:∃t,aH aa (aL aa (j:Int)) (acc++[sv])=t:=⟨_,rfl⟩
     have V:∀H:List Nat,L1 <+: H→(H.map fun j:Nat=>aL aa (j:Int))[idx]?=some (aL aa (j:Int)):=fun H h=>by
      rw [List.getElem?_map]
      have:=h.getElem N
      obtain⟨q,rfl⟩:=h;rw [List.getElem?_append_left N,tm];rfl
     obtain⟨tA,W⟩:=Ow.addr (As.gs dI.g2) (V _ (by first | exact y | exact y.trans (List.prefix_append _ _)));have S1:=dI.bO;refine WC.dS (m:=9) dI mixed<|(iu) jB St.g9<|bN ?_;refine DP .r (fun _ d=>PV.dQ et W rfl rfl (by omega))<|DP .r (fun _ d=>VA ao (Ow.jI (As.gs d.2.g2) (by simp only [List.length_map,List.length_append,List.length_cons,List.length_nil];omega) W (V _ (by first | exact y | exact y.trans (List.prefix_append _ _)))) .r)<|(cQ) ?_;rintro yo ⟨KF,eJ⟩ _;refine WL.c1 (u:=t2.val) (fy (k:=(aL aa (j:Int))) (SD.ht (As.gf eJ.g8)) (SD.hu (As.gf eJ.g8)) (Ow.rd (As.gs eJ.g0) (by simp;omega)) i.hb (gj g tC)) (by rw [U]) eJ fun Fz s19 fB=>?_;refine(cI) gD fB.p6 fun Ih S9 Ta ee=>?_;refine bN ?_;refine eC (n+1,t2,L2++[z],_,true,iT,_,a72,(f+1),ae3,a91,(oV+1),Fy) ⟨ee.p2.drop.p3.drop.p3.p4.p3.p4,⟨by omega,ae2,pC.meet hk0,S5,Ie,tD,⟨Nat.le_of_lt (Nat.lt_of_lt_of_le NR wm.1),fun _=>.inr (Nat.lt_of_lt_of_le NR wm.1)⟩,(fun h=>by cases h),y.trans (List.prefix_append _ _),Fv,by rw [← U,dU g tC],trivial⟩⟩
    simp at NQ
    have S4:z∈L2:=by
     by_cases h:z∈L2
     ·
      exact h
     have:=S.2 (aL aa (z:Int)) (fun k hk e=>h (by have:=dY i KH (C.ring k hk).1 e;rw [this];exact hk));rw [← IC] at this;rw [this] at NQ;cases NQ
    have vA:=S.1 z S4;rw [← IC] at vA;have U3:∀s,s=itoa (u1 z:Int)→Ev aa x.ab u1 L2 eO iT aa[j].asks (n+1) (acc++[s]):=fun s hs=>II.snoc s (fun h P=>by rw [qh] at P;cases P) (fun h P k hk=>by have:=PA k hk;subst this;exact .inr ⟨hs,S4,pK⟩);refine(hW) ao K.b4<|?_;refine WP .r (PV.bJ da dV mf (As.gm K.g3) (vA) rfl rfl)<|bN ?_;obtain⟨sv,O⟩:∃s,s=itoa (u1 z:Int):=⟨_,rfl⟩;have Fv:=U3 sv O;refine EX.eqv (t:=10) (v':=.string sv) rfl (by rw [O])<|fO ?_;refine WL.go rfl (OX.aO (us:=[.string sv]) jq rfl rfl rfl rfl fun b90 ly Fw Fx=>?_);have G:=K.cX Fw Fx;refine WL.ap rfl rfl G.p2 (SR.dd (A:=fun _=>True) (x:=sv) (As.gb G.g0) trivial rfl (by simp [Value.oneCell']) rfl) fun a91 Fy oo SZ S0 Q=>?_;refine cq ?_;obtain⟨t2,U⟩:∃t,aH aa (aL aa (j:Int)) (acc++[sv])=t:=⟨_,rfl⟩
    have V:∀H:List Nat,L1 <+: H→(H.map fun j:Nat=>aL aa (j:Int))[idx]?=some (aL aa (j:Int)):=fun H h=>by
     rw [List.getElem?_map]
     have:=h.getElem N
     obtain⟨q,rfl⟩:=h;rw [List.getElem?_append_left N,tm];rfl
    obtain⟨tA,W⟩:=Ow.addr (As.gs Q.g2) (V _ (by first | exact y | exact y.trans (List.prefix_append _ _)));have S1:=Q.bO;refine WC.dS (m:=9) Q mixed<|(iu) jB St.g8<|bN ?_;refine DP .r (fun _ d=>PV.dQ et W rfl rfl (by omega))<|DP .r (fun _ d=>VA ao (Ow.jI (As.gs d.2.g2) (by simp only [List.length_map,List.length_append,List.length_cons,List.length_nil];omega) W (V _ (by first | exact y | exact y.trans (List.prefix_append _ _)))) .r)<|(cQ) ?_;rintro r7 ⟨KF,T⟩ _;refine WL.c1 (u:=t2.val) (fy (k:=(aL aa (j:Int))) (SD.ht (As.gf T.g7)) (SD.hu (As.gf T.g7)) (Ow.rd (As.gs T.g0) (by simp;omega)) i.hb (gj g tC)) (by rw [U]) T fun pU s15 dG=>?_;refine(cI) gD dG.p5 fun tE U4 U5 dP=>?_;refine bN ?_;refine eC (n+1,t2,L2,ki,mB,iT,_,l,f,o,a91,(oV+1),Fy) ⟨dP.p2.drop.p4.p4.p3.p4,⟨by omega,C,pC,S,Ie,tD,wm,Yu,y,Fv,by rw [← U,dU g tC],trivial⟩⟩
   simp at Ig
   have Md:n=aa[j].asks.length:=by
    rcases Nat.lt_or_ge n aa[j].asks.length with h | h
    ·
     obtain⟨a,h1,_⟩:=ek i g (ae:=acc) (by rw [dO g];omega);rw [ht] at h1;rw [h1] at Ig;cases Ig
    omega
   subst Md;obtain⟨FB,NU,Tb,U6,NV⟩:=II.val i C g Ic;have KI:eU (u1 j) (eY aa[j].c.toNat (acc.map cD)):=fun b hb=>Tb b (ox j sj b hb);obtain⟨val,vB⟩:∃v,eY aa[j].c.toNat (acc.map cD)=v:=⟨_,rfl⟩;rw [vB] at FB NU KI U6 NV
   have htv:t.value=itoa (val:Int):=by
    have h1:=gB i g (ae:=acc) (by rw [dO g];omega);rw [ht] at h1;rw [h1,(ur i g Ic).1,← vB];rfl
   have FC:j∈L2:=y.subset sj;have PD:=y.length_le
   have Tc:L2[idx]?=some j:=by obtain⟨q,rfl⟩:=y;rw [List.getElem?_append_left N];exact tm
   have NW:(L2.map fun j:Nat=>aL aa (j:Int))[idx]?=some (aL aa (j:Int)):=by rw [List.getElem?_map,Tc];rfl
   refine fO ?_;obtain⟨KJ,lP⟩:=Ow.addr (As.gs dm.g0) NW;have aoa:=dm.bO;refine WC.dS (m:=8) dm mixed<|cq ?_;refine DP .r (fun _ d=>PV.dQ et lP rfl rfl (by omega))<|DP .r (fun _ d=>VA ao (Ow.jI (As.gs d.2.g0) (by rw [List.length_map];omega) lP NW) .r)<|DP .r (fun _ d=>PV.bJ da dV mf (As.gm d.2.g3) (S.1 j FC) rfl rfl)<|(iu) fw St.g4<|(cQ)<|?_;rintro iS ⟨aka,db⟩ _;refine(aT) (fun oy=>?_) fun oy=>?_
   ·
    simp at oy
    rw [htv] at oy;have Bg:u1 j≠val:=fun e=>oy (by rw [e]);have Yw:=Gn C FC FB KI Bg;obtain⟨Yx,sZ⟩:=Ow.addr (As.gs db.g0) NW;have aob:=db.bO;refine WC.dB (m:=9) (E:=cB [(7,fun v w'=>∃vv st,v=.tuple #[vv,.int .i64 ((st:Nat):Int)]∧KE Key.val w' X ki (aL aa (j:Int)) st)]) db (lC (⟨⟨trivial,trivial⟩,trivial⟩)) mixed (by kernel_rfl)<|cq ?_;refine DP .r (fun _ d=>PV.dQ et sZ rfl rfl (by omega))<|DP .r (fun _ d=>VA ao (Ow.jI (As.gs d.2.g0) (by rw [List.length_map];omega) sZ NW) .r)<|(iu) fw St.g4<|?_;refine DW.e rfl rfl rfl rfl rfl (fun wx d hF=>OX.Qu da dV mf (As.gm d.2.g3) rfl rfl rfl fun wy st vv sx hsz NX=>?_)<|?_
    ·
     have hg:=S.1 j FC;rw [hg] at NX;rw [Option.getD_some,xG hg] at NX;exact⟨⟨Nat.le_trans d.1 sx.size,d.2.same (A:=As.map Key.val X ki) (by simp) (sx.p.mono fun x _ hx=>by simpa [As.map] using hx) NX.km⟩,sx.p.mono (fun x _ hx=>Gg (A:=As.map Key.val X ki) (by simp) (by simpa [As.map] using hx)),_,rfl,_,_,rfl,NX⟩
    rintro _ wz _ ⟨ae5,fB,rfl,_⟩;refine(cQ) ?_;rintro iX ⟨akb,K⟩ ⟨SS,_⟩;obtain⟨_,_,KL,CB⟩:=SS;simp only [Value.tuple.injEq,Array.mk.injEq,List.cons.injEq,Value.int.injEq,true_and,and_true] at KL;have Td:=Int.natCast_inj.1 KL.2;rw [← Td] at CB;refine WL.go rfl (OX.DZ CB rfl rfl rfl fun ly Te _ Tf=>?_);have G:=K.p3.jU Te Tf;rw [htv] at G;refine kR ?_;refine eC (idx+1,L2,l8 u1 j val,cL ki (aL aa (j:Int)) (.string (itoa (val:Int))),true,iT,l,f,o) ⟨G.p2.drop.p3.drop.p2.p2,⟨Nat.le_trans N PD,C.set FC FB NU,pC.set i C FC FB NU KI U6,S.set i (fun k hk=>(C.ring k hk).1) FC val,Ie,vk.trans tD,⟨Nat.le_of_lt (Nat.lt_of_lt_of_le Yw SY.1),fun _=>Nat.lt_of_lt_of_le Yw SY.1⟩,(fun h=>by cases h),trivial⟩⟩
   simp at oy
   rw [htv] at oy;have oy:u1 j=val:=BA (by have:=C.le j;omega) (by omega) oy;refine gX ?_
   refine eC (idx+1,L2,u1,ki,mB,iT,l,f,o) ⟨db.p1.drop.p3.drop,⟨Nat.le_trans N PD,C,pC,S,Ie,vk.trans tD,SY,fun h m k hm hk=>by
      obtain⟨e1,e2⟩:=Yu h;subst e1
      by_cases e:m=idx
      ·
       subst e;rw [tm] at hk
       simp at hk;subst hk
       exact NV (oy ▸ rfl)
      exact vz e2 m k (by omega) hk,trivial⟩⟩
  simp at g27
  refine de ?_;refine EX.again (L1,u1,Pz,kU,eO,l,f,o) Sub.t ⟨iK,⟨Ia,ox,zG,AQ,vk,fun h j hj=>by obtain⟨m,hm,rfl⟩:=List.mem_iff_getElem.1 (show j∈L1 from hj);exact vz h m _ (by omega) (ak hm),trivial⟩⟩ (by simp only [];cases kU <;> simp at Ib ⊢ <;> omega)
 have g23:ch=false:=g23;have JB:=oL g23;have KN:=AR.done i JB;refine fO ?_;have ae6:=((As.gs hJ.g0)).len;rw [List.length_map] at ae6;have hL7:=AR.len;refine ez ?_;refine WC.bq (σ:=Nat × (List (Key × Value))) (dn:=fun(J,NY)=>[(0,.pointer (some ⟨D.s,0,none⟩)),(4,.map (some X)),(120,.slice l f o),(121,.int .i64 (f:Int)),(122,.int .i64 (J:Int))]) (F:=fun(J,NY)=>[As.map Key.val D.m NY]) (I:=fun(J,NY)=>(J≤L.length)∧(aU aa x.ab NY)∧(gh ml NY)∧(∀m j,m<J→L[m]?=some j→bD NY (aL aa (j:Int))=some (.string (valOf aa x.ab (aL aa (j:Int)))))∧True) (μ:=fun(J,NY)=>L.length - J) (0,Y) (hJ.p1) Sub.t (⟨by omega,H9,Ft,fun m j h=>by omega,trivial⟩)<|?_;rintro⟨J,NY⟩ w6 iK ⟨hi7,hm7,Tg,hd7,_⟩;simp only [CA,NA] at iK hi7 hm7 Tg hd7 ⊢;refine(aT) (fun FD=>?_) fun FD=>?_
 ·
  simp at FD
  have Yy:J<L.length:=by omega
  obtain⟨j,Cz⟩:∃j,L[J]=j:=⟨_,rfl⟩
  have tm:L[J]?=some j:=by rw [ak Yy,Cz]
  have sj:j∈L:=Cz ▸ List.getElem_mem Yy;obtain⟨g,Ic⟩:=AR.ring j sj;have Yz:=LG.1 j sj;rw [KN j sj,← iv i g Ic,← gY i g] at Yz;refine de ?_
  have hx7:(L.map fun j:Nat=>aL aa (j:Int))[J]?=some (aL aa (j:Int)):=by rw [List.getElem?_map,tm];rfl
  obtain⟨aod,PE⟩:=Ow.addr (As.gs iK.g1) hx7;refine nx ?_;refine WP .r (PV.dQ et PE rfl rfl (by omega))<|(aZ) ao (Ow.jI (As.gs iK.g1) (by rw [List.length_map];omega) PE hx7)<|(eW) iK fun b15 w7 ae8 ae9 iH=>?_;refine(cI) hP iH fun w8 ss7 hs7 eD=>?_;refine bN ?_;have aoe:=eD.bO;refine WC.dS (m:=8) eD mixed<|(iu) gJ St.g6<|(gM) ao St.g0<|(gM) ao St.g0<|?_;refine DP .r (fun _ d=>PV.bJ da dV mf (As.gm d.2.g3) (Yz) rfl rfl)<|(cQ)<|?_;rintro w9 ⟨akd,di⟩ _;refine WL.go rfl (OX.put da dV (As.gm di.g1) rfl rfl rfl fun iS afa afb=>?_);have cY:=di.p1.jU afa afb;refine ez ?_
  refine eC (J+1,_) ⟨cY.p1.drop,⟨by omega,hm7.put _,Tg.trans (gh.put hm7 _),fun m k hm hk=>by
     rw [ef]
     split
     ·
      rename_i e;rw [e]
     rename_i e
     refine hd7 m k ?_ hk
     rcases Nat.lt_or_ge m J with h | h
     ·
      exact h
     have:m=J:=by omega
     subst this;rw [tm] at hk;simp at hk;subst hk;exact absurd rfl e,trivial⟩⟩
 simp at FD
 obtain⟨mm,LK,Th⟩:=List.mem_iff_getElem.1 AR.first;have Ii:=hd7 mm i0 (by omega) (by rw [ak LK,Th]);refine cj ?_;refine EX.mV (.inr rfl) rfl<|?_;exact⟨NY,rfl,hm7,Tg,Ii,iK.p5.k2⟩
theorem KO(f:aq aa):∀i,i<aa.length→H7 aa x D (aL aa (i:Int)):=by
 intro i
 induction i using Nat.strongRecOn with
 | _ i l=>
  intro hi;have t:=f.len
  have q:∀a,ax a=false→(ay a=true∨∃m,m<i∧m<aa.length∧a=aL aa (m:Int))→H7 aa x D a:=fun a _ b w M Z ml h1 c d=>by
   rcases b with b | ⟨m,hm,g,rfl⟩
   ·
    exact lj h1 c d b
   exact l m hm g w M Z ml h1 c d
  have o:∀a,(ay a=true∨∃m,m<i∧m<aa.length∧a=aL aa (m:Int))→H7 aa x D a:=fun a b w M Z ml h1 c d=>by
   rcases b with b | ⟨m,hm,g,rfl⟩
   ·
    exact lj h1 c d b
   exact l m hm g w M Z ml h1 c d
  intro w M Z ml h1 c d;refine zD h1 c d f hi (fun hc w M Z ml h1 c d=>?_) fun a b hc=>o a ?_
  ·
   rw [bd hi (by omega)] at hc;refine Cy h1 c d f hi hc fun j a p r h=>q a h ?_;have s:=jc hi hc p;have o:=kg f p;have hle:=gu aa i
   rcases r with⟨n,e,rfl⟩ | ⟨m,e,rfl,_,_,_,k⟩
   ·
    exact .inl (bp (by omega))
   rw [bd e (by omega)] at h;exact .inr ⟨m,by have:=k h s.2;omega,e,rfl⟩
  rw [bd hi (by omega)] at hc
  rcases b with⟨n,e,rfl⟩ | ⟨m,e,rfl,_,k,_⟩
  ·
   exact .inl (bp (by omega))
  exact .inr ⟨m,k hc,e,rfl⟩
theorem Ij(a:aq aa) {k:Key}(hk:dX aa k):H7 aa x D k:=by
 cases hk with
 | cell h=>exact fun w M Z ml h1 b c=>lj h1 b c (bp h)
 | eX h _=>exact KO a _ h
end Go.Rc

