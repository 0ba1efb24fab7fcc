/- Walks over the program, part WI. Conditions: as each theorem says. -/
import Derived.Test.YtcongbofepbmeaaGreatDoorFFacts
import Derived.Test.YtcongbofepbmeaaGreatDoorFWH
import Derived.Test.YtcongbofepbmeaaGreatDoorFBe
set_option linter.all false
namespace Go.Rc
open Go Go.Proofs Go.Proofs.Tryz
variable {x:cA}{w:World}{M Z:Nat→Prop}{aa:List aA}{D:SD}{ml:List (Key × Value)}
set_option maxHeartbeats 400000
theorem jW{ar a1 a2:Option Addr}{r cr n1 c1 n2 c2:Nat}(a:St w M Z w []):Calls prog 34 #[.slice ar r cr,.agg (x.row a1 n1 c1 a2 n2 c2).toArray] w fun e w'=>∃s m q,e=.returned (.pointer (some ⟨s,0,none⟩))∧St w M Z w' [As.blk s 116 (SD.cells ⟨ar,a1,a2,r,cr,n1,c1,n2,c2,m,q,s⟩ x),As.map Key.val m [],As.map Key.val q []]:=by
 refine enter func34 rfl ntmps34 rfl<|?_;have aR:=a;refine(dE) aR fun b3 w1 g h st1=>?_;refine(aT) aJ st1.b0<|?_;refine WL.mm Key.val st1 fun b w2 i j st2=>?_;refine WL.mm Key.val st2 fun c w3 k l d=>?_;refine WP .r (PV.bs (us:=(SD.cells ⟨ar,a1,a2,r,cr,n1,c1,n2,c2,b,c,0⟩ x)) S5 rfl rfl rfl)<|(dE) d fun n w4 o p f=>?_;refine(bm) ?_;exact⟨_,_,_,rfl,f.p3.drop.p2.p1⟩
def Gk(aa:List aA) (x:cA) (D:SD) (k:Key):Prop:=∀(w:World) (M Z:Nat→Prop) (ml:List (Key × Value)),St w M Z w [As.blk D.s 116 (D.cells x),As.map Key.val D.m ml]→(D.F prog aa x).p Z w→aY aa x.ad ml→
 Calls prog 35 #[.pointer (some ⟨D.s,0,none⟩),k.val] w fun e w'=>∃mC,e=.returned (.string (valOf aa x.ad k))∧aY aa x.ad mC∧iE ml mC∧St w M Z w' [As.blk D.s 116 (D.cells x),As.map Key.val D.m mC]
def ZT(aa:List aA) (x:cA) (D:SD) (k:Key):Prop:=∀(w:World) (M Z:Nat→Prop) (ml:List (Key × Value)),St w M Z w [As.blk D.s 116 (D.cells x),As.map Key.val D.m ml]→(D.F prog aa x).p Z w→aY aa x.ad ml→
 Calls prog 74 #[.pointer (some ⟨D.s,0,none⟩),k.val] w fun e w'=>∃mC,e=.returned (.tuple #[])∧aY aa x.ad mC∧iE ml mC∧bq mC k=some (.string (valOf aa x.ad k))∧St w M Z w' [As.blk D.s 116 (D.cells x),As.map Key.val D.m mC]
theorem kM{k:Key}(d:St w M Z w [As.blk D.s 116 (D.cells x),As.map Key.val D.m ml]) (f:(D.F prog aa x).p Z w) (hm:aY aa x.ad ml) (hk:aB k=true):Calls prog 35 #[.pointer (some ⟨D.s,0,none⟩),k.val] w fun e w'=>∃a,e=.returned (.string (valOf aa x.ad k))∧aY aa x.ad a∧iE ml a∧St w M Z w' [As.blk D.s 116 (D.cells x),As.map Key.val D.m a]:=by
 refine enter func35 rfl ntmps35 rfl<|?_;have aR:=d;have st1:=aR.fact (B:=As.fz (D.F prog aa x)) f (fun _ g=>g);refine(dE) st1 fun b3 w1 i j st2=>?_;refine(aT) ak st2.b0<|(dH) (de (k:=k)) st2 fun w2 s2 c=>?_;refine(aN) (fun g10=>?_) fun g10=>?_
 ·
  refine nx ?_;have l:=c.cj;refine WC.dS (m:=5) c mixed<|(vE) aJ St.g2<|(gx) ak St.g0<|(cG)<|?_;rintro w3 ⟨n,b⟩ _;refine(dH) (qx (k:=k) (SD.hi (As.gf b.g1)) (SD.hr (As.gf b.g1))) b fun w4 o h=>?_;refine(bm) ?_;exact⟨ml,by unfold valOf cellOf;rw [if_pos hk],hm,iE.refl _,h.drop.drop⟩
 rw [hk] at g10;cases g10
theorem yx{i:Nat}(gg:St w M Z w [As.blk D.s 116 (D.cells x),As.map Key.val D.m ml]) (hf:(D.F prog aa x).p Z w) (hm:aY aa x.ad ml) (g:aq aa) (hi:i<aa.length) (W:ax (aD aa (i:Int))=true→ZT aa x D (aD aa (i:Int))) (X:∀a,ez aa i a→ax (aD aa (i:Int))=false→Gk aa x D a):Calls prog 35 #[.pointer (some ⟨D.s,0,none⟩),(aD aa (i:Int)).val] w fun e w'=>∃O,e=.returned (.string (valOf aa x.ad (aD aa (i:Int))))∧aY aa x.ad O∧iE ml O∧St w M Z w' [As.blk D.s 116 (D.cells x),As.map Key.val D.m O]:=by
 have GN:=g.len
 have gD:i≤99:=by omega
 obtain⟨k,hk⟩:∃k,aD aa (i:Int)=k:=⟨_,rfl⟩;have hP:=cM hi gD;have ha6:=jL g hi;rw [hk] at hP W X ⊢;refine enter func35 rfl ntmps35 rfl<|?_;have aR:=gg;have st1:=aR.fact (B:=As.fz (D.F prog aa x)) hf (fun _ hx=>hx);refine(dE) st1 fun b3 w1 GS xy st2=>?_;refine(aT) ak st2.b0<|(dH) (de (k:=k)) st2 fun w2 s2 Y=>?_;refine(aN) (fun g10=>?_) fun g10=>?_
 ·
  rw [hP] at g10;cases g10
 refine cX ?_;have Gl:=Y.cj;refine WC.dS (m:=10) Y mixed<|(gT) fG St.g2<|(gx) ak St.g0<|?_;refine DP .r (fun _ d=>PV.my ec dJ lO (As.gm d.2.g3) rfl rfl)<|(cG) ?_;rintro w3 ⟨vP,P⟩ _;refine(aN) (fun g26=>?_) fun g26=>?_
 ·
  obtain⟨vv,Pq⟩:=Option.isSome_iff_exists.1 g26;have Pr:=hm k vv Pq;refine(bm) ?_;exact⟨ml,by rw [Pq,Pr];rfl,hm,iE.refl _,P.drop.drop⟩
 refine(aT) ak P.b0<|(dH) (cQ (k:=k)) P fun w4 s4 Q=>?_;refine(aN) (fun R=>?_) fun R=>?_
 ·
  refine(aT) ak Q.b0<|?_;have y:=Q.p3.p3;refine(bL) Ze (W R _ _ _ _ y.e2 (As.gf y.g3) hm) ?_;rintro _ w5 ⟨eH,rfl,S,T,Si,pA⟩;have f:=St.lr y pA;refine cL ?_;have Pu:=f.cj;refine WC.dS (m:=5) f mixed<|(gT) fG St.g0<|(gx) ak St.g2<|(cG)<|?_;rintro w6 ⟨mh,H⟩ _;refine WP .r (PV.look ec dJ lO (As.gm H.g1) rfl rfl)<|(bm) ?_;exact⟨eH,by rw [Si];rfl,S,T,H.p2.drop.p2.drop⟩
 have y:=Q.df RR.str 9 1;refine iC ?_;refine WC.bd (σ:=Nat × (List (Key × Value)) × (List ByteArray) × (Option Addr) × Nat × Nat) (dm:=fun(n,j,acc,o,l,q)=>[(0,.pointer (some ⟨D.s,0,none⟩)),(3,.pointer (some ⟨b3,0,none⟩)),(7,.slice o l q)]) (F:=fun(n,j,acc,o,l,q)=>[As.os RR.str 9 1 o l q (acc),As.map Key.val D.m j]) (I:=fun(n,j,acc,o,l,q)=>(n≤bZ aa i)∧(aY aa x.ad j)∧(iE ml j)∧(acc=(dR (bQ aa k) (valOf aa x.ad) n).2)∧True) (μ:=fun(n,j,acc,o,l,q)=>bZ aa i - n) (0,ml,[],none,0,0) (y.p4.p1) Sub.t (⟨by omega,hm,iE.refl _,rfl,trivial⟩)<|?_;rintro⟨n,j,acc,o,l,q⟩ w5 f ⟨hn,J,U,K,_⟩;simp only [CA,NA] at f hn J U K ⊢;have r7:=((As.gs f.g0)).len
 have vN:acc.length=n:=by rw [K];exact(eV _ _ n).2
 obtain⟨t,GV⟩:∃t,aL aa k acc=t:=⟨_,rfl⟩
 have z:bQ aa k acc=t:=by rw [← GV,← hk,eB hi gD]
 refine bz ?_;have vQ:=f.cj;have Bj:=f.j4;have Bk:=f.size;refine WC.cJ (m:=8) (E:=bK [(6,fun v _=>v=t.val),(7,PB w5.heap.size 55 [.bool false,.string ⟨#[]⟩,.int .i64 0,.string ⟨#[]⟩])]) f (aS (⟨fun _ _ _ _ _ _ _ h=>h,⟨fun _ _ _ _ _ _ c h=>PB.st vQ c h,trivial⟩⟩)) mixed (by kernel_rfl)<|(gT) jT St.g4<|(gx) ak St.g2<|nx ?_;refine DW.c1 (fun wx d hF=>dO (k:=k) (SD.ht (As.gf d.2.g3)) (SD.hu (As.gf d.2.g3)) (Ow.rd (As.gs d.2.g0) (by omega)) g.hb (hk ▸ eW hi gD)) (by rw [GV])<|?_;refine DW.e rfl rfl rfl rfl rfl (fun wx d hF=>OX.alloc vM rfl fun b wy L hb=>⟨⟨Nat.le_trans d.1 L.ext.size,d.2.step L.ext⟩,L.ext.p0,_,rfl,_,rfl,Nat.le_trans d.1 L.ge,hb⟩)<|?_;rintro _ wz _ ⟨b8,rfl,_,_⟩;refine(cG) ?_;rintro w6 ⟨uH,H⟩ ⟨Le,⟨_,_⟩⟩;have jc:=H.pW Le vQ Bj Bk;refine(cD) hY jc fun w7 ko ly C=>?_;refine(aU) dM C.b0<|(aN) (fun G=>?_) fun G=>?_
 ·
  have GL:n=bZ aa i:=by
   rcases Nat.lt_or_ge n (bZ aa i) with h | h
   ·
    obtain⟨a,h1,_⟩:=dd g hi (ae:=acc) (by omega);rw [hk,z] at h1;rw [h1] at G;cases G
   omega
  have V:t.value=valOf aa x.ad k:=by
   have h1:=fP (az:=x.ad) g hi;rw [hk,← GL,← K,z] at h1;rw [h1]
  refine nx ?_;have Uz:=C.cj;refine WC.dS (m:=7) C mixed<|(gT) fG St.g5<|(gx) ak St.g3<|(gT) eY St.g0<|(cG)<|?_;rintro w8 ⟨EY,u⟩ _;refine WL.go rfl (OX.put ec dJ (As.gm u.g2) rfl rfl rfl fun w9 It DC=>?_);have N:=u.p2.jn It DC;refine(aU) eY N.b1<|(bm) ?_;exact⟨_,by rw [V],by rw [V];exact J.put k,by rw [V];exact U.trans (iE.put J k),N.p5.k2⟩
 have GL:n<bZ aa i:=by
  rcases Nat.lt_or_ge n (bZ aa i) with h | h
  ·
   exact h
  have h1:=fx g hi (ae:=acc) (by omega);rw [hk,z] at h1;rw [h1] at G;cases G
 obtain⟨a,y5,y7,_⟩:=dd g hi (ae:=acc) (by omega);rw [hk,z] at y5
 have Ez:t.ask=a:=by rw [y5]
 refine(il) ak C.b0<|?_;have u:=C.p2.p5;refine(bL) Gc (X t.ask (by rw [Ez];exact y7) R _ _ _ _ u.e2 (As.gf u.g5) J) ?_;rintro _ w8 ⟨eH,rfl,S,T,mi⟩;have N:=St.lr u mi;refine WL.go rfl (OX.aP (us:=[.string (valOf aa x.ad t.ask)]) kH rfl rfl rfl rfl fun b62 w9 ZU ZW=>?_);have db:=N.dy ZU ZW;refine WL.ap rfl rfl db.p4 (SR.dn (A:=fun _=>True) (x:=valOf aa x.ad t.ask) (As.gb db.g0) trivial rfl (by simp [Value.oneCell']) rfl) fun a63 ZX jB ahA ahB cF=>?_;refine cL ?_;refine dY (n+1,eH,acc++[valOf aa x.ad t.ask],a63,(l+1),ZX) ⟨cF.p1.drop.p3.drop.p4.p4.p4.p3,⟨by omega,S,U.trans T,by simp only [dR];rw [← K,z],trivial⟩⟩
set_option maxHeartbeats 1600000 in
theorem Bl{i0:Nat}(gg:St w M Z w [As.blk D.s 116 (D.cells x),As.map Key.val D.m ml]) (hf:(D.F prog aa x).p Z w) (hm:aY aa x.ad ml) (i:aq aa) (hi:i0<aa.length) (Jt:ay aa i0=true) (hv:∀j a,cB aa i0 j→ez aa j a→ax a=false→Gk aa x D a):Calls prog 74 #[.pointer (some ⟨D.s,0,none⟩),(aD aa (i0:Int)).val] w fun e w'=>∃mC,e=.returned (.tuple #[])∧aY aa x.ad mC∧iE ml mC∧bq mC (aD aa (i0:Int))=some (.string (valOf aa x.ad (aD aa (i0:Int))))∧St w M Z w' [As.blk D.s 116 (D.cells x),As.map Key.val D.m mC]:=by
 have GN:=i.len
 have gD:i0≤99:=by omega
 have Pv:=rf hi gD Jt;refine enter func74 rfl ntmps74 rfl<|?_;have aR:=gg;have st1:=aR.fact (B:=As.fz (D.F prog aa x)) hf (fun _ hx=>hx);refine(dE) st1 fun b3 w1 GS xy st2=>?_;refine cL ?_;have ZY:=st2.cj;have ZZ:=st2.j4;have Z0:=st2.size;refine WC.cJ (m:=4) (E:=bK [(0,PM Key.val w1.heap.size),(3,fun v _=>v=.string ⟨#[48]⟩)]) st2 (aS (⟨fun _ _ _ _ _ _ c h=>PM.st ZY c h,⟨fun _ _ _ _ _ _ _ h=>h,trivial⟩⟩)) mixed (by kernel_rfl)<|?_;refine DW.e rfl rfl rfl rfl rfl (fun wx d hF=>OX.makeMap Key.val rfl fun b wy nw hb=>⟨⟨Nat.le_trans d.1 nw.ext.size,d.2.step nw.ext⟩,nw.ext.p0,_,rfl,_,rfl,Nat.le_trans d.1 nw.ge,hb⟩)<|?_;rintro _ wz _ ⟨X,rfl,_,_⟩;refine(gx) ak St.g0<|(gx) ak St.g0<|?_;refine DW.c1 (fun wx d hF=>lR (k:=(aD aa (i0:Int)))) (by rw [Pv])<|(cG) ?_;rintro w2 ⟨uI,j5⟩ ⟨_,⟨hF0,_⟩⟩;have i6:=j5.XU hF0 ZY ZZ Z0;refine WL.go rfl (OX.ins ec dJ (As.gm i6.g0) rfl rfl rfl fun w3 DD uJ=>?_);have jD:=i6.jn DD uJ;refine(aT) ak jD.b1<|?_;refine WL.go rfl (OX.aP (us:=(aD aa (i0:Int)).cells) dU rfl rfl rfl rfl fun Xa w4 Gm Iu=>?_);have jC:=St.vB (R:=RR.key) (E:=29) (k:=2) (a:=some ⟨Xa,0,none⟩) (n:=1) (c:=1) (xs:=[(aD aa (i0:Int))]) jD Gm.ext (OR.dn Iu (Nat.zero_le _) rfl (by simp [Key.cells,Value.oneCell']) rfl) (fun x hx=>by simp [aG] at hx;subst hx;exact Gm.ge);refine j8 ?_;refine WC.bd (σ:=(List Nat) × (Nat→Nat) × (List (Key × Value)) × Bool × (List (Key × Value)) × (Option Addr) × Nat × Nat) (dm:=fun(L,u,am,ch,Y,l,f,o)=>[(0,.pointer (some ⟨D.s,0,none⟩)),(4,.map (some X)),(5,.slice l f o),(6,.bool ch)]) (F:=fun(L,u,am,ch,Y,l,f,o)=>[As.os RR.key 29 2 l f o (L.map fun j:Nat=>aD aa (j:Int)),As.map Key.val D.m Y,As.map Key.val X am]) (I:=fun(L,u,am,ch,Y,l,f,o)=>(di aa x.ad i0 L u)∧(kz aa x.ad L u Y)∧(mf aa L u am)∧(aY aa x.ad Y)∧(iE ml Y)∧(ch=false→∀j∈L,nA aa x.ad L u j)∧True) (μ:=fun(L,u,am,ch,Y,l,f,o)=>2*nU aa L u+(if ch then 1 else 0)) ([i0],fun _=>0,cO [] (aD aa (i0:Int)) (.string ⟨#[48]⟩),true,ml,(some ⟨Xa,0,none⟩),1,1) (jC.p1.p5.p2) Sub.t (⟨di.start hi Jt,kz.start,⟨fun j hj=>by simp at hj;subst hj;rw [show itoa ((0:Nat):Int)=⟨#[48]⟩ by decide +kernel];simp [cO,bq],fun k hk=>by simp [cO,bq];intro e;exact hk i0 (by simp) e.symm⟩,hm,iE.refl _,(fun h=>by cases h),trivial⟩)<|?_;rintro⟨L,u,am,ch,Y,l,f,o⟩ w5 ij ⟨GW,CU,MI,MJ,DE,oZ,_⟩;simp only [CA,NA] at ij GW CU MI MJ DE oZ ⊢;refine(aN) (fun g23=>?_) fun g23=>?_
 ·
  have g23:ch=true:=g23;subst g23
  clear oZ
  refine aO ?_;refine bz ?_;refine WC.bd (σ:=Nat × (List Nat) × (Nat→Nat) × (List (Key × Value)) × Bool × (List (Key × Value)) × (Option Addr) × Nat × Nat) (dm:=fun(idx,L1,u1,MK,kE,eH,l,f,o)=>[(0,.pointer (some ⟨D.s,0,none⟩)),(4,.map (some X)),(5,.slice l f o),(6,.bool kE),(7,.int .i64 (idx:Int))]) (F:=fun(idx,L1,u1,MK,kE,eH,l,f,o)=>[As.os RR.key 29 2 l f o (L1.map fun j:Nat=>aD aa (j:Int)),As.map Key.val D.m eH,As.map Key.val X MK]) (I:=fun(idx,L1,u1,MK,kE,eH,l,f,o)=>(idx≤L1.length)∧(di aa x.ad i0 L1 u1)∧(kz aa x.ad L1 u1 eH)∧(mf aa L1 u1 MK)∧(aY aa x.ad eH)∧(iE ml eH)∧(nU aa L1 u1≤nU aa L u∧(kE=true→nU aa L1 u1<nU aa L u))∧(kE=false→∀m j,m<idx→L1[m]?=some j→nA aa x.ad L1 u1 j)∧True) (μ:=fun(idx,L1,u1,MK,kE,eH,l,f,o)=>aa.length - idx) (0,L,u,am,false,Y,l,f,o) (ij.p2.p2.p2) Sub.t (⟨by omega,GW,CU,MI,MJ,DE,⟨Nat.le_refl _,(fun h=>by cases h)⟩,fun _ m j h=>by omega,trivial⟩)<|?_;rintro⟨idx,L1,u1,MK,kE,eH,l,f,o⟩ w6 ju ⟨Pw,Gn,yy,Bm,vI,uA,Gp,uK,_⟩;simp only [CA,NA] at ju Pw Gn yy Bm vI uA Gp uK ⊢;have r7:=((As.gs ju.g0)).len;rw [List.length_map] at r7;have hL1:=Gn.len;refine(aN) (fun g27=>?_) fun g27=>?_
  ·
   simp at g27
   have N:idx<L1.length:=by omega
   obtain⟨j,Bn⟩:∃j,L1[idx]=j:=⟨_,rfl⟩
   have rU:L1[idx]?=some j:=by rw [ai N,Bn]
   have qM:j∈L1:=Bn ▸ List.getElem_mem N;obtain⟨g,Gq⟩:=Gn.ring j qM
   have sf:j≤99:=by omega
   have hja:=jL i g;rw [ea g] at hja;have jc:=ju.df RR.str 9 1;refine j8 ?_;obtain⟨t,GV⟩:∃t,aL aa (aD aa (j:Int)) []=t:=⟨_,rfl⟩
   have UA:(L1.map fun j:Nat=>aD aa (j:Int))[idx]?=some (aD aa (j:Int)):=by rw [List.getElem?_map,rU];rfl
   obtain⟨ia,ck⟩:=Ow.addr (As.gs jc.g1) UA;have vQ:=jc.cj;have Bj:=jc.j4;have Bk:=jc.size;refine WC.cJ (m:=11) (E:=bK [(9,fun v _=>v=t.val),(10,PB w6.heap.size 55 [.bool false,.string ⟨#[]⟩,.int .i64 0,.string ⟨#[]⟩])]) jc (aS (⟨fun _ _ _ _ _ _ _ h=>h,⟨fun _ _ _ _ _ _ c h=>PB.st vQ c h,trivial⟩⟩)) mixed (by kernel_rfl)<|(gT) jT St.g6<|bz ?_;refine DP .r (fun _ d=>PV.ei eI ck rfl rfl (by omega))<|DP .r (fun _ d=>VA ak (Ow.mb (As.gs d.2.g1) (by rw [List.length_map];omega) ck UA) .r)<|nx ?_;refine DW.c1 (fun wx d hF=>dO (k:=(aD aa (j:Int))) (SD.ht (As.gf d.2.g5)) (SD.hu (As.gf d.2.g5)) (Ow.rd (As.gs d.2.g0) (by simp)) i.hb (eW g sf)) (by rw [GV])<|?_;refine DW.e rfl rfl rfl rfl rfl (fun wx d hF=>OX.alloc vM rfl fun b wy nw hb=>⟨⟨Nat.le_trans d.1 nw.ext.size,d.2.step nw.ext⟩,nw.ext.p0,_,rfl,_,rfl,Nat.le_trans d.1 nw.ge,hb⟩)<|?_;rintro _ wz _ ⟨b9,rfl,_,_⟩;refine(cG) ?_;rintro w7 ⟨uH,ef⟩ ⟨yz,⟨_,_⟩⟩;have dw:=ef.pW yz vQ Bj Bk;refine(cD) hY dw fun w8 r8 mr dz=>?_;refine cX ?_;refine WC.bd (σ:=Nat × rW × (List Nat) × (List (Key × Value)) × Bool × (List (Key × Value)) × (List ByteArray) × (Option Addr) × Nat × Nat × (Option Addr) × Nat × Nat) (dm:=fun(n,t,L2,jP,lZ,iN,acc,l,f,o,xz,n5,xA)=>[(0,.pointer (some ⟨D.s,0,none⟩)),(4,.map (some X)),(5,.slice l f o),(6,.bool lZ),(7,.int .i64 (idx:Int)),(8,.slice xz n5 xA),(9,.pointer (some ⟨b9,0,none⟩))]) (F:=fun(n,t,L2,jP,lZ,iN,acc,l,f,o,xz,n5,xA)=>[As.os RR.key 29 2 l f o (L2.map fun j:Nat=>aD aa (j:Int)),As.os RR.str 9 1 xz n5 xA (acc),As.map Key.val D.m iN,As.map Key.val X jP,As.blk b9 55 [.bool t.done,.string t.value,.int .i64 t.ask.kind,.string t.ask.text]]) (I:=fun(n,t,L2,jP,lZ,iN,acc,l,f,o,xz,n5,xA)=>(n≤aa[j].asks.length)∧(di aa x.ad i0 L2 u1)∧(kz aa x.ad L2 u1 iN)∧(mf aa L2 u1 jP)∧(aY aa x.ad iN)∧(iE eH iN)∧(nU aa L2 u1≤nU aa L1 u1∧(lZ=true→kE=true∨nU aa L2 u1<nU aa L1 u1))∧(lZ=false→L2=L1∧kE=false)∧(L1 <+: L2)∧(Ev aa x.ad u1 L2 eH iN aa[j].asks n acc)∧(bQ aa (aD aa (j:Int)) acc=t)∧True) (μ:=fun(n,t,L2,jP,lZ,iN,acc,l,f,o,xz,n5,xA)=>aa[j].asks.length - n) (0,t,L1,MK,kE,eH,[],l,f,o,none,0,0) (dz.p4.p4.p3.p4) Sub.t (⟨by omega,Gn,yy,Bm,vI,iE.refl _,⟨Nat.le_refl _,fun h=>.inl h⟩,fun h=>⟨rfl,h⟩,List.prefix_refl _,Ev.start,by rw [← GV,eB g sf],trivial⟩)<|?_;rintro⟨n,t,L2,jP,lZ,iN,acc,l,f,o,xz,n5,xA⟩ w9 db ⟨hn,C,ya,S,ML,Bo,B4,UB,y,Ju,ht,_⟩;simp only [CA,NA] at db hn C ya S ML Bo B4 UB y Ju ht ⊢;have DF:=((As.gs db.g0)).len;rw [List.length_map] at DF;have Rg:=((As.gs db.g1)).len;have hL2:=C.len;have vN:=Ju.len;have ahE:=y.length_le;have Px:nU aa L2 u1≤nU aa L u∧(lZ=true→nU aa L2 u1<nU aa L u):=⟨by omega,fun h=>by rcases B4.2 h with h1 | h1;have:=Gp.2 h1;omega;omega⟩;refine(aU) dM db.b4<|(aN) (fun Gr=>?_) fun Gr=>?_
   ·
    simp at Gr
    have GL:n<aa[j].asks.length:=by
     rcases Nat.lt_or_ge n aa[j].asks.length with h | h
     ·
      exact h
     have h1:=fx i g (ae:=acc) (by rw [ea g];omega);rw [ht] at h1;rw [h1] at Gr;cases Gr
    obtain⟨a,y5,y7,Ul⟩:=dd i g (ae:=acc) (by rw [ea g];omega);obtain⟨xq,hxq,hax⟩:=Ul Gq;rw [vN,ai GL] at hxq
    simp at hxq
    rw [ht] at y5
    have Ez:t.ask=a:=by rw [y5]
    have Jv:bw aa aa[j].asks[n]=t.ask:=by rw [Ez,hax,hxq]
    have qf:aa[j].asks[n]∈aa[j].asks:=List.getElem_mem GL;have Lf:=Gn.reach j qM;refine cX ?_;have Uz:=db.cj;refine WC.dS (m:=11) db mixed<|(gT) fG St.g7<|(vE) ak St.g4<|?_;refine DP .r (fun _ d=>PV.my ec dJ lO (As.gm d.2.g2) rfl rfl)<|(cG) ?_;rintro jB ⟨EY,cF⟩ _;refine(aN) (fun UC=>?_) fun UC=>?_
    ·
     obtain⟨vv,Pq⟩:=Option.isSome_iff_exists.1 UC;have Pr:=ML _ vv Pq;obtain⟨sv,O⟩:∃s,s=valOf aa x.ad t.ask:=⟨_,rfl⟩
     have DH:=Ju.snoc sv (fun _ _=>by rw [Jv];exact O) (fun h P k hk=>.inl (by
      obtain⟨FU,Mg,GR⟩:=ir i g Gq qf P hk;rw [Jv] at GR;rw [GR] at Pq O;exact⟨by rw [O,fB i FU,fX i FU Mg],by rw [Pq];rfl⟩))
     refine WC.eqv (t:=10) (v':=.string sv) rfl (by rw [Pq,Pr,O];rfl)<|eP ?_;refine WL.go rfl (OX.aP (us:=[.string sv]) kH rfl rfl rfl rfl fun b90 iV DI DJ=>?_);have K:=cF.dy DI DJ;refine WL.ap rfl rfl K.p2 (SR.dn (A:=fun _=>True) (x:=sv) (As.gb K.g0) trivial rfl (by simp [Value.oneCell']) rfl) fun a91 DK mu Py Pz G=>?_;refine cL ?_;obtain⟨t2,U⟩:∃t,aL aa (aD aa (j:Int)) (acc++[sv])=t:=⟨_,rfl⟩
     have V:∀H:List Nat,L1 <+: H→(H.map fun j:Nat=>aD aa (j:Int))[idx]?=some (aD aa (j:Int)):=fun H h=>by
      rw [List.getElem?_map]
      have:=h.getElem N
      obtain⟨q,rfl⟩:=h;rw [List.getElem?_append_left N,rU];rfl
     obtain⟨nL,W⟩:=Ow.addr (As.gs G.g2) (V _ (by first | exact y | exact y.trans (List.prefix_append _ _)));have PA:=G.cj;refine WC.dS (m:=9) G mixed<|(gT) jT St.g8<|bz ?_;refine DP .r (fun _ d=>PV.ei eI W rfl rfl (by omega))<|DP .r (fun _ d=>VA ak (Ow.mb (As.gs d.2.g2) (by simp only [List.length_map,List.length_append,List.length_cons,List.length_nil];omega) W (V _ (by first | exact y | exact y.trans (List.prefix_append _ _)))) .r)<|(cG) ?_;rintro oL ⟨Iv,Q⟩ _;refine WL.c1 (u:=t2.val) (dO (k:=(aD aa (j:Int))) (SD.ht (As.gf Q.g7)) (SD.hu (As.gf Q.g7)) (Ow.rd (As.gs Q.g0) (by simp;omega)) i.hb (eW g sf)) (by rw [U]) Q fun uL Xb T=>?_;refine(cD) hY T.p5 fun pB Bc wQ dV=>?_;refine bz ?_;refine dY (n+1,t2,L2,jP,lZ,iN,_,l,f,o,a91,(n5+1),DK) ⟨dV.p2.drop.p4.p4.p3.p4,⟨by omega,C,ya,S,ML,Bo,B4,UB,y,DH,by rw [← U,eB g sf],trivial⟩⟩
    have UC:bq iN t.ask=none:=by simpa using UC
    refine(il) ak cF.b4<|(dH) (cQ (k:=t.ask)) cF fun iV Xc K=>?_;refine(aN) (fun PC=>?_) fun PC=>?_
    ·
     simp at PC
     refine(il) ak K.b4<|?_;have G:=K.p2.p7;refine(bL) Gc (hv j t.ask Lf (by rw [Ez];exact y7) PC _ _ _ _ G.e2 (As.gf G.g7) ML) ?_;rintro _ mu ⟨J5,rfl,hm4,Iw,xB⟩;have Q:=St.lr G xB;refine bz ?_;obtain⟨sv,O⟩:∃s,s=valOf aa x.ad t.ask:=⟨_,rfl⟩
     have DH:=(Ju.mono (fun _ h=>h) Iw).snoc sv (fun _ _=>by rw [Jv];exact O) (fun h P k hk=>by
      obtain⟨FU,Mg,GR⟩:=ir i g Gq qf P hk;rw [Jv] at GR;rw [GR,bj FU (by omega),Mg] at PC;cases PC)
     refine EX.eqv (t:=10) (v':=.string sv) rfl (by rw [O])<|gw ?_;refine WL.go rfl (OX.aP (us:=[.string sv]) kH rfl rfl rfl rfl fun b90 oL DI DJ=>?_);have T:=Q.dy DI DJ;refine WL.ap rfl rfl T.p4 (SR.dn (A:=fun _=>True) (x:=sv) (As.gb T.g0) trivial rfl (by simp [Value.oneCell']) rfl) fun a91 DK uL Py Pz dV=>?_;refine cL ?_;obtain⟨t2,U⟩:∃t,aL aa (aD aa (j:Int)) (acc++[sv])=t:=⟨_,rfl⟩
     have V:∀H:List Nat,L1 <+: H→(H.map fun j:Nat=>aD aa (j:Int))[idx]?=some (aD aa (j:Int)):=fun H h=>by
      rw [List.getElem?_map]
      have:=h.getElem N
      obtain⟨q,rfl⟩:=h;rw [List.getElem?_append_left N,rU];rfl
     obtain⟨nL,W⟩:=Ow.addr (As.gs dV.g4) (V _ (by first | exact y | exact y.trans (List.prefix_append _ _)));have PA:=dV.cj;refine WC.dS (m:=9) dV mixed<|(gT) jT St.g2<|bz ?_;refine DP .r (fun _ d=>PV.ei eI W rfl rfl (by omega))<|DP .r (fun _ d=>VA ak (Ow.mb (As.gs d.2.g4) (by simp only [List.length_map,List.length_append,List.length_cons,List.length_nil];omega) W (V _ (by first | exact y | exact y.trans (List.prefix_append _ _)))) .r)<|(cG) ?_;rintro pB ⟨Iv,ew⟩ _;refine WL.c1 (u:=t2.val) (dO (k:=(aD aa (j:Int))) (SD.ht (As.gf ew.g8)) (SD.hu (As.gf ew.g8)) (Ow.rd (As.gs ew.g0) (by simp;omega)) i.hb (eW g sf)) (by rw [U]) ew fun sD Xd gq=>?_;refine(cD) hY gq.p6 fun Bp Lg Lh dK=>?_;refine bz ?_;refine dY (n+1,t2,L2,jP,lZ,J5,_,l,f,o,a91,(n5+1),DK) ⟨dK.p2.drop.p7.p7.p2.p7.p6.p5.p7,⟨by omega,C,ya.mono i C Iw,S,hm4,Bo.trans Iw,B4,UB,y,DH,by rw [← U,eB g sf],trivial⟩⟩
    simp at PC
    have o0:outside aa aa[j].asks[n]=false:=by
     cases P:outside aa aa[j].asks[n]
     ·
      rfl
     have:=iq i g Gq qf P;rw [Jv,PC] at this;cases this
    obtain⟨z,Rj,GQ,MM⟩:=gF i g Gq qf o0;rw [Jv] at GQ;have GX:=Rj.lt.2.2.2
    have UD:bq eH (aD aa (z:Int))=none:=by
     cases h:bq eH (aD aa (z:Int)) with
     | none=>rfl
     | some v=>have:=Bo _ _ h;rw [← GQ,UC] at this;cases this
    have PD:∀k:Nat,aa[j].asks[n].n=k→k=z:=fun k hk=>by
     obtain⟨FU,Mg,GR⟩:=ir i g Gq qf o0 hk;rw [Jv,GQ] at GR;exact(dD i MM FU GR).symm
    refine(il) ak K.b4<|?_;refine WP .r (PV.my ec dJ lO (As.gm K.g3) rfl rfl)<|?_;refine aO ?_;refine(aN) (fun Li=>?_) fun Li=>?_
    ·
     simp at Li
     have PE:z∉L2:=fun h=>by have:=S.1 z h;rw [← GQ,Li] at this;cases this
     have hk0:=C.out z PE;have hre:cB aa i0 z:=.step (C.reach j (y.subset qM)) Rj;have aah:=C.meet MM GX PE hre;have zI:=C.Ee MM GX PE hre;have Xe:=zX (v:=u1) (j:=z) zI;have PF:=S.meet i (fun k hk=>(C.ring k hk).1) MM PE hk0;rw [← GQ] at PF
     have Lj:jJ t.ask=⟨#[48]⟩:=by rw [GQ];exact rf MM (by omega) GX
     refine nx ?_;have ahF:=K.cj;refine WC.cJ (m:=6) (E:=bK [(5,fun v _=>v=.string ⟨#[48]⟩)]) K (aS (⟨fun _ _ _ _ _ _ _ h=>h,trivial⟩)) mixed (by kernel_rfl)<|(vE) ak St.g4<|(vE) ak St.g4<|?_;refine DW.c1 (fun wx d hF=>lR (k:=t.ask)) (by rw [Lj])<|(cG) ?_;rintro mu ⟨aeC,G⟩ ⟨_,_⟩;refine WL.go rfl (OX.put ec dJ (As.gm G.g3) rfl rfl rfl fun oL aai aaj=>?_);have Q:=G.p3.jn aai aaj;refine(il) ak Q.b4<|?_;refine WL.go rfl (OX.aP (us:=t.ask.cells) dU rfl rfl rfl rfl fun b71 uL aak aal=>?_);have T:=Q.dy aak aal;refine WL.ap rfl rfl T.p2 (SR.dn (A:=fun _=>True) (x:=t.ask) (As.gb T.g0) trivial rfl (by simp [Key.cells,Value.oneCell']) rfl) fun a72 aam pB ahG ahH dV=>?_;refine cL ?_;have ew:=dV.WG (show(L2.map fun j:Nat=>aD aa (j:Int))++[t.ask]=(L2++[z]).map fun j:Nat=>aD aa (j:Int) by rw [List.map_append,GQ];rfl);have uM:=PF.1 z (by simp);rw [← GQ] at uM;have Rk:∀s,s=itoa (u1 z:Int)→Ev aa x.ad u1 (L2++[z]) eH iN aa[j].asks (n+1) (acc++[s]):=fun s hs=>(Ju.mono (fun _ h=>by simp [h]) (iE.refl _)).snoc s (fun h P=>by rw [o0] at P;cases P) (fun h P k hk=>by have:=PD k hk;subst this;exact .inr ⟨hs,by simp,UD⟩);refine(il) ak ew.b5<|?_;refine WP .r (PV.cV ec dJ lO (As.gm ew.g2) (uM) rfl rfl)<|bz ?_;obtain⟨sv,O⟩:∃s,s=itoa (u1 z:Int):=⟨_,rfl⟩;have DH:=Rk sv O;refine EX.eqv (t:=10) (v':=.string sv) rfl (by rw [O])<|gw ?_;refine WL.go rfl (OX.aP (us:=[.string sv]) kH rfl rfl rfl rfl fun b90 sD DI DJ=>?_);have gq:=ew.dy DI DJ;refine WL.ap rfl rfl gq.p4 (SR.dn (A:=fun _=>True) (x:=sv) (As.gb gq.g0) trivial rfl (by simp [Value.oneCell']) rfl) fun a91 DK Bp Py Pz dK=>?_;refine cL ?_;obtain⟨t2,U⟩:∃t,aL aa (aD aa (j:Int)) (acc++[sv])=t:=⟨_,rfl⟩
     have V:∀H:List Nat,L1 <+: H→(H.map fun j:Nat=>aD aa (j:Int))[idx]?=some (aD aa (j:Int)):=fun H h=>by
      rw [List.getElem?_map]
      have:=h.getElem N
      obtain⟨q,rfl⟩:=h;rw [List.getElem?_append_left N,rU];rfl
     obtain⟨nL,W⟩:=Ow.addr (As.gs dK.g2) (V _ (by first | exact y | exact y.trans (List.prefix_append _ _)));have PA:=dK.cj;refine WC.dS (m:=9) dK mixed<|(gT) jT St.g9<|bz ?_;refine DP .r (fun _ d=>PV.ei eI W rfl rfl (by omega))<|DP .r (fun _ d=>VA ak (Ow.mb (As.gs d.2.g2) (by simp only [List.length_map,List.length_append,List.length_cons,List.length_nil];omega) W (V _ (by first | exact y | exact y.trans (List.prefix_append _ _)))) .r)<|(cG) ?_;rintro y8 ⟨Iv,gJ⟩ _;refine WL.c1 (u:=t2.val) (dO (k:=(aD aa (j:Int))) (SD.ht (As.gf gJ.g8)) (SD.hu (As.gf gJ.g8)) (Ow.rd (As.gs gJ.g0) (by simp;omega)) i.hb (eW g sf)) (by rw [U]) gJ fun Gs UE hJ=>?_;refine(cD) hY hJ.p6 fun Ix Rl Rm fA=>?_;refine bz ?_;refine dY (n+1,t2,L2++[z],_,true,iN,_,a72,(f+1),aam,a91,(n5+1),DK) ⟨fA.p2.drop.p3.drop.p3.p4.p3.p4,⟨by omega,aah,ya.meet hk0,PF,ML,Bo,⟨Nat.le_of_lt (Nat.lt_of_lt_of_le Xe B4.1),fun _=>.inr (Nat.lt_of_lt_of_le Xe B4.1)⟩,(fun h=>by cases h),y.trans (List.prefix_append _ _),DH,by rw [← U,eB g sf],trivial⟩⟩
    simp at Li
    have PE:z∈L2:=by
     by_cases h:z∈L2
     ·
      exact h
     have:=S.2 (aD aa (z:Int)) (fun k hk e=>h (by have:=dD i MM (C.ring k hk).1 e;rw [this];exact hk));rw [← GQ] at this;rw [this] at Li;cases Li
    have uM:=S.1 z PE;rw [← GQ] at uM;have Rk:∀s,s=itoa (u1 z:Int)→Ev aa x.ad u1 L2 eH iN aa[j].asks (n+1) (acc++[s]):=fun s hs=>Ju.snoc s (fun h P=>by rw [o0] at P;cases P) (fun h P k hk=>by have:=PD k hk;subst this;exact .inr ⟨hs,PE,UD⟩);refine(il) ak K.b4<|?_;refine WP .r (PV.cV ec dJ lO (As.gm K.g3) (uM) rfl rfl)<|bz ?_;obtain⟨sv,O⟩:∃s,s=itoa (u1 z:Int):=⟨_,rfl⟩;have DH:=Rk sv O;refine EX.eqv (t:=10) (v':=.string sv) rfl (by rw [O])<|gw ?_;refine WL.go rfl (OX.aP (us:=[.string sv]) kH rfl rfl rfl rfl fun b90 mu DI DJ=>?_);have G:=K.dy DI DJ;refine WL.ap rfl rfl G.p2 (SR.dn (A:=fun _=>True) (x:=sv) (As.gb G.g0) trivial rfl (by simp [Value.oneCell']) rfl) fun a91 DK oL Py Pz Q=>?_;refine cL ?_;obtain⟨t2,U⟩:∃t,aL aa (aD aa (j:Int)) (acc++[sv])=t:=⟨_,rfl⟩
    have V:∀H:List Nat,L1 <+: H→(H.map fun j:Nat=>aD aa (j:Int))[idx]?=some (aD aa (j:Int)):=fun H h=>by
     rw [List.getElem?_map]
     have:=h.getElem N
     obtain⟨q,rfl⟩:=h;rw [List.getElem?_append_left N,rU];rfl
    obtain⟨nL,W⟩:=Ow.addr (As.gs Q.g2) (V _ (by first | exact y | exact y.trans (List.prefix_append _ _)));have PA:=Q.cj;refine WC.dS (m:=9) Q mixed<|(gT) jT St.g8<|bz ?_;refine DP .r (fun _ d=>PV.ei eI W rfl rfl (by omega))<|DP .r (fun _ d=>VA ak (Ow.mb (As.gs d.2.g2) (by simp only [List.length_map,List.length_append,List.length_cons,List.length_nil];omega) W (V _ (by first | exact y | exact y.trans (List.prefix_append _ _)))) .r)<|(cG) ?_;rintro uL ⟨Iv,T⟩ _;refine WL.c1 (u:=t2.val) (dO (k:=(aD aa (j:Int))) (SD.ht (As.gf T.g7)) (SD.hu (As.gf T.g7)) (Ow.rd (As.gs T.g0) (by simp;omega)) i.hb (eW g sf)) (by rw [U]) T fun pB s15 dV=>?_;refine(cD) hY dV.p5 fun sD Rn Ro ew=>?_;refine bz ?_;refine dY (n+1,t2,L2,jP,lZ,iN,_,l,f,o,a91,(n5+1),DK) ⟨ew.p2.drop.p4.p4.p3.p4,⟨by omega,C,ya,S,ML,Bo,B4,UB,y,DH,by rw [← U,eB g sf],trivial⟩⟩
   simp at Gr
   have GL:n=aa[j].asks.length:=by
    rcases Nat.lt_or_ge n aa[j].asks.length with h | h
    ·
     obtain⟨a,h1,_⟩:=dd i g (ae:=acc) (by rw [ea g];omega);rw [ht] at h1;rw [h1] at Gr;cases Gr
    omega
   subst GL;obtain⟨EZ,Jw,PG,UF,MN⟩:=Ju.val i C g Gq;have PH:eA (u1 j) (eK aa[j].c.toNat (acc.map cy)):=fun b hb=>PG b (yy j qM b hb);obtain⟨val,qd⟩:∃v,eK aa[j].c.toNat (acc.map cy)=v:=⟨_,rfl⟩;rw [qd] at EZ Jw PH UF MN
   have htv:t.value=itoa (val:Int):=by
    have h1:=fx i g (ae:=acc) (by rw [ea g];omega);rw [ht] at h1;rw [h1,(tn i g Gq).1,← qd];rfl
   have Bq:j∈L2:=y.subset qM;have Jx:=y.length_le
   have PI:L2[idx]?=some j:=by obtain⟨q,rfl⟩:=y;rw [List.getElem?_append_left N];exact rU
   have Lk:(L2.map fun j:Nat=>aD aa (j:Int))[idx]?=some (aD aa (j:Int)):=by rw [List.getElem?_map,PI];rfl
   refine gw ?_;obtain⟨Ll,n9⟩:=Ow.addr (As.gs db.g0) Lk;have aap:=db.cj;refine WC.dS (m:=8) db mixed<|cL ?_;refine DP .r (fun _ d=>PV.ei eI n9 rfl rfl (by omega))<|DP .r (fun _ d=>VA ak (Ow.mb (As.gs d.2.g0) (by rw [List.length_map];omega) n9 Lk) .r)<|DP .r (fun _ d=>PV.cV ec dJ lO (As.gm d.2.g3) (S.1 j Bq) rfl rfl)<|(gT) eY St.g4<|(cG)<|?_;rintro jB ⟨UG,cF⟩ _;refine(aN) (fun nM=>?_) fun nM=>?_
   ·
    simp at nM
    rw [htv] at nM;have LY:u1 j≠val:=fun e=>nM (by rw [e]);have GP:=Ef C Bq EZ PH LY;obtain⟨aaq,Br⟩:=Ow.addr (As.gs cF.g0) Lk;have ahI:=cF.cj;refine WC.cJ (m:=9) (E:=bK [(7,fun v w'=>∃vv st,v=.tuple #[vv,.int .i64 ((st:Nat):Int)]∧KE Key.val w' X jP (aD aa (j:Int)) st)]) cF (kW (⟨⟨trivial,trivial⟩,trivial⟩)) mixed (by kernel_rfl)<|cL ?_;refine DP .r (fun _ d=>PV.ei eI Br rfl rfl (by omega))<|DP .r (fun _ d=>VA ak (Ow.mb (As.gs d.2.g0) (by rw [List.length_map];omega) Br Lk) .r)<|(gT) eY St.g4<|?_;refine DW.e rfl rfl rfl rfl rfl (fun wx d hF=>OX.NB ec dJ lO (As.gm d.2.g3) rfl rfl rfl fun wy st vv sx hsz Lm=>?_)<|?_
    ·
     have hg:=S.1 j Bq;rw [hg] at Lm;rw [Option.getD_some,wU hg] at Lm;exact⟨⟨Nat.le_trans d.1 sx.size,d.2.same (A:=As.map Key.val X jP) (by simp) (sx.p.mono fun x _ hx=>by simpa [As.map] using hx) Lm.km⟩,sx.p.mono (fun x _ hx=>D8 (A:=As.map Key.val X jP) (by simp) (by simpa [As.map] using hx)),_,rfl,_,_,rfl,Lm⟩
    rintro _ wz _ ⟨aar,hJ,rfl,_⟩;refine(cG) ?_;rintro iV ⟨UH,K⟩ ⟨Le,_⟩;obtain⟨_,_,Iy,Bs⟩:=Le;simp only [Value.tuple.injEq,Array.mk.injEq,List.cons.injEq,Value.int.injEq,true_and,and_true] at Iy;have PJ:=Int.natCast_inj.1 Iy.2;rw [← PJ] at Bs;refine WL.go rfl (OX.Cm Bs rfl rfl rfl fun mu PK _ PN=>?_);have G:=K.p3.jn PK PN;rw [htv] at G;refine kQ ?_;refine dY (idx+1,L2,lF u1 j val,cO jP (aD aa (j:Int)) (.string (itoa (val:Int))),true,iN,l,f,o) ⟨G.p2.drop.p3.drop.p2.p2,⟨Nat.le_trans N Jx,C.set Bq EZ Jw,ya.set i C Bq EZ Jw PH UF,S.set i (fun k hk=>(C.ring k hk).1) Bq val,ML,uA.trans Bo,⟨Nat.le_of_lt (Nat.lt_of_lt_of_le GP Px.1),fun _=>Nat.lt_of_lt_of_le GP Px.1⟩,(fun h=>by cases h),trivial⟩⟩
   simp at nM
   rw [htv] at nM;have nM:u1 j=val:=zR (by have:=C.le j;omega) (by omega) nM;refine iC ?_
   refine dY (idx+1,L2,u1,jP,lZ,iN,l,f,o) ⟨cF.p1.drop.p3.drop,⟨Nat.le_trans N Jx,C,ya,S,ML,uA.trans Bo,Px,fun h m k hm hk=>by
      obtain⟨e1,e2⟩:=UB h;subst e1
      by_cases e:m=idx
      ·
       subst e;rw [rU] at hk
       simp at hk;subst hk
       exact MN (nM ▸ rfl)
      exact uK e2 m k (by omega) hk,trivial⟩⟩
  simp at g27
  refine cS ?_;refine EX.again (L1,u1,MK,kE,eH,l,f,o) Sub.t ⟨ju,⟨Gn,yy,Bm,vI,uA,fun h j hj=>by obtain⟨m,hm,rfl⟩:=List.mem_iff_getElem.1 (show j∈L1 from hj);exact uK h m _ (by omega) (ai hm),trivial⟩⟩ (by simp only [];cases kE <;> simp at Gp ⊢ <;> omega)
 have g23:ch=false:=g23;have PO:=oZ g23;have Iz:=GW.done i PO;refine gw ?_;have aas:=((As.gs ij.g0)).len;rw [List.length_map] at aas;have hL7:=GW.len;refine eP ?_;refine WC.bd (σ:=Nat × (List (Key × Value))) (dm:=fun(J,Ln)=>[(0,.pointer (some ⟨D.s,0,none⟩)),(4,.map (some X)),(120,.slice l f o),(121,.int .i64 (f:Int)),(122,.int .i64 (J:Int))]) (F:=fun(J,Ln)=>[As.map Key.val D.m Ln]) (I:=fun(J,Ln)=>(J≤L.length)∧(aY aa x.ad Ln)∧(iE ml Ln)∧(∀m j,m<J→L[m]?=some j→bq Ln (aD aa (j:Int))=some (.string (valOf aa x.ad (aD aa (j:Int)))))∧True) (μ:=fun(J,Ln)=>L.length - J) (0,Y) (ij.p1) Sub.t (⟨by omega,MJ,DE,fun m j h=>by omega,trivial⟩)<|?_;rintro⟨J,Ln⟩ w6 ju ⟨hi7,Xf,PQ,hd7,_⟩;simp only [CA,NA] at ju hi7 Xf PQ hd7 ⊢;refine(aN) (fun DL=>?_) fun DL=>?_
 ·
  simp at DL
  have UI:J<L.length:=by omega
  obtain⟨j,Bn⟩:∃j,L[J]=j:=⟨_,rfl⟩
  have rU:L[J]?=some j:=by rw [ai UI,Bn]
  have qM:j∈L:=Bn ▸ List.getElem_mem UI;obtain⟨g,Gq⟩:=GW.ring j qM;have UJ:=MI.1 j qM;rw [Iz j qM,← fX i g Gq,← fB i g] at UJ;refine cS ?_
  have hx7:(L.map fun j:Nat=>aD aa (j:Int))[J]?=some (aD aa (j:Int)):=by rw [List.getElem?_map,rU];rfl
  obtain⟨ahK,MO⟩:=Ow.addr (As.gs ju.g1) hx7;refine nx ?_;refine WP .r (PV.ei eI MO rfl rfl (by omega))<|(aT) ak (Ow.mb (As.gs ju.g1) (by rw [List.length_map];omega) MO hx7)<|(ff) ju fun b15 w7 ahL ahM jc=>?_;refine(cD) gR jc fun w8 Xg Xh ef=>?_;refine bz ?_;have ahN:=ef.cj;refine WC.dS (m:=8) ef mixed<|(gT) fG St.g6<|(gx) ak St.g0<|(gx) ak St.g0<|?_;refine DP .r (fun _ d=>PV.cV ec dJ lO (As.gm d.2.g3) (UJ) rfl rfl)<|(cG)<|?_;rintro w9 ⟨aeE,dw⟩ _;refine WL.go rfl (OX.put ec dJ (As.gm dw.g1) rfl rfl rfl fun jB aau aav=>?_);have dz:=dw.p1.jn aau aav;refine eP ?_
  refine dY (J+1,_) ⟨dz.p1.drop,⟨by omega,Xf.put _,PQ.trans (iE.put Xf _),fun m k hm hk=>by
     rw [ey]
     split
     ·
      rename_i e;rw [e]
     rename_i e
     refine hd7 m k ?_ hk
     rcases Nat.lt_or_ge m J with h | h
     ·
      exact h
     have:m=J:=by omega
     subst this;rw [rU] at hk;simp at hk;subst hk;exact absurd rfl e,trivial⟩⟩
 simp at DL
 obtain⟨mm,Jy,PR⟩:=List.mem_iff_getElem.1 GW.first;have PT:=hd7 mm i0 (by omega) (by rw [ai Jy,PR]);refine cX ?_;refine EX.sG (.inr rfl) rfl<|?_;exact⟨Ln,rfl,Xf,PQ,PT,ju.p5.k2⟩
theorem IA(f:aq aa):∀i,i<aa.length→Gk aa x D (aD aa (i:Int)):=by
 intro i
 induction i using Nat.strongRecOn with
 | _ i l=>
  intro hi;have t:=f.len
  have q:∀a,ax a=false→(aB a=true∨∃m,m<i∧m<aa.length∧a=aD aa (m:Int))→Gk aa x D a:=fun a _ b w M Z ml h1 c d=>by
   rcases b with b | ⟨m,hm,g,rfl⟩
   ·
    exact kM h1 c d b
   exact l m hm g w M Z ml h1 c d
  have o:∀a,(aB a=true∨∃m,m<i∧m<aa.length∧a=aD aa (m:Int))→Gk aa x D a:=fun a b w M Z ml h1 c d=>by
   rcases b with b | ⟨m,hm,g,rfl⟩
   ·
    exact kM h1 c d b
   exact l m hm g w M Z ml h1 c d
  intro w M Z ml h1 c d;refine yx h1 c d f hi (fun hc w M Z ml h1 c d=>?_) fun a b hc=>o a ?_
  ·
   rw [bj hi (by omega)] at hc;refine Bl h1 c d f hi hc fun j a p r h=>q a h ?_;have s:=im hi hc p;have o:=jM f p;have hle:=fo aa i
   rcases r with⟨n,e,rfl⟩ | ⟨m,e,rfl,_,_,_,k⟩
   ·
    exact .inl (bf (by omega))
   rw [bj e (by omega)] at h;exact .inr ⟨m,by have:=k h s.2;omega,e,rfl⟩
  rw [bj hi (by omega)] at hc
  rcases b with⟨n,e,rfl⟩ | ⟨m,e,rfl,_,k,_⟩
  ·
   exact .inl (bf (by omega))
  exact .inr ⟨m,k hc,e,rfl⟩
theorem qy(a:aq aa) {k:Key}(hk:eu aa k):Gk aa x D k:=by
 cases hk with
 | cell h=>exact fun w M Z ml h1 b c=>kM h1 b c (bf h)
 | dp h _=>exact IA a _ h
end Go.Rc

