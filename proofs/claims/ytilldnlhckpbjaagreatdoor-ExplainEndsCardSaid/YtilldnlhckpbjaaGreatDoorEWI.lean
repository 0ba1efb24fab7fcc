/- Walks over the program, part WI. Conditions: as each theorem says. -/
import Derived.Test.YtilldnlhckpbjaaGreatDoorEFacts
import Derived.Test.YtilldnlhckpbjaaGreatDoorEWH
import Derived.Test.YtilldnlhckpbjaaGreatDoorEBe
set_option linter.all false
namespace Go.Rc
open Go Go.Proofs Go.Proofs.Tryz
variable {x:cW}{w:World}{M Z:Nat→Prop}{aa:List aD}{D:SD}{ml:List (Key × Value)}
set_option maxHeartbeats 400000
theorem mZ{ar a1 a2:Option Addr}{r cr n1 c1 n2 c2:Nat}(a:St w M Z w []):Calls prog 47 #[.slice ar r cr,.agg (x.row a1 n1 c1 a2 n2 c2).toArray] w fun e w'=>∃s m q,e=.returned (.pointer (some ⟨s,0,none⟩))∧St w M Z w' [As.blk s 139 (SD.cells ⟨ar,a1,a2,r,cr,n1,c1,n2,c2,m,q,s⟩ x),As.map Key.val m [],As.map Key.val q []]:=by
 refine enter func47 rfl ntmps47 rfl<|?_;have aR:=a;refine(dy) aR fun b3 w1 g h st1=>?_;refine(bf) bu st1.b0<|?_;refine WL.mm Key.val st1 fun b w2 i j st2=>?_;refine WL.mm Key.val st2 fun c w3 k l d=>?_;refine WP .r (PV.br (us:=(SD.cells ⟨ar,a1,a2,r,cr,n1,c1,n2,c2,b,c,0⟩ x)) P6 rfl rfl rfl)<|(dy) d fun n w4 o p f=>?_;refine(bF) ?_;exact⟨_,_,_,rfl,f.p3.drop.p2.p1⟩
def Da(aa:List aD) (x:cW) (D:SD) (k:Key):Prop:=∀(w:World) (M Z:Nat→Prop) (ml:List (Key × Value)),St w M Z w [As.blk D.s 139 (D.cells x),As.map Key.val D.m ml]→(D.F prog aa x).p Z w→aJ aa x.ab ml→
 Calls prog 49 #[.pointer (some ⟨D.s,0,none⟩),k.val] w fun e w'=>∃kZ,e=.returned (.string (valOf aa x.ab k))∧aJ aa x.ab kZ∧fu ml kZ∧St w M Z w' [As.blk D.s 139 (D.cells x),As.map Key.val D.m kZ]
def Xp(aa:List aD) (x:cW) (D:SD) (k:Key):Prop:=∀(w:World) (M Z:Nat→Prop) (ml:List (Key × Value)),St w M Z w [As.blk D.s 139 (D.cells x),As.map Key.val D.m ml]→(D.F prog aa x).p Z w→aJ aa x.ab ml→
 Calls prog 90 #[.pointer (some ⟨D.s,0,none⟩),k.val] w fun e w'=>∃kZ,e=.returned (.tuple #[])∧aJ aa x.ab kZ∧fu ml kZ∧aX kZ k=some (.string (valOf aa x.ab k))∧St w M Z w' [As.blk D.s 139 (D.cells x),As.map Key.val D.m kZ]
theorem jo{k:Key}(d:St w M Z w [As.blk D.s 139 (D.cells x),As.map Key.val D.m ml]) (f:(D.F prog aa x).p Z w) (hm:aJ aa x.ab ml) (hk:aw k=true):Calls prog 49 #[.pointer (some ⟨D.s,0,none⟩),k.val] w fun e w'=>∃a,e=.returned (.string (valOf aa x.ab k))∧aJ aa x.ab a∧fu ml a∧St w M Z w' [As.blk D.s 139 (D.cells x),As.map Key.val D.m a]:=by
 refine enter func49 rfl ntmps49 rfl<|?_;have aR:=d;have st1:=aR.fact (B:=As.fz (D.F prog aa x)) f (fun _ g=>g);refine(dy) st1 fun b3 w1 i j st2=>?_;refine(bf) ak st2.b0<|(fw) (cJ (k:=k)) st2 fun w2 s2 c=>?_;refine(aT) (fun g10=>?_) fun g10=>?_
 ·
  refine nx ?_;have l:=c.bA;refine WC.dS (m:=5) c mixed<|(tW) bu St.g2<|(fe) ak St.g0<|(cx)<|?_;rintro w3 ⟨n,b⟩ _;refine(fw) (oU (k:=k) (SD.hi (As.gf b.g1)) (SD.hr (As.gf b.g1))) b fun w4 o h=>?_;refine(bF) ?_;exact⟨ml,by unfold valOf cellOf;rw [if_pos hk],hm,fu.refl _,h.drop.drop⟩
 rw [hk] at g10;cases g10
theorem vM{i:Nat}(gn:St w M Z w [As.blk D.s 139 (D.cells x),As.map Key.val D.m ml]) (hf:(D.F prog aa x).p Z w) (hm:aJ aa x.ab ml) (g:ao aa) (hi:i<aa.length) (W:aB (aH aa (i:Int))=true→Xp aa x D (aH aa (i:Int))) (X:∀a,dJ aa i a→aB (aH aa (i:Int))=false→Da aa x D a):Calls prog 49 #[.pointer (some ⟨D.s,0,none⟩),(aH aa (i:Int)).val] w fun e w'=>∃O,e=.returned (.string (valOf aa x.ab (aH aa (i:Int))))∧aJ aa x.ab O∧fu ml O∧St w M Z w' [As.blk D.s 139 (D.cells x),As.map Key.val D.m O]:=by
 have Cs:=g.len
 have gq:i≤99:=by omega
 obtain⟨k,hk⟩:∃k,aH aa (i:Int)=k:=⟨_,rfl⟩;have eJ:=bX hi gq;have ha6:=iC g hi;rw [hk] at eJ W X ⊢;refine enter func49 rfl ntmps49 rfl<|?_;have aR:=gn;have st1:=aR.fact (B:=As.fz (D.F prog aa x)) hf (fun _ hx=>hx);refine(dy) st1 fun b3 w1 DB uK st2=>?_;refine(bf) ak st2.b0<|(fw) (cJ (k:=k)) st2 fun w2 s2 Y=>?_;refine(aT) (fun g10=>?_) fun g10=>?_
 ·
  rw [eJ] at g10;cases g10
 refine cD ?_;have Db:=Y.bA;refine WC.dS (m:=10) Y mixed<|(gp) eZ St.g2<|(fe) ak St.g0<|?_;refine DP .r (fun _ d=>PV.kP cB dd j9 (As.gm d.2.g3) rfl rfl)<|(cx) ?_;rintro w3 ⟨ye,P⟩ _;refine(aT) (fun RM=>?_) fun RM=>?_
 ·
  obtain⟨vv,Ml⟩:=Option.isSome_iff_exists.1 RM;have Mm:=hm k vv Ml;refine(bF) ?_;exact⟨ml,by rw [Ml,Mm];rfl,hm,fu.refl _,P.drop.drop⟩
 refine(bf) ak P.b0<|(fw) (dD (k:=k)) P fun w4 s4 Q=>?_;refine(aT) (fun R=>?_) fun R=>?_
 ·
  refine(bf) ak Q.b0<|?_;have y:=Q.p3.p3;refine(cE) WS (W R _ _ _ _ y.e2 (As.gf y.g3) hm) ?_;rintro _ w5 ⟨dr,rfl,S,T,Ph,qh⟩;have f:=St.lr y qh;refine cq ?_;have Mn:=f.bA;refine WC.dS (m:=5) f mixed<|(gp) eZ St.g0<|(fe) ak St.g2<|(cx)<|?_;rintro w6 ⟨vN,H⟩ _;refine WP .r (PV.look cB dd j9 (As.gm H.g1) rfl rfl)<|(bF) ?_;exact⟨dr,by rw [Ph];rfl,S,T,H.p2.drop.p2.drop⟩
 have y:=Q.fD RR.str 9 1;refine jg ?_;refine WC.bm (σ:=Nat × (List (Key × Value)) × (List ByteArray) × (Option Addr) × Nat × Nat) (db:=fun(n,j,acc,o,l,q)=>[(0,.pointer (some ⟨D.s,0,none⟩)),(3,.pointer (some ⟨b3,0,none⟩)),(7,.slice o l q)]) (F:=fun(n,j,acc,o,l,q)=>[As.os RR.str 9 1 o l q (acc),As.map Key.val D.m j]) (I:=fun(n,j,acc,o,l,q)=>(n≤cy aa i)∧(aJ aa x.ab j)∧(fu ml j)∧(acc=(dG (ca aa k) (valOf aa x.ab) n).2)∧True) (μ:=fun(n,j,acc,o,l,q)=>cy aa i - n) (0,ml,[],none,0,0) (y.p4.p1) Sub.t (⟨by omega,hm,fu.refl _,rfl,trivial⟩)<|?_;rintro⟨n,j,acc,o,l,q⟩ w5 f ⟨hn,J,U,K,_⟩;simp only [CA,NA] at f hn J U K ⊢;have ta:=((As.gs f.g0)).len
 have uL:acc.length=n:=by rw [K];exact(ed _ _ n).2
 obtain⟨t,DC⟩:∃t,bB aa k acc=t:=⟨_,rfl⟩
 have z:ca aa k acc=t:=by rw [← DC,← hk,ey hi gq]
 refine bJ ?_;have tg:=f.bA;have yf:=f.hV;have yg:=f.size;refine WC.cH (m:=8) (E:=bN [(6,fun v _=>v=t.val),(7,PB w5.heap.size 142 [.bool false,.string ⟨#[]⟩,.int .i64 0,.string ⟨#[]⟩])]) f (aU (⟨fun _ _ _ _ _ _ _ h=>h,⟨fun _ _ _ _ _ _ c h=>PB.st tg c h,trivial⟩⟩)) mixed (by kernel_rfl)<|(gp) ky St.g4<|(fe) ak St.g2<|nx ?_;refine DW.c1 (fun wx d hF=>eh (k:=k) (SD.ht (As.gf d.2.g3)) (SD.hu (As.gf d.2.g3)) (Ow.rd (As.gs d.2.g0) (by omega)) g.hb (hk ▸ ee hi gq)) (by rw [DC])<|?_;refine DW.e rfl rfl rfl rfl rfl (fun wx d hF=>OX.alloc nV rfl fun b wy L hb=>⟨⟨Nat.le_trans d.1 L.ext.size,d.2.step L.ext⟩,L.ext.p0,_,rfl,_,rfl,Nat.le_trans d.1 L.ge,hb⟩)<|?_;rintro _ wz _ ⟨b8,rfl,_,_⟩;refine(cx) ?_;rintro w6 ⟨uN,H⟩ ⟨Ik,⟨_,_⟩⟩;have ju:=H.ov Ik tg yf yg;refine(dw) fc ju fun w7 kI nj C=>?_;refine(bq) dm C.b0<|(aT) (fun G=>?_) fun G=>?_
 ·
  have Dw:n=cy aa i:=by
   rcases Nat.lt_or_ge n (cy aa i) with h | h
   ·
    obtain⟨a,h1,_⟩:=da g hi (ai:=acc) (by omega);rw [hk,z] at h1;rw [h1] at G;cases G
   omega
  have V:t.value=valOf aa x.ab k:=by
   have h1:=fL (aA:=x.ab) g hi;rw [hk,← Dw,← K,z] at h1;rw [h1]
  refine nx ?_;have RN:=C.bA;refine WC.dS (m:=7) C mixed<|(gp) eZ St.g5<|(fe) ak St.g3<|(gp) fq St.g0<|(cx)<|?_;rintro w8 ⟨B2,u⟩ _;refine WL.go rfl (OX.put cB dd (As.gm u.g2) rfl rfl rfl fun w9 AB vO=>?_);have N:=u.p2.hJ AB vO;refine(bq) fq N.b1<|(bF) ?_;exact⟨_,by rw [V],by rw [V];exact J.put k,by rw [V];exact U.trans (fu.put J k),N.p5.k2⟩
 have Dw:n<cy aa i:=by
  rcases Nat.lt_or_ge n (cy aa i) with h | h
  ·
   exact h
  have h1:=eU g hi (ai:=acc) (by omega);rw [hk,z] at h1;rw [h1] at G;cases G
 obtain⟨a,wM,yZ,_⟩:=da g hi (ai:=acc) (by omega);rw [hk,z] at wM
 have BH:t.ask=a:=by rw [wM]
 refine(jY) ak C.b0<|?_;have u:=C.p2.p5;refine(cE) C1 (X t.ask (by rw [BH];exact yZ) R _ _ _ _ u.e2 (As.gf u.g5) J) ?_;rintro _ w8 ⟨dr,rfl,S,T,nZ⟩;have N:=St.lr u nZ;refine WL.go rfl (OX.aM (us:=[.string (valOf aa x.ab t.ask)]) ik rfl rfl rfl rfl fun b62 w9 Xq Xr=>?_);have cM:=N.du Xq Xr;refine WL.ap rfl rfl cM.p4 (SR.cT (A:=fun _=>True) (x:=valOf aa x.ab t.ask) (As.gb cM.g0) trivial rfl (by simp [Value.oneCell']) rfl) fun a63 Xs jP afb afc cS=>?_;refine cq ?_;refine eb (n+1,dr,acc++[valOf aa x.ab t.ask],a63,(l+1),Xs) ⟨cS.p1.drop.p3.drop.p4.p4.p4.p3,⟨by omega,S,U.trans T,by simp only [dG];rw [← K,z],trivial⟩⟩
set_option maxHeartbeats 1600000 in
theorem yh{i0:Nat}(gn:St w M Z w [As.blk D.s 139 (D.cells x),As.map Key.val D.m ml]) (hf:(D.F prog aa x).p Z w) (hm:aJ aa x.ab ml) (i:ao aa) (hi:i0<aa.length) (Gv:ax aa i0=true) (hv:∀j a,cv aa i0 j→dJ aa j a→aB a=false→Da aa x D a):Calls prog 90 #[.pointer (some ⟨D.s,0,none⟩),(aH aa (i0:Int)).val] w fun e w'=>∃kZ,e=.returned (.tuple #[])∧aJ aa x.ab kZ∧fu ml kZ∧aX kZ (aH aa (i0:Int))=some (.string (valOf aa x.ab (aH aa (i0:Int))))∧St w M Z w' [As.blk D.s 139 (D.cells x),As.map Key.val D.m kZ]:=by
 have Cs:=i.len
 have gq:i0≤99:=by omega
 have Mo:=pn hi gq Gv;refine enter func90 rfl ntmps90 rfl<|?_;have aR:=gn;have st1:=aR.fact (B:=As.fz (D.F prog aa x)) hf (fun _ hx=>hx);refine(dy) st1 fun b3 w1 DB uK st2=>?_;refine cq ?_;have T5:=st2.bA;have Xt:=st2.hV;have Xu:=st2.size;refine WC.cH (m:=4) (E:=bN [(0,PM Key.val w1.heap.size),(3,fun v _=>v=.string ⟨#[48]⟩)]) st2 (aU (⟨fun _ _ _ _ _ _ c h=>PM.st T5 c h,⟨fun _ _ _ _ _ _ _ h=>h,trivial⟩⟩)) mixed (by kernel_rfl)<|?_;refine DW.e rfl rfl rfl rfl rfl (fun wx d hF=>OX.makeMap Key.val rfl fun b wy nw hb=>⟨⟨Nat.le_trans d.1 nw.ext.size,d.2.step nw.ext⟩,nw.ext.p0,_,rfl,_,rfl,Nat.le_trans d.1 nw.ge,hb⟩)<|?_;rintro _ wz _ ⟨X,rfl,_,_⟩;refine(fe) ak St.g0<|(fe) ak St.g0<|?_;refine DW.c1 (fun wx d hF=>nY (k:=(aH aa (i0:Int)))) (by rw [Mo])<|(cx) ?_;rintro w2 ⟨yi,iO⟩ ⟨_,⟨Xv,_⟩⟩;have iL:=iO.UW Xv T5 Xt Xu;refine WL.go rfl (OX.ins cB dd (As.gm iL.g0) rfl rfl rfl fun w3 FB vP=>?_);have kJ:=iL.hJ FB vP;refine(bf) ak kJ.b1<|?_;refine WL.go rfl (OX.aM (us:=(aH aa (i0:Int)).cells) cP rfl rfl rfl rfl fun b22 w4 RO Xw=>?_);have ke:=St.mI (R:=RR.key) (E:=43) (k:=2) (a:=some ⟨b22,0,none⟩) (n:=1) (c:=1) (xs:=[(aH aa (i0:Int))]) kJ RO.ext (OR.cT Xw (Nat.zero_le _) rfl (by simp [Key.cells,Value.oneCell']) rfl) (fun x hx=>by simp [aZ] at hx;subst hx;exact RO.ge);refine lU ?_;refine WC.bm (σ:=(List Nat) × (Nat→Nat) × (List (Key × Value)) × Bool × (List (Key × Value)) × (Option Addr) × Nat × Nat) (db:=fun(L,u,am,ch,Y,l,f,o)=>[(0,.pointer (some ⟨D.s,0,none⟩)),(4,.map (some X)),(5,.slice l f o),(6,.bool ch)]) (F:=fun(L,u,am,ch,Y,l,f,o)=>[As.os RR.key 43 2 l f o (L.map fun j:Nat=>aH aa (j:Int)),As.map Key.val D.m Y,As.map Key.val X am]) (I:=fun(L,u,am,ch,Y,l,f,o)=>(cL aa x.ab i0 L u)∧(ji aa x.ab L u Y)∧(kD aa L u am)∧(aJ aa x.ab Y)∧(fu ml Y)∧(ch=false→∀j∈L,lI aa x.ab L u j)∧True) (μ:=fun(L,u,am,ch,Y,l,f,o)=>2*mb aa L u+(if ch then 1 else 0)) ([i0],fun _=>0,bZ [] (aH aa (i0:Int)) (.string ⟨#[48]⟩),true,ml,(some ⟨b22,0,none⟩),1,1) (ke.p1.p5.p2) Sub.t (⟨cL.start hi Gv,ji.start,⟨fun j hj=>by simp at hj;subst hj;rw [show itoa ((0:Nat):Int)=⟨#[48]⟩ by decide +kernel];simp [bZ,aX],fun k hk=>by simp [bZ,aX];intro e;exact hk i0 (by simp) e.symm⟩,hm,fu.refl _,(fun h=>by cases h),trivial⟩)<|?_;rintro⟨L,u,am,ch,Y,l,f,o⟩ w5 iP ⟨DD,gJ,JD,Gw,AD,wJ,_⟩;simp only [CA,NA] at iP DD gJ JD Gw AD wJ ⊢;refine(aT) (fun g23=>?_) fun g23=>?_
 ·
  have g23:ch=true:=g23;subst g23
  clear wJ
  refine aQ ?_;refine bJ ?_;refine WC.bm (σ:=Nat × (List Nat) × (Nat→Nat) × (List (Key × Value)) × Bool × (List (Key × Value)) × (Option Addr) × Nat × Nat) (db:=fun(idx,L1,u1,JE,iW,dr,l,f,o)=>[(0,.pointer (some ⟨D.s,0,none⟩)),(4,.map (some X)),(5,.slice l f o),(6,.bool iW),(7,.int .i64 (idx:Int))]) (F:=fun(idx,L1,u1,JE,iW,dr,l,f,o)=>[As.os RR.key 43 2 l f o (L1.map fun j:Nat=>aH aa (j:Int)),As.map Key.val D.m dr,As.map Key.val X JE]) (I:=fun(idx,L1,u1,JE,iW,dr,l,f,o)=>(idx≤L1.length)∧(cL aa x.ab i0 L1 u1)∧(ji aa x.ab L1 u1 dr)∧(kD aa L1 u1 JE)∧(aJ aa x.ab dr)∧(fu ml dr)∧(mb aa L1 u1≤mb aa L u∧(iW=true→mb aa L1 u1<mb aa L u))∧(iW=false→∀m j,m<idx→L1[m]?=some j→lI aa x.ab L1 u1 j)∧True) (μ:=fun(idx,L1,u1,JE,iW,dr,l,f,o)=>aa.length - idx) (0,L,u,am,false,Y,l,f,o) (iP.p2.p2.p2) Sub.t (⟨by omega,DD,gJ,JD,Gw,AD,⟨Nat.le_refl _,(fun h=>by cases h)⟩,fun _ m j h=>by omega,trivial⟩)<|?_;rintro⟨idx,L1,u1,JE,iW,dr,l,f,o⟩ w6 im ⟨Mp,Dc,vQ,AE,Dd,td,De,sf,_⟩;simp only [CA,NA] at im Mp Dc vQ AE Dd td De sf ⊢;have ta:=((As.gs im.g0)).len;rw [List.length_map] at ta;have hL1:=Dc.len;refine(aT) (fun Xx=>?_) fun Xx=>?_
  ·
   simp at Xx
   have N:idx<L1.length:=by omega
   obtain⟨j,yj⟩:∃j,L1[idx]=j:=⟨_,rfl⟩
   have pR:L1[idx]?=some j:=by rw [ae N,yj]
   have o5:j∈L1:=yj ▸ List.getElem_mem N;obtain⟨g,Df⟩:=Dc.ring j o5
   have qi:j≤99:=by omega
   have Xy:=iC i g;rw [dB g] at Xy;have ju:=im.fD RR.str 9 1;refine lU ?_;obtain⟨t,DC⟩:∃t,bB aa (aH aa (j:Int)) []=t:=⟨_,rfl⟩
   have Mq:(L1.map fun j:Nat=>aH aa (j:Int))[idx]?=some (aH aa (j:Int)):=by rw [List.getElem?_map,pR];rfl
   obtain⟨jK,cF⟩:=Ow.addr (As.gs ju.g1) Mq;have tg:=ju.bA;have yf:=ju.hV;have yg:=ju.size;refine WC.cH (m:=11) (E:=bN [(9,fun v _=>v=t.val),(10,PB w6.heap.size 142 [.bool false,.string ⟨#[]⟩,.int .i64 0,.string ⟨#[]⟩])]) ju (aU (⟨fun _ _ _ _ _ _ _ h=>h,⟨fun _ _ _ _ _ _ c h=>PB.st tg c h,trivial⟩⟩)) mixed (by kernel_rfl)<|(gp) ky St.g6<|bJ ?_;refine DP .r (fun _ d=>PV.dO dn cF rfl rfl (by omega))<|DP .r (fun _ d=>VA ak (Ow.sP (As.gs d.2.g1) (by rw [List.length_map];omega) cF Mq) .r)<|nx ?_;refine DW.c1 (fun wx d hF=>eh (k:=(aH aa (j:Int))) (SD.ht (As.gf d.2.g5)) (SD.hu (As.gf d.2.g5)) (Ow.rd (As.gs d.2.g0) (by simp)) i.hb (ee g qi)) (by rw [DC])<|?_;refine DW.e rfl rfl rfl rfl rfl (fun wx d hF=>OX.alloc nV rfl fun b wy nw hb=>⟨⟨Nat.le_trans d.1 nw.ext.size,d.2.step nw.ext⟩,nw.ext.p0,_,rfl,_,rfl,Nat.le_trans d.1 nw.ge,hb⟩)<|?_;rintro _ wz _ ⟨b9,rfl,_,_⟩;refine(cx) ?_;rintro w7 ⟨uN,ek⟩ ⟨vR,⟨_,_⟩⟩;have dP:=ek.ov vR tg yf yg;refine(dw) fc dP fun w8 vI oh dp=>?_;refine cD ?_;refine WC.bm (σ:=Nat × xk × (List Nat) × (List (Key × Value)) × Bool × (List (Key × Value)) × (List ByteArray) × (Option Addr) × Nat × Nat × (Option Addr) × Nat × Nat) (db:=fun(n,t,L2,iE,j2,gw,acc,l,f,o,uO,mo,uP)=>[(0,.pointer (some ⟨D.s,0,none⟩)),(4,.map (some X)),(5,.slice l f o),(6,.bool j2),(7,.int .i64 (idx:Int)),(8,.slice uO mo uP),(9,.pointer (some ⟨b9,0,none⟩))]) (F:=fun(n,t,L2,iE,j2,gw,acc,l,f,o,uO,mo,uP)=>[As.os RR.key 43 2 l f o (L2.map fun j:Nat=>aH aa (j:Int)),As.os RR.str 9 1 uO mo uP (acc),As.map Key.val D.m gw,As.map Key.val X iE,As.blk b9 142 [.bool t.done,.string t.value,.int .i64 t.ask.kind,.string t.ask.text]]) (I:=fun(n,t,L2,iE,j2,gw,acc,l,f,o,uO,mo,uP)=>(n≤aa[j].asks.length)∧(cL aa x.ab i0 L2 u1)∧(ji aa x.ab L2 u1 gw)∧(kD aa L2 u1 iE)∧(aJ aa x.ab gw)∧(fu dr gw)∧(mb aa L2 u1≤mb aa L1 u1∧(j2=true→iW=true∨mb aa L2 u1<mb aa L1 u1))∧(j2=false→L2=L1∧iW=false)∧(L1 <+: L2)∧(Ev aa x.ab u1 L2 dr gw aa[j].asks n acc)∧(ca aa (aH aa (j:Int)) acc=t)∧True) (μ:=fun(n,t,L2,iE,j2,gw,acc,l,f,o,uO,mo,uP)=>aa[j].asks.length - n) (0,t,L1,JE,iW,dr,[],l,f,o,none,0,0) (dp.p4.p4.p3.p4) Sub.t (⟨by omega,Dc,vQ,AE,Dd,fu.refl _,⟨Nat.le_refl _,fun h=>.inl h⟩,fun h=>⟨rfl,h⟩,List.prefix_refl _,Ev.start,by rw [← DC,ey g qi],trivial⟩)<|?_;rintro⟨n,t,L2,iE,j2,gw,acc,l,f,o,uO,mo,uP⟩ w9 cM ⟨hn,C,AF,S,JF,yk,uV,RP,y,FC,ht,_⟩;simp only [CA,NA] at cM hn C AF S JF yk uV RP y FC ht ⊢;have AG:=((As.gs cM.g0)).len;rw [List.length_map] at AG;have hna:=((As.gs cM.g1)).len;have Xz:=C.len;have uL:=FC.len;have afd:=y.length_le;have Mr:mb aa L2 u1≤mb aa L u∧(j2=true→mb aa L2 u1<mb aa L u):=⟨by omega,fun h=>by rcases uV.2 h with h1 | h1;have:=De.2 h1;omega;omega⟩;refine(bq) dm cM.b4<|(aT) (fun AH=>?_) fun AH=>?_
   ·
    simp at AH
    have Dw:n<aa[j].asks.length:=by
     rcases Nat.lt_or_ge n aa[j].asks.length with h | h
     ·
      exact h
     have h1:=eU i g (ai:=acc) (by rw [dB g];omega);rw [ht] at h1;rw [h1] at AH;cases AH
    obtain⟨a,wM,yZ,Rw⟩:=da i g (ai:=acc) (by rw [dB g];omega);obtain⟨xq,XA,XB⟩:=Rw Df;rw [uL,ae Dw] at XA
    simp at XA
    rw [ht] at wM
    have BH:t.ask=a:=by rw [wM]
    have Gx:bw aa aa[j].asks[n]=t.ask:=by rw [BH,XB,XA]
    have vn:aa[j].asks[n]∈aa[j].asks:=List.getElem_mem Dw;have Il:=Dc.reach j o5;refine cD ?_;have RN:=cM.bA;refine WC.dS (m:=11) cM mixed<|(gp) eZ St.g7<|(tW) ak St.g4<|?_;refine DP .r (fun _ d=>PV.kP cB dd j9 (As.gm d.2.g2) rfl rfl)<|(cx) ?_;rintro jP ⟨B2,cS⟩ _;refine(aT) (fun RQ=>?_) fun RQ=>?_
    ·
     obtain⟨vv,Ml⟩:=Option.isSome_iff_exists.1 RQ;have Mm:=JF _ vv Ml;obtain⟨sv,O⟩:∃s,s=valOf aa x.ab t.ask:=⟨_,rfl⟩
     have AJ:=FC.snoc sv (fun _ _=>by rw [Gx];exact O) (fun h P k hk=>.inl (by
      obtain⟨Gy,Ms,Im⟩:=gB i g Df vn P hk;rw [Gx] at Im;rw [Im] at Ml O;exact⟨by rw [O,fx i Gy,fS i Gy Ms],by rw [Ml];rfl⟩))
     refine WC.eqv (t:=10) (v':=.string sv) rfl (by rw [Ml,Mm,O];rfl)<|eX ?_;refine WL.go rfl (OX.aM (us:=[.string sv]) ik rfl rfl rfl rfl fun XC kF AK AL=>?_);have K:=cS.du AK AL;refine WL.ap rfl rfl K.p2 (SR.cT (A:=fun _=>True) (x:=sv) (As.gb K.g0) trivial rfl (by simp [Value.oneCell']) rfl) fun a91 AM pH Mt Mu G=>?_;refine cq ?_;obtain⟨t2,U⟩:∃t,bB aa (aH aa (j:Int)) (acc++[sv])=t:=⟨_,rfl⟩
     have V:∀H:List Nat,L1 <+: H→(H.map fun j:Nat=>aH aa (j:Int))[idx]?=some (aH aa (j:Int)):=fun H h=>by
      rw [List.getElem?_map]
      have:=h.getElem N
      obtain⟨q,rfl⟩:=h;rw [List.getElem?_append_left N,pR];rfl
     obtain⟨oV,W⟩:=Ow.addr (As.gs G.g2) (V _ (by first | exact y | exact y.trans (List.prefix_append _ _)));have Mv:=G.bA;refine WC.dS (m:=9) G mixed<|(gp) ky St.g8<|bJ ?_;refine DP .r (fun _ d=>PV.dO dn W rfl rfl (by omega))<|DP .r (fun _ d=>VA ak (Ow.sP (As.gs d.2.g2) (by simp only [List.length_map,List.length_append,List.length_cons,List.length_nil];omega) W (V _ (by first | exact y | exact y.trans (List.prefix_append _ _)))) .r)<|(cx) ?_;rintro qj ⟨FD,Q⟩ _;refine WL.c1 (u:=t2.val) (eh (k:=(aH aa (j:Int))) (SD.ht (As.gf Q.g7)) (SD.hu (As.gf Q.g7)) (Ow.rd (As.gs Q.g0) (by simp;omega)) i.hb (ee g qi)) (by rw [U]) Q fun yl s14 T=>?_;refine(dw) fc T.p5 fun vS C8 yX ei=>?_;refine bJ ?_;refine eb (n+1,t2,L2,iE,j2,gw,_,l,f,o,a91,(mo+1),AM) ⟨ei.p2.drop.p4.p4.p3.p4,⟨by omega,C,AF,S,JF,yk,uV,RP,y,AJ,by rw [← U,ey g qi],trivial⟩⟩
    have RQ:aX gw t.ask=none:=by simpa using RQ
    refine(jY) ak cS.b4<|(fw) (dD (k:=t.ask)) cS fun kF s11 K=>?_;refine(aT) (fun Mw=>?_) fun Mw=>?_
    ·
     simp at Mw
     refine(jY) ak K.b4<|?_;have G:=K.p2.p7;refine(cE) C1 (hv j t.ask Il (by rw [BH];exact yZ) Mw _ _ _ _ G.e2 (As.gf G.g7) JF) ?_;rintro _ pH ⟨G4,rfl,XD,FE,FH⟩;have Q:=St.lr G FH;refine bJ ?_;obtain⟨sv,O⟩:∃s,s=valOf aa x.ab t.ask:=⟨_,rfl⟩
     have AJ:=(FC.mono (fun _ h=>h) FE).snoc sv (fun _ _=>by rw [Gx];exact O) (fun h P k hk=>by
      obtain⟨Gy,Ms,Im⟩:=gB i g Df vn P hk;rw [Gx] at Im;rw [Im,bd Gy (by omega),Ms] at Mw;cases Mw)
     refine EX.eqv (t:=10) (v':=.string sv) rfl (by rw [O])<|fY ?_;refine WL.go rfl (OX.aM (us:=[.string sv]) ik rfl rfl rfl rfl fun XC qj AK AL=>?_);have T:=Q.du AK AL;refine WL.ap rfl rfl T.p4 (SR.cT (A:=fun _=>True) (x:=sv) (As.gb T.g0) trivial rfl (by simp [Value.oneCell']) rfl) fun a91 AM yl Mt Mu ei=>?_;refine cq ?_;obtain⟨t2,U⟩:∃t,bB aa (aH aa (j:Int)) (acc++[sv])=t:=⟨_,rfl⟩
     have V:∀H:List Nat,L1 <+: H→(H.map fun j:Nat=>aH aa (j:Int))[idx]?=some (aH aa (j:Int)):=fun H h=>by
      rw [List.getElem?_map]
      have:=h.getElem N
      obtain⟨q,rfl⟩:=h;rw [List.getElem?_append_left N,pR];rfl
     obtain⟨oV,W⟩:=Ow.addr (As.gs ei.g4) (V _ (by first | exact y | exact y.trans (List.prefix_append _ _)));have Mv:=ei.bA;refine WC.dS (m:=9) ei mixed<|(gp) ky St.g2<|bJ ?_;refine DP .r (fun _ d=>PV.dO dn W rfl rfl (by omega))<|DP .r (fun _ d=>VA ak (Ow.sP (As.gs d.2.g4) (by simp only [List.length_map,List.length_append,List.length_cons,List.length_nil];omega) W (V _ (by first | exact y | exact y.trans (List.prefix_append _ _)))) .r)<|(cx) ?_;rintro vS ⟨FD,eV⟩ _;refine WL.c1 (u:=t2.val) (eh (k:=(aH aa (j:Int))) (SD.ht (As.gf eV.g8)) (SD.hu (As.gf eV.g8)) (Ow.rd (As.gs eV.g0) (by simp;omega)) i.hb (ee g qi)) (by rw [U]) eV fun wN s16 gX=>?_;refine(dw) fc gX.p6 fun B3 Oh Oi dT=>?_;refine bJ ?_;refine eb (n+1,t2,L2,iE,j2,G4,_,l,f,o,a91,(mo+1),AM) ⟨dT.p2.drop.p7.p7.p2.p7.p6.p5.p7,⟨by omega,C,AF.mono i C FE,S,XD,yk.trans FE,uV,RP,y,AJ,by rw [← U,ey g qi],trivial⟩⟩
    simp at Mw
    have nB:outside aa aa[j].asks[n]=false:=by
     cases P:outside aa aa[j].asks[n]
     ·
      rfl
     have:=gA i g Df vn P;rw [Gx,Mw] at this;cases this
    obtain⟨z,XE,Dg,JG⟩:=fK i g Df vn nB;rw [Gx] at Dg;have Io:=XE.lt.2.2.2
    have sg:aX dr (aH aa (z:Int))=none:=by
     cases h:aX dr (aH aa (z:Int)) with
     | none=>rfl
     | some v=>have:=yk _ _ h;rw [← Dg,RQ] at this;cases this
    have Oj:∀k:Nat,aa[j].asks[n].n=k→k=z:=fun k hk=>by
     obtain⟨Gy,Ms,Im⟩:=gB i g Df vn nB hk;rw [Gx,Dg] at Im;exact(dh i JG Gy Im).symm
    refine(jY) ak K.b4<|?_;refine WP .r (PV.kP cB dd j9 (As.gm K.g3) rfl rfl)<|?_;refine aQ ?_;refine(aT) (fun Ip=>?_) fun Ip=>?_
    ·
     simp at Ip
     have Mx:z∉L2:=fun h=>by have:=S.1 z h;rw [← Dg,Ip] at this;cases this
     have hk0:=C.out z Mx;have hre:cv aa i0 z:=.step (C.reach j (y.subset o5)) XE;have XF:=C.meet JG Io Mx hre;have tU:=C.Bu JG Io Mx hre;have T6:=xx (v:=u1) (j:=z) tU;have My:=S.meet i (fun k hk=>(C.ring k hk).1) JG Mx hk0;rw [← Dg] at My
     have Iq:mK t.ask=⟨#[48]⟩:=by rw [Dg];exact pn JG (by omega) Io
     refine nx ?_;have afg:=K.bA;refine WC.cH (m:=6) (E:=bN [(5,fun v _=>v=.string ⟨#[48]⟩)]) K (aU (⟨fun _ _ _ _ _ _ _ h=>h,trivial⟩)) mixed (by kernel_rfl)<|(tW) ak St.g4<|(tW) ak St.g4<|?_;refine DW.c1 (fun wx d hF=>nY (k:=t.ask)) (by rw [Iq])<|(cx) ?_;rintro pH ⟨abP,G⟩ ⟨_,_⟩;refine WL.go rfl (OX.put cB dd (As.gm G.g3) rfl rfl rfl fun qj Mz MA=>?_);have Q:=G.p3.hJ Mz MA;refine(jY) ak Q.b4<|?_;refine WL.go rfl (OX.aM (us:=t.ask.cells) cP rfl rfl rfl rfl fun b71 yl XG XH=>?_);have T:=Q.du XG XH;refine WL.ap rfl rfl T.p2 (SR.cT (A:=fun _=>True) (x:=t.ask) (As.gb T.g0) trivial rfl (by simp [Key.cells,Value.oneCell']) rfl) fun a72 XI vS afh afi ei=>?_;refine cq ?_;have eV:=ei.Kk (show(L2.map fun j:Nat=>aH aa (j:Int))++[t.ask]=(L2++[z]).map fun j:Nat=>aH aa (j:Int) by rw [List.map_append,Dg];rfl);have si:=My.1 z (by simp);rw [← Dg] at si;have T7:∀s,s=itoa (u1 z:Int)→Ev aa x.ab u1 (L2++[z]) dr gw aa[j].asks (n+1) (acc++[s]):=fun s hs=>(FC.mono (fun _ h=>by simp [h]) (fu.refl _)).snoc s (fun h P=>by rw [nB] at P;cases P) (fun h P k hk=>by have:=Oj k hk;subst this;exact .inr ⟨hs,by simp,sg⟩);refine(jY) ak eV.b5<|?_;refine WP .r (PV.gO cB dd j9 (As.gm eV.g2) (si) rfl rfl)<|bJ ?_;obtain⟨sv,O⟩:∃s,s=itoa (u1 z:Int):=⟨_,rfl⟩;have AJ:=T7 sv O;refine EX.eqv (t:=10) (v':=.string sv) rfl (by rw [O])<|fY ?_;refine WL.go rfl (OX.aM (us:=[.string sv]) ik rfl rfl rfl rfl fun XC wN AK AL=>?_);have gX:=eV.du AK AL;refine WL.ap rfl rfl gX.p4 (SR.cT (A:=fun _=>True) (x:=sv) (As.gb gX.g0) trivial rfl (by simp [Value.oneCell']) rfl) fun a91 AM B3 Mt Mu dT=>?_;refine cq ?_;obtain⟨t2,U⟩:∃t,bB aa (aH aa (j:Int)) (acc++[sv])=t:=⟨_,rfl⟩
     have V:∀H:List Nat,L1 <+: H→(H.map fun j:Nat=>aH aa (j:Int))[idx]?=some (aH aa (j:Int)):=fun H h=>by
      rw [List.getElem?_map]
      have:=h.getElem N
      obtain⟨q,rfl⟩:=h;rw [List.getElem?_append_left N,pR];rfl
     obtain⟨oV,W⟩:=Ow.addr (As.gs dT.g2) (V _ (by first | exact y | exact y.trans (List.prefix_append _ _)));have Mv:=dT.bA;refine WC.dS (m:=9) dT mixed<|(gp) ky St.g9<|bJ ?_;refine DP .r (fun _ d=>PV.dO dn W rfl rfl (by omega))<|DP .r (fun _ d=>VA ak (Ow.sP (As.gs d.2.g2) (by simp only [List.length_map,List.length_append,List.length_cons,List.length_nil];omega) W (V _ (by first | exact y | exact y.trans (List.prefix_append _ _)))) .r)<|(cx) ?_;rintro Dh ⟨FD,iq⟩ _;refine WL.c1 (u:=t2.val) (eh (k:=(aH aa (j:Int))) (SD.ht (As.gf iq.g8)) (SD.hu (As.gf iq.g8)) (Ow.rd (As.gs iq.g0) (by simp;omega)) i.hb (ee g qi)) (by rw [U]) iq fun Gz s19 iR=>?_;refine(dw) fc iR.p6 fun JH T8 T9 e6=>?_;refine bJ ?_;refine eb (n+1,t2,L2++[z],_,true,gw,_,a72,(f+1),XI,a91,(mo+1),AM) ⟨e6.p2.drop.p3.drop.p3.p4.p3.p4,⟨by omega,XF,AF.meet hk0,My,JF,yk,⟨Nat.le_of_lt (Nat.lt_of_lt_of_le T6 uV.1),fun _=>.inr (Nat.lt_of_lt_of_le T6 uV.1)⟩,(fun h=>by cases h),y.trans (List.prefix_append _ _),AJ,by rw [← U,ey g qi],trivial⟩⟩
    simp at Ip
    have Mx:z∈L2:=by
     by_cases h:z∈L2
     ·
      exact h
     have:=S.2 (aH aa (z:Int)) (fun k hk e=>h (by have:=dh i JG (C.ring k hk).1 e;rw [this];exact hk));rw [← Dg] at this;rw [this] at Ip;cases Ip
    have si:=S.1 z Mx;rw [← Dg] at si;have T7:∀s,s=itoa (u1 z:Int)→Ev aa x.ab u1 L2 dr gw aa[j].asks (n+1) (acc++[s]):=fun s hs=>FC.snoc s (fun h P=>by rw [nB] at P;cases P) (fun h P k hk=>by have:=Oj k hk;subst this;exact .inr ⟨hs,Mx,sg⟩);refine(jY) ak K.b4<|?_;refine WP .r (PV.gO cB dd j9 (As.gm K.g3) (si) rfl rfl)<|bJ ?_;obtain⟨sv,O⟩:∃s,s=itoa (u1 z:Int):=⟨_,rfl⟩;have AJ:=T7 sv O;refine EX.eqv (t:=10) (v':=.string sv) rfl (by rw [O])<|fY ?_;refine WL.go rfl (OX.aM (us:=[.string sv]) ik rfl rfl rfl rfl fun XC pH AK AL=>?_);have G:=K.du AK AL;refine WL.ap rfl rfl G.p2 (SR.cT (A:=fun _=>True) (x:=sv) (As.gb G.g0) trivial rfl (by simp [Value.oneCell']) rfl) fun a91 AM qj Mt Mu Q=>?_;refine cq ?_;obtain⟨t2,U⟩:∃t,bB aa (aH aa (j:Int)) (acc++[sv])=t:=⟨_,rfl⟩
    have V:∀H:List Nat,L1 <+: H→(H.map fun j:Nat=>aH aa (j:Int))[idx]?=some (aH aa (j:Int)):=fun H h=>by
     rw [List.getElem?_map]
     have:=h.getElem N
     obtain⟨q,rfl⟩:=h;rw [List.getElem?_append_left N,pR];rfl
    obtain⟨oV,W⟩:=Ow.addr (As.gs Q.g2) (V _ (by first | exact y | exact y.trans (List.prefix_append _ _)));have Mv:=Q.bA;refine WC.dS (m:=9) Q mixed<|(gp) ky St.g8<|bJ ?_;refine DP .r (fun _ d=>PV.dO dn W rfl rfl (by omega))<|DP .r (fun _ d=>VA ak (Ow.sP (As.gs d.2.g2) (by simp only [List.length_map,List.length_append,List.length_cons,List.length_nil];omega) W (V _ (by first | exact y | exact y.trans (List.prefix_append _ _)))) .r)<|(cx) ?_;rintro yl ⟨FD,T⟩ _;refine WL.c1 (u:=t2.val) (eh (k:=(aH aa (j:Int))) (SD.ht (As.gf T.g7)) (SD.hu (As.gf T.g7)) (Ow.rd (As.gs T.g0) (by simp;omega)) i.hb (ee g qi)) (by rw [U]) T fun vS s15 ei=>?_;refine(dw) fc ei.p5 fun wN XJ XK eV=>?_;refine bJ ?_;refine eb (n+1,t2,L2,iE,j2,gw,_,l,f,o,a91,(mo+1),AM) ⟨eV.p2.drop.p4.p4.p3.p4,⟨by omega,C,AF,S,JF,yk,uV,RP,y,AJ,by rw [← U,ey g qi],trivial⟩⟩
   simp at AH
   have Dw:n=aa[j].asks.length:=by
    rcases Nat.lt_or_ge n aa[j].asks.length with h | h
    ·
     obtain⟨a,h1,_⟩:=da i g (ai:=acc) (by rw [dB g];omega);rw [ht] at h1;rw [h1] at AH;cases AH
    omega
   subst Dw;obtain⟨DE,MB,MC,RU,JI⟩:=FC.val i C g Df;have MD:dK (u1 j) (dQ aa[j].c.toNat (acc.map cc)):=fun b hb=>MC b (vQ j o5 b hb);obtain⟨val,oG⟩:∃v,dQ aa[j].c.toNat (acc.map cc)=v:=⟨_,rfl⟩;rw [oG] at DE MB MD RU JI
   have XL:t.value=itoa (val:Int):=by
    have h1:=eU i g (ai:=acc) (by rw [dB g];omega);rw [ht] at h1;rw [h1,(qX i g Df).1,← oG];rfl
   have ym:j∈L2:=y.subset o5;have JJ:=y.length_le
   have ME:L2[idx]?=some j:=by obtain⟨q,rfl⟩:=y;rw [List.getElem?_append_left N];exact pR
   have Ir:(L2.map fun j:Nat=>aH aa (j:Int))[idx]?=some (aH aa (j:Int)):=by rw [List.getElem?_map,ME];rfl
   refine fY ?_;obtain⟨Di,iM⟩:=Ow.addr (As.gs cM.g0) Ir;have afj:=cM.bA;refine WC.dS (m:=8) cM mixed<|cq ?_;refine DP .r (fun _ d=>PV.dO dn iM rfl rfl (by omega))<|DP .r (fun _ d=>VA ak (Ow.sP (As.gs d.2.g0) (by rw [List.length_map];omega) iM Ir) .r)<|DP .r (fun _ d=>PV.gO cB dd j9 (As.gm d.2.g3) (S.1 j ym) rfl rfl)<|(gp) fq St.g4<|(cx)<|?_;rintro jP ⟨abQ,cS⟩ _;refine(aT) (fun lW=>?_) fun lW=>?_
   ·
    simp at lW
    rw [XL] at lW;have I1:u1 j≠val:=fun e=>lW (by rw [e]);have RV:=Bv C ym DE MD I1;obtain⟨MF,mq⟩:=Ow.addr (As.gs cS.g0) Ir;have afk:=cS.bA;refine WC.cH (m:=9) (E:=bN [(7,fun v w'=>∃vv st,v=.tuple #[vv,.int .i64 ((st:Nat):Int)]∧KE Key.val w' X iE (aH aa (j:Int)) st)]) cS (jy (⟨⟨trivial,trivial⟩,trivial⟩)) mixed (by kernel_rfl)<|cq ?_;refine DP .r (fun _ d=>PV.dO dn mq rfl rfl (by omega))<|DP .r (fun _ d=>VA ak (Ow.sP (As.gs d.2.g0) (by rw [List.length_map];omega) mq Ir) .r)<|(gp) fq St.g4<|?_;refine DW.e rfl rfl rfl rfl rfl (fun wx d hF=>OX.Kg cB dd j9 (As.gm d.2.g3) rfl rfl rfl fun wy st vv sx hsz Is=>?_)<|?_
    ·
     have hg:=S.1 j ym;rw [hg] at Is;rw [Option.getD_some,ua hg] at Is;exact⟨⟨Nat.le_trans d.1 sx.size,d.2.same (A:=As.map Key.val X iE) (by simp) (sx.p.mono fun x _ hx=>by simpa [As.map] using hx) Is.km⟩,sx.p.mono (fun x _ hx=>Bo (A:=As.map Key.val X iE) (by simp) (by simpa [As.map] using hx)),_,rfl,_,_,rfl,Is⟩
    rintro _ wz _ ⟨XM,iR,rfl,_⟩;refine(cx) ?_;rintro kF ⟨abR,K⟩ ⟨Ik,_⟩;obtain⟨_,_,FI,yn⟩:=Ik;simp only [Value.tuple.injEq,Array.mk.injEq,List.cons.injEq,Value.int.injEq,true_and,and_true] at FI;have MG:=Int.natCast_inj.1 FI.2;rw [← MG] at yn;refine WL.go rfl (OX.zj yn rfl rfl rfl fun pH MH _ MI=>?_);have G:=K.p3.hJ MH MI;rw [XL] at G;refine pU ?_;refine eb (idx+1,L2,j0 u1 j val,bZ iE (aH aa (j:Int)) (.string (itoa (val:Int))),true,gw,l,f,o) ⟨G.p2.drop.p3.drop.p2.p2,⟨Nat.le_trans N JJ,C.set ym DE MB,AF.set i C ym DE MB MD RU,S.set i (fun k hk=>(C.ring k hk).1) ym val,JF,td.trans yk,⟨Nat.le_of_lt (Nat.lt_of_lt_of_le RV Mr.1),fun _=>Nat.lt_of_lt_of_le RV Mr.1⟩,(fun h=>by cases h),trivial⟩⟩
   simp at lW
   rw [XL] at lW;have lW:u1 j=val:=xt (by have:=C.le j;omega) (by omega) lW;refine jg ?_
   refine eb (idx+1,L2,u1,iE,j2,gw,l,f,o) ⟨cS.p1.drop.p3.drop,⟨Nat.le_trans N JJ,C,AF,S,JF,td.trans yk,Mr,fun h m k hm hk=>by
      obtain⟨e1,e2⟩:=RP h;subst e1
      by_cases e:m=idx
      ·
       subst e;rw [pR] at hk
       simp at hk;subst hk
       exact JI (lW ▸ rfl)
      exact sf e2 m k (by omega) hk,trivial⟩⟩
  simp at Xx
  refine df ?_;refine EX.again (L1,u1,JE,iW,dr,l,f,o) Sub.t ⟨im,⟨Dc,vQ,AE,Dd,td,fun h j hj=>by obtain⟨m,hm,rfl⟩:=List.mem_iff_getElem.1 (show j∈L1 from hj);exact sf h m _ (by omega) (ae hm),trivial⟩⟩ (by simp only [];cases iW <;> simp at De ⊢ <;> omega)
 have g23:ch=false:=g23;have Et:=wJ g23;have FJ:=DD.done i Et;refine fY ?_;have XN:=((As.gs iP.g0)).len;rw [List.length_map] at XN;have hL7:=DD.len;refine eX ?_;refine WC.bm (σ:=Nat × (List (Key × Value))) (db:=fun(J,It)=>[(0,.pointer (some ⟨D.s,0,none⟩)),(4,.map (some X)),(120,.slice l f o),(121,.int .i64 (f:Int)),(122,.int .i64 (J:Int))]) (F:=fun(J,It)=>[As.map Key.val D.m It]) (I:=fun(J,It)=>(J≤L.length)∧(aJ aa x.ab It)∧(fu ml It)∧(∀m j,m<J→L[m]?=some j→aX It (aH aa (j:Int))=some (.string (valOf aa x.ab (aH aa (j:Int)))))∧True) (μ:=fun(J,It)=>L.length - J) (0,Y) (iP.p1) Sub.t (⟨by omega,Gw,AD,fun m j h=>by omega,trivial⟩)<|?_;rintro⟨J,It⟩ w6 im ⟨hi7,Ua,MJ,XO,_⟩;simp only [CA,NA] at im hi7 Ua MJ XO ⊢;refine(aT) (fun AQ=>?_) fun AQ=>?_
 ·
  simp at AQ
  have RW:J<L.length:=by omega
  obtain⟨j,yj⟩:∃j,L[J]=j:=⟨_,rfl⟩
  have pR:L[J]?=some j:=by rw [ae RW,yj]
  have o5:j∈L:=yj ▸ List.getElem_mem RW;obtain⟨g,Df⟩:=DD.ring j o5;have RX:=JD.1 j o5;rw [FJ j o5,← fS i g Df,← fx i g] at RX;refine df ?_
  have hx7:(L.map fun j:Nat=>aH aa (j:Int))[J]?=some (aH aa (j:Int)):=by rw [List.getElem?_map,pR];rfl
  obtain⟨afm,JK⟩:=Ow.addr (As.gs im.g1) hx7;refine nx ?_;refine WP .r (PV.dO dn JK rfl rfl (by omega))<|(bf) ak (Ow.sP (As.gs im.g1) (by rw [List.length_map];omega) JK hx7)<|(fy) im fun W9 w7 MK FK ju=>?_;refine(dw) fW ju fun w8 ss7 hs7 ek=>?_;refine bJ ?_;have afp:=ek.bA;refine WC.dS (m:=8) ek mixed<|(gp) eZ St.g6<|(fe) ak St.g0<|(fe) ak St.g0<|?_;refine DP .r (fun _ d=>PV.gO cB dd j9 (As.gm d.2.g3) (RX) rfl rfl)<|(cx)<|?_;rintro w9 ⟨abT,dP⟩ _;refine WL.go rfl (OX.put cB dd (As.gm dP.g1) rfl rfl rfl fun jP XP XQ=>?_);have dp:=dP.p1.hJ XP XQ;refine eX ?_
  refine eb (J+1,_) ⟨dp.p1.drop,⟨by omega,Ua.put _,MJ.trans (fu.put Ua _),fun m k hm hk=>by
     rw [cZ]
     split
     ·
      rename_i e;rw [e]
     rename_i e
     refine XO m k ?_ hk
     rcases Nat.lt_or_ge m J with h | h
     ·
      exact h
     have:m=J:=by omega
     subst this;rw [pR] at hk;simp at hk;subst hk;exact absurd rfl e,trivial⟩⟩
 simp at AQ
 obtain⟨mm,GA,RY⟩:=List.mem_iff_getElem.1 DD.first;have Dj:=XO mm i0 (by omega) (by rw [ae GA,RY]);refine cD ?_;refine EX.qz (.inr rfl) rfl<|?_;exact⟨It,rfl,Ua,MJ,Dj,im.p5.k2⟩
theorem FL(f:ao aa):∀i,i<aa.length→Da aa x D (aH aa (i:Int)):=by
 intro i
 induction i using Nat.strongRecOn with
 | _ i l=>
  intro hi;have t:=f.len
  have q:∀a,aB a=false→(aw a=true∨∃m,m<i∧m<aa.length∧a=aH aa (m:Int))→Da aa x D a:=fun a _ b w M Z ml h1 c d=>by
   rcases b with b | ⟨m,hm,g,rfl⟩
   ·
    exact jo h1 c d b
   exact l m hm g w M Z ml h1 c d
  have o:∀a,(aw a=true∨∃m,m<i∧m<aa.length∧a=aH aa (m:Int))→Da aa x D a:=fun a b w M Z ml h1 c d=>by
   rcases b with b | ⟨m,hm,g,rfl⟩
   ·
    exact jo h1 c d b
   exact l m hm g w M Z ml h1 c d
  intro w M Z ml h1 c d;refine vM h1 c d f hi (fun hc w M Z ml h1 c d=>?_) fun a b hc=>o a ?_
  ·
   rw [bd hi (by omega)] at hc;refine yh h1 c d f hi hc fun j a p r h=>q a h ?_;have s:=gz hi hc p;have o:=iD f p;have hle:=ew aa i
   rcases r with⟨n,e,rfl⟩ | ⟨m,e,rfl,_,_,_,k⟩
   ·
    exact .inl (aN (by omega))
   rw [bd e (by omega)] at h;exact .inr ⟨m,by have:=k h s.2;omega,e,rfl⟩
  rw [bd hi (by omega)] at hc
  rcases b with⟨n,e,rfl⟩ | ⟨m,e,rfl,_,k,_⟩
  ·
   exact .inl (aN (by omega))
  exact .inr ⟨m,k hc,e,rfl⟩
theorem oW(a:ao aa) {k:Key}(hk:eB aa k):Da aa x D k:=by
 cases hk with
 | cell h=>exact fun w M Z ml h1 b c=>jo h1 b c (aN h)
 | eF h _=>exact FL a _ h
end Go.Rc

