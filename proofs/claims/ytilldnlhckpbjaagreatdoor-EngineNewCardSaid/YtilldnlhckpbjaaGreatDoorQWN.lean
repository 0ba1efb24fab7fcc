/- Walks over the program, part WN. Conditions: as each theorem says. -/
import Derived.Test.YtilldnlhckpbjaaGreatDoorQFacts
import Derived.Test.YtilldnlhckpbjaaGreatDoorQWH
import Derived.Test.YtilldnlhckpbjaaGreatDoorQBe
import Derived.Test.YtilldnlhckpbjaaGreatDoorQWB
import Derived.Test.YtilldnlhckpbjaaGreatDoorQBd
import Derived.Test.YtilldnlhckpbjaaGreatDoorShelf
import Derived.Test.YtilldnlhckpbjaaGreatDoorQWE
import Derived.Test.YtilldnlhckpbjaaGreatDoorQBb
set_option linter.all false
namespace Go.Rc
open Go Go.Proofs Go.Proofs.Tryz
variable {x:cB}{r n c:Nat}{w:World}{M Z A:Nat→Prop}{aa:List aG}{D:SD}{ml:List (Key × Value)}{k:Key}{a:Option Addr}
set_option maxHeartbeats 400000
theorem mI{ar a1 a2:Option Addr}{cr n1 c1 n2 c2:Nat}(b:St w M Z w []):Calls prog 47 #[.slice ar r cr,.agg (x.row a1 n1 c1 a2 n2 c2).toArray] w fun e w'=>∃s m q,e=.returned (.pointer (some ⟨s,0,none⟩))∧St w M Z w' [As.blk s 139 (SD.cells ⟨ar,a1,a2,r,cr,n1,c1,n2,c2,m,q,s⟩ x),As.map Key.val m [],As.map Key.val q []]:=by
 refine enter func47 rfl ntmps47 rfl<|?_;have aO:=b;refine(dx) aO fun b3 w1 i j st1=>?_;refine(bP) cc st1.b0<|?_;refine WL.mm Key.val st1 fun d w2 l o st2=>?_;refine WL.mm Key.val st2 fun f w3 p t g=>?_;refine WP .r (PV.br (us:=(SD.cells ⟨ar,a1,a2,r,cr,n1,c1,n2,c2,d,f,0⟩ x)) O9 rfl rfl rfl)<|(dx) g fun u w4 v y h=>?_;refine(bB) ?_;exact⟨_,_,_,rfl,h.p3.drop.p2.p1⟩
def CD(aa:List aG) (x:cB) (D:SD) (k:Key):Prop:=∀(w:World) (M Z:Nat→Prop) (ml:List (Key × Value)),St w M Z w [As.blk D.s 139 (D.cells x),As.map Key.val D.m ml]→(D.F prog aa x).p Z w→aJ aa x.ab ml→
 Calls prog 49 #[.pointer (some ⟨D.s,0,none⟩),k.val] w fun e w'=>∃jP,e=.returned (.string (valOf aa x.ab k))∧aJ aa x.ab jP∧eE ml jP∧St w M Z w' [As.blk D.s 139 (D.cells x),As.map Key.val D.m jP]
def VS(aa:List aG) (x:cB) (D:SD) (k:Key):Prop:=∀(w:World) (M Z:Nat→Prop) (ml:List (Key × Value)),St w M Z w [As.blk D.s 139 (D.cells x),As.map Key.val D.m ml]→(D.F prog aa x).p Z w→aJ aa x.ab ml→
 Calls prog 90 #[.pointer (some ⟨D.s,0,none⟩),k.val] w fun e w'=>∃jP,e=.returned (.tuple #[])∧aJ aa x.ab jP∧eE ml jP∧bq jP k=some (.string (valOf aa x.ab k))∧St w M Z w' [As.blk D.s 139 (D.cells x),As.map Key.val D.m jP]
theorem jk(g:St w M Z w [As.blk D.s 139 (D.cells x),As.map Key.val D.m ml]) (h:(D.F prog aa x).p Z w) (hm:aJ aa x.ab ml) (hk:aw k=true):Calls prog 49 #[.pointer (some ⟨D.s,0,none⟩),k.val] w fun e w'=>∃b,e=.returned (.string (valOf aa x.ab k))∧aJ aa x.ab b∧eE ml b∧St w M Z w' [As.blk D.s 139 (D.cells x),As.map Key.val D.m b]:=by
 refine enter func49 rfl ntmps49 rfl<|?_;have aO:=g;have st1:=aO.fact (B:=As.fz (D.F prog aa x)) h (fun _ i=>i);refine(dx) st1 fun b3 w1 l o st2=>?_;refine(bP) ak st2.b0<|(eY) (dP (k:=k)) st2 fun w2 s2 f=>?_;refine(aX) (fun g10=>?_) fun g10=>?_
 ·
  refine nx ?_;have q:=f.bL;refine WC.dS (m:=5) f mixed<|(y9) cc St.g2<|(gy) ak St.g0<|(cM)<|?_;rintro w3 ⟨t,d⟩ _;refine(eY) (ui (k:=k) (SD.hi (As.gf d.g1)) (SD.hr (As.gf d.g1))) d fun w4 u j=>?_;refine(bB) ?_;exact⟨ml,by unfold valOf cellOf;rw [if_pos hk],hm,eE.refl _,j.drop.drop⟩
 rw [hk] at g10;cases g10
theorem vk{i:Nat}(gJ:St w M Z w [As.blk D.s 139 (D.cells x),As.map Key.val D.m ml]) (hf:(D.F prog aa x).p Z w) (hm:aJ aa x.ab ml) (g:ao aa) (hi:i<aa.length) (W:ax (aN aa (i:Int))=true→VS aa x D (aN aa (i:Int))) (X:∀a,dB aa i a→ax (aN aa (i:Int))=false→CD aa x D a):Calls prog 49 #[.pointer (some ⟨D.s,0,none⟩),(aN aa (i:Int)).val] w fun e w'=>∃O,e=.returned (.string (valOf aa x.ab (aN aa (i:Int))))∧aJ aa x.ab O∧eE ml O∧St w M Z w' [As.blk D.s 139 (D.cells x),As.map Key.val D.m O]:=by
 have CT:=g.len
 have gu:i≤99:=by omega
 obtain⟨k,hk⟩:∃k,aN aa (i:Int)=k:=⟨_,rfl⟩;have dw:=cG hi gu;have ha6:=iw g hi;rw [hk] at dw W X ⊢;refine enter func49 rfl ntmps49 rfl<|?_;have aO:=gJ;have st1:=aO.fact (B:=As.fz (D.F prog aa x)) hf (fun _ hx=>hx);refine(dx) st1 fun b3 w1 Nu CY st2=>?_;refine(bP) ak st2.b0<|(eY) (dP (k:=k)) st2 fun w2 s2 Y=>?_;refine(aX) (fun g10=>?_) fun g10=>?_
 ·
  rw [dw] at g10;cases g10
 refine cw ?_;have CZ:=Y.bL;refine WC.dS (m:=10) Y mixed<|(gX) eZ St.g2<|(gy) ak St.g0<|?_;refine DP .r (fun _ d=>PV.kF cE cZ jX (As.gm d.2.g3) rfl rfl)<|(cM) ?_;rintro w3 ⟨xV,P⟩ _;refine(aX) (fun QJ=>?_) fun QJ=>?_
 ·
  obtain⟨vv,LI⟩:=Option.isSome_iff_exists.1 QJ;have LJ:=hm k vv LI;refine(bB) ?_;exact⟨ml,by rw [LI,LJ];rfl,hm,eE.refl _,P.drop.drop⟩
 refine(bP) ak P.b0<|(eY) (ib (k:=k)) P fun w4 s4 Q=>?_;refine(aX) (fun R=>?_) fun R=>?_
 ·
  refine(bP) ak Q.b0<|?_;have y:=Q.p3.p3;refine(cJ) VB (W R _ _ _ _ y.e2 (As.gf y.g3) hm) ?_;rintro _ w5 ⟨dj,rfl,S,T,Oo,E0⟩;have f:=St.lr y E0;refine cv ?_;have QK:=f.bL;refine WC.dS (m:=5) f mixed<|(gX) eZ St.g0<|(gy) ak St.g2<|(cM)<|?_;rintro w6 ⟨Ae,H⟩ _;refine WP .r (PV.look cE cZ jX (As.gm H.g1) rfl rfl)<|(bB) ?_;exact⟨dj,by rw [Oo];rfl,S,T,H.p2.drop.p2.drop⟩
 have y:=Q.fV RR.str 9 1;refine gW ?_;refine WC.bj (σ:=Nat × (List (Key × Value)) × (List ByteArray) × (Option Addr) × Nat × Nat) (db:=fun(n,j,acc,o,l,q)=>[(0,.pointer (some ⟨D.s,0,none⟩)),(3,.pointer (some ⟨b3,0,none⟩)),(7,.slice o l q)]) (F:=fun(n,j,acc,o,l,q)=>[As.os RR.str 9 1 o l q (acc),As.map Key.val D.m j]) (I:=fun(n,j,acc,o,l,q)=>(n≤bQ aa i)∧(aJ aa x.ab j)∧(eE ml j)∧(acc=(dc (bN aa k) (valOf aa x.ab) n).2)∧True) (μ:=fun(n,j,acc,o,l,q)=>bQ aa i - n) (0,ml,[],none,0,0) (y.p4.p1) Sub.t (⟨by omega,hm,eE.refl _,rfl,trivial⟩)<|?_;rintro⟨n,j,acc,o,l,q⟩ w5 f ⟨hn,J,U,K,_⟩;simp only [CA,NA] at f hn J U K ⊢;have vl:=((As.gs f.g0)).len
 have wE:acc.length=n:=by rw [K];exact(ep _ _ n).2
 obtain⟨t,I9⟩:∃t,aM aa k acc=t:=⟨_,rfl⟩
 have z:bN aa k acc=t:=by rw [← I9,← hk,cY hi gu]
 refine bM ?_;have E1:=f.bL;have E3:=f.jC;have E4:=f.size;refine WC.dh (m:=8) (E:=cA [(6,fun v _=>v=t.val),(7,PB w5.heap.size 142 [.bool false,.string ⟨#[]⟩,.int .i64 0,.string ⟨#[]⟩])]) f (bz (⟨fun _ _ _ _ _ _ _ h=>h,⟨fun _ _ _ _ _ _ c h=>PB.st E1 c h,trivial⟩⟩)) mixed (by kernel_rfl)<|(gX) kf St.g4<|(gy) ak St.g2<|nx ?_;refine DW.c1 (fun wx d hF=>eP (k:=k) (SD.ht (As.gf d.2.g3)) (SD.hu (As.gf d.2.g3)) (Ow.rd (As.gs d.2.g0) (by omega)) g.hb (hk ▸ dN hi gu)) (by rw [I9])<|?_;refine DW.e rfl rfl rfl rfl rfl (fun wx d hF=>OX.alloc nH rfl fun b wy L hb=>⟨⟨Nat.le_trans d.1 L.ext.size,d.2.step L.ext⟩,L.ext.p0,_,rfl,_,rfl,Nat.le_trans d.1 L.ge,hb⟩)<|?_;rintro _ wz _ ⟨b8,rfl,_,_⟩;refine(cM) ?_;rintro w6 ⟨E7,H⟩ ⟨HM,⟨_,_⟩⟩;have jZ:=H.BN HM E1 E3 E4;refine(dZ) fc jZ fun w7 nT rH C=>?_;refine(bp) dd C.b0<|(aX) (fun G=>?_) fun G=>?_
 ·
  have Dr:n=bQ aa i:=by
   rcases Nat.lt_or_ge n (bQ aa i) with h | h
   ·
    obtain⟨a,h1,_⟩:=cR g hi (ae:=acc) (by omega);rw [hk,z] at h1;rw [h1] at G;cases G
   omega
  have V:t.value=valOf aa x.ab k:=by
   have h1:=eM (aD:=x.ab) g hi;rw [hk,← Dr,← K,z] at h1;rw [h1]
  refine nx ?_;have QL:=C.bL;refine WC.dS (m:=7) C mixed<|(gX) eZ St.g5<|(gy) ak St.g3<|(gX) ff St.g0<|(cM)<|?_;rintro w8 ⟨E8,u⟩ _;refine WL.go rfl (OX.put cE cZ (As.gm u.g2) rfl rfl rfl fun w9 vm rK=>?_);have N:=u.p2.iu vm rK;refine(bp) ff N.b1<|(bB) ?_;exact⟨_,by rw [V],by rw [V];exact J.put k,by rw [V];exact U.trans (eE.put J k),N.p5.k2⟩
 have Dr:n<bQ aa i:=by
  rcases Nat.lt_or_ge n (bQ aa i) with h | h
  ·
   exact h
  have h1:=et g hi (ae:=acc) (by omega);rw [hk,z] at h1;rw [h1] at G;cases G
 obtain⟨a,wD,yP,_⟩:=cR g hi (ae:=acc) (by omega);rw [hk,z] at wD
 have C2:t.ask=a:=by rw [wD]
 refine(ko) ak C.b0<|?_;have u:=C.p2.p5;refine(cJ) HG (X t.ask (by rw [C2];exact yP) R _ _ _ _ u.e2 (As.gf u.g5) J) ?_;rintro _ w8 ⟨dj,rfl,S,T,j0⟩;have N:=St.lr u j0;refine WL.go rfl (OX.aS (us:=[.string (valOf aa x.ab t.ask)]) hY rfl rfl rfl rfl fun b62 w9 VT VU=>?_);have dG:=N.df VT VU;refine WL.ap rfl rfl dG.p4 (SR.dr (A:=fun _=>True) (x:=valOf aa x.ab t.ask) (As.gb dG.g0) trivial rfl (by simp [Value.oneCell']) rfl) fun a63 VV lI adQ adR dX=>?_;refine cv ?_;refine fx (n+1,dj,acc++[valOf aa x.ab t.ask],a63,(l+1),VV) ⟨dX.p1.drop.p3.drop.p4.p4.p4.p3,⟨by omega,S,U.trans T,by simp only [dc];rw [← K,z],trivial⟩⟩
set_option maxHeartbeats 1600000 in
theorem xW{i0:Nat}(gJ:St w M Z w [As.blk D.s 139 (D.cells x),As.map Key.val D.m ml]) (hf:(D.F prog aa x).p Z w) (hm:aJ aa x.ab ml) (i:ao aa) (hi:i0<aa.length) (F1:aA aa i0=true) (hv:∀j a,cm aa i0 j→dB aa j a→ax a=false→CD aa x D a):Calls prog 90 #[.pointer (some ⟨D.s,0,none⟩),(aN aa (i0:Int)).val] w fun e w'=>∃jP,e=.returned (.tuple #[])∧aJ aa x.ab jP∧eE ml jP∧bq jP (aN aa (i0:Int))=some (.string (valOf aa x.ab (aN aa (i0:Int))))∧St w M Z w' [As.blk D.s 139 (D.cells x),As.map Key.val D.m jP]:=by
 have CT:=i.len
 have gu:i0≤99:=by omega
 have LK:=oX hi gu F1;refine enter func90 rfl ntmps90 rfl<|?_;have aO:=gJ;have st1:=aO.fact (B:=As.fz (D.F prog aa x)) hf (fun _ hx=>hx);refine(dx) st1 fun b3 w1 Nu CY st2=>?_;refine cv ?_;have QM:=st2.bL;have VW:=st2.jC;have VX:=st2.size;refine WC.dh (m:=4) (E:=cA [(0,PM Key.val w1.heap.size),(3,fun v _=>v=.string ⟨#[48]⟩)]) st2 (bz (⟨fun _ _ _ _ _ _ c h=>PM.st QM c h,⟨fun _ _ _ _ _ _ _ h=>h,trivial⟩⟩)) mixed (by kernel_rfl)<|?_;refine DW.e rfl rfl rfl rfl rfl (fun wx d hF=>OX.makeMap Key.val rfl fun b wy nw hb=>⟨⟨Nat.le_trans d.1 nw.ext.size,d.2.step nw.ext⟩,nw.ext.p0,_,rfl,_,rfl,Nat.le_trans d.1 nw.ge,hb⟩)<|?_;rintro _ wz _ ⟨X,rfl,_,_⟩;refine(gy) ak St.g0<|(gy) ak St.g0<|?_;refine DW.c1 (fun wx d hF=>nJ (k:=(aN aa (i0:Int)))) (by rw [LK])<|(cM) ?_;rintro w2 ⟨xX,lN⟩ ⟨_,⟨VY,_⟩⟩;have jl:=lN.TQ VY QM VW VX;refine WL.go rfl (OX.ins cE cZ (As.gm jl.g0) rfl rfl rfl fun w3 E9 vo=>?_);have ki:=jl.iu E9 vo;refine(bP) ak ki.b1<|?_;refine WL.go rfl (OX.aS (us:=(aN aa (i0:Int)).cells) du rfl rfl rfl rfl fun b22 w4 QN VZ=>?_);have jr:=St.qu (R:=RR.key) (E:=43) (k:=2) (a:=some ⟨b22,0,none⟩) (n:=1) (c:=1) (xs:=[(aN aa (i0:Int))]) ki QN.ext (OR.dr VZ (Nat.zero_le _) rfl (by simp [Key.cells,Value.oneCell']) rfl) (fun x hx=>by simp [bA] at hx;subst hx;exact QN.ge);refine kL ?_;refine WC.bj (σ:=(List Nat) × (Nat→Nat) × (List (Key × Value)) × Bool × (List (Key × Value)) × (Option Addr) × Nat × Nat) (db:=fun(L,u,am,ch,Y,l,f,o)=>[(0,.pointer (some ⟨D.s,0,none⟩)),(4,.map (some X)),(5,.slice l f o),(6,.bool ch)]) (F:=fun(L,u,am,ch,Y,l,f,o)=>[As.os RR.key 43 2 l f o (L.map fun j:Nat=>aN aa (j:Int)),As.map Key.val D.m Y,As.map Key.val X am]) (I:=fun(L,u,am,ch,Y,l,f,o)=>(cP aa x.ab i0 L u)∧(je aa x.ab L u Y)∧(kq aa L u am)∧(aJ aa x.ab Y)∧(eE ml Y)∧(ch=false→∀j∈L,lA aa x.ab L u j)∧True) (μ:=fun(L,u,am,ch,Y,l,f,o)=>2*lY aa L u+(if ch then 1 else 0)) ([i0],fun _=>0,cF [] (aN aa (i0:Int)) (.string ⟨#[48]⟩),true,ml,(some ⟨b22,0,none⟩),1,1) (jr.p1.p5.p2) Sub.t (⟨cP.start hi F1,je.start,⟨fun j hj=>by simp at hj;subst hj;rw [show itoa ((0:Nat):Int)=⟨#[48]⟩ by decide +kernel];simp [cF,bq],fun k hk=>by simp [cF,bq];intro e;exact hk i0 (by simp) e.symm⟩,hm,eE.refl _,(fun h=>by cases h),trivial⟩)<|?_;rintro⟨L,u,am,ch,Y,l,f,o⟩ w5 ku ⟨wB,QO,F2,CE,Af,BP,_⟩;simp only [CA,NA] at ku wB QO F2 CE Af BP ⊢;refine(aX) (fun g23=>?_) fun g23=>?_
 ·
  have g23:ch=true:=g23;subst g23
  clear BP
  refine aT ?_;refine bM ?_;refine WC.bj (σ:=Nat × (List Nat) × (Nat→Nat) × (List (Key × Value)) × Bool × (List (Key × Value)) × (Option Addr) × Nat × Nat) (db:=fun(idx,L1,u1,Ja,iX,dj,l,f,o)=>[(0,.pointer (some ⟨D.s,0,none⟩)),(4,.map (some X)),(5,.slice l f o),(6,.bool iX),(7,.int .i64 (idx:Int))]) (F:=fun(idx,L1,u1,Ja,iX,dj,l,f,o)=>[As.os RR.key 43 2 l f o (L1.map fun j:Nat=>aN aa (j:Int)),As.map Key.val D.m dj,As.map Key.val X Ja]) (I:=fun(idx,L1,u1,Ja,iX,dj,l,f,o)=>(idx≤L1.length)∧(cP aa x.ab i0 L1 u1)∧(je aa x.ab L1 u1 dj)∧(kq aa L1 u1 Ja)∧(aJ aa x.ab dj)∧(eE ml dj)∧(lY aa L1 u1≤lY aa L u∧(iX=true→lY aa L1 u1<lY aa L u))∧(iX=false→∀m j,m<idx→L1[m]?=some j→lA aa x.ab L1 u1 j)∧True) (μ:=fun(idx,L1,u1,Ja,iX,dj,l,f,o)=>aa.length - idx) (0,L,u,am,false,Y,l,f,o) (ku.p2.p2.p2) Sub.t (⟨by omega,wB,QO,F2,CE,Af,⟨Nat.le_refl _,(fun h=>by cases h)⟩,fun _ m j h=>by omega,trivial⟩)<|?_;rintro⟨idx,L1,u1,Ja,iX,dj,l,f,o⟩ w6 im ⟨LL,CH,kx,xY,ss,pP,CI,rL,_⟩;simp only [CA,NA] at im LL CH kx xY ss pP CI rL ⊢;have vl:=((As.gs im.g0)).len;rw [List.length_map] at vl;have hL1:=CH.len;refine(aX) (fun V0=>?_) fun V0=>?_
  ·
   simp at V0
   have N:idx<L1.length:=by omega
   obtain⟨j,xZ⟩:∃j,L1[idx]=j:=⟨_,rfl⟩
   have pB:L1[idx]?=some j:=by rw [ah N,xZ]
   have oI:j∈L1:=xZ ▸ List.getElem_mem N;obtain⟨g,CJ⟩:=CH.ring j oI
   have pQ:j≤99:=by omega
   have V2:=iw i g;rw [cW g] at V2;have jZ:=im.fV RR.str 9 1;refine kL ?_;obtain⟨t,I9⟩:∃t,aM aa (aN aa (j:Int)) []=t:=⟨_,rfl⟩
   have QP:(L1.map fun j:Nat=>aN aa (j:Int))[idx]?=some (aN aa (j:Int)):=by rw [List.getElem?_map,pB];rfl
   obtain⟨jj,eB⟩:=Ow.addr (As.gs jZ.g1) QP;have E1:=jZ.bL;have E3:=jZ.jC;have E4:=jZ.size;refine WC.dh (m:=11) (E:=cA [(9,fun v _=>v=t.val),(10,PB w6.heap.size 142 [.bool false,.string ⟨#[]⟩,.int .i64 0,.string ⟨#[]⟩])]) jZ (bz (⟨fun _ _ _ _ _ _ _ h=>h,⟨fun _ _ _ _ _ _ c h=>PB.st E1 c h,trivial⟩⟩)) mixed (by kernel_rfl)<|(gX) kf St.g6<|bM ?_;refine DP .r (fun _ d=>PV.dR ez eB rfl rfl (by omega))<|DP .r (fun _ d=>VA ak (Ow.kl (As.gs d.2.g1) (by rw [List.length_map];omega) eB QP) .r)<|nx ?_;refine DW.c1 (fun wx d hF=>eP (k:=(aN aa (j:Int))) (SD.ht (As.gf d.2.g5)) (SD.hu (As.gf d.2.g5)) (Ow.rd (As.gs d.2.g0) (by simp)) i.hb (dN g pQ)) (by rw [I9])<|?_;refine DW.e rfl rfl rfl rfl rfl (fun wx d hF=>OX.alloc nH rfl fun b wy nw hb=>⟨⟨Nat.le_trans d.1 nw.ext.size,d.2.step nw.ext⟩,nw.ext.p0,_,rfl,_,rfl,Nat.le_trans d.1 nw.ge,hb⟩)<|?_;rintro _ wz _ ⟨b9,rfl,_,_⟩;refine(cM) ?_;rintro w7 ⟨E7,fw⟩ ⟨V3,⟨_,_⟩⟩;have eC:=fw.BN V3 E1 E3 E4;refine(dZ) fc eC fun w8 Bt wu eQ=>?_;refine cw ?_;refine WC.bj (σ:=Nat × uE × (List Nat) × (List (Key × Value)) × Bool × (List (Key × Value)) × (List ByteArray) × (Option Addr) × Nat × Nat × (Option Addr) × Nat × Nat) (db:=fun(n,t,L2,iz,j8,gp,acc,l,f,o,uj,mb,uk)=>[(0,.pointer (some ⟨D.s,0,none⟩)),(4,.map (some X)),(5,.slice l f o),(6,.bool j8),(7,.int .i64 (idx:Int)),(8,.slice uj mb uk),(9,.pointer (some ⟨b9,0,none⟩))]) (F:=fun(n,t,L2,iz,j8,gp,acc,l,f,o,uj,mb,uk)=>[As.os RR.key 43 2 l f o (L2.map fun j:Nat=>aN aa (j:Int)),As.os RR.str 9 1 uj mb uk (acc),As.map Key.val D.m gp,As.map Key.val X iz,As.blk b9 142 [.bool t.done,.string t.value,.int .i64 t.ask.kind,.string t.ask.text]]) (I:=fun(n,t,L2,iz,j8,gp,acc,l,f,o,uj,mb,uk)=>(n≤aa[j].asks.length)∧(cP aa x.ab i0 L2 u1)∧(je aa x.ab L2 u1 gp)∧(kq aa L2 u1 iz)∧(aJ aa x.ab gp)∧(eE dj gp)∧(lY aa L2 u1≤lY aa L1 u1∧(j8=true→iX=true∨lY aa L2 u1<lY aa L1 u1))∧(j8=false→L2=L1∧iX=false)∧(L1 <+: L2)∧(Ev aa x.ab u1 L2 dj gp aa[j].asks n acc)∧(bN aa (aN aa (j:Int)) acc=t)∧True) (μ:=fun(n,t,L2,iz,j8,gp,acc,l,f,o,uj,mb,uk)=>aa[j].asks.length - n) (0,t,L1,Ja,iX,dj,[],l,f,o,none,0,0) (eQ.p4.p4.p3.p4) Sub.t (⟨by omega,CH,kx,xY,ss,eE.refl _,⟨Nat.le_refl _,fun h=>.inl h⟩,fun h=>⟨rfl,h⟩,List.prefix_refl _,Ev.start,by rw [← I9,cY g pQ],trivial⟩)<|?_;rintro⟨n,t,L2,iz,j8,gp,acc,l,f,o,uj,mb,uk⟩ w9 dG ⟨hn,C,oe,S,CK,pR,sn,QQ,y,HN,ht,_⟩;simp only [CA,NA] at dG hn C oe S CK pR sn QQ y HN ht ⊢;have Fa:=((As.gs dG.g0)).len;rw [List.length_map] at Fa;have IE:=((As.gs dG.g1)).len;have V4:=C.len;have wE:=HN.len;have adS:=y.length_le;have LM:lY aa L2 u1≤lY aa L u∧(j8=true→lY aa L2 u1<lY aa L u):=⟨by omega,fun h=>by rcases sn.2 h with h1 | h1;have:=CI.2 h1;omega;omega⟩;refine(bp) dd dG.b4<|(aX) (fun LN=>?_) fun LN=>?_
   ·
    simp at LN
    have Dr:n<aa[j].asks.length:=by
     rcases Nat.lt_or_ge n aa[j].asks.length with h | h
     ·
      exact h
     have h1:=et i g (ae:=acc) (by rw [cW g];omega);rw [ht] at h1;rw [h1] at LN;cases LN
    obtain⟨a,wD,yP,QD⟩:=cR i g (ae:=acc) (by rw [cW g];omega);obtain⟨xq,V5,V6⟩:=QD CJ;rw [wE,ah Dr] at V5
    simp at V5
    rw [ht] at wD
    have C2:t.ask=a:=by rw [wD]
    have F3:bm aa aa[j].asks[n]=t.ask:=by rw [C2,V6,V5]
    have uT:aa[j].asks[n]∈aa[j].asks:=List.getElem_mem Dr;have HO:=CH.reach j oI;refine cw ?_;have QL:=dG.bL;refine WC.dS (m:=11) dG mixed<|(gX) eZ St.g7<|(y9) ak St.g4<|?_;refine DP .r (fun _ d=>PV.kF cE cZ jX (As.gm d.2.g2) rfl rfl)<|(cM) ?_;rintro lI ⟨E8,dX⟩ _;refine(aX) (fun QR=>?_) fun QR=>?_
    ·
     obtain⟨vv,LI⟩:=Option.isSome_iff_exists.1 QR;have LJ:=CK _ vv LI;obtain⟨sv,O⟩:∃s,s=valOf aa x.ab t.ask:=⟨_,rfl⟩
     have Ag:=HN.snoc sv (fun _ _=>by rw [F3];exact O) (fun h P k hk=>.inl (by
      obtain⟨yO,CV,CW⟩:=gE i g CJ uT P hk;rw [F3] at CW;rw [CW] at LI O;exact⟨by rw [O,fy i yO,fR i yO CV],by rw [LI];rfl⟩))
     refine WC.eqv (t:=10) (v':=.string sv) rfl (by rw [LI,LJ,O];rfl)<|fb ?_;refine WL.go rfl (OX.aS (us:=[.string sv]) hY rfl rfl rfl rfl fun V7 mH Ah Ai=>?_);have K:=dX.df Ah Ai;refine WL.ap rfl rfl K.p2 (SR.dr (A:=fun _=>True) (x:=sv) (As.gb K.g0) trivial rfl (by simp [Value.oneCell']) rfl) fun a91 Aj pS LO LP G=>?_;refine cv ?_;obtain⟨t2,U⟩:∃t,aM aa (aN aa (j:Int)) (acc++[sv])=t:=⟨_,rfl⟩
     have V:∀H:List Nat,L1 <+: H→(H.map fun j:Nat=>aN aa (j:Int))[idx]?=some (aN aa (j:Int)):=fun H h=>by
      rw [List.getElem?_map]
      have:=h.getElem N
      obtain⟨q,rfl⟩:=h;rw [List.getElem?_append_left N,pB];rfl
     obtain⟨rM,W⟩:=Ow.addr (As.gs G.g2) (V _ (by first | exact y | exact y.trans (List.prefix_append _ _)));have LQ:=G.bL;refine WC.dS (m:=9) G mixed<|(gX) kf St.g8<|bM ?_;refine DP .r (fun _ d=>PV.dR ez W rfl rfl (by omega))<|DP .r (fun _ d=>VA ak (Ow.kl (As.gs d.2.g2) (by simp only [List.length_map,List.length_append,List.length_cons,List.length_nil];omega) W (V _ (by first | exact y | exact y.trans (List.prefix_append _ _)))) .r)<|(cM) ?_;rintro rO ⟨Fb,Q⟩ _;refine WL.c1 (u:=t2.val) (eP (k:=(aN aa (j:Int))) (SD.ht (As.gf Q.g7)) (SD.hu (As.gf Q.g7)) (Ow.rd (As.gs Q.g0) (by simp;omega)) i.hb (dN g pQ)) (by rw [U]) Q fun x2 s14 T=>?_;refine(dZ) fc T.p5 fun x3 LS BR eD=>?_;refine bM ?_;refine fx (n+1,t2,L2,iz,j8,gp,_,l,f,o,a91,(mb+1),Aj) ⟨eD.p2.drop.p4.p4.p3.p4,⟨by omega,C,oe,S,CK,pR,sn,QQ,y,Ag,by rw [← U,cY g pQ],trivial⟩⟩
    have QR:bq gp t.ask=none:=by simpa using QR
    refine(ko) ak dX.b4<|(eY) (ib (k:=t.ask)) dX fun mH s11 K=>?_;refine(aX) (fun LU=>?_) fun LU=>?_
    ·
     simp at LU
     refine(ko) ak K.b4<|?_;have G:=K.p2.p7;refine(cJ) HG (hv j t.ask HO (by rw [C2];exact yP) LU _ _ _ _ G.e2 (As.gf G.g7) CK) ?_;rintro _ pS ⟨Gq,rfl,V8,Fc,um⟩;have Q:=St.lr G um;refine bM ?_;obtain⟨sv,O⟩:∃s,s=valOf aa x.ab t.ask:=⟨_,rfl⟩
     have Ag:=(HN.mono (fun _ h=>h) Fc).snoc sv (fun _ _=>by rw [F3];exact O) (fun h P k hk=>by
      obtain⟨yO,CV,CW⟩:=gE i g CJ uT P hk;rw [F3] at CW;rw [CW,aW yO (by omega),CV] at LU;cases LU)
     refine EX.eqv (t:=10) (v':=.string sv) rfl (by rw [O])<|fj ?_;refine WL.go rfl (OX.aS (us:=[.string sv]) hY rfl rfl rfl rfl fun V7 rO Ah Ai=>?_);have T:=Q.df Ah Ai;refine WL.ap rfl rfl T.p4 (SR.dr (A:=fun _=>True) (x:=sv) (As.gb T.g0) trivial rfl (by simp [Value.oneCell']) rfl) fun a91 Aj x2 LO LP eD=>?_;refine cv ?_;obtain⟨t2,U⟩:∃t,aM aa (aN aa (j:Int)) (acc++[sv])=t:=⟨_,rfl⟩
     have V:∀H:List Nat,L1 <+: H→(H.map fun j:Nat=>aN aa (j:Int))[idx]?=some (aN aa (j:Int)):=fun H h=>by
      rw [List.getElem?_map]
      have:=h.getElem N
      obtain⟨q,rfl⟩:=h;rw [List.getElem?_append_left N,pB];rfl
     obtain⟨rM,W⟩:=Ow.addr (As.gs eD.g4) (V _ (by first | exact y | exact y.trans (List.prefix_append _ _)));have LQ:=eD.bL;refine WC.dS (m:=9) eD mixed<|(gX) kf St.g2<|bM ?_;refine DP .r (fun _ d=>PV.dR ez W rfl rfl (by omega))<|DP .r (fun _ d=>VA ak (Ow.kl (As.gs d.2.g4) (by simp only [List.length_map,List.length_append,List.length_cons,List.length_nil];omega) W (V _ (by first | exact y | exact y.trans (List.prefix_append _ _)))) .r)<|(cM) ?_;rintro x3 ⟨Fb,eU⟩ _;refine WL.c1 (u:=t2.val) (eP (k:=(aN aa (j:Int))) (SD.ht (As.gf eU.g8)) (SD.hu (As.gf eU.g8)) (Ow.rd (As.gs eU.g0) (by simp;omega)) i.hb (dN g pQ)) (by rw [U]) eU fun vq QS gY=>?_;refine(dZ) fc gY.p6 fun Bu S6 S7 gn=>?_;refine bM ?_;refine fx (n+1,t2,L2,iz,j8,Gq,_,l,f,o,a91,(mb+1),Aj) ⟨gn.p2.drop.p7.p7.p2.p7.p6.p5.p7,⟨by omega,C,oe.mono i C Fc,S,V8,pR.trans Fc,sn,QQ,y,Ag,by rw [← U,cY g pQ],trivial⟩⟩
    simp at LU
    have nh:outside aa aa[j].asks[n]=false:=by
     cases P:outside aa aa[j].asks[n]
     ·
      rfl
     have:=gD i g CJ uT P;rw [F3,LU] at this;cases this
    obtain⟨z,V9,CU,Fe⟩:=fM i g CJ uT nh;rw [F3] at CU;have QT:=V9.lt.2.2.2
    have mJ:bq dj (aN aa (z:Int))=none:=by
     cases h:bq dj (aN aa (z:Int)) with
     | none=>rfl
     | some v=>have:=pR _ _ h;rw [← CU,QR] at this;cases this
    have LV:∀k:Nat,aa[j].asks[n].n=k→k=z:=fun k hk=>by
     obtain⟨yO,CV,CW⟩:=gE i g CJ uT nh hk;rw [F3,CU] at CW;exact(dt i Fe yO CW).symm
    refine(ko) ak K.b4<|?_;refine WP .r (PV.kF cE cZ jX (As.gm K.g3) rfl rfl)<|?_;refine aT ?_;refine(aX) (fun HP=>?_) fun HP=>?_
    ·
     simp at HP
     have LW:z∉L2:=fun h=>by have:=S.1 z h;rw [← CU,HP] at this;cases this
     have hk0:=C.out z LW;have hre:cm aa i0 z:=.step (C.reach j (y.subset oI)) V9;have Wa:=C.meet Fe QT LW hre;have oQ:=C.AX Fe QT LW hre;have HQ:=xi (v:=u1) (j:=z) oQ;have LX:=S.meet i (fun k hk=>(C.ring k hk).1) Fe LW hk0;rw [← CU] at LX
     have HR:mw t.ask=⟨#[48]⟩:=by rw [CU];exact oX Fe (by omega) QT
     refine nx ?_;have adU:=K.bL;refine WC.dh (m:=6) (E:=cA [(5,fun v _=>v=.string ⟨#[48]⟩)]) K (bz (⟨fun _ _ _ _ _ _ _ h=>h,trivial⟩)) mixed (by kernel_rfl)<|(y9) ak St.g4<|(y9) ak St.g4<|?_;refine DW.c1 (fun wx d hF=>nJ (k:=t.ask)) (by rw [HR])<|(cM) ?_;rintro pS ⟨Jb,G⟩ ⟨_,_⟩;refine WL.go rfl (OX.put cE cZ (As.gm G.g3) rfl rfl rfl fun rO LY LZ=>?_);have Q:=G.p3.iu LY LZ;refine(ko) ak Q.b4<|?_;refine WL.go rfl (OX.aS (us:=t.ask.cells) du rfl rfl rfl rfl fun b71 x2 L0 HS=>?_);have T:=Q.df L0 HS;refine WL.ap rfl rfl T.p2 (SR.dr (A:=fun _=>True) (x:=t.ask) (As.gb T.g0) trivial rfl (by simp [Key.cells,Value.oneCell']) rfl) fun a72 Wb x3 adW adX eD=>?_;refine cv ?_;have eU:=eD.N4 (show(L2.map fun j:Nat=>aN aa (j:Int))++[t.ask]=(L2++[z]).map fun j:Nat=>aN aa (j:Int) by rw [List.map_append,CU];rfl);have rP:=LX.1 z (by simp);rw [← CU] at rP;have S8:∀s,s=itoa (u1 z:Int)→Ev aa x.ab u1 (L2++[z]) dj gp aa[j].asks (n+1) (acc++[s]):=fun s hs=>(HN.mono (fun _ h=>by simp [h]) (eE.refl _)).snoc s (fun h P=>by rw [nh] at P;cases P) (fun h P k hk=>by have:=LV k hk;subst this;exact .inr ⟨hs,by simp,mJ⟩);refine(ko) ak eU.b5<|?_;refine WP .r (PV.bF cE cZ jX (As.gm eU.g2) (rP) rfl rfl)<|bM ?_;obtain⟨sv,O⟩:∃s,s=itoa (u1 z:Int):=⟨_,rfl⟩;have Ag:=S8 sv O;refine EX.eqv (t:=10) (v':=.string sv) rfl (by rw [O])<|fj ?_;refine WL.go rfl (OX.aS (us:=[.string sv]) hY rfl rfl rfl rfl fun V7 vq Ah Ai=>?_);have gY:=eU.df Ah Ai;refine WL.ap rfl rfl gY.p4 (SR.dr (A:=fun _=>True) (x:=sv) (As.gb gY.g0) trivial rfl (by simp [Value.oneCell']) rfl) fun a91 Aj Bu LO LP gn=>?_;refine cv ?_;obtain⟨t2,U⟩:∃t,aM aa (aN aa (j:Int)) (acc++[sv])=t:=⟨_,rfl⟩
     have V:∀H:List Nat,L1 <+: H→(H.map fun j:Nat=>aN aa (j:Int))[idx]?=some (aN aa (j:Int)):=fun H h=>by
      rw [List.getElem?_map]
      have:=h.getElem N
      obtain⟨q,rfl⟩:=h;rw [List.getElem?_append_left N,pB];rfl
     obtain⟨rM,W⟩:=Ow.addr (As.gs gn.g2) (V _ (by first | exact y | exact y.trans (List.prefix_append _ _)));have LQ:=gn.bL;refine WC.dS (m:=9) gn mixed<|(gX) kf St.g9<|bM ?_;refine DP .r (fun _ d=>PV.dR ez W rfl rfl (by omega))<|DP .r (fun _ d=>VA ak (Ow.kl (As.gs d.2.g2) (by simp only [List.length_map,List.length_append,List.length_cons,List.length_nil];omega) W (V _ (by first | exact y | exact y.trans (List.prefix_append _ _)))) .r)<|(cM) ?_;rintro CL ⟨Fb,gw⟩ _;refine WL.c1 (u:=t2.val) (eP (k:=(aN aa (j:Int))) (SD.ht (As.gf gw.g8)) (SD.hu (As.gf gw.g8)) (Ow.rd (As.gs gw.g0) (by simp;omega)) i.hb (dN g pQ)) (by rw [U]) gw fun Ff Wc ic=>?_;refine(dZ) fc ic.p6 fun HT Wd We eb=>?_;refine bM ?_;refine fx (n+1,t2,L2++[z],_,true,gp,_,a72,(f+1),Wb,a91,(mb+1),Aj) ⟨eb.p2.drop.p3.drop.p3.p4.p3.p4,⟨by omega,Wa,oe.meet hk0,LX,CK,pR,⟨Nat.le_of_lt (Nat.lt_of_lt_of_le HQ sn.1),fun _=>.inr (Nat.lt_of_lt_of_le HQ sn.1)⟩,(fun h=>by cases h),y.trans (List.prefix_append _ _),Ag,by rw [← U,cY g pQ],trivial⟩⟩
    simp at HP
    have LW:z∈L2:=by
     by_cases h:z∈L2
     ·
      exact h
     have:=S.2 (aN aa (z:Int)) (fun k hk e=>h (by have:=dt i Fe (C.ring k hk).1 e;rw [this];exact hk));rw [← CU] at this;rw [this] at HP;cases HP
    have rP:=S.1 z LW;rw [← CU] at rP;have S8:∀s,s=itoa (u1 z:Int)→Ev aa x.ab u1 L2 dj gp aa[j].asks (n+1) (acc++[s]):=fun s hs=>HN.snoc s (fun h P=>by rw [nh] at P;cases P) (fun h P k hk=>by have:=LV k hk;subst this;exact .inr ⟨hs,LW,mJ⟩);refine(ko) ak K.b4<|?_;refine WP .r (PV.bF cE cZ jX (As.gm K.g3) (rP) rfl rfl)<|bM ?_;obtain⟨sv,O⟩:∃s,s=itoa (u1 z:Int):=⟨_,rfl⟩;have Ag:=S8 sv O;refine EX.eqv (t:=10) (v':=.string sv) rfl (by rw [O])<|fj ?_;refine WL.go rfl (OX.aS (us:=[.string sv]) hY rfl rfl rfl rfl fun V7 pS Ah Ai=>?_);have G:=K.df Ah Ai;refine WL.ap rfl rfl G.p2 (SR.dr (A:=fun _=>True) (x:=sv) (As.gb G.g0) trivial rfl (by simp [Value.oneCell']) rfl) fun a91 Aj rO LO LP Q=>?_;refine cv ?_;obtain⟨t2,U⟩:∃t,aM aa (aN aa (j:Int)) (acc++[sv])=t:=⟨_,rfl⟩
    have V:∀H:List Nat,L1 <+: H→(H.map fun j:Nat=>aN aa (j:Int))[idx]?=some (aN aa (j:Int)):=fun H h=>by
     rw [List.getElem?_map]
     have:=h.getElem N
     obtain⟨q,rfl⟩:=h;rw [List.getElem?_append_left N,pB];rfl
    obtain⟨rM,W⟩:=Ow.addr (As.gs Q.g2) (V _ (by first | exact y | exact y.trans (List.prefix_append _ _)));have LQ:=Q.bL;refine WC.dS (m:=9) Q mixed<|(gX) kf St.g8<|bM ?_;refine DP .r (fun _ d=>PV.dR ez W rfl rfl (by omega))<|DP .r (fun _ d=>VA ak (Ow.kl (As.gs d.2.g2) (by simp only [List.length_map,List.length_append,List.length_cons,List.length_nil];omega) W (V _ (by first | exact y | exact y.trans (List.prefix_append _ _)))) .r)<|(cM) ?_;rintro x2 ⟨Fb,T⟩ _;refine WL.c1 (u:=t2.val) (eP (k:=(aN aa (j:Int))) (SD.ht (As.gf T.g7)) (SD.hu (As.gf T.g7)) (Ow.rd (As.gs T.g0) (by simp;omega)) i.hb (dN g pQ)) (by rw [U]) T fun x3 s15 eD=>?_;refine(dZ) fc eD.p5 fun vq ss6 hs6 eU=>?_;refine bM ?_;refine fx (n+1,t2,L2,iz,j8,gp,_,l,f,o,a91,(mb+1),Aj) ⟨eU.p2.drop.p4.p4.p3.p4,⟨by omega,C,oe,S,CK,pR,sn,QQ,y,Ag,by rw [← U,cY g pQ],trivial⟩⟩
   simp at LN
   have Dr:n=aa[j].asks.length:=by
    rcases Nat.lt_or_ge n aa[j].asks.length with h | h
    ·
     obtain⟨a,h1,_⟩:=cR i g (ae:=acc) (by rw [cW g];omega);rw [ht] at h1;rw [h1] at LN;cases LN
    omega
   subst Dr;obtain⟨CN,L4,L5,QU,HU⟩:=HN.val i C g CJ;have F4:dC (u1 j) (dE aa[j].c.toNat (acc.map bR)):=fun b hb=>L5 b (kx j oI b hb);obtain⟨val,ob⟩:∃v,dE aa[j].c.toNat (acc.map bR)=v:=⟨_,rfl⟩;rw [ob] at CN L4 F4 QU HU
   have Wf:t.value=itoa (val:Int):=by
    have h1:=et i g (ae:=acc) (by rw [cW g];omega);rw [ht] at h1;rw [h1,(qF i g CJ).1,← ob];rfl
   have Ak:j∈L2:=y.subset oI;have L6:=y.length_le
   have L7:L2[idx]?=some j:=by obtain⟨q,rfl⟩:=y;rw [List.getElem?_append_left N];exact pB
   have HV:(L2.map fun j:Nat=>aN aa (j:Int))[idx]?=some (aN aa (j:Int)):=by rw [List.getElem?_map,L7];rfl
   refine fj ?_;obtain⟨Fg,iG⟩:=Ow.addr (As.gs dG.g0) HV;have adY:=dG.bL;refine WC.dS (m:=8) dG mixed<|cv ?_;refine DP .r (fun _ d=>PV.dR ez iG rfl rfl (by omega))<|DP .r (fun _ d=>VA ak (Ow.kl (As.gs d.2.g0) (by rw [List.length_map];omega) iG HV) .r)<|DP .r (fun _ d=>PV.bF cE cZ jX (As.gm d.2.g3) (S.1 j Ak) rfl rfl)<|(gX) ff St.g4<|(cM)<|?_;rintro lI ⟨aaT,dX⟩ _;refine(aX) (fun lO=>?_) fun lO=>?_
   ·
    simp at lO
    rw [Wf] at lO;have CS:u1 j≠val:=fun e=>lO (by rw [e]);have QV:=AY C Ak CN F4 CS;obtain⟨QW,pn⟩:=Ow.addr (As.gs dX.g0) HV;have adZ:=dX.bL;refine WC.dh (m:=9) (E:=cA [(7,fun v w'=>∃vv st,v=.tuple #[vv,.int .i64 ((st:Nat):Int)]∧KE Key.val w' X iz (aN aa (j:Int)) st)]) dX (ll (⟨⟨trivial,trivial⟩,trivial⟩)) mixed (by kernel_rfl)<|cv ?_;refine DP .r (fun _ d=>PV.dR ez pn rfl rfl (by omega))<|DP .r (fun _ d=>VA ak (Ow.kl (As.gs d.2.g0) (by rw [List.length_map];omega) pn HV) .r)<|(gX) ff St.g4<|?_;refine DW.e rfl rfl rfl rfl rfl (fun wx d hF=>OX.JJ cE cZ jX (As.gm d.2.g3) rfl rfl rfl fun wy st vv sx hsz HW=>?_)<|?_
    ·
     have hg:=S.1 j Ak;rw [hg] at HW;rw [Option.getD_some,tC hg] at HW;exact⟨⟨Nat.le_trans d.1 sx.size,d.2.same (A:=As.map Key.val X iz) (by simp) (sx.p.mono fun x _ hx=>by simpa [As.map] using hx) HW.km⟩,sx.p.mono (fun x _ hx=>AL (A:=As.map Key.val X iz) (by simp) (by simpa [As.map] using hx)),_,rfl,_,_,rfl,HW⟩
    rintro _ wz _ ⟨Wg,ic,rfl,_⟩;refine(cM) ?_;rintro mH ⟨aaU,K⟩ ⟨HM,_⟩;obtain⟨_,_,Fh,x4⟩:=HM;simp only [Value.tuple.injEq,Array.mk.injEq,List.cons.injEq,Value.int.injEq,true_and,and_true] at Fh;have L8:=Int.natCast_inj.1 Fh.2;rw [← L8] at x4;refine WL.go rfl (OX.y2 x4 rfl rfl rfl fun pS Ma _ Mb=>?_);have G:=K.p3.iu Ma Mb;rw [Wf] at G;refine lW ?_;refine fx (idx+1,L2,jQ u1 j val,cF iz (aN aa (j:Int)) (.string (itoa (val:Int))),true,gp,l,f,o) ⟨G.p2.drop.p3.drop.p2.p2,⟨Nat.le_trans N L6,C.set Ak CN L4,oe.set i C Ak CN L4 F4 QU,S.set i (fun k hk=>(C.ring k hk).1) Ak val,CK,pP.trans pR,⟨Nat.le_of_lt (Nat.lt_of_lt_of_le QV LM.1),fun _=>Nat.lt_of_lt_of_le QV LM.1⟩,(fun h=>by cases h),trivial⟩⟩
   simp at lO
   rw [Wf] at lO;have lO:u1 j=val:=xe (by have:=C.le j;omega) (by omega) lO;refine gW ?_
   refine fx (idx+1,L2,u1,iz,j8,gp,l,f,o) ⟨dX.p1.drop.p3.drop,⟨Nat.le_trans N L6,C,oe,S,CK,pP.trans pR,LM,fun h m k hm hk=>by
      obtain⟨e1,e2⟩:=QQ h;subst e1
      by_cases e:m=idx
      ·
       subst e;rw [pB] at hk
       simp at hk;subst hk
       exact HU (lO ▸ rfl)
      exact rL e2 m k (by omega) hk,trivial⟩⟩
  simp at V0
  refine dp ?_;refine EX.again (L1,u1,Ja,iX,dj,l,f,o) Sub.t ⟨im,⟨CH,kx,xY,ss,pP,fun h j hj=>by obtain⟨m,hm,rfl⟩:=List.mem_iff_getElem.1 (show j∈L1 from hj);exact rL h m _ (by omega) (ah hm),trivial⟩⟩ (by simp only [];cases iX <;> simp at CI ⊢ <;> omega)
 have g23:ch=false:=g23;have DM:=BP g23;have Fi:=wB.done i DM;refine fj ?_;have Wh:=((As.gs ku.g0)).len;rw [List.length_map] at Wh;have hL7:=wB.len;refine fb ?_;refine WC.bj (σ:=Nat × (List (Key × Value))) (db:=fun(J,HX)=>[(0,.pointer (some ⟨D.s,0,none⟩)),(4,.map (some X)),(120,.slice l f o),(121,.int .i64 (f:Int)),(122,.int .i64 (J:Int))]) (F:=fun(J,HX)=>[As.map Key.val D.m HX]) (I:=fun(J,HX)=>(J≤L.length)∧(aJ aa x.ab HX)∧(eE ml HX)∧(∀m j,m<J→L[m]?=some j→bq HX (aN aa (j:Int))=some (.string (valOf aa x.ab (aN aa (j:Int)))))∧True) (μ:=fun(J,HX)=>L.length - J) (0,Y) (ku.p1) Sub.t (⟨by omega,CE,Af,fun m j h=>by omega,trivial⟩)<|?_;rintro⟨J,HX⟩ w6 im ⟨hi7,S9,Mc,Wi,_⟩;simp only [CA,NA] at im hi7 S9 Mc Wi ⊢;refine(aX) (fun Al=>?_) fun Al=>?_
 ·
  simp at Al
  have QX:J<L.length:=by omega
  obtain⟨j,xZ⟩:∃j,L[J]=j:=⟨_,rfl⟩
  have pB:L[J]?=some j:=by rw [ah QX,xZ]
  have oI:j∈L:=xZ ▸ List.getElem_mem QX;obtain⟨g,CJ⟩:=wB.ring j oI;have QY:=F2.1 j oI;rw [Fi j oI,← fR i g CJ,← fy i g] at QY;refine dp ?_
  have hx7:(L.map fun j:Nat=>aN aa (j:Int))[J]?=some (aN aa (j:Int)):=by rw [List.getElem?_map,pB];rfl
  obtain⟨ad1,Jc⟩:=Ow.addr (As.gs im.g1) hx7;refine nx ?_;refine WP .r (PV.dR ez Jc rfl rfl (by omega))<|(bP) ak (Ow.kl (As.gs im.g1) (by rw [List.length_map];omega) Jc hx7)<|(gx) im fun b15 w7 Wj Wk jZ=>?_;refine(dZ) gk jZ fun w8 ss7 hs7 fw=>?_;refine bM ?_;have ad4:=fw.bL;refine WC.dS (m:=8) fw mixed<|(gX) eZ St.g6<|(gy) ak St.g0<|(gy) ak St.g0<|?_;refine DP .r (fun _ d=>PV.bF cE cZ jX (As.gm d.2.g3) (QY) rfl rfl)<|(cM)<|?_;rintro w9 ⟨aaW,eC⟩ _;refine WL.go rfl (OX.put cE cZ (As.gm eC.g1) rfl rfl rfl fun lI Wl Wm=>?_);have eQ:=eC.p1.iu Wl Wm;refine fb ?_
  refine fx (J+1,_) ⟨eQ.p1.drop,⟨by omega,S9.put _,Mc.trans (eE.put S9 _),fun m k hm hk=>by
     rw [dz]
     split
     ·
      rename_i e;rw [e]
     rename_i e
     refine Wi m k ?_ hk
     rcases Nat.lt_or_ge m J with h | h
     ·
      exact h
     have:m=J:=by omega
     subst this;rw [pB] at hk;simp at hk;subst hk;exact absurd rfl e,trivial⟩⟩
 simp at Al
 obtain⟨mm,Nv,hmi⟩:=List.mem_iff_getElem.1 wB.first;have HY:=Wi mm i0 (by omega) (by rw [ah Nv,hmi]);refine cw ?_;refine EX.wH (.inr rfl) rfl<|?_;exact⟨HX,rfl,S9,Mc,HY,im.p5.k2⟩
theorem Fj(g:ao aa):∀i,i<aa.length→CD aa x D (aN aa (i:Int)):=by
 intro i
 induction i using Nat.strongRecOn with
 | _ i p=>
  intro hi;have y:=g.len
  have t:∀a,ax a=false→(aw a=true∨∃m,m<i∧m<aa.length∧a=aN aa (m:Int))→CD aa x D a:=fun a _ b w M Z ml h1 d e=>by
   rcases b with b | ⟨m,hm,h,rfl⟩
   ·
    exact jk h1 d e b
   exact p m hm h w M Z ml h1 d e
  have q:∀a,(aw a=true∨∃m,m<i∧m<aa.length∧a=aN aa (m:Int))→CD aa x D a:=fun a b w M Z ml h1 d e=>by
   rcases b with b | ⟨m,hm,h,rfl⟩
   ·
    exact jk h1 d e b
   exact p m hm h w M Z ml h1 d e
  intro w M Z ml h1 d e;refine vk h1 d e g hi (fun hc w M Z ml h1 d e=>?_) fun a b hc=>q a ?_
  ·
   rw [aW hi (by omega)] at hc;refine xW h1 d e g hi hc fun j a s u l=>t a l ?_;have v:=gC hi hc s;have q:=iy g s;have hle:=eL aa i
   rcases u with⟨n,f,rfl⟩ | ⟨m,f,rfl,_,_,_,o⟩
   ·
    exact .inl (aR (by omega))
   rw [aW f (by omega)] at l;exact .inr ⟨m,by have:=o l v.2;omega,f,rfl⟩
  rw [aW hi (by omega)] at hc
  rcases b with⟨n,f,rfl⟩ | ⟨m,f,rfl,_,o,_⟩
  ·
   exact .inl (aR (by omega))
  exact .inr ⟨m,o hc,f,rfl⟩
theorem uo(b:ao aa) {k:Key}(hk:dU aa k):CD aa x D k:=by
 cases hk with
 | cell h=>exact fun w M Z ml h1 d e=>jk h1 d e (aR h)
 | dM h _=>exact Fj b _ h
set_option maxHeartbeats 400000
set_option maxHeartbeats 1600000 in
theorem nK{l:List Key}(gJ:St w M Z w []) (NV:Rd RR.key 2 A w a n c l) (hA:∀x,A x→x<w.heap.size→Z x) (h6:l.length≤1000000):Calls prog 16 #[.slice a n c] w fun e w'=>∃K n' L,e=.returned (.slice K n' L)∧St w M Z w' [As.os RR.key 43 2 K n' L (iY l)]:=by
 have hl:Rd RR.key 2 Z w a n c l:=SR.mono NV hA fun _ _ h=>h
 have hlen:=hl.len;have hle:=hl.le;refine enter func16 rfl ntmps16 rfl<|?_;have aO:=gJ;have st1:=aO.fr hl;have st2:=st1.fV RR.key 43 2;refine aT ?_;refine fb ?_;refine WC.bj (σ:=Nat × (List Key) × (Option Addr) × Nat × Nat) (db:=fun(i,out,C,y,G)=>[(3,.slice C y G),(7,.slice a n c),(8,.int .i64 (n:Int)),(9,.int .i64 (i:Int))]) (F:=fun(i,out,C,y,G)=>[As.os RR.key 43 2 C y G (out)]) (I:=fun(i,out,C,y,G)=>(i≤n)∧(out=iY (l.take i))∧True) (μ:=fun(i,out,C,y,G)=>n - i) (0,[],none,0,0) (st2) Sub.t (⟨by omega,rfl,trivial⟩)<|?_;rintro⟨i,out,C,y,G⟩ w1 U ⟨hi,V,_⟩;simp only [CA,NA] at U hi V ⊢;have vl:=((As.gs U.g0)).len
 have hol:out.length≤1000000:=by have:=lB (l.take i);rw [← V,List.length_take] at this;omega
 refine(aX) (fun g10=>?_) fun g10=>?_
 ·
  simp at g10
  have x5:i<l.length:=by omega
  refine dp ?_;obtain⟨jj,sJ,sK,eB,ma,jB,iH,iI⟩:=Rd.at (As.gr U.g1) x5;have jB:=RR.bt jB;subst jB;have jl:=U.fg iI iH;refine nx ?_;refine WP .r (PV.dR ez eB rfl rfl (by omega))<|(bP) ak (As.nS jl.g0)<|(gx) jl fun b5 w2 QF QG ki=>?_;refine(dZ) gk ki fun w3 nT rH jr=>?_;refine lW ?_;refine WC.bj (σ:=Nat) (db:=fun p=>[(3,.slice C y G),(5,.pointer (some ⟨b5,0,none⟩)),(6,.int .i64 (p:Int)),(7,.slice a n c),(8,.int .i64 (n:Int)),(9,.int .i64 (i:Int))]) (F:=fun p=>[]) (I:=fun p=>(p≤out.length)∧(∀q x,q<p→out[q]?=some x→bl x l[i]<0)∧True) (μ:=fun p=>out.length - p) (0) (jr) Sub.t (⟨by omega,fun q x h=>by omega,trivial⟩)<|?_;rintro p w4 Q ⟨hp,oQ,_⟩;simp only [CA,NA] at Q hp oQ ⊢;have Fa:=((As.gs Q.g2)).len;refine bM ?_;refine WC.eF (t:=25) (v:=.bool (xm out p l[i])) Q ?_<|?_
  ·
   have QZ:=Q.bL;refine WC.dS (m:=10) Q mixed<|(pF) (fun g17=>?_) (fun g17=>?_)
   ·
    simp at g17
    have R:p<out.length:=by omega
    have H:=ah R;obtain⟨rM,iJ⟩:=Ow.addr (As.gs Q.g2) H
    have S:xm out p l[i]=decide (bl out[p] l[i]<0):=by unfold xm;rw [H]
    refine bM ?_;refine DP .r (fun _ d=>PV.dR ez iJ rfl rfl (by omega))<|DP .r (fun _ d=>VA ak (Ow.kl (As.gs d.2.g2) (by omega) iJ H) .r)<|(gy) ak St.g0<|(cM)<|?_;rintro w5 ⟨vt,z⟩ _;refine(eY) (lH (k:=out[p]) (q:=l[i])) z fun w6 s6 g=>?_;exact(cp) (by rw [S]) (g)
   simp at g17
   have S:xm out p l[i]=false:=by unfold xm;rw [List.getElem?_eq_none (by omega)]
   refine(cM) ?_;rintro w5 ⟨vt,z⟩ _;exact(cp) (by rw [S]) (z)
  intro w5 z;refine(aX) (fun u=>?_) fun u=>?_
  ·
   have R:p<out.length:=by
    rcases Nat.lt_or_ge p out.length with h | h
    ·
     exact h
    unfold xm at u;rw [List.getElem?_eq_none h] at u;cases u
   have hcm:bl out[p] l[i]<0:=by unfold xm at u;rw [ah R] at u;simpa using u
   refine lW ?_;refine fx (p+1) ⟨z,⟨by omega,cH (P:=fun _ x=>bl x l[i]<0) R oQ hcm,trivial⟩⟩
  have Nn:∀x,out[p]?=some x→0≤bl x l[i]:=fun x hx=>by unfold xm at u;rw [hx] at u;simp at u;omega
  have Q0:=Gr out l[i] p hp oQ Nn;refine fj ?_;refine WC.eF (t:=39) (v:=.bool (decide (out[p]?≠some l[i]))) z ?_<|?_
  ·
   have QK:=z.bL;refine WC.dS (m:=10) z mixed<|(pF) (fun Md=>?_) (fun Md=>?_)
   ·
    simp at Md
    have S:out[p]?=none:=List.getElem?_eq_none (by omega);refine(cM) ?_;rintro w6 ⟨Ae,g⟩ _;exact(cp) (by first | (rw [S];rfl) | (rw [H];simp)) (g)
   simp at Md
   have R:p<out.length:=by omega
   have H:=ah R;obtain⟨Fg,iG⟩:=Ow.addr (As.gs z.g2) H;refine bM ?_;refine DP .r (fun _ d=>PV.dR ez iG rfl rfl (by omega))<|DP .r (fun _ d=>VA ak (Ow.kl (As.gs d.2.g2) (by omega) iG H) .r)<|(gy) ak St.g0<|(cM)<|?_;rintro w6 ⟨Ae,g⟩ _;refine WP .r (PV.It fP (p:=out[p]) (q:=l[i]) rfl rfl)<|?_;exact(cp) (by first | (rw [S];rfl) | (rw [H];simp)) (g)
  intro w6 g;refine(aX) (fun O=>?_) fun O=>?_
  ·
   have O:¬out[p]?=some l[i]:=by simpa using O
   obtain⟨N,W⟩:∃N,N=w6.heap.size:=⟨_,rfl⟩;have T:=g.jC;have Wn:=g.size;have Wo:=g.bL;have ad7:=((As.gs g.g2)).len;rw [← W] at T Wn Wo;have hN9:=g.bL;refine WC.Dp (m:=10) (fun j w w'=>match j with | 6=>y8 N 43 (p*2) 2 w w' | _=>aQ [] w w') (E:=cA [(3,fun v w'=>∃a c,v=.slice a p c∧(∀x∈bA a,N≤x)∧(p=0→a=none)∧Ow RR.key 43 2 Z w' a p c (out.take p)),(5,fun v w'=>∃b,v=.slice (some ⟨b,0,none⟩) 1 1∧N≤b∧bJ w' b 43 l[i].cells),(6,fun v w'=>∃a c,v=.slice a (p+1) c∧(∀x∈bA a,N≤x)∧Ow RR.key 43 2 Z w' a (p+1) c (out.take p++[l[i]]))]) g (ll (⟨⟨trivial,⟨fun _ _ _ _ _ s ⟨a,c,h1,f,o,J⟩=>⟨a,c,h1,f,o,J.ext s⟩,⟨fun _ _ _ _ _ s ⟨a,c,h1,f,o,J⟩=>⟨a,c,h1,f,o,y8.ow s T J⟩,trivial⟩⟩⟩,⟨⟨fun _ _ _ _ _ s ⟨b,h1,f,o⟩=>⟨b,h1,f,o.ext s⟩,⟨trivial,⟨fun _ _ _ _ _ s ⟨b,h1,f,o⟩=>⟨b,h1,f,y8.blk (l:=l[i].cells) s o⟩,trivial⟩⟩⟩,⟨⟨trivial,⟨trivial,⟨trivial,trivial⟩⟩⟩,trivial⟩⟩⟩)) mixed (by kernel_rfl)<|bM ?_;refine DP .r (fun _ d=>PV.nX ez (Ow.rd (As.gs d.2.g2) (by omega)) rfl rfl (by omega))<|?_;refine DW.e rfl rfl rfl rfl rfl (fun wx d hF=>OX.N7 (N:=N) (Z:=Z) nG rfl rfl rfl (OR.nil 0 wx 43 2 _) (by simp [bA]) (SR.take (i:=p) (Ow.rd (As.gs d.2.g2) (by omega)) (by omega)) (by omega) (by omega) (by rw [W];exact d.1) T 0 (fun c h=>absurd rfl h) fun K L wy h1 f o J X=>⟨⟨Nat.le_trans d.1 X.size,d.2.step X⟩,X,_,rfl,K,L,by rw [Nat.zero_add],o,J,by simpa using h1⟩)<|?_;rintro _ wz _ ⟨a3,c3,rfl,_,_,_⟩;refine(gy) ak St.g0<|?_;refine DW.e rfl rfl rfl rfl rfl (fun wx d hF=>OX.aS (us:=l[i].cells) du rfl rfl rfl rfl fun b wy Y hb=>⟨⟨Nat.le_trans d.1 Y.ext.size,d.2.step Y.ext⟩,Y.ext,_,rfl,b,rfl,by rw [W];exact Nat.le_trans d.1 Y.ge,hb⟩)<|?_;rintro _ wz _ ⟨Wp,rfl,_,_⟩
   refine DW.e rfl rfl rfl rfl rfl (fun wx d hF=>by
    obtain⟨⟨b',Ly,CC,CY⟩,⟨K,L,h1,f,o,J⟩,_⟩:=hF;simp only [Value.slice.injEq,Option.some.injEq,Addr.mk.injEq,and_true,true_and] at Ly h1;subst Ly;obtain⟨rfl,rfl⟩:=h1;exact OX.N7 (N:=N) (Z:=Z) nG rfl rfl rfl J f (SR.dr (A:=fun _=>True) (x:=l[i]) CY trivial rfl (by simp [Key.cells,Value.oneCell']) rfl) (by omega) (by omega) (by rw [W];exact d.1) T 2 (fun c h hc=>by have:p≠0:=fun e=>h (o e);omega) fun K L wy h1 f o J X=>⟨⟨Nat.le_trans d.1 f.size,f.st d.2 Wo T Wn⟩,f,_,rfl,K,L,rfl,o,h1⟩) ?_
   rintro _ wz _ ⟨a6,c6,rfl,_,_⟩;refine bM ?_;refine DP .r (fun _ d=>PV.Dj ez (Ow.rd (As.gs d.2.g2) (by omega)) rfl rfl (by omega))<|(cM)<|?_;rintro w7 ⟨HZ,fw⟩ ⟨Q1,⟨_,⟨_,_⟩⟩⟩;obtain⟨_,_,he6,Wq,ho6⟩:=Q1;simp only [Value.slice.injEq,true_and] at he6;obtain⟨rfl,rfl⟩:=he6;have eC:=fw.add (B:=As.os RR.key 43 2 a6 (p+1) c6 (out.take p++[l[i]])) ho6 Wq Wo T Wn;refine WL.ap rfl rfl eC (SR.drop (i:=p) (Ow.rd (As.gs eC.g3) (by omega)) (by omega)) fun a50 Wr w8 ad9 aea eQ=>?_;refine bM ?_;have dG:=eQ.p3.drop;refine fj ?_;refine fx (i+1,_,a50,((p+1)+(y - p)),Wr) ⟨dG.p1.drop.p1.drop,⟨by omega,by rw [List.take_succ_eq_append_getElem x5,qH,← V,Q0,if_neg O],trivial⟩⟩
  have O:out[p]?=some l[i]:=by simpa using O
  refine fb ?_;refine fx (i+1,_,C,y,G) ⟨g.drop.drop,⟨by omega,by rw [List.take_succ_eq_append_getElem x5,qH,← V,Q0,if_pos O],trivial⟩⟩
 simp at g10
 have lL:out=iY l:=by rw [V,List.take_of_length_le (by omega)]
 subst lL;refine(bB) ?_;exact⟨_,_,_,rfl,U.p1.drop⟩
set_option maxHeartbeats 400000
set_option maxHeartbeats 400000
theorem x7{s:ByteArray}(b:s.size≤1000) (w:World):Calls prog 193 #[.string s] w fun e w'=>∃(v:Int) (ok:Bool) (ev:Value),e=.returned (.tuple #[.int .i64 v,ev])∧(-9223372036854775808≤v∧v≤9223372036854775807)∧((ok=true∧ev=.nilIface)∨(ok=false∧∃t y,ev=.iface t y))∧(ok=false→ev=.iface 277 (.int .i64 2)∨ev=.iface 277 (.int .i64 1))∧aQ [] w w':=by
 refine(Any.internal_strconv_Atoi_all {laysC172 with} s (by omega) w).mono fun e w' ⟨he,hw⟩=>?_
 have hc:aQ [] w w':=by
  rcases hw with rfl | ⟨t,rfl⟩
  ·
   exact aQ.refl _ _
  exact ue _ _ _
 cases h:Lib.atoiAll s.data.toList
 ·
  rename_i v
  rw [h] at he;exact⟨v,true,.nilIface,he,Lib.atoiAll_bounds h,.inl ⟨rfl,rfl⟩,(fun e=>by cases e),hc⟩
 ·
  rw [h] at he;exact⟨0,false,_,he,by decide,.inr ⟨rfl,_,_,rfl⟩,fun _=>.inl rfl,hc⟩
 rw [h] at he;exact⟨Lib.atoiSat s.data.toList,false,_,he,Lib.atoiSat_bounds _,.inr ⟨rfl,_,_,rfl⟩,fun _=>.inr rfl,hc⟩
set_option maxHeartbeats 400000
theorem rQ{n:Int} :CR prog 151 #[.int .i64 n] w (.bool (decide (30≤n) && decide (n≤32))):=by
 refine enter func151 rfl ntmps151 rfl<|?_;have aO:=St.s0 w;refine fj ?_;refine WC.jJ (t:=2) (v:=.bool (decide (30≤n) && decide (n≤32))) aO ?_<|?_
 ·
  refine(cO) (fun g5=>?_) (fun g5=>?_)
  ·
   exact(fF) (by simp only [g5];first | rfl | simp) (aO)
  exact(fF) (by simp only [g5];first | rfl | simp) (aO)
 intro w1 st1;refine(bB) ?_;exact⟨rfl,(St.cg st1)⟩
theorem x8{n:Int} :CR prog 152 #[.int .i64 n] w (.bool (decide (1≤n) && decide (n≤22))):=by
 refine enter func152 rfl ntmps152 rfl<|?_;have aO:=St.s0 w;refine fj ?_;refine WC.jJ (t:=2) (v:=.bool (decide (1≤n) && decide (n≤22))) aO ?_<|?_
 ·
  refine(cO) (fun g5=>?_) (fun g5=>?_)
  ·
   exact(fF) (by simp only [g5];first | rfl | simp) (aO)
  exact(fF) (by simp only [g5];first | rfl | simp) (aO)
 intro w1 st1;refine(bB) ?_;exact⟨rfl,(St.cg st1)⟩
theorem bX :CR prog 58 #[k.val] w (.bool (aw k)):=by
 refine enter func58 rfl ntmps58 rfl<|?_;have aO:=St.s0 w;refine(dx) aO fun b1 w1 b d st1=>?_;refine cw ?_;refine WC.jJ (t:=2) (v:=.bool (aw k)) st1 ?_<|?_
 ·
  refine(bp) aP st1.b0<|(cO) (fun g6=>?_) (fun g6=>?_)
  ·
   exact(fF) (by unfold aw;simp only [g6];first | rfl | simp) (st1)
  refine(bp) aP st1.b0<|(cO) (fun g11=>?_) (fun g11=>?_)
  ·
   exact(fF) (by unfold aw;simp only [g6,g11];first | rfl | simp) (st1)
  refine(bp) aP st1.b0<|?_;exact(fF) (by unfold aw;simp only [g6,g11];first | rfl | simp) (st1)
 intro w2 st2;refine(bB) ?_;exact⟨rfl,(St.cg st2)⟩
theorem kY :CR prog 114 #[k.val] w (.bool (decide (k.kind=31) || decide (k.kind=32))):=by
 refine enter func114 rfl ntmps114 rfl<|?_;have aO:=St.s0 w;refine(dx) aO fun b1 w1 b d st1=>?_;refine cw ?_;refine WC.jJ (t:=2) (v:=.bool (decide (k.kind=31) || decide (k.kind=32))) st1 ?_<|?_
 ·
  refine(bp) aP st1.b0<|(cO) (fun g6=>?_) (fun g6=>?_)
  ·
   exact(fF) (by simp only [g6];first | rfl | simp) (st1)
  refine(bp) aP st1.b0<|?_;exact(fF) (by simp only [g6];first | rfl | simp) (st1)
 intro w2 st2;refine(bB) ?_;exact⟨rfl,(St.cg st2)⟩
theorem dY(hk:cx k):CR prog 120 #[k.val] w (.bool (decide (k.kind=32))):=by
 refine enter func120 rfl ntmps120 rfl<|?_;have aO:=St.s0 w;refine(dx) aO fun b1 w1 b d st1=>?_;refine cw ?_;refine WC.jJ (t:=2) (v:=.bool (decide (k.kind=32))) st1 ?_<|?_
 ·
  refine(bp) aP st1.b0<|(cO) (fun g6=>?_) (fun g6=>?_)
  ·
   exact(fF) (by simp only [g6];first | done | rfl | simp) (st1)
  refine(bp) aP st1.b0<|(cJ) Qd (x8 (n:=k.kind)) ?_;rintro _ w2 ⟨rfl,s2⟩;rw [show(decide (1≤k.kind) && decide (k.kind≤22))=false by(rcases hk with h | h <;> simp <;> omega)];have st2:=st1.step s2;exact(fF) (by simp only [g6];first | done | rfl | simp) (st2)
 intro w2 st2;refine(bB) ?_;exact⟨rfl,(St.cg st2)⟩
theorem jm(hk:30≤k.kind∧k.kind≤32) (ht:k.text=itoa n) (hn:n≤99):CR prog 116 #[k.val] w (.int .i64 (n:Int)):=by
 obtain⟨kd,l⟩:=k;simp only at hk ht;subst ht;refine enter func116 rfl ntmps116 rfl<|?_;have aO:=St.s0 w;refine(dx) aO fun b1 w1 o p st1=>?_;refine(bp) aP st1.b0<|(cJ) I3 (rQ (n:=kd)) ?_;rintro _ w2 ⟨rfl,s2⟩;rw [show(decide (30≤kd) && decide (kd≤32))=true by(simp;omega)];have st2:=st1.step s2;refine cv ?_;refine WC.ef rfl<|(bp) ff st2.b0<|(eY) (zY hn w2) st2 fun w3 q d=>?_;refine lW ?_;refine WC.eF (t:=31) (v:=.bool false) d ?_<|?_
 ·
  have s:=d.bL;refine WC.dh (m:=15) (E:=cA [(12,fun v _=>v=.string (itoa n))]) d (bz (⟨fun _ _ _ _ _ _ _ h=>h,trivial⟩)) mixed (by kernel_rfl)<|nx ?_;refine DP .r (fun _ i=>PV.JX u9 rfl)<|nx ?_;refine DW.ct (t:=17) rfl (fun g17=>?_) (fun g17=>?_)
  ·
   refine(cM) ?_;rintro w4 ⟨e,b⟩ _;exact(cp) (tG g17) (b)
  refine cw ?_;refine DW.ct (t:=21) rfl (fun g21=>?_) (fun g21=>?_)
  ·
   refine(cM) ?_;rintro w4 ⟨e,b⟩ _;exact(cp) (tG (aj g17 g21)) (b)
  refine cw ?_;refine DW.ct (t:=25) rfl (fun f=>?_) (fun f=>?_)
  ·
   refine(cM) ?_;rintro w4 ⟨e,b⟩ _;exact(cp) (tG (aj g17<|aj g21 f)) (b)
  refine nx ?_;refine DW.c0 (fun j i u=>gG (n:=(n:Int)) (by omega) (by omega) j)<|(gX) ff St.g0<|(cM)<|?_;rintro w4 ⟨e,b⟩ ⟨_,_⟩;exact(cp) (tG (aj g17<|aj g21 f)) (b)
 intro w4 b;refine(aX) (fun g=>?_) fun g=>?_
 ·
  exact absurd g (by simp)
 ·
  refine(bB) ?_;exact⟨rfl,(St.cg b)⟩
 -- y z B.T
theorem fJ(hk:30≤k.kind∧k.kind≤32) (ht:k.text=itoa n) (hn:n≤99):CR prog 113 #[k.val] w (.bool true):=by
 refine enter func113 rfl ntmps113 rfl<|?_;have aO:=St.s0 w;refine(dx) aO fun b1 w1 d e st1=>?_;refine(bp) aP st1.b0<|(cJ) I3 (rQ (n:=k.kind)) ?_;rintro _ w2 ⟨rfl,s2⟩;rw [show(decide (30≤k.kind) && decide (k.kind≤32))=true by(simp;omega)];have st2:=st1.step s2;refine bM ?_;refine WC.lP rfl<|(bP) ak st2.b0<|(eY) (jm (k:=k) hk ht hn) st2 fun w3 f b=>?_;refine(bB) ?_;exact⟨by simp,(St.cg b)⟩
theorem lJ{n:Int}(hr:ei A w a r c aa):CR prog 115 #[.slice a r c,.int .i64 n] w ((aN aa n).val):=by
 have hle:=hr.le;have hlen:=hr.len;refine enter func115 rfl ntmps115 rfl<|?_;have aO:=St.s0 w;refine(gx) aO fun b4 w1 m o st1=>?_;refine cw ?_;refine WC.eF (t:=17) (v:=.bool (decide (n<0) || (decide ((r:Int)≤n) || decide (99<n)))) st1 ?_<|?_
 ·
  refine(cO) (fun g8=>?_) (fun g8=>?_)
  ·
   exact(cp) (by simp only [g8];first | rfl | simp) (st1)
  refine(cO) (fun g14=>?_) (fun g14=>?_)
  ·
   exact(cp) (by simp only [g8,g14];first | rfl | simp) (st1)
  exact(cp) (by simp only [g8,g14];first | rfl | simp) (st1)
 intro w2 st2;refine(aX) (fun g17=>?_) fun g17=>?_
 ·
  have hk:aN aa n=dA:=by unfold aN;rw [if_pos (by simp at g17;omega)]
  refine(dZ) gk st2 fun w3 p q b=>?_;refine(kp) ak b.b0<|?_;rw [hk];exact⟨rfl,(St.cg b)⟩
 simp at g17
 obtain⟨i,rfl⟩:∃i:Nat,n=i:=⟨n.toNat,by omega⟩
 have hi:i<aa.length:=by omega
 have hk:aN aa i=⟨if aA aa i then 32 else 31,itoa i⟩:=by unfold aN;rw [if_neg (by omega)];rfl
 have f:=bs hi;refine lW ?_;obtain⟨s,u,y,g,_,⟨q1,z,B,rfl,_⟩,h,_⟩:=(hr.ext (St.cg st2)).at (ah hi);refine cv ?_;refine WP .r (PV.dR gR g rfl rfl (by omega))<|nx ?_;refine WP .r (PV.ld1 (j:=0) dd h rfl rfl)<|(aX) (fun g23=>?_) fun g23=>?_
 ·
  have e:aN aa i=⟨32,itoa i⟩:=by rw [hk,f,g23];rfl
  refine(eY) (gG (n:=(i:Int)) (by omega) (by omega) w2) st2 fun w3 l b=>?_;refine WP .r (PV.br (us:=_) xJ rfl rfl rfl)<|(dZ) gk b fun w4 C E d=>?_;refine(kp) ak d.b0<|?_;rw [e];exact⟨rfl,(St.cg d)⟩
 have e:aN aa i=⟨31,itoa i⟩:=by rw [hk,f,g23];rfl
 refine(eY) (gG (n:=(i:Int)) (by omega) (by omega) w2) st2 fun w3 l b=>?_;refine WP .r (PV.br (us:=_) xJ rfl rfl rfl)<|(dZ) gk b fun w4 F G d=>?_;refine(kp) ak d.b0<|?_;rw [e];exact⟨rfl,(St.cg d)⟩
end Go.Rc

