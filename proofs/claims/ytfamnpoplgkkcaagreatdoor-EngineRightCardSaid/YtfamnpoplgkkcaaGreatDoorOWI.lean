/- Walks over the program, part WI. Conditions: as each theorem says. -/
import Derived.Test.YtfamnpoplgkkcaaGreatDoorOFacts
import Derived.Test.YtfamnpoplgkkcaaGreatDoorOWH
import Derived.Test.YtfamnpoplgkkcaaGreatDoorOBe
set_option linter.all false
namespace Go.Rc
open Go Go.Proofs Go.Proofs.Tryz
variable {x:cy}{w:World}{M Z:Nat→Prop}{aa:List aG}{D:SD}{ml:List (Key × Value)}
set_option maxHeartbeats 400000
theorem pw{ar a1 a2:Option Addr}{r cr n1 c1 n2 c2:Nat}(a:St w M Z w []):Calls prog 46 #[.slice ar r cr,.agg (x.row a1 n1 c1 a2 n2 c2).toArray] w fun e w'=>∃s m q,e=.returned (.pointer (some ⟨s,0,none⟩))∧St w M Z w' [As.blk s 137 (SD.cells ⟨ar,a1,a2,r,cr,n1,c1,n2,c2,m,q,s⟩ x),As.map Key.val m [],As.map Key.val q []]:=by
 refine enter func46 rfl ntmps46 rfl<|?_;have aO:=a;refine(dq) aO fun b3 w1 g h st1=>?_;refine(aY) aL st1.b0<|?_;refine WL.mm Key.val st1 fun b w2 i j st2=>?_;refine WL.mm Key.val st2 fun c w3 k l d=>?_;refine WP .r (PV.bz (us:=(SD.cells ⟨ar,a1,a2,r,cr,n1,c1,n2,c2,b,c,0⟩ x)) We rfl rfl rfl)<|(dq) d fun n w4 o p f=>?_;refine(bs) ?_;exact⟨_,_,_,rfl,f.p3.drop.p2.p1⟩
def HP(aa:List aG) (x:cy) (D:SD) (k:Key):Prop:=∀(w:World) (M Z:Nat→Prop) (ml:List (Key × Value)),St w M Z w [As.blk D.s 137 (D.cells x),As.map Key.val D.m ml]→(D.F prog aa x).p Z w→aU aa x.ab ml→
 Calls prog 47 #[.pointer (some ⟨D.s,0,none⟩),k.val] w fun e w'=>∃mL,e=.returned (.string (valOf aa x.ab k))∧aU aa x.ab mL∧fW ml mL∧St w M Z w' [As.blk D.s 137 (D.cells x),As.map Key.val D.m mL]
def aej(aa:List aG) (x:cy) (D:SD) (k:Key):Prop:=∀(w:World) (M Z:Nat→Prop) (ml:List (Key × Value)),St w M Z w [As.blk D.s 137 (D.cells x),As.map Key.val D.m ml]→(D.F prog aa x).p Z w→aU aa x.ab ml→
 Calls prog 89 #[.pointer (some ⟨D.s,0,none⟩),k.val] w fun e w'=>∃mL,e=.returned (.tuple #[])∧aU aa x.ab mL∧fW ml mL∧bC mL k=some (.string (valOf aa x.ab k))∧St w M Z w' [As.blk D.s 137 (D.cells x),As.map Key.val D.m mL]
theorem lh{k:Key}(d:St w M Z w [As.blk D.s 137 (D.cells x),As.map Key.val D.m ml]) (f:(D.F prog aa x).p Z w) (hm:aU aa x.ab ml) (hk:ay k=true):Calls prog 47 #[.pointer (some ⟨D.s,0,none⟩),k.val] w fun e w'=>∃a,e=.returned (.string (valOf aa x.ab k))∧aU aa x.ab a∧fW ml a∧St w M Z w' [As.blk D.s 137 (D.cells x),As.map Key.val D.m a]:=by
 refine enter func47 rfl ntmps47 rfl<|?_;have aO:=d;have st1:=aO.fact (B:=As.fz (D.F prog aa x)) f (fun _ g=>g);refine(dq) st1 fun b3 w1 i j st2=>?_;refine(aY) ao st2.b0<|(eS) (ep (k:=k)) st2 fun w2 s2 c=>?_;refine(aR) (fun g10=>?_) fun g10=>?_
 ·
  refine nx ?_;have l:=c.bL;refine WC.dS (m:=5) c mixed<|(tr) aL St.g2<|(gI) ao St.g0<|(cP)<|?_;rintro w3 ⟨n,b⟩ _;refine(eS) (rV (k:=k) (SD.hi (As.gf b.g1)) (SD.hr (As.gf b.g1))) b fun w4 o h=>?_;refine(bs) ?_;exact⟨ml,by unfold valOf cellOf;rw [if_pos hk],hm,fW.refl _,h.drop.drop⟩
 rw [hk] at g10;cases g10
theorem zA{i:Nat}(gk:St w M Z w [As.blk D.s 137 (D.cells x),As.map Key.val D.m ml]) (hf:(D.F prog aa x).p Z w) (hm:aU aa x.ab ml) (g:aq aa) (hi:i<aa.length) (W:ax (aM aa (i:Int))=true→aej aa x D (aM aa (i:Int))) (X:∀a,eW aa i a→ax (aM aa (i:Int))=false→HP aa x D a):Calls prog 47 #[.pointer (some ⟨D.s,0,none⟩),(aM aa (i:Int)).val] w fun e w'=>∃O,e=.returned (.string (valOf aa x.ab (aM aa (i:Int))))∧aU aa x.ab O∧fW ml O∧St w M Z w' [As.blk D.s 137 (D.cells x),As.map Key.val D.m O]:=by
 have Ik:=g.len
 have jl:i≤99:=by omega
 obtain⟨k,hk⟩:∃k,aM aa (i:Int)=k:=⟨_,rfl⟩;have eJ:=dr hi jl;have ha6:=mY g hi;rw [hk] at eJ W X ⊢;refine enter func47 rfl ntmps47 rfl<|?_;have aO:=gk;have st1:=aO.fact (B:=As.fz (D.F prog aa x)) hf (fun _ hx=>hx);refine(dq) st1 fun b3 w1 HO wE st2=>?_;refine(aY) ao st2.b0<|(eS) (ep (k:=k)) st2 fun w2 s2 Y=>?_;refine(aR) (fun g10=>?_) fun g10=>?_
 ·
  rw [eJ] at g10;cases g10
 refine cj ?_;have Dz:=Y.bL;refine WC.dS (m:=10) Y mixed<|(il) gD St.g2<|(gI) ao St.g0<|?_;refine DP .r (fun _ d=>PV.re cZ dT l6 (As.gm d.2.g3) rfl rfl)<|(cP) ?_;rintro w3 ⟨px,P⟩ _;refine(aR) (fun g26=>?_) fun g26=>?_
 ·
  obtain⟨vv,NI⟩:=Option.isSome_iff_exists.1 g26;have Sp:=hm k vv NI;refine(bs) ?_;exact⟨ml,by rw [NI,Sp];rfl,hm,fW.refl _,P.drop.drop⟩
 refine(aY) ao P.b0<|(eS) (df (k:=k)) P fun w4 s4 Q=>?_;refine(aR) (fun R=>?_) fun R=>?_
 ·
  refine(aY) ao Q.b0<|?_;have y:=Q.p3.p3;refine(bX) adN (W R _ _ _ _ y.e2 (As.gf y.g3) hm) ?_;rintro _ w5 ⟨eO,rfl,S,T,Vx,qB⟩;have f:=St.lr y qB;refine bY ?_;have Pr:=f.bL;refine WC.dS (m:=5) f mixed<|(il) gD St.g0<|(gI) ao St.g2<|(cP)<|?_;rintro w6 ⟨l8,H⟩ _;refine WP .r (PV.look cZ dT l6 (As.gm H.g1) rfl rfl)<|(bs) ?_;exact⟨eO,by rw [Vx];rfl,S,T,H.p2.drop.p2.drop⟩
 have y:=Q.dp RR.str 9 1;refine gL ?_;refine WC.bd (σ:=Nat × (List (Key × Value)) × (List ByteArray) × (Option Addr) × Nat × Nat) (dj:=fun(n,j,acc,o,l,q)=>[(0,.pointer (some ⟨D.s,0,none⟩)),(3,.pointer (some ⟨b3,0,none⟩)),(7,.slice o l q)]) (F:=fun(n,j,acc,o,l,q)=>[As.os RR.str 9 1 o l q (acc),As.map Key.val D.m j]) (I:=fun(n,j,acc,o,l,q)=>(n≤cN aa i)∧(aU aa x.ab j)∧(fW ml j)∧(acc=(dW (cq aa k) (valOf aa x.ab) n).2)∧True) (μ:=fun(n,j,acc,o,l,q)=>cN aa i - n) (0,ml,[],none,0,0) (y.p4.p1) Sub.t (⟨by omega,hm,fW.refl _,rfl,trivial⟩)<|?_;rintro⟨n,j,acc,o,l,q⟩ w5 f ⟨hn,J,U,K,_⟩;simp only [CA,NA] at f hn J U K ⊢;have qU:=((As.gs f.g0)).len
 have yc:acc.length=n:=by rw [K];exact(gx _ _ n).2
 obtain⟨t,NJ⟩:∃t,aH aa k acc=t:=⟨_,rfl⟩
 have z:cq aa k acc=t:=by rw [← NJ,← hk,eY hi jl]
 refine bK ?_;have wG:=f.bL;have Cm:=f.jG;have Cn:=f.size;refine WC.dB (m:=8) (E:=cA [(6,fun v _=>v=t.val),(7,PB w5.heap.size 140 [.bool false,.string ⟨#[]⟩,.int .i64 0,.string ⟨#[]⟩])]) f (bj (⟨fun _ _ _ _ _ _ _ h=>h,⟨fun _ _ _ _ _ _ c h=>PB.st wG c h,trivial⟩⟩)) mixed (by kernel_rfl)<|(il) jy St.g4<|(gI) ao St.g2<|nx ?_;refine DW.c1 (fun wx d hF=>fB (k:=k) (SD.ht (As.gf d.2.g3)) (SD.hu (As.gf d.2.g3)) (Ow.rd (As.gs d.2.g0) (by omega)) g.hb (hk ▸ fZ hi jl)) (by rw [NJ])<|?_;refine DW.e rfl rfl rfl rfl rfl (fun wx d hF=>OX.alloc oD rfl fun b wy L hb=>⟨⟨Nat.le_trans d.1 L.ext.size,d.2.step L.ext⟩,L.ext.p0,_,rfl,_,rfl,Nat.le_trans d.1 L.ge,hb⟩)<|?_;rintro _ wz _ ⟨b8,rfl,_,_⟩;refine(cP) ?_;rintro w6 ⟨yd,H⟩ ⟨Sq,⟨_,_⟩⟩;have iE:=H.tp Sq wG Cm Cn;refine(cF) gy iE fun w7 jO jZ C=>?_;refine(aZ) dG C.b0<|(aR) (fun G=>?_) fun G=>?_
 ·
  have L4:n=cN aa i:=by
   rcases Nat.lt_or_ge n (cN aa i) with h | h
   ·
    obtain⟨a,h1,_⟩:=eh g hi (ae:=acc) (by omega);rw [hk,z] at h1;rw [h1] at G;cases G
   omega
  have V:t.value=valOf aa x.ab k:=by
   have h1:=fF (aD:=x.ab) g hi;rw [hk,← L4,← K,z] at h1;rw [h1]
  refine nx ?_;have X9:=C.bL;refine WC.dS (m:=7) C mixed<|(il) gD St.g5<|(gI) ao St.g3<|(il) fh St.g0<|(cP)<|?_;rintro w8 ⟨GJ,u⟩ _;refine WL.go rfl (OX.put cZ dT (As.gm u.g2) rfl rfl rfl fun w9 zB vx=>?_);have N:=u.p2.jS zB vx;refine(aZ) fh N.b1<|(bs) ?_;exact⟨_,by rw [V],by rw [V];exact J.put k,by rw [V];exact U.trans (fW.put J k),N.p5.k2⟩
 have L4:n<cN aa i:=by
  rcases Nat.lt_or_ge n (cN aa i) with h | h
  ·
   exact h
  have h1:=gN g hi (ae:=acc) (by omega);rw [hk,z] at h1;rw [h1] at G;cases G
 obtain⟨a,E1,Dy,_⟩:=eh g hi (ae:=acc) (by omega);rw [hk,z] at E1
 have Ip:t.ask=a:=by rw [E1]
 refine(gX) ao C.b0<|?_;have u:=C.p2.p5;refine(bX) Kh (X t.ask (by rw [Ip];exact Dy) R _ _ _ _ u.e2 (As.gf u.g5) J) ?_;rintro _ w8 ⟨eO,rfl,S,T,kA⟩;have N:=St.lr u kA;refine WL.go rfl (OX.aP (us:=[.string (valOf aa x.ab t.ask)]) jm rfl rfl rfl rfl fun b62 w9 aek NK=>?_);have di:=N.de aek NK;refine WL.ap rfl rfl di.p4 (SR.dd (A:=fun _=>True) (x:=valOf aa x.ab t.ask) (As.gb di.g0) trivial rfl (by simp [Value.oneCell']) rfl) fun a63 ael iN amP amQ da=>?_;refine bY ?_;refine ef (n+1,eO,acc++[valOf aa x.ab t.ask],a63,(l+1),ael) ⟨da.p1.drop.p3.drop.p4.p4.p4.p3,⟨by omega,S,U.trans T,by simp only [dW];rw [← K,z],trivial⟩⟩
set_option maxHeartbeats 1600000 in
theorem Co{i0:Nat}(gk:St w M Z w [As.blk D.s 137 (D.cells x),As.map Key.val D.m ml]) (hf:(D.F prog aa x).p Z w) (hm:aU aa x.ab ml) (i:aq aa) (hi:i0<aa.length) (Ls:aF aa i0=true) (hv:∀j a,cV aa i0 j→eW aa j a→ax a=false→HP aa x D a):Calls prog 89 #[.pointer (some ⟨D.s,0,none⟩),(aM aa (i0:Int)).val] w fun e w'=>∃mL,e=.returned (.tuple #[])∧aU aa x.ab mL∧fW ml mL∧bC mL (aM aa (i0:Int))=some (.string (valOf aa x.ab (aM aa (i0:Int))))∧St w M Z w' [As.blk D.s 137 (D.cells x),As.map Key.val D.m mL]:=by
 have Ik:=i.len
 have jl:i0≤99:=by omega
 have Sr:=sC hi jl Ls;refine enter func89 rfl ntmps89 rfl<|?_;have aO:=gk;have st1:=aO.fact (B:=As.fz (D.F prog aa x)) hf (fun _ hx=>hx);refine(dq) st1 fun b3 w1 HO wE st2=>?_;refine bY ?_;have hN1:=st2.bL;have aem:=st2.jG;have aen:=st2.size;refine WC.dB (m:=4) (E:=cA [(0,PM Key.val w1.heap.size),(3,fun v _=>v=.string ⟨#[48]⟩)]) st2 (bj (⟨fun _ _ _ _ _ _ c h=>PM.st hN1 c h,⟨fun _ _ _ _ _ _ _ h=>h,trivial⟩⟩)) mixed (by kernel_rfl)<|?_;refine DW.e rfl rfl rfl rfl rfl (fun wx d hF=>OX.makeMap Key.val rfl fun b wy nw hb=>⟨⟨Nat.le_trans d.1 nw.ext.size,d.2.step nw.ext⟩,nw.ext.p0,_,rfl,_,rfl,Nat.le_trans d.1 nw.ge,hb⟩)<|?_;rintro _ wz _ ⟨X,rfl,_,_⟩;refine(gI) ao St.g0<|(gI) ao St.g0<|?_;refine DW.c1 (fun wx d hF=>qy (k:=(aM aa (i0:Int)))) (by rw [Sr])<|(cP) ?_;rintro w2 ⟨rX,iT⟩ ⟨_,⟨hF0,_⟩⟩;have ik:=iT.ab4 hF0 hN1 aem aen;refine WL.go rfl (OX.ins cZ dT (As.gm ik.g0) rfl rfl rfl fun w3 Kv Fe=>?_);have iY:=ik.jS Kv Fe;refine(aY) ao iY.b1<|?_;refine WL.go rfl (OX.aP (us:=(aM aa (i0:Int)).cells) dz rfl rfl rfl rfl fun Ya w4 Ff HQ=>?_);have iC:=St.pU (R:=RR.key) (E:=41) (k:=2) (a:=some ⟨Ya,0,none⟩) (n:=1) (c:=1) (xs:=[(aM aa (i0:Int))]) iY Ff.ext (OR.dd HQ (Nat.zero_le _) rfl (by simp [Key.cells,Value.oneCell']) rfl) (fun x hx=>by simp [aI] at hx;subst hx;exact Ff.ge);refine ju ?_;refine WC.bd (σ:=(List Nat) × (Nat→Nat) × (List (Key × Value)) × Bool × (List (Key × Value)) × (Option Addr) × Nat × Nat) (dj:=fun(L,u,am,ch,Y,l,f,o)=>[(0,.pointer (some ⟨D.s,0,none⟩)),(4,.map (some X)),(5,.slice l f o),(6,.bool ch)]) (F:=fun(L,u,am,ch,Y,l,f,o)=>[As.os RR.key 41 2 l f o (L.map fun j:Nat=>aM aa (j:Int)),As.map Key.val D.m Y,As.map Key.val X am]) (I:=fun(L,u,am,ch,Y,l,f,o)=>(dw aa x.ab i0 L u)∧(kS aa x.ab L u Y)∧(mC aa L u am)∧(aU aa x.ab Y)∧(fW ml Y)∧(ch=false→∀j∈L,nX aa x.ab L u j)∧True) (μ:=fun(L,u,am,ch,Y,l,f,o)=>2*oy aa L u+(if ch then 1 else 0)) ([i0],fun _=>0,cJ [] (aM aa (i0:Int)) (.string ⟨#[48]⟩),true,ml,(some ⟨Ya,0,none⟩),1,1) (iC.p1.p5.p2) Sub.t (⟨dw.start hi Ls,kS.start,⟨fun j hj=>by simp at hj;subst hj;rw [show itoa ((0:Nat):Int)=⟨#[48]⟩ by decide +kernel];simp [cJ,bC],fun k hk=>by simp [cJ,bC];intro e;exact hk i0 (by simp) e.symm⟩,hm,fW.refl _,(fun h=>by cases h),trivial⟩)<|?_;rintro⟨L,u,am,ch,Y,l,f,o⟩ w5 gW ⟨AH,El,Lt,HR,Fg,pF,_⟩;simp only [CA,NA] at gW AH El Lt HR Fg pF ⊢;refine(aR) (fun g23=>?_) fun g23=>?_
 ·
  have g23:ch=true:=g23;subst g23
  clear pF
  refine aX ?_;refine bK ?_;refine WC.bd (σ:=Nat × (List Nat) × (Nat→Nat) × (List (Key × Value)) × Bool × (List (Key × Value)) × (Option Addr) × Nat × Nat) (dj:=fun(idx,L1,u1,Pu,kT,eO,l,f,o)=>[(0,.pointer (some ⟨D.s,0,none⟩)),(4,.map (some X)),(5,.slice l f o),(6,.bool kT),(7,.int .i64 (idx:Int))]) (F:=fun(idx,L1,u1,Pu,kT,eO,l,f,o)=>[As.os RR.key 41 2 l f o (L1.map fun j:Nat=>aM aa (j:Int)),As.map Key.val D.m eO,As.map Key.val X Pu]) (I:=fun(idx,L1,u1,Pu,kT,eO,l,f,o)=>(idx≤L1.length)∧(dw aa x.ab i0 L1 u1)∧(kS aa x.ab L1 u1 eO)∧(mC aa L1 u1 Pu)∧(aU aa x.ab eO)∧(fW ml eO)∧(oy aa L1 u1≤oy aa L u∧(kT=true→oy aa L1 u1<oy aa L u))∧(kT=false→∀m j,m<idx→L1[m]?=some j→nX aa x.ab L1 u1 j)∧True) (μ:=fun(idx,L1,u1,Pu,kT,eO,l,f,o)=>aa.length - idx) (0,L,u,am,false,Y,l,f,o) (gW.p2.p2.p2) Sub.t (⟨by omega,AH,El,Lt,HR,Fg,⟨Nat.le_refl _,(fun h=>by cases h)⟩,fun _ m j h=>by omega,trivial⟩)<|?_;rintro⟨idx,L1,u1,Pu,kT,eO,l,f,o⟩ w6 iH ⟨Ss,HS,nG,zC,AG,vl,HT,vy,_⟩;simp only [CA,NA] at iH Ss HS nG zC AG vl HT vy ⊢;have qU:=((As.gs iH.g0)).len;rw [List.length_map] at qU;have hL1:=HS.len;refine(aR) (fun g27=>?_) fun g27=>?_
  ·
   simp at g27
   have N:idx<L1.length:=by omega
   obtain⟨j,Cp⟩:∃j,L1[idx]=j:=⟨_,rfl⟩
   have tn:L1[idx]?=some j:=by rw [ak N,Cp]
   have si:j∈L1:=Cp ▸ List.getElem_mem N;obtain⟨g,HU⟩:=HS.ring j si
   have tA:j≤99:=by omega
   have hja:=mY i g;rw [eH g] at hja;have iE:=iH.dp RR.str 9 1;refine ju ?_;obtain⟨t,NJ⟩:∃t,aH aa (aM aa (j:Int)) []=t:=⟨_,rfl⟩
   have Yb:(L1.map fun j:Nat=>aM aa (j:Int))[idx]?=some (aM aa (j:Int)):=by rw [List.getElem?_map,tn];rfl
   obtain⟨gH,cR⟩:=Ow.addr (As.gs iE.g1) Yb;have wG:=iE.bL;have Cm:=iE.jG;have Cn:=iE.size;refine WC.dB (m:=11) (E:=cA [(9,fun v _=>v=t.val),(10,PB w6.heap.size 140 [.bool false,.string ⟨#[]⟩,.int .i64 0,.string ⟨#[]⟩])]) iE (bj (⟨fun _ _ _ _ _ _ _ h=>h,⟨fun _ _ _ _ _ _ c h=>PB.st wG c h,trivial⟩⟩)) mixed (by kernel_rfl)<|(il) jy St.g6<|bK ?_;refine DP .r (fun _ d=>PV.dI ek cR rfl rfl (by omega))<|DP .r (fun _ d=>VA ao (Ow.jD (As.gs d.2.g1) (by rw [List.length_map];omega) cR Yb) .r)<|nx ?_;refine DW.c1 (fun wx d hF=>fB (k:=(aM aa (j:Int))) (SD.ht (As.gf d.2.g5)) (SD.hu (As.gf d.2.g5)) (Ow.rd (As.gs d.2.g0) (by simp)) i.hb (fZ g tA)) (by rw [NJ])<|?_;refine DW.e rfl rfl rfl rfl rfl (fun wx d hF=>OX.alloc oD rfl fun b wy nw hb=>⟨⟨Nat.le_trans d.1 nw.ext.size,d.2.step nw.ext⟩,nw.ext.p0,_,rfl,_,rfl,Nat.le_trans d.1 nw.ge,hb⟩)<|?_;rintro _ wz _ ⟨b9,rfl,_,_⟩;refine(cP) ?_;rintro w7 ⟨yd,eD⟩ ⟨zD,⟨_,_⟩⟩;have dh:=eD.tp zD wG Cm Cn;refine(cF) gy dh fun w8 qV mi cW=>?_;refine cj ?_;refine WC.bd (σ:=Nat × yz × (List Nat) × (List (Key × Value)) × Bool × (List (Key × Value)) × (List ByteArray) × (Option Addr) × Nat × Nat × (Option Addr) × Nat × Nat) (dj:=fun(n,t,L2,ke,mn,iR,acc,l,f,o,ye,oG,yf)=>[(0,.pointer (some ⟨D.s,0,none⟩)),(4,.map (some X)),(5,.slice l f o),(6,.bool mn),(7,.int .i64 (idx:Int)),(8,.slice ye oG yf),(9,.pointer (some ⟨b9,0,none⟩))]) (F:=fun(n,t,L2,ke,mn,iR,acc,l,f,o,ye,oG,yf)=>[As.os RR.key 41 2 l f o (L2.map fun j:Nat=>aM aa (j:Int)),As.os RR.str 9 1 ye oG yf (acc),As.map Key.val D.m iR,As.map Key.val X ke,As.blk b9 140 [.bool t.done,.string t.value,.int .i64 t.ask.kind,.string t.ask.text]]) (I:=fun(n,t,L2,ke,mn,iR,acc,l,f,o,ye,oG,yf)=>(n≤aa[j].asks.length)∧(dw aa x.ab i0 L2 u1)∧(kS aa x.ab L2 u1 iR)∧(mC aa L2 u1 ke)∧(aU aa x.ab iR)∧(fW eO iR)∧(oy aa L2 u1≤oy aa L1 u1∧(mn=true→kT=true∨oy aa L2 u1<oy aa L1 u1))∧(mn=false→L2=L1∧kT=false)∧(L1 <+: L2)∧(Ev aa x.ab u1 L2 eO iR aa[j].asks n acc)∧(cq aa (aM aa (j:Int)) acc=t)∧True) (μ:=fun(n,t,L2,ke,mn,iR,acc,l,f,o,ye,oG,yf)=>aa[j].asks.length - n) (0,t,L1,Pu,kT,eO,[],l,f,o,none,0,0) (cW.p4.p4.p3.p4) Sub.t (⟨by omega,HS,nG,zC,AG,fW.refl _,⟨Nat.le_refl _,fun h=>.inl h⟩,fun h=>⟨rfl,h⟩,List.prefix_refl _,Ev.start,by rw [← NJ,eY g tA],trivial⟩)<|?_;rintro⟨n,t,L2,ke,mn,iR,acc,l,f,o,ye,oG,yf⟩ w9 di ⟨hn,C,qg,S,HV,tB,we,Yc,y,Iv,ht,_⟩;simp only [CA,NA] at di hn C qg S HV tB we Yc y Iv ht ⊢;have Fh:=((As.gs di.g0)).len;rw [List.length_map] at Fh;have OH:=((As.gs di.g1)).len;have hL2:=C.len;have yc:=Iv.len;have amT:=y.length_le;have Su:oy aa L2 u1≤oy aa L u∧(mn=true→oy aa L2 u1<oy aa L u):=⟨by omega,fun h=>by rcases we.2 h with h1 | h1;have:=HT.2 h1;omega;omega⟩;refine(aZ) dG di.b4<|(aR) (fun HW=>?_) fun HW=>?_
   ·
    simp at HW
    have L4:n<aa[j].asks.length:=by
     rcases Nat.lt_or_ge n aa[j].asks.length with h | h
     ·
      exact h
     have h1:=gN i g (ae:=acc) (by rw [eH g];omega);rw [ht] at h1;rw [h1] at HW;cases HW
    obtain⟨a,E1,Dy,XY⟩:=eh i g (ae:=acc) (by rw [eH g];omega);obtain⟨xq,hxq,hax⟩:=XY HU;rw [yc,ak L4] at hxq
    simp at hxq
    rw [ht] at E1
    have Ip:t.ask=a:=by rw [E1]
    have Lu:bP aa aa[j].asks[n]=t.ask:=by rw [Ip,hax,hxq]
    have oQ:aa[j].asks[n]∈aa[j].asks:=List.getElem_mem L4;have NL:=HS.reach j si;refine cj ?_;have X9:=di.bL;refine WC.dS (m:=11) di mixed<|(il) gD St.g7<|(tr) ao St.g4<|?_;refine DP .r (fun _ d=>PV.re cZ dT l6 (As.gm d.2.g2) rfl rfl)<|(cP) ?_;rintro iN ⟨GJ,da⟩ _;refine(aR) (fun Yd=>?_) fun Yd=>?_
    ·
     obtain⟨vv,NI⟩:=Option.isSome_iff_exists.1 Yd;have Sp:=HV _ vv NI;obtain⟨sv,O⟩:∃s,s=valOf aa x.ab t.ask:=⟨_,rfl⟩
     have Fi:=Iv.snoc sv (fun _ _=>by rw [Lu];exact O) (fun h P k hk=>.inl (by
      obtain⟨Dw,Gn,Ir⟩:=jb i g HU oQ P hk;rw [Lu] at Ir;rw [Ir] at NI O;exact⟨by rw [O,gS i Dw,iq i Dw Gn],by rw [NI];rfl⟩))
     refine WC.eqv (t:=10) (v':=.string sv) rfl (by rw [NI,Sp,O];rfl)<|ed ?_;refine WL.go rfl (OX.aP (us:=[.string sv]) jm rfl rfl rfl rfl fun b90 iV Fj Fk=>?_);have K:=da.de Fj Fk;refine WL.ap rfl rfl K.p2 (SR.dd (A:=fun _=>True) (x:=sv) (As.gb K.g0) trivial rfl (by simp [Value.oneCell']) rfl) fun a91 Fl k9 Sv Sw G=>?_;refine bY ?_;obtain⟨t2,U⟩:∃t,aH aa (aM aa (j:Int)) (acc++[sv])=t:=⟨_,rfl⟩
     have V:∀H:List Nat,L1 <+: H→(H.map fun j:Nat=>aM aa (j:Int))[idx]?=some (aM aa (j:Int)):=fun H h=>by
      rw [List.getElem?_map]
      have:=h.getElem N
      obtain⟨q,rfl⟩:=h;rw [List.getElem?_append_left N,tn];rfl
     obtain⟨rW,W⟩:=Ow.addr (As.gs G.g2) (V _ (by first | exact y | exact y.trans (List.prefix_append _ _)));have Sx:=G.bL;refine WC.dS (m:=9) G mixed<|(il) jy St.g8<|bK ?_;refine DP .r (fun _ d=>PV.dI ek W rfl rfl (by omega))<|DP .r (fun _ d=>VA ao (Ow.jD (As.gs d.2.g2) (by simp only [List.length_map,List.length_append,List.length_cons,List.length_nil];omega) W (V _ (by first | exact y | exact y.trans (List.prefix_append _ _)))) .r)<|(cP) ?_;rintro mM ⟨Kw,Q⟩ _;refine WL.c1 (u:=t2.val) (fB (k:=(aM aa (j:Int))) (SD.ht (As.gf Q.g7)) (SD.hu (As.gf Q.g7)) (Ow.rd (As.gs Q.g0) (by simp;omega)) i.hb (fZ g tA)) (by rw [U]) Q fun pH s14 T=>?_;refine(cF) gy T.p5 fun og zy tK dE=>?_;refine bK ?_;refine ef (n+1,t2,L2,ke,mn,iR,_,l,f,o,a91,(oG+1),Fl) ⟨dE.p2.drop.p4.p4.p3.p4,⟨by omega,C,qg,S,HV,tB,we,Yc,y,Fi,by rw [← U,eY g tA],trivial⟩⟩
    have Yd:bC iR t.ask=none:=by simpa using Yd
    refine(gX) ao da.b4<|(eS) (df (k:=t.ask)) da fun iV s11 K=>?_;refine(aR) (fun Sy=>?_) fun Sy=>?_
    ·
     simp at Sy
     refine(gX) ao K.b4<|?_;have G:=K.p2.p7;refine(bX) Kh (hv j t.ask NL (by rw [Ip];exact Dy) Sy _ _ _ _ G.e2 (As.gf G.g7) HV) ?_;rintro _ k9 ⟨Ma,rfl,hm4,Kx,nH⟩;have Q:=St.lr G nH;refine bK ?_;obtain⟨sv,O⟩:∃s,s=valOf aa x.ab t.ask:=⟨_,rfl⟩
     have Fi:=(Iv.mono (fun _ h=>h) Kx).snoc sv (fun _ _=>by rw [Lu];exact O) (fun h P k hk=>by
      obtain⟨Dw,Gn,Ir⟩:=jb i g HU oQ P hk;rw [Lu] at Ir;rw [Ir,bE Dw (by omega),Gn] at Sy;cases Sy)
     refine EX.eqv (t:=10) (v':=.string sv) rfl (by rw [O])<|fO ?_;refine WL.go rfl (OX.aP (us:=[.string sv]) jm rfl rfl rfl rfl fun b90 mM Fj Fk=>?_);have T:=Q.de Fj Fk;refine WL.ap rfl rfl T.p4 (SR.dd (A:=fun _=>True) (x:=sv) (As.gb T.g0) trivial rfl (by simp [Value.oneCell']) rfl) fun a91 Fl pH Sv Sw dE=>?_;refine bY ?_;obtain⟨t2,U⟩:∃t,aH aa (aM aa (j:Int)) (acc++[sv])=t:=⟨_,rfl⟩
     have V:∀H:List Nat,L1 <+: H→(H.map fun j:Nat=>aM aa (j:Int))[idx]?=some (aM aa (j:Int)):=fun H h=>by
      rw [List.getElem?_map]
      have:=h.getElem N
      obtain⟨q,rfl⟩:=h;rw [List.getElem?_append_left N,tn];rfl
     obtain⟨rW,W⟩:=Ow.addr (As.gs dE.g4) (V _ (by first | exact y | exact y.trans (List.prefix_append _ _)));have Sx:=dE.bL;refine WC.dS (m:=9) dE mixed<|(il) jy St.g2<|bK ?_;refine DP .r (fun _ d=>PV.dI ek W rfl rfl (by omega))<|DP .r (fun _ d=>VA ao (Ow.jD (As.gs d.2.g4) (by simp only [List.length_map,List.length_append,List.length_cons,List.length_nil];omega) W (V _ (by first | exact y | exact y.trans (List.prefix_append _ _)))) .r)<|(cP) ?_;rintro og ⟨Kw,dF⟩ _;refine WL.c1 (u:=t2.val) (fB (k:=(aM aa (j:Int))) (SD.ht (As.gf dF.g8)) (SD.hu (As.gf dF.g8)) (Ow.rd (As.gs dF.g0) (by simp;omega)) i.hb (fZ g tA)) (by rw [U]) dF fun sZ SA e7=>?_;refine(cF) gy e7.p6 fun yg Lv Lx dL=>?_;refine bK ?_;refine ef (n+1,t2,L2,ke,mn,Ma,_,l,f,o,a91,(oG+1),Fl) ⟨dL.p2.drop.p7.p7.p2.p7.p6.p5.p7,⟨by omega,C,qg.mono i C Kx,S,hm4,tB.trans Kx,we,Yc,y,Fi,by rw [← U,eY g tA],trivial⟩⟩
    simp at Sy
    have pV:outside aa aa[j].asks[n]=false:=by
     cases P:outside aa aa[j].asks[n]
     ·
      rfl
     have:=ja i g HU oQ P;rw [Lu,Sy] at this;cases this
    obtain⟨z,Uz,Iq,Ky⟩:=ib i g HU oQ pV;rw [Lu] at Iq;have Iw:=Uz.lt.2.2.2
    have py:bC eO (aM aa (z:Int))=none:=by
     cases h:bC eO (aM aa (z:Int)) with
     | none=>rfl
     | some v=>have:=tB _ _ h;rw [← Iq,Yd] at this;cases this
    have Ly:∀k:Nat,aa[j].asks[n].n=k→k=z:=fun k hk=>by
     obtain⟨Dw,Gn,Ir⟩:=jb i g HU oQ pV hk;rw [Lu,Iq] at Ir;exact(dX i Ky Dw Ir).symm
    refine(gX) ao K.b4<|?_;refine WP .r (PV.re cZ dT l6 (As.gm K.g3) rfl rfl)<|?_;refine aX ?_;refine(aR) (fun NN=>?_) fun NN=>?_
    ·
     simp at NN
     have SB:z∉L2:=fun h=>by have:=S.1 z h;rw [← Iq,NN] at this;cases this
     have hk0:=C.out z SB;have hre:cV aa i0 z:=.step (C.reach j (y.subset si)) Uz;have aev:=C.meet Ky Iw SB hre;have AB:=C.F7 Ky Iw SB hre;have NQ:=Bt (v:=u1) (j:=z) AB;have SC:=S.meet i (fun k hk=>(C.ring k hk).1) Ky SB hk0;rw [← Iq] at SC
     have NR:oW t.ask=⟨#[48]⟩:=by rw [Iq];exact sC Ky (by omega) Iw
     refine nx ?_;have amU:=K.bL;refine WC.dB (m:=6) (E:=cA [(5,fun v _=>v=.string ⟨#[48]⟩)]) K (bj (⟨fun _ _ _ _ _ _ _ h=>h,trivial⟩)) mixed (by kernel_rfl)<|(tr) ao St.g4<|(tr) ao St.g4<|?_;refine DW.c1 (fun wx d hF=>qy (k:=t.ask)) (by rw [NR])<|(cP) ?_;rintro k9 ⟨Pv,G⟩ ⟨_,_⟩;refine WL.go rfl (OX.put cZ dT (As.gm G.g3) rfl rfl rfl fun mM SE SF=>?_);have Q:=G.p3.jS SE SF;refine(gX) ao Q.b4<|?_;refine WL.go rfl (OX.aP (us:=t.ask.cells) dz rfl rfl rfl rfl fun b71 pH SG NS=>?_);have T:=Q.de SG NS;refine WL.ap rfl rfl T.p2 (SR.dd (A:=fun _=>True) (x:=t.ask) (As.gb T.g0) trivial rfl (by simp [Key.cells,Value.oneCell']) rfl) fun a72 aew og amW amX dE=>?_;refine bY ?_;have dF:=dE.Vd (show(L2.map fun j:Nat=>aM aa (j:Int))++[t.ask]=(L2++[z]).map fun j:Nat=>aM aa (j:Int) by rw [List.map_append,Iq];rfl);have vz:=SC.1 z (by simp);rw [← Iq] at vz;have UA:∀s,s=itoa (u1 z:Int)→Ev aa x.ab u1 (L2++[z]) eO iR aa[j].asks (n+1) (acc++[s]):=fun s hs=>(Iv.mono (fun _ h=>by simp [h]) (fW.refl _)).snoc s (fun h P=>by rw [pV] at P;cases P) (fun h P k hk=>by have:=Ly k hk;subst this;exact .inr ⟨hs,by simp,py⟩);refine(gX) ao dF.b5<|?_;refine WP .r (PV.bG cZ dT l6 (As.gm dF.g2) (vz) rfl rfl)<|bK ?_;obtain⟨sv,O⟩:∃s,s=itoa (u1 z:Int):=⟨_,rfl⟩;have Fi:=UA sv O;refine EX.eqv (t:=10) (v':=.string sv) rfl (by rw [O])<|fO ?_;refine WL.go rfl (OX.aP (us:=[.string sv]) jm rfl rfl rfl rfl fun b90 sZ Fj Fk=>?_);have e7:=dF.de Fj Fk;refine WL.ap rfl rfl e7.p4 (SR.dd (A:=fun _=>True) (x:=sv) (As.gb e7.g0) trivial rfl (by simp [Value.oneCell']) rfl) fun a91 Fl yg Sv Sw dL=>?_;refine bY ?_;obtain⟨t2,U⟩:∃t,aH aa (aM aa (j:Int)) (acc++[sv])=t:=⟨_,rfl⟩
     have V:∀H:List Nat,L1 <+: H→(H.map fun j:Nat=>aM aa (j:Int))[idx]?=some (aM aa (j:Int)):=fun H h=>by
      rw [List.getElem?_map]
      have:=h.getElem N
      obtain⟨q,rfl⟩:=h;rw [List.getElem?_append_left N,tn];rfl
     obtain⟨rW,W⟩:=Ow.addr (As.gs dL.g2) (V _ (by first | exact y | exact y.trans (List.prefix_append _ _)));have Sx:=dL.bL;refine WC.dS (m:=9) dL mixed<|(il) jy St.g9<|bK ?_;refine DP .r (fun _ d=>PV.dI ek W rfl rfl (by omega))<|DP .r (fun _ d=>VA ao (Ow.jD (As.gs d.2.g2) (by simp only [List.length_map,List.length_append,List.length_cons,List.length_nil];omega) W (V _ (by first | exact y | exact y.trans (List.prefix_append _ _)))) .r)<|(cP) ?_;rintro yh ⟨Kw,fb⟩ _;refine WL.c1 (u:=t2.val) (fB (k:=(aM aa (j:Int))) (SD.ht (As.gf fb.g8)) (SD.hu (As.gf fb.g8)) (Ow.rd (As.gs fb.g0) (by simp;omega)) i.hb (fZ g tA)) (by rw [U]) fb fun GK s19 fc=>?_;refine(cF) gy fc.p6 fun Ix Pw Px ez=>?_;refine bK ?_;refine ef (n+1,t2,L2++[z],_,true,iR,_,a72,(f+1),aew,a91,(oG+1),Fl) ⟨ez.p2.drop.p3.drop.p3.p4.p3.p4,⟨by omega,aev,qg.meet hk0,SC,HV,tB,⟨Nat.le_of_lt (Nat.lt_of_lt_of_le NQ we.1),fun _=>.inr (Nat.lt_of_lt_of_le NQ we.1)⟩,(fun h=>by cases h),y.trans (List.prefix_append _ _),Fi,by rw [← U,eY g tA],trivial⟩⟩
    simp at NN
    have SB:z∈L2:=by
     by_cases h:z∈L2
     ·
      exact h
     have:=S.2 (aM aa (z:Int)) (fun k hk e=>h (by have:=dX i Ky (C.ring k hk).1 e;rw [this];exact hk));rw [← Iq] at this;rw [this] at NN;cases NN
    have vz:=S.1 z SB;rw [← Iq] at vz;have UA:∀s,s=itoa (u1 z:Int)→Ev aa x.ab u1 L2 eO iR aa[j].asks (n+1) (acc++[s]):=fun s hs=>Iv.snoc s (fun h P=>by rw [pV] at P;cases P) (fun h P k hk=>by have:=Ly k hk;subst this;exact .inr ⟨hs,SB,py⟩);refine(gX) ao K.b4<|?_;refine WP .r (PV.bG cZ dT l6 (As.gm K.g3) (vz) rfl rfl)<|bK ?_;obtain⟨sv,O⟩:∃s,s=itoa (u1 z:Int):=⟨_,rfl⟩;have Fi:=UA sv O;refine EX.eqv (t:=10) (v':=.string sv) rfl (by rw [O])<|fO ?_;refine WL.go rfl (OX.aP (us:=[.string sv]) jm rfl rfl rfl rfl fun b90 k9 Fj Fk=>?_);have G:=K.de Fj Fk;refine WL.ap rfl rfl G.p2 (SR.dd (A:=fun _=>True) (x:=sv) (As.gb G.g0) trivial rfl (by simp [Value.oneCell']) rfl) fun a91 Fl mM Sv Sw Q=>?_;refine bY ?_;obtain⟨t2,U⟩:∃t,aH aa (aM aa (j:Int)) (acc++[sv])=t:=⟨_,rfl⟩
    have V:∀H:List Nat,L1 <+: H→(H.map fun j:Nat=>aM aa (j:Int))[idx]?=some (aM aa (j:Int)):=fun H h=>by
     rw [List.getElem?_map]
     have:=h.getElem N
     obtain⟨q,rfl⟩:=h;rw [List.getElem?_append_left N,tn];rfl
    obtain⟨rW,W⟩:=Ow.addr (As.gs Q.g2) (V _ (by first | exact y | exact y.trans (List.prefix_append _ _)));have Sx:=Q.bL;refine WC.dS (m:=9) Q mixed<|(il) jy St.g8<|bK ?_;refine DP .r (fun _ d=>PV.dI ek W rfl rfl (by omega))<|DP .r (fun _ d=>VA ao (Ow.jD (As.gs d.2.g2) (by simp only [List.length_map,List.length_append,List.length_cons,List.length_nil];omega) W (V _ (by first | exact y | exact y.trans (List.prefix_append _ _)))) .r)<|(cP) ?_;rintro pH ⟨Kw,T⟩ _;refine WL.c1 (u:=t2.val) (fB (k:=(aM aa (j:Int))) (SD.ht (As.gf T.g7)) (SD.hu (As.gf T.g7)) (Ow.rd (As.gs T.g0) (by simp;omega)) i.hb (fZ g tA)) (by rw [U]) T fun og s15 dE=>?_;refine(cF) gy dE.p5 fun sZ SH SI dF=>?_;refine bK ?_;refine ef (n+1,t2,L2,ke,mn,iR,_,l,f,o,a91,(oG+1),Fl) ⟨dF.p2.drop.p4.p4.p3.p4,⟨by omega,C,qg,S,HV,tB,we,Yc,y,Fi,by rw [← U,eY g tA],trivial⟩⟩
   simp at HW
   have L4:n=aa[j].asks.length:=by
    rcases Nat.lt_or_ge n aa[j].asks.length with h | h
    ·
     obtain⟨a,h1,_⟩:=eh i g (ae:=acc) (by rw [eH g];omega);rw [ht] at h1;rw [h1] at HW;cases HW
    omega
   subst L4;obtain⟨DA,NT,SJ,UB,NU⟩:=Iv.val i C g HU;have Lz:eX (u1 j) (fe aa[j].c.toNat (acc.map cB)):=fun b hb=>SJ b (nG j si b hb);obtain⟨val,vA⟩:∃v,fe aa[j].c.toNat (acc.map cB)=v:=⟨_,rfl⟩;rw [vA] at DA NT Lz UB NU
   have htv:t.value=itoa (val:Int):=by
    have h1:=gN i g (ae:=acc) (by rw [eH g];omega);rw [ht] at h1;rw [h1,(uw i g HU).1,← vA];rfl
   have AK:j∈L2:=y.subset si;have Py:=y.length_le
   have SK:L2[idx]?=some j:=by obtain⟨q,rfl⟩:=y;rw [List.getElem?_append_left N];exact tn
   have NV:(L2.map fun j:Nat=>aM aa (j:Int))[idx]?=some (aM aa (j:Int)):=by rw [List.getElem?_map,SK];rfl
   refine fO ?_;obtain⟨HX,ks⟩:=Ow.addr (As.gs di.g0) NV;have amY:=di.bL;refine WC.dS (m:=8) di mixed<|bY ?_;refine DP .r (fun _ d=>PV.dI ek ks rfl rfl (by omega))<|DP .r (fun _ d=>VA ao (Ow.jD (As.gs d.2.g0) (by rw [List.length_map];omega) ks NV) .r)<|DP .r (fun _ d=>PV.bG cZ dT l6 (As.gm d.2.g3) (S.1 j AK) rfl rfl)<|(il) fh St.g4<|(cP)<|?_;rintro iN ⟨ajn,da⟩ _;refine(aR) (fun oh=>?_) fun oh=>?_
   ·
    simp at oh
    rw [htv] at oh;have Dr:u1 j≠val:=fun e=>oh (by rw [e]);have Ye:=F8 C AK DA Lz Dr;obtain⟨Yf,ta⟩:=Ow.addr (As.gs da.g0) NV;have amZ:=da.bL;refine WC.dB (m:=9) (E:=cA [(7,fun v w'=>∃vv st,v=.tuple #[vv,.int .i64 ((st:Nat):Int)]∧KE Key.val w' X ke (aM aa (j:Int)) st)]) da (lB (⟨⟨trivial,trivial⟩,trivial⟩)) mixed (by kernel_rfl)<|bY ?_;refine DP .r (fun _ d=>PV.dI ek ta rfl rfl (by omega))<|DP .r (fun _ d=>VA ao (Ow.jD (As.gs d.2.g0) (by rw [List.length_map];omega) ta NV) .r)<|(il) fh St.g4<|?_;refine DW.e rfl rfl rfl rfl rfl (fun wx d hF=>OX.Qm cZ dT l6 (As.gm d.2.g3) rfl rfl rfl fun wy st vv sx hsz NW=>?_)<|?_
    ·
     have hg:=S.1 j AK;rw [hg] at NW;rw [Option.getD_some,xx hg] at NW;exact⟨⟨Nat.le_trans d.1 sx.size,d.2.same (A:=As.map Key.val X ke) (by simp) (sx.p.mono fun x _ hx=>by simpa [As.map] using hx) NW.km⟩,sx.p.mono (fun x _ hx=>F2 (A:=As.map Key.val X ke) (by simp) (by simpa [As.map] using hx)),_,rfl,_,_,rfl,NW⟩
    rintro _ wz _ ⟨aey,fc,rfl,_⟩;refine(cP) ?_;rintro iV ⟨ajo,K⟩ ⟨Sq,_⟩;obtain⟨_,_,Kz,Cq⟩:=Sq;simp only [Value.tuple.injEq,Array.mk.injEq,List.cons.injEq,Value.int.injEq,true_and,and_true] at Kz;have SM:=Int.natCast_inj.1 Kz.2;rw [← SM] at Cq;refine WL.go rfl (OX.DO Cq rfl rfl rfl fun k9 SN _ SO=>?_);have G:=K.p3.jS SN SO;rw [htv] at G;refine kI ?_;refine ef (idx+1,L2,lV u1 j val,cJ ke (aM aa (j:Int)) (.string (itoa (val:Int))),true,iR,l,f,o) ⟨G.p2.drop.p3.drop.p2.p2,⟨Nat.le_trans N Py,C.set AK DA NT,qg.set i C AK DA NT Lz UB,S.set i (fun k hk=>(C.ring k hk).1) AK val,HV,vl.trans tB,⟨Nat.le_of_lt (Nat.lt_of_lt_of_le Ye Su.1),fun _=>Nat.lt_of_lt_of_le Ye Su.1⟩,(fun h=>by cases h),trivial⟩⟩
   simp at oh
   rw [htv] at oh;have oh:u1 j=val:=Bp (by have:=C.le j;omega) (by omega) oh;refine gL ?_
   refine ef (idx+1,L2,u1,ke,mn,iR,l,f,o) ⟨da.p1.drop.p3.drop,⟨Nat.le_trans N Py,C,qg,S,HV,vl.trans tB,Su,fun h m k hm hk=>by
      obtain⟨e1,e2⟩:=Yc h;subst e1
      by_cases e:m=idx
      ·
       subst e;rw [tn] at hk
       simp at hk;subst hk
       exact NU (oh ▸ rfl)
      exact vy e2 m k (by omega) hk,trivial⟩⟩
  simp at g27
  refine db ?_;refine EX.again (L1,u1,Pu,kT,eO,l,f,o) Sub.t ⟨iH,⟨HS,nG,zC,AG,vl,fun h j hj=>by obtain⟨m,hm,rfl⟩:=List.mem_iff_getElem.1 (show j∈L1 from hj);exact vy h m _ (by omega) (ak hm),trivial⟩⟩ (by simp only [];cases kT <;> simp at HT ⊢ <;> omega)
 have g23:ch=false:=g23;have Jq:=pF g23;have KA:=AH.done i Jq;refine fO ?_;have aez:=((As.gs gW.g0)).len;rw [List.length_map] at aez;have hL7:=AH.len;refine ed ?_;refine WC.bd (σ:=Nat × (List (Key × Value))) (dj:=fun(J,NX)=>[(0,.pointer (some ⟨D.s,0,none⟩)),(4,.map (some X)),(120,.slice l f o),(121,.int .i64 (f:Int)),(122,.int .i64 (J:Int))]) (F:=fun(J,NX)=>[As.map Key.val D.m NX]) (I:=fun(J,NX)=>(J≤L.length)∧(aU aa x.ab NX)∧(fW ml NX)∧(∀m j,m<J→L[m]?=some j→bC NX (aM aa (j:Int))=some (.string (valOf aa x.ab (aM aa (j:Int)))))∧True) (μ:=fun(J,NX)=>L.length - J) (0,Y) (gW.p1) Sub.t (⟨by omega,HR,Fg,fun m j h=>by omega,trivial⟩)<|?_;rintro⟨J,NX⟩ w6 iH ⟨hi7,hm7,SP,hd7,_⟩;simp only [CA,NA] at iH hi7 hm7 SP hd7 ⊢;refine(aR) (fun Fm=>?_) fun Fm=>?_
 ·
  simp at Fm
  have Yg:J<L.length:=by omega
  obtain⟨j,Cp⟩:∃j,L[J]=j:=⟨_,rfl⟩
  have tn:L[J]?=some j:=by rw [ak Yg,Cp]
  have si:j∈L:=Cp ▸ List.getElem_mem Yg;obtain⟨g,HU⟩:=AH.ring j si;have Yh:=Lt.1 j si;rw [KA j si,← iq i g HU,← gS i g] at Yh;refine db ?_
  have hx7:(L.map fun j:Nat=>aM aa (j:Int))[J]?=some (aM aa (j:Int)):=by rw [List.getElem?_map,tn];rfl
  obtain⟨am4,Pz⟩:=Ow.addr (As.gs iH.g1) hx7;refine nx ?_;refine WP .r (PV.dI ek Pz rfl rfl (by omega))<|(aY) ao (Ow.jD (As.gs iH.g1) (by rw [List.length_map];omega) Pz hx7)<|(eN) iH fun b15 w7 aeB aeC iE=>?_;refine(cF) gQ iE fun w8 ss7 hs7 eD=>?_;refine bK ?_;have am5:=eD.bL;refine WC.dS (m:=8) eD mixed<|(il) gD St.g6<|(gI) ao St.g0<|(gI) ao St.g0<|?_;refine DP .r (fun _ d=>PV.bG cZ dT l6 (As.gm d.2.g3) (Yh) rfl rfl)<|(cP)<|?_;rintro w9 ⟨ajq,dh⟩ _;refine WL.go rfl (OX.put cZ dT (As.gm dh.g1) rfl rfl rfl fun iN aeD aeE=>?_);have cW:=dh.p1.jS aeD aeE;refine ed ?_
  refine ef (J+1,_) ⟨cW.p1.drop,⟨by omega,hm7.put _,SP.trans (fW.put hm7 _),fun m k hm hk=>by
     rw [ee]
     split
     ·
      rename_i e;rw [e]
     rename_i e
     refine hd7 m k ?_ hk
     rcases Nat.lt_or_ge m J with h | h
     ·
      exact h
     have:m=J:=by omega
     subst this;rw [tn] at hk;simp at hk;subst hk;exact absurd rfl e,trivial⟩⟩
 simp at Fm
 obtain⟨mm,LA,SQ⟩:=List.mem_iff_getElem.1 AH.first;have HY:=hd7 mm i0 (by omega) (by rw [ak LA,SQ]);refine cj ?_;refine EX.mO (.inr rfl) rfl<|?_;exact⟨NX,rfl,hm7,SP,HY,iH.p5.k2⟩
theorem KB(f:aq aa):∀i,i<aa.length→HP aa x D (aM aa (i:Int)):=by
 intro i
 induction i using Nat.strongRecOn with
 | _ i l=>
  intro hi;have t:=f.len
  have q:∀a,ax a=false→(ay a=true∨∃m,m<i∧m<aa.length∧a=aM aa (m:Int))→HP aa x D a:=fun a _ b w M Z ml h1 c d=>by
   rcases b with b | ⟨m,hm,g,rfl⟩
   ·
    exact lh h1 c d b
   exact l m hm g w M Z ml h1 c d
  have o:∀a,(ay a=true∨∃m,m<i∧m<aa.length∧a=aM aa (m:Int))→HP aa x D a:=fun a b w M Z ml h1 c d=>by
   rcases b with b | ⟨m,hm,g,rfl⟩
   ·
    exact lh h1 c d b
   exact l m hm g w M Z ml h1 c d
  intro w M Z ml h1 c d;refine zA h1 c d f hi (fun hc w M Z ml h1 c d=>?_) fun a b hc=>o a ?_
  ·
   rw [bE hi (by omega)] at hc;refine Co h1 c d f hi hc fun j a p r h=>q a h ?_;have s:=i7 hi hc p;have o:=kc f p;have hle:=gi aa i
   rcases r with⟨n,e,rfl⟩ | ⟨m,e,rfl,_,_,_,k⟩
   ·
    exact .inl (bB (by omega))
   rw [bE e (by omega)] at h;exact .inr ⟨m,by have:=k h s.2;omega,e,rfl⟩
  rw [bE hi (by omega)] at hc
  rcases b with⟨n,e,rfl⟩ | ⟨m,e,rfl,_,k,_⟩
  ·
   exact .inl (bB (by omega))
  exact .inr ⟨m,k hc,e,rfl⟩
theorem yi(a:aq aa) {k:Key}(hk:eG aa k):HP aa x D k:=by
 cases hk with
 | cell h=>exact fun w M Z ml h1 b c=>lh h1 b c (bB h)
 | eT h _=>exact KB a _ h
end Go.Rc

