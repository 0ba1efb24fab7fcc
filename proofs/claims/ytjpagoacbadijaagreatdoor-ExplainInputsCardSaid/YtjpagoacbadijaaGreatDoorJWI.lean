/- Walks over the program, part WI. Conditions: as each theorem says. -/
import Derived.Test.YtjpagoacbadijaaGreatDoorJFacts
import Derived.Test.YtjpagoacbadijaaGreatDoorJWH
import Derived.Test.YtjpagoacbadijaaGreatDoorJBe
set_option linter.all false
namespace Go.Rc
open Go Go.Proofs Go.Proofs.Tryz
variable {x:cI}{w:World}{M Z:Nat→Prop}{aa:List az}{D:SD}{ml:List (Key × Value)}
set_option maxHeartbeats 400000
theorem rH{ar a1 a2:Option Addr}{r cr n1 c1 n2 c2:Nat}(a:St w M Z w []):Calls prog 32 #[.slice ar r cr,.agg (x.row a1 n1 c1 a2 n2 c2).toArray] w fun e w'=>∃s m q,e=.returned (.pointer (some ⟨s,0,none⟩))∧St w M Z w' [As.blk s 134 (SD.cells ⟨ar,a1,a2,r,cr,n1,c1,n2,c2,m,q,s⟩ x),As.map Key.val m [],As.map Key.val q []]:=by
 refine enter func32 rfl ntmps32 rfl<|?_;have aO:=a;refine(dr) aO fun b3 w1 g h st1=>?_;refine(bj) bz st1.b0<|?_;refine WL.mm Key.val st1 fun b w2 i j st2=>?_;refine WL.mm Key.val st2 fun c w3 k l d=>?_;refine WP .r (PV.aY (us:=(SD.cells ⟨ar,a1,a2,r,cr,n1,c1,n2,c2,b,c,0⟩ x)) O9 rfl rfl rfl)<|(dr) d fun n w4 o p f=>?_;refine(bF) ?_;exact⟨_,_,_,rfl,f.p3.drop.p2.p1⟩
def CD(aa:List az) (x:cI) (D:SD) (k:Key):Prop:=∀(w:World) (M Z:Nat→Prop) (ml:List (Key × Value)),St w M Z w [As.blk D.s 134 (D.cells x),As.map Key.val D.m ml]→(D.F prog aa x).p Z w→aM aa x.ab ml→
 Calls prog 49 #[.pointer (some ⟨D.s,0,none⟩),k.val] w fun e w'=>∃lQ,e=.returned (.string (valOf aa x.ab k))∧aM aa x.ab lQ∧fj ml lQ∧St w M Z w' [As.blk D.s 134 (D.cells x),As.map Key.val D.m lQ]
def Wj(aa:List az) (x:cI) (D:SD) (k:Key):Prop:=∀(w:World) (M Z:Nat→Prop) (ml:List (Key × Value)),St w M Z w [As.blk D.s 134 (D.cells x),As.map Key.val D.m ml]→(D.F prog aa x).p Z w→aM aa x.ab ml→
 Calls prog 74 #[.pointer (some ⟨D.s,0,none⟩),k.val] w fun e w'=>∃lQ,e=.returned (.tuple #[])∧aM aa x.ab lQ∧fj ml lQ∧ba lQ k=some (.string (valOf aa x.ab k))∧St w M Z w' [As.blk D.s 134 (D.cells x),As.map Key.val D.m lQ]
theorem jh{k:Key}(d:St w M Z w [As.blk D.s 134 (D.cells x),As.map Key.val D.m ml]) (f:(D.F prog aa x).p Z w) (hm:aM aa x.ab ml) (hk:aw k=true):Calls prog 49 #[.pointer (some ⟨D.s,0,none⟩),k.val] w fun e w'=>∃a,e=.returned (.string (valOf aa x.ab k))∧aM aa x.ab a∧fj ml a∧St w M Z w' [As.blk D.s 134 (D.cells x),As.map Key.val D.m a]:=by
 refine enter func49 rfl ntmps49 rfl<|?_;have aO:=d;have st1:=aO.fact (B:=As.fz (D.F prog aa x)) f (fun _ g=>g);refine(dr) st1 fun b3 w1 i j st2=>?_;refine(bj) ak st2.b0<|(eZ) (dd (k:=k)) st2 fun w2 s2 c=>?_;refine(aP) (fun g10=>?_) fun g10=>?_
 ·
  refine nx ?_;have l:=c.bG;refine WC.dS (m:=5) c mixed<|(tu) bz St.g2<|(fk) ak St.g0<|(cy)<|?_;rintro w3 ⟨n,b⟩ _;refine(eZ) (lC (k:=k) (SD.hi (As.gf b.g1)) (SD.hr (As.gf b.g1))) b fun w4 o h=>?_;refine(bF) ?_;exact⟨ml,by unfold valOf cellOf;rw [if_pos hk],hm,fj.refl _,h.drop.drop⟩
 rw [hk] at g10;cases g10
theorem vo{i:Nat}(gq:St w M Z w [As.blk D.s 134 (D.cells x),As.map Key.val D.m ml]) (hf:(D.F prog aa x).p Z w) (hm:aM aa x.ab ml) (g:ao aa) (hi:i<aa.length) (W:aA (aH aa (i:Int))=true→Wj aa x D (aH aa (i:Int))) (X:∀a,dI aa i a→aA (aH aa (i:Int))=false→CD aa x D a):Calls prog 49 #[.pointer (some ⟨D.s,0,none⟩),(aH aa (i:Int)).val] w fun e w'=>∃O,e=.returned (.string (valOf aa x.ab (aH aa (i:Int))))∧aM aa x.ab O∧fj ml O∧St w M Z w' [As.blk D.s 134 (D.cells x),As.map Key.val D.m O]:=by
 have C3:=g.len
 have gR:i≤99:=by omega
 obtain⟨k,hk⟩:∃k,aH aa (i:Int)=k:=⟨_,rfl⟩;have eS:=bT hi gR;have ha6:=kK g hi;rw [hk] at eS W X ⊢;refine enter func49 rfl ntmps49 rfl<|?_;have aO:=gq;have st1:=aO.fact (B:=As.fz (D.F prog aa x)) hf (fun _ hx=>hx);refine(dr) st1 fun b3 w1 E7 vh st2=>?_;refine(bj) ak st2.b0<|(eZ) (dd (k:=k)) st2 fun w2 s2 Y=>?_;refine(aP) (fun g10=>?_) fun g10=>?_
 ·
  rw [eS] at g10;cases g10
 refine cB ?_;have CE:=Y.bG;refine WC.dS (m:=10) Y mixed<|(gP) eR St.g2<|(fk) ak St.g0<|?_;refine DP .r (fun _ d=>PV.nV cE cS j5 (As.gm d.2.g3) rfl rfl)<|(cy) ?_;rintro w3 ⟨xO,P⟩ _;refine(aP) (fun g26=>?_) fun g26=>?_
 ·
  obtain⟨vv,Lu⟩:=Option.isSome_iff_exists.1 g26;have Lv:=hm k vv Lu;refine(bF) ?_;exact⟨ml,by rw [Lu,Lv];rfl,hm,fj.refl _,P.drop.drop⟩
 refine(bj) ak P.b0<|(eZ) (dz (k:=k)) P fun w4 s4 Q=>?_;refine(aP) (fun R=>?_) fun R=>?_
 ·
  refine(bj) ak Q.b0<|?_;have y:=Q.p3.p3;refine(cA) VD (W R _ _ _ _ y.e2 (As.gf y.g3) hm) ?_;rintro _ w5 ⟨dt,rfl,S,T,Oh,pK⟩;have f:=St.lr y pK;refine ct ?_;have Nk:=f.bG;refine WC.dS (m:=5) f mixed<|(gP) eR St.g0<|(fk) ak St.g2<|(cy)<|?_;rintro w6 ⟨xP,H⟩ _;refine WP .r (PV.look cE cS j5 (As.gm H.g1) rfl rfl)<|(bF) ?_;exact⟨dt,by rw [Oh];rfl,S,T,H.p2.drop.p2.drop⟩
 have y:=Q.fY RR.str 9 1;refine jx ?_;refine WC.br (σ:=Nat × (List (Key × Value)) × (List ByteArray) × (Option Addr) × Nat × Nat) (cT:=fun(n,j,acc,o,l,q)=>[(0,.pointer (some ⟨D.s,0,none⟩)),(3,.pointer (some ⟨b3,0,none⟩)),(7,.slice o l q)]) (F:=fun(n,j,acc,o,l,q)=>[As.os RR.str 9 1 o l q (acc),As.map Key.val D.m j]) (I:=fun(n,j,acc,o,l,q)=>(n≤cH aa i)∧(aM aa x.ab j)∧(fj ml j)∧(acc=(dT (cm aa k) (valOf aa x.ab) n).2)∧True) (μ:=fun(n,j,acc,o,l,q)=>cH aa i - n) (0,ml,[],none,0,0) (y.p4.p1) Sub.t (⟨by omega,hm,fj.refl _,rfl,trivial⟩)<|?_;rintro⟨n,j,acc,o,l,q⟩ w5 f ⟨hn,J,U,K,_⟩;simp only [CA,NA] at f hn J U K ⊢;have sj:=((As.gs f.g0)).len
 have vi:acc.length=n:=by rw [K];exact(eJ _ _ n).2
 obtain⟨t,HK⟩:∃t,bC aa k acc=t:=⟨_,rfl⟩
 have z:cm aa k acc=t:=by rw [← HK,← hk,eE hi gR]
 refine bP ?_;have sB:=f.bG;have xQ:=f.hV;have xR:=f.size;refine WC.cJ (m:=8) (E:=bS [(6,fun v _=>v=t.val),(7,PB w5.heap.size 144 [.bool false,.string ⟨#[]⟩,.int .i64 0,.string ⟨#[]⟩])]) f (aU (⟨fun _ _ _ _ _ _ _ h=>h,⟨fun _ _ _ _ _ _ c h=>PB.st sB c h,trivial⟩⟩)) mixed (by kernel_rfl)<|(gP) kX St.g4<|(fk) ak St.g2<|nx ?_;refine DW.c1 (fun wx d hF=>eH (k:=k) (SD.ht (As.gf d.2.g3)) (SD.hu (As.gf d.2.g3)) (Ow.rd (As.gs d.2.g0) (by omega)) g.hb (hk ▸ ey hi gR)) (by rw [HK])<|?_;refine DW.e rfl rfl rfl rfl rfl (fun wx d hF=>OX.alloc o0 rfl fun b wy L hb=>⟨⟨Nat.le_trans d.1 L.ext.size,d.2.step L.ext⟩,L.ext.p0,_,rfl,_,rfl,Nat.le_trans d.1 L.ge,hb⟩)<|?_;rintro _ wz _ ⟨b8,rfl,_,_⟩;refine(cy) ?_;rintro w6 ⟨xS,H⟩ ⟨Lx,⟨_,_⟩⟩;have kz:=H.pr Lx sB xQ xR;refine(dh) fe kz fun w7 l4 mK C=>?_;refine(bp) di C.b0<|(aP) (fun G=>?_) fun G=>?_
 ·
  have Gt:n=cH aa i:=by
   rcases Nat.lt_or_ge n (cH aa i) with h | h
   ·
    obtain⟨a,h1,_⟩:=dq g hi (ai:=acc) (by omega);rw [hk,z] at h1;rw [h1] at G;cases G
   omega
  have V:t.value=valOf aa x.ab k:=by
   have h1:=fI (aC:=x.ab) g hi;rw [hk,← Gt,← K,z] at h1;rw [h1]
  refine nx ?_;have QR:=C.bG;refine WC.dS (m:=7) C mixed<|(gP) eR St.g5<|(fk) ak St.g3<|(gP) eV St.g0<|(cy)<|?_;rintro w8 ⟨BC,u⟩ _;refine WL.go rfl (OX.put cE cS (As.gm u.g2) rfl rfl rfl fun w9 E8 Af=>?_);have N:=u.p2.iE E8 Af;refine(bp) eV N.b1<|(bF) ?_;exact⟨_,by rw [V],by rw [V];exact J.put k,by rw [V];exact U.trans (fj.put J k),N.p5.k2⟩
 have Gt:n<cH aa i:=by
  rcases Nat.lt_or_ge n (cH aa i) with h | h
  ·
   exact h
  have h1:=fb g hi (ai:=acc) (by omega);rw [hk,z] at h1;rw [h1] at G;cases G
 obtain⟨a,zV,BB,_⟩:=dq g hi (ai:=acc) (by omega);rw [hk,z] at zV
 have C6:t.ask=a:=by rw [zV]
 refine(jJ) ak C.b0<|?_;have u:=C.p2.p5;refine(cA) EN (X t.ask (by rw [C6];exact BB) R _ _ _ _ u.e2 (As.gf u.g5) J) ?_;rintro _ w8 ⟨dt,rfl,S,T,nF⟩;have N:=St.lr u nF;refine WL.go rfl (OX.aL (us:=[.string (valOf aa x.ab t.ask)]) iS rfl rfl rfl rfl fun b62 w9 Wk Wl=>?_);have df:=N.dD Wk Wl;refine WL.ap rfl rfl df.p4 (SR.cV (A:=fun _=>True) (x:=valOf aa x.ab t.ask) (As.gb df.g0) trivial rfl (by simp [Value.oneCell']) rfl) fun a63 Wm kl ad5 ad6 de=>?_;refine ct ?_;refine dX (n+1,dt,acc++[valOf aa x.ab t.ask],a63,(l+1),Wm) ⟨de.p1.drop.p3.drop.p4.p4.p4.p3,⟨by omega,S,U.trans T,by simp only [dT];rw [← K,z],trivial⟩⟩
set_option maxHeartbeats 1600000 in
theorem xT{i0:Nat}(gq:St w M Z w [As.blk D.s 134 (D.cells x),As.map Key.val D.m ml]) (hf:(D.F prog aa x).p Z w) (hm:aM aa x.ab ml) (i:ao aa) (hi:i0<aa.length) (C8:ax aa i0=true) (hv:∀j a,cq aa i0 j→dI aa j a→aA a=false→CD aa x D a):Calls prog 74 #[.pointer (some ⟨D.s,0,none⟩),(aH aa (i0:Int)).val] w fun e w'=>∃lQ,e=.returned (.tuple #[])∧aM aa x.ab lQ∧fj ml lQ∧ba lQ (aH aa (i0:Int))=some (.string (valOf aa x.ab (aH aa (i0:Int))))∧St w M Z w' [As.blk D.s 134 (D.cells x),As.map Key.val D.m lQ]:=by
 have C3:=i.len
 have gR:i0≤99:=by omega
 have Ly:=oR hi gR C8;refine enter func74 rfl ntmps74 rfl<|?_;have aO:=gq;have st1:=aO.fact (B:=As.fz (D.F prog aa x)) hf (fun _ hx=>hx);refine(dr) st1 fun b3 w1 E7 vh st2=>?_;refine ct ?_;have Wn:=st2.bG;have Wo:=st2.hV;have Wp:=st2.size;refine WC.cJ (m:=4) (E:=bS [(0,PM Key.val w1.heap.size),(3,fun v _=>v=.string ⟨#[48]⟩)]) st2 (aU (⟨fun _ _ _ _ _ _ c h=>PM.st Wn c h,⟨fun _ _ _ _ _ _ _ h=>h,trivial⟩⟩)) mixed (by kernel_rfl)<|?_;refine DW.e rfl rfl rfl rfl rfl (fun wx d hF=>OX.makeMap Key.val rfl fun b wy nw hb=>⟨⟨Nat.le_trans d.1 nw.ext.size,d.2.step nw.ext⟩,nw.ext.p0,_,rfl,_,rfl,Nat.le_trans d.1 nw.ge,hb⟩)<|?_;rintro _ wz _ ⟨X,rfl,_,_⟩;refine(fk) ak St.g0<|(fk) ak St.g0<|?_;refine DW.c1 (fun wx d hF=>nE (k:=(aH aa (i0:Int)))) (by rw [Ly])<|(cy) ?_;rintro w2 ⟨Ag,jg⟩ ⟨_,⟨Wq,_⟩⟩;have iH:=jg.Ua Wq Wn Wo Wp;refine WL.go rfl (OX.ins cE cS (As.gm iH.g0) rfl rfl rfl fun w3 E9 Ah=>?_);have l5:=iH.iE E9 Ah;refine(bj) ak l5.b1<|?_;refine WL.go rfl (OX.aL (us:=(aH aa (i0:Int)).cells) dc rfl rfl rfl rfl fun b22 w4 QS Wr=>?_);have ks:=St.lE (R:=RR.key) (E:=39) (k:=2) (a:=some ⟨b22,0,none⟩) (n:=1) (c:=1) (xs:=[(aH aa (i0:Int))]) l5 QS.ext (OR.cV Wr (Nat.zero_le _) rfl (by simp [Key.cells,Value.oneCell']) rfl) (fun x hx=>by simp [bl] at hx;subst hx;exact QS.ge);refine mo ?_;refine WC.br (σ:=(List Nat) × (Nat→Nat) × (List (Key × Value)) × Bool × (List (Key × Value)) × (Option Addr) × Nat × Nat) (cT:=fun(L,u,am,ch,Y,l,f,o)=>[(0,.pointer (some ⟨D.s,0,none⟩)),(4,.map (some X)),(5,.slice l f o),(6,.bool ch)]) (F:=fun(L,u,am,ch,Y,l,f,o)=>[As.os RR.key 39 2 l f o (L.map fun j:Nat=>aH aa (j:Int)),As.map Key.val D.m Y,As.map Key.val X am]) (I:=fun(L,u,am,ch,Y,l,f,o)=>(cG aa x.ab i0 L u)∧(jb aa x.ab L u Y)∧(ko aa L u am)∧(aM aa x.ab Y)∧(fj ml Y)∧(ch=false→∀j∈L,lq aa x.ab L u j)∧True) (μ:=fun(L,u,am,ch,Y,l,f,o)=>2*lR aa L u+(if ch then 1 else 0)) ([i0],fun _=>0,bY [] (aH aa (i0:Int)) (.string ⟨#[48]⟩),true,ml,(some ⟨b22,0,none⟩),1,1) (ks.p1.p5.p2) Sub.t (⟨cG.start hi C8,jb.start,⟨fun j hj=>by simp at hj;subst hj;rw [show itoa ((0:Nat):Int)=⟨#[48]⟩ by decide +kernel];simp [bY,ba],fun k hk=>by simp [bY,ba];intro e;exact hk i0 (by simp) e.symm⟩,hm,fj.refl _,(fun h=>by cases h),trivial⟩)<|?_;rintro⟨L,u,am,ch,Y,l,f,o⟩ w5 jn ⟨C9,xm,IP,F7,Ai,se,_⟩;simp only [CA,NA] at jn C9 xm IP F7 Ai se ⊢;refine(aP) (fun g23=>?_) fun g23=>?_
 ·
  have g23:ch=true:=g23;subst g23
  clear se
  refine aN ?_;refine bP ?_;refine WC.br (σ:=Nat × (List Nat) × (Nat→Nat) × (List (Key × Value)) × Bool × (List (Key × Value)) × (Option Addr) × Nat × Nat) (cT:=fun(idx,L1,u1,IQ,iP,dt,l,f,o)=>[(0,.pointer (some ⟨D.s,0,none⟩)),(4,.map (some X)),(5,.slice l f o),(6,.bool iP),(7,.int .i64 (idx:Int))]) (F:=fun(idx,L1,u1,IQ,iP,dt,l,f,o)=>[As.os RR.key 39 2 l f o (L1.map fun j:Nat=>aH aa (j:Int)),As.map Key.val D.m dt,As.map Key.val X IQ]) (I:=fun(idx,L1,u1,IQ,iP,dt,l,f,o)=>(idx≤L1.length)∧(cG aa x.ab i0 L1 u1)∧(jb aa x.ab L1 u1 dt)∧(ko aa L1 u1 IQ)∧(aM aa x.ab dt)∧(fj ml dt)∧(lR aa L1 u1≤lR aa L u∧(iP=true→lR aa L1 u1<lR aa L u))∧(iP=false→∀m j,m<idx→L1[m]?=some j→lq aa x.ab L1 u1 j)∧True) (μ:=fun(idx,L1,u1,IQ,iP,dt,l,f,o)=>aa.length - idx) (0,L,u,am,false,Y,l,f,o) (jn.p2.p2.p2) Sub.t (⟨by omega,C9,xm,IP,F7,Ai,⟨Nat.le_refl _,(fun h=>by cases h)⟩,fun _ m j h=>by omega,trivial⟩)<|?_;rintro⟨idx,L1,u1,IQ,iP,dt,l,f,o⟩ w6 ji ⟨Lz,CH,vp,Aj,F2,vm,CI,rI,_⟩;simp only [CA,NA] at ji Lz CH vp Aj F2 vm CI rI ⊢;have sj:=((As.gs ji.g0)).len;rw [List.length_map] at sj;have hL1:=CH.len;refine(aP) (fun Ws=>?_) fun Ws=>?_
  ·
   simp at Ws
   have N:idx<L1.length:=by omega
   obtain⟨j,xU⟩:∃j,L1[idx]=j:=⟨_,rfl⟩
   have po:L1[idx]?=some j:=by rw [ae N,xU]
   have oE:j∈L1:=xU ▸ List.getElem_mem N;obtain⟨g,CJ⟩:=CH.ring j oE
   have pL:j≤99:=by omega
   have Wt:=kK i g;rw [dp g] at Wt;have kz:=ji.fY RR.str 9 1;refine mo ?_;obtain⟨t,HK⟩:∃t,bC aa (aH aa (j:Int)) []=t:=⟨_,rfl⟩
   have QT:(L1.map fun j:Nat=>aH aa (j:Int))[idx]?=some (aH aa (j:Int)):=by rw [List.getElem?_map,po];rfl
   obtain⟨jf,cx⟩:=Ow.addr (As.gs kz.g1) QT;have sB:=kz.bG;have xQ:=kz.hV;have xR:=kz.size;refine WC.cJ (m:=11) (E:=bS [(9,fun v _=>v=t.val),(10,PB w6.heap.size 144 [.bool false,.string ⟨#[]⟩,.int .i64 0,.string ⟨#[]⟩])]) kz (aU (⟨fun _ _ _ _ _ _ _ h=>h,⟨fun _ _ _ _ _ _ c h=>PB.st sB c h,trivial⟩⟩)) mixed (by kernel_rfl)<|(gP) kX St.g6<|bP ?_;refine DP .r (fun _ d=>PV.dM dL cx rfl rfl (by omega))<|DP .r (fun _ d=>VA ak (Ow.tt (As.gs d.2.g1) (by rw [List.length_map];omega) cx QT) .r)<|nx ?_;refine DW.c1 (fun wx d hF=>eH (k:=(aH aa (j:Int))) (SD.ht (As.gf d.2.g5)) (SD.hu (As.gf d.2.g5)) (Ow.rd (As.gs d.2.g0) (by simp)) i.hb (ey g pL)) (by rw [HK])<|?_;refine DW.e rfl rfl rfl rfl rfl (fun wx d hF=>OX.alloc o0 rfl fun b wy nw hb=>⟨⟨Nat.le_trans d.1 nw.ext.size,d.2.step nw.ext⟩,nw.ext.p0,_,rfl,_,rfl,Nat.le_trans d.1 nw.ge,hb⟩)<|?_;rintro _ wz _ ⟨b9,rfl,_,_⟩;refine(cy) ?_;rintro w7 ⟨xS,dY⟩ ⟨vq,⟨_,_⟩⟩;have eu:=dY.pr vq sB xQ xR;refine(dh) fe eu fun w8 v7 nZ cQ=>?_;refine cB ?_;refine WC.br (σ:=Nat × wK × (List Nat) × (List (Key × Value)) × Bool × (List (Key × Value)) × (List ByteArray) × (Option Addr) × Nat × Nat × (Option Addr) × Nat × Nat) (cT:=fun(n,t,L2,iu,jY,gl,acc,l,f,o,ui,l6,uj)=>[(0,.pointer (some ⟨D.s,0,none⟩)),(4,.map (some X)),(5,.slice l f o),(6,.bool jY),(7,.int .i64 (idx:Int)),(8,.slice ui l6 uj),(9,.pointer (some ⟨b9,0,none⟩))]) (F:=fun(n,t,L2,iu,jY,gl,acc,l,f,o,ui,l6,uj)=>[As.os RR.key 39 2 l f o (L2.map fun j:Nat=>aH aa (j:Int)),As.os RR.str 9 1 ui l6 uj (acc),As.map Key.val D.m gl,As.map Key.val X iu,As.blk b9 144 [.bool t.done,.string t.value,.int .i64 t.ask.kind,.string t.ask.text]]) (I:=fun(n,t,L2,iu,jY,gl,acc,l,f,o,ui,l6,uj)=>(n≤aa[j].asks.length)∧(cG aa x.ab i0 L2 u1)∧(jb aa x.ab L2 u1 gl)∧(ko aa L2 u1 iu)∧(aM aa x.ab gl)∧(fj dt gl)∧(lR aa L2 u1≤lR aa L1 u1∧(jY=true→iP=true∨lR aa L2 u1<lR aa L1 u1))∧(jY=false→L2=L1∧iP=false)∧(L1 <+: L2)∧(Ev aa x.ab u1 L2 dt gl aa[j].asks n acc)∧(cm aa (aH aa (j:Int)) acc=t)∧True) (μ:=fun(n,t,L2,iu,jY,gl,acc,l,f,o,ui,l6,uj)=>aa[j].asks.length - n) (0,t,L1,IQ,iP,dt,[],l,f,o,none,0,0) (cQ.p4.p4.p3.p4) Sub.t (⟨by omega,CH,vp,Aj,F2,fj.refl _,⟨Nat.le_refl _,fun h=>.inl h⟩,fun h=>⟨rfl,h⟩,List.prefix_refl _,Ev.start,by rw [← HK,eE g pL],trivial⟩)<|?_;rintro⟨n,t,L2,iu,jY,gl,acc,l,f,o,ui,l6,uj⟩ w9 df ⟨hn,C,Ak,S,IU,xV,uA,QU,y,Fa,ht,_⟩;simp only [CA,NA] at df hn C Ak S IU xV uA QU y Fa ht ⊢;have Al:=((As.gs df.g0)).len;rw [List.length_map] at Al;have hna:=((As.gs df.g1)).len;have hL2:=C.len;have vi:=Fa.len;have ad9:=y.length_le;have LA:lR aa L2 u1≤lR aa L u∧(jY=true→lR aa L2 u1<lR aa L u):=⟨by omega,fun h=>by rcases uA.2 h with h1 | h1;have:=CI.2 h1;omega;omega⟩;refine(bp) di df.b4<|(aP) (fun Fb=>?_) fun Fb=>?_
   ·
    simp at Fb
    have Gt:n<aa[j].asks.length:=by
     rcases Nat.lt_or_ge n aa[j].asks.length with h | h
     ·
      exact h
     have h1:=fb i g (ai:=acc) (by rw [dp g];omega);rw [ht] at h1;rw [h1] at Fb;cases Fb
    obtain⟨a,zV,BB,QI⟩:=dq i g (ai:=acc) (by rw [dp g];omega);obtain⟨xq,Wu,Wv⟩:=QI CJ;rw [vi,ae Gt] at Wu
    simp at Wu
    rw [ht] at zV
    have C6:t.ask=a:=by rw [zV]
    have F8:bs aa aa[j].asks[n]=t.ask:=by rw [C6,Wv,Wu]
    have qe:aa[j].asks[n]∈aa[j].asks:=List.getElem_mem Gt;have HL:=CH.reach j oE;refine cB ?_;have QR:=df.bG;refine WC.dS (m:=11) df mixed<|(gP) eR St.g7<|(tu) ak St.g4<|?_;refine DP .r (fun _ d=>PV.nV cE cS j5 (As.gm d.2.g2) rfl rfl)<|(cy) ?_;rintro kl ⟨BC,de⟩ _;refine(aP) (fun QV=>?_) fun QV=>?_
    ·
     obtain⟨vv,Lu⟩:=Option.isSome_iff_exists.1 QV;have Lv:=IU _ vv Lu;obtain⟨sv,O⟩:∃s,s=valOf aa x.ab t.ask:=⟨_,rfl⟩
     have Am:=Fa.snoc sv (fun _ _=>by rw [F8];exact O) (fun h P k hk=>.inl (by
      obtain⟨En,LD,C4⟩:=gC i g CJ qe P hk;rw [F8] at C4;rw [C4] at Lu O;exact⟨by rw [O,fm i En,fQ i En LD],by rw [Lu];rfl⟩))
     refine WC.eqv (t:=10) (v':=.string sv) rfl (by rw [Lu,Lv,O];rfl)<|eL ?_;refine WL.go rfl (OX.aL (us:=[.string sv]) iS rfl rfl rfl rfl fun Ww lB An Ao=>?_);have K:=de.dD An Ao;refine WL.ap rfl rfl K.p2 (SR.cV (A:=fun _=>True) (x:=sv) (As.gb K.g0) trivial rfl (by simp [Value.oneCell']) rfl) fun a91 Ap pJ LF LG G=>?_;refine ct ?_;obtain⟨t2,U⟩:∃t,bC aa (aH aa (j:Int)) (acc++[sv])=t:=⟨_,rfl⟩
     have V:∀H:List Nat,L1 <+: H→(H.map fun j:Nat=>aH aa (j:Int))[idx]?=some (aH aa (j:Int)):=fun H h=>by
      rw [List.getElem?_map]
      have:=h.getElem N
      obtain⟨q,rfl⟩:=h;rw [List.getElem?_append_left N,po];rfl
     obtain⟨oz,W⟩:=Ow.addr (As.gs G.g2) (V _ (by first | exact y | exact y.trans (List.prefix_append _ _)));have LH:=G.bG;refine WC.dS (m:=9) G mixed<|(gP) kX St.g8<|bP ?_;refine DP .r (fun _ d=>PV.dM dL W rfl rfl (by omega))<|DP .r (fun _ d=>VA ak (Ow.tt (As.gs d.2.g2) (by simp only [List.length_map,List.length_append,List.length_cons,List.length_nil];omega) W (V _ (by first | exact y | exact y.trans (List.prefix_append _ _)))) .r)<|(cy) ?_;rintro rJ ⟨Fc,Q⟩ _;refine WL.c1 (u:=t2.val) (eH (k:=(aH aa (j:Int))) (SD.ht (As.gf Q.g7)) (SD.hu (As.gf Q.g7)) (Ow.rd (As.gs Q.g0) (by simp;omega)) i.hb (ey g pL)) (by rw [U]) Q fun yH s14 T=>?_;refine(dh) fe T.p5 fun v8 CC yG dU=>?_;refine bP ?_;refine dX (n+1,t2,L2,iu,jY,gl,_,l,f,o,a91,(l6+1),Ap) ⟨dU.p2.drop.p4.p4.p3.p4,⟨by omega,C,Ak,S,IU,xV,uA,QU,y,Am,by rw [← U,eE g pL],trivial⟩⟩
    have QV:ba gl t.ask=none:=by simpa using QV
    refine(jJ) ak de.b4<|(eZ) (dz (k:=t.ask)) de fun lB s11 K=>?_;refine(aP) (fun LI=>?_) fun LI=>?_
    ·
     simp at LI
     refine(jJ) ak K.b4<|?_;have G:=K.p2.p7;refine(cA) EN (hv j t.ask HL (by rw [C6];exact BB) LI _ _ _ _ G.e2 (As.gf G.g7) IU) ?_;rintro _ pJ ⟨Gz,rfl,Wx,Fe,Ff⟩;have Q:=St.lr G Ff;refine bP ?_;obtain⟨sv,O⟩:∃s,s=valOf aa x.ab t.ask:=⟨_,rfl⟩
     have Am:=(Fa.mono (fun _ h=>h) Fe).snoc sv (fun _ _=>by rw [F8];exact O) (fun h P k hk=>by
      obtain⟨En,LD,C4⟩:=gC i g CJ qe P hk;rw [F8] at C4;rw [C4,bf En (by omega),LD] at LI;cases LI)
     refine EX.eqv (t:=10) (v':=.string sv) rfl (by rw [O])<|fZ ?_;refine WL.go rfl (OX.aL (us:=[.string sv]) iS rfl rfl rfl rfl fun Ww rJ An Ao=>?_);have T:=Q.dD An Ao;refine WL.ap rfl rfl T.p4 (SR.cV (A:=fun _=>True) (x:=sv) (As.gb T.g0) trivial rfl (by simp [Value.oneCell']) rfl) fun a91 Ap yH LF LG dU=>?_;refine ct ?_;obtain⟨t2,U⟩:∃t,bC aa (aH aa (j:Int)) (acc++[sv])=t:=⟨_,rfl⟩
     have V:∀H:List Nat,L1 <+: H→(H.map fun j:Nat=>aH aa (j:Int))[idx]?=some (aH aa (j:Int)):=fun H h=>by
      rw [List.getElem?_map]
      have:=h.getElem N
      obtain⟨q,rfl⟩:=h;rw [List.getElem?_append_left N,po];rfl
     obtain⟨oz,W⟩:=Ow.addr (As.gs dU.g4) (V _ (by first | exact y | exact y.trans (List.prefix_append _ _)));have LH:=dU.bG;refine WC.dS (m:=9) dU mixed<|(gP) kX St.g2<|bP ?_;refine DP .r (fun _ d=>PV.dM dL W rfl rfl (by omega))<|DP .r (fun _ d=>VA ak (Ow.tt (As.gs d.2.g4) (by simp only [List.length_map,List.length_append,List.length_cons,List.length_nil];omega) W (V _ (by first | exact y | exact y.trans (List.prefix_append _ _)))) .r)<|(cy) ?_;rintro v8 ⟨Fc,ew⟩ _;refine WL.c1 (u:=t2.val) (eH (k:=(aH aa (j:Int))) (SD.ht (As.gf ew.g8)) (SD.hu (As.gf ew.g8)) (Ow.rd (As.gs ew.g0) (by simp;omega)) i.hb (ey g pL)) (by rw [U]) ew fun xW s16 jj=>?_;refine(dh) fe jj.p6 fun CK Nl Nn dE=>?_;refine bP ?_;refine dX (n+1,t2,L2,iu,jY,Gz,_,l,f,o,a91,(l6+1),Ap) ⟨dE.p2.drop.p7.p7.p2.p7.p6.p5.p7,⟨by omega,C,Ak.mono i C Fe,S,Wx,xV.trans Fe,uA,QU,y,Am,by rw [← U,eE g pL],trivial⟩⟩
    simp at LI
    have mY:outside aa aa[j].asks[n]=false:=by
     cases P:outside aa aa[j].asks[n]
     ·
      rfl
     have:=gB i g CJ qe P;rw [F8,LI] at this;cases this
    obtain⟨z,Wz,Da,IV⟩:=fH i g CJ qe mY;rw [F8] at Da;have Fg:=Wz.lt.2.2.2
    have rK:ba dt (aH aa (z:Int))=none:=by
     cases h:ba dt (aH aa (z:Int)) with
     | none=>rfl
     | some v=>have:=xV _ _ h;rw [← Da,QV] at this;cases this
    have WA:∀k:Nat,aa[j].asks[n].n=k→k=z:=fun k hk=>by
     obtain⟨En,LD,C4⟩:=gC i g CJ qe mY hk;rw [F8,Da] at C4;exact(dy i IV En C4).symm
    refine(jJ) ak K.b4<|?_;refine WP .r (PV.nV cE cS j5 (As.gm K.g3) rfl rfl)<|?_;refine aN ?_;refine(aP) (fun HM=>?_) fun HM=>?_
    ·
     simp at HM
     have LJ:z∉L2:=fun h=>by have:=S.1 z h;rw [← Da,HM] at this;cases this
     have hk0:=C.out z LJ;have hre:cq aa i0 z:=.step (C.reach j (y.subset oE)) Wz;have WE:=C.meet IV Fg LJ hre;have vY:=C.AX IV Fg LJ hre;have Tk:=wT (v:=u1) (j:=z) vY;have LK:=S.meet i (fun k hk=>(C.ring k hk).1) IV LJ hk0;rw [← Da] at LK
     have HN:mq t.ask=⟨#[48]⟩:=by rw [Da];exact oR IV (by omega) Fg
     refine nx ?_;have aec:=K.bG;refine WC.cJ (m:=6) (E:=bS [(5,fun v _=>v=.string ⟨#[48]⟩)]) K (aU (⟨fun _ _ _ _ _ _ _ h=>h,trivial⟩)) mixed (by kernel_rfl)<|(tu) ak St.g4<|(tu) ak St.g4<|?_;refine DW.c1 (fun wx d hF=>nE (k:=t.ask)) (by rw [HN])<|(cy) ?_;rintro pJ ⟨aaD,G⟩ ⟨_,_⟩;refine WL.go rfl (OX.put cE cS (As.gm G.g3) rfl rfl rfl fun rJ LL LM=>?_);have Q:=G.p3.iE LL LM;refine(jJ) ak Q.b4<|?_;refine WL.go rfl (OX.aL (us:=t.ask.cells) dc rfl rfl rfl rfl fun b71 yH WG WJ=>?_);have T:=Q.dD WG WJ;refine WL.ap rfl rfl T.p2 (SR.cV (A:=fun _=>True) (x:=t.ask) (As.gb T.g0) trivial rfl (by simp [Key.cells,Value.oneCell']) rfl) fun a72 WM v8 aed aee dU=>?_;refine ct ?_;have ew:=dU.Jx (show(L2.map fun j:Nat=>aH aa (j:Int))++[t.ask]=(L2++[z]).map fun j:Nat=>aH aa (j:Int) by rw [List.map_append,Da];rfl);have rL:=LK.1 z (by simp);rw [← Da] at rL;have Tl:∀s,s=itoa (u1 z:Int)→Ev aa x.ab u1 (L2++[z]) dt gl aa[j].asks (n+1) (acc++[s]):=fun s hs=>(Fa.mono (fun _ h=>by simp [h]) (fj.refl _)).snoc s (fun h P=>by rw [mY] at P;cases P) (fun h P k hk=>by have:=WA k hk;subst this;exact .inr ⟨hs,by simp,rK⟩);refine(jJ) ak ew.b5<|?_;refine WP .r (PV.gO cE cS j5 (As.gm ew.g2) (rL) rfl rfl)<|bP ?_;obtain⟨sv,O⟩:∃s,s=itoa (u1 z:Int):=⟨_,rfl⟩;have Am:=Tl sv O;refine EX.eqv (t:=10) (v':=.string sv) rfl (by rw [O])<|fZ ?_;refine WL.go rfl (OX.aL (us:=[.string sv]) iS rfl rfl rfl rfl fun Ww xW An Ao=>?_);have jj:=ew.dD An Ao;refine WL.ap rfl rfl jj.p4 (SR.cV (A:=fun _=>True) (x:=sv) (As.gb jj.g0) trivial rfl (by simp [Value.oneCell']) rfl) fun a91 Ap CK LF LG dE=>?_;refine ct ?_;obtain⟨t2,U⟩:∃t,bC aa (aH aa (j:Int)) (acc++[sv])=t:=⟨_,rfl⟩
     have V:∀H:List Nat,L1 <+: H→(H.map fun j:Nat=>aH aa (j:Int))[idx]?=some (aH aa (j:Int)):=fun H h=>by
      rw [List.getElem?_map]
      have:=h.getElem N
      obtain⟨q,rfl⟩:=h;rw [List.getElem?_append_left N,po];rfl
     obtain⟨oz,W⟩:=Ow.addr (As.gs dE.g2) (V _ (by first | exact y | exact y.trans (List.prefix_append _ _)));have LH:=dE.bG;refine WC.dS (m:=9) dE mixed<|(gP) kX St.g9<|bP ?_;refine DP .r (fun _ d=>PV.dM dL W rfl rfl (by omega))<|DP .r (fun _ d=>VA ak (Ow.tt (As.gs d.2.g2) (by simp only [List.length_map,List.length_append,List.length_cons,List.length_nil];omega) W (V _ (by first | exact y | exact y.trans (List.prefix_append _ _)))) .r)<|(cy) ?_;rintro Db ⟨Fc,jH⟩ _;refine WL.c1 (u:=t2.val) (eH (k:=(aH aa (j:Int))) (SD.ht (As.gf jH.g8)) (SD.hu (As.gf jH.g8)) (Ow.rd (As.gs jH.g0) (by simp;omega)) i.hb (ey g pL)) (by rw [U]) jH fun Fh s19 ic=>?_;refine(dh) fe ic.p6 fun HO Tm Tn fh=>?_;refine bP ?_;refine dX (n+1,t2,L2++[z],_,true,gl,_,a72,(f+1),WM,a91,(l6+1),Ap) ⟨fh.p2.drop.p3.drop.p3.p4.p3.p4,⟨by omega,WE,Ak.meet hk0,LK,IU,xV,⟨Nat.le_of_lt (Nat.lt_of_lt_of_le Tk uA.1),fun _=>.inr (Nat.lt_of_lt_of_le Tk uA.1)⟩,(fun h=>by cases h),y.trans (List.prefix_append _ _),Am,by rw [← U,eE g pL],trivial⟩⟩
    simp at HM
    have LJ:z∈L2:=by
     by_cases h:z∈L2
     ·
      exact h
     have:=S.2 (aH aa (z:Int)) (fun k hk e=>h (by have:=dy i IV (C.ring k hk).1 e;rw [this];exact hk));rw [← Da] at this;rw [this] at HM;cases HM
    have rL:=S.1 z LJ;rw [← Da] at rL;have Tl:∀s,s=itoa (u1 z:Int)→Ev aa x.ab u1 L2 dt gl aa[j].asks (n+1) (acc++[s]):=fun s hs=>Fa.snoc s (fun h P=>by rw [mY] at P;cases P) (fun h P k hk=>by have:=WA k hk;subst this;exact .inr ⟨hs,LJ,rK⟩);refine(jJ) ak K.b4<|?_;refine WP .r (PV.gO cE cS j5 (As.gm K.g3) (rL) rfl rfl)<|bP ?_;obtain⟨sv,O⟩:∃s,s=itoa (u1 z:Int):=⟨_,rfl⟩;have Am:=Tl sv O;refine EX.eqv (t:=10) (v':=.string sv) rfl (by rw [O])<|fZ ?_;refine WL.go rfl (OX.aL (us:=[.string sv]) iS rfl rfl rfl rfl fun Ww pJ An Ao=>?_);have G:=K.dD An Ao;refine WL.ap rfl rfl G.p2 (SR.cV (A:=fun _=>True) (x:=sv) (As.gb G.g0) trivial rfl (by simp [Value.oneCell']) rfl) fun a91 Ap rJ LF LG Q=>?_;refine ct ?_;obtain⟨t2,U⟩:∃t,bC aa (aH aa (j:Int)) (acc++[sv])=t:=⟨_,rfl⟩
    have V:∀H:List Nat,L1 <+: H→(H.map fun j:Nat=>aH aa (j:Int))[idx]?=some (aH aa (j:Int)):=fun H h=>by
     rw [List.getElem?_map]
     have:=h.getElem N
     obtain⟨q,rfl⟩:=h;rw [List.getElem?_append_left N,po];rfl
    obtain⟨oz,W⟩:=Ow.addr (As.gs Q.g2) (V _ (by first | exact y | exact y.trans (List.prefix_append _ _)));have LH:=Q.bG;refine WC.dS (m:=9) Q mixed<|(gP) kX St.g8<|bP ?_;refine DP .r (fun _ d=>PV.dM dL W rfl rfl (by omega))<|DP .r (fun _ d=>VA ak (Ow.tt (As.gs d.2.g2) (by simp only [List.length_map,List.length_append,List.length_cons,List.length_nil];omega) W (V _ (by first | exact y | exact y.trans (List.prefix_append _ _)))) .r)<|(cy) ?_;rintro yH ⟨Fc,T⟩ _;refine WL.c1 (u:=t2.val) (eH (k:=(aH aa (j:Int))) (SD.ht (As.gf T.g7)) (SD.hu (As.gf T.g7)) (Ow.rd (As.gs T.g0) (by simp;omega)) i.hb (ey g pL)) (by rw [U]) T fun v8 s15 dU=>?_;refine(dh) fe dU.p5 fun xW WN WO ew=>?_;refine bP ?_;refine dX (n+1,t2,L2,iu,jY,gl,_,l,f,o,a91,(l6+1),Ap) ⟨ew.p2.drop.p4.p4.p3.p4,⟨by omega,C,Ak,S,IU,xV,uA,QU,y,Am,by rw [← U,eE g pL],trivial⟩⟩
   simp at Fb
   have Gt:n=aa[j].asks.length:=by
    rcases Nat.lt_or_ge n aa[j].asks.length with h | h
    ·
     obtain⟨a,h1,_⟩:=dq i g (ai:=acc) (by rw [dp g];omega);rw [ht] at h1;rw [h1] at Fb;cases Fb
    omega
   subst Gt;obtain⟨Dc,LN,LO,Np,IW⟩:=Fa.val i C g CJ;have LP:dJ (u1 j) (dN aa[j].c.toNat (acc.map bZ)):=fun b hb=>LO b (vp j oE b hb);obtain⟨val,rM⟩:∃v,dN aa[j].c.toNat (acc.map bZ)=v:=⟨_,rfl⟩;rw [rM] at Dc LN LP Np IW
   have WQ:t.value=itoa (val:Int):=by
    have h1:=fb i g (ai:=acc) (by rw [dp g];omega);rw [ht] at h1;rw [h1,(qy i g CJ).1,← rM];rfl
   have uk:j∈L2:=y.subset oE;have IX:=y.length_le
   have LQ:L2[idx]?=some j:=by obtain⟨q,rfl⟩:=y;rw [List.getElem?_append_left N];exact po
   have HP:(L2.map fun j:Nat=>aH aa (j:Int))[idx]?=some (aH aa (j:Int)):=by rw [List.getElem?_map,LQ];rfl
   refine fZ ?_;obtain⟨CL,iC⟩:=Ow.addr (As.gs df.g0) HP;have aef:=df.bG;refine WC.dS (m:=8) df mixed<|ct ?_;refine DP .r (fun _ d=>PV.dM dL iC rfl rfl (by omega))<|DP .r (fun _ d=>VA ak (Ow.tt (As.gs d.2.g0) (by rw [List.length_map];omega) iC HP) .r)<|DP .r (fun _ d=>PV.gO cE cS j5 (As.gm d.2.g3) (S.1 j uk) rfl rfl)<|(gP) eV St.g4<|(cy)<|?_;rintro kl ⟨aaE,de⟩ _;refine(aP) (fun lG=>?_) fun lG=>?_
   ·
    simp at lG
    rw [WQ] at lG;have Dp:u1 j≠val:=fun e=>lG (by rw [e]);have QW:=AY C uk Dc LP Dp;obtain⟨QX,pd⟩:=Ow.addr (As.gs de.g0) HP;have aeg:=de.bG;refine WC.cJ (m:=9) (E:=bS [(7,fun v w'=>∃vv st,v=.tuple #[vv,.int .i64 ((st:Nat):Int)]∧KE Key.val w' X iu (aH aa (j:Int)) st)]) de (jr (⟨⟨trivial,trivial⟩,trivial⟩)) mixed (by kernel_rfl)<|ct ?_;refine DP .r (fun _ d=>PV.dM dL pd rfl rfl (by omega))<|DP .r (fun _ d=>VA ak (Ow.tt (As.gs d.2.g0) (by rw [List.length_map];omega) pd HP) .r)<|(gP) eV St.g4<|?_;refine DW.e rfl rfl rfl rfl rfl (fun wx d hF=>OX.Jt cE cS j5 (As.gm d.2.g3) rfl rfl rfl fun wy st vv sx hsz HQ=>?_)<|?_
    ·
     have hg:=S.1 j uk;rw [hg] at HQ;rw [Option.getD_some,tz hg] at HQ;exact⟨⟨Nat.le_trans d.1 sx.size,d.2.same (A:=As.map Key.val X iu) (by simp) (sx.p.mono fun x _ hx=>by simpa [As.map] using hx) HQ.km⟩,sx.p.mono (fun x _ hx=>AQ (A:=As.map Key.val X iu) (by simp) (by simpa [As.map] using hx)),_,rfl,_,_,rfl,HQ⟩
    rintro _ wz _ ⟨WR,ic,rfl,_⟩;refine(cy) ?_;rintro lB ⟨aaF,K⟩ ⟨Lx,_⟩;obtain⟨_,_,Fi,xX⟩:=Lx;simp only [Value.tuple.injEq,Array.mk.injEq,List.cons.injEq,Value.int.injEq,true_and,and_true] at Fi;have LS:=Int.natCast_inj.1 Fi.2;rw [← LS] at xX;refine WL.go rfl (OX.yV xX rfl rfl rfl fun pJ LU _ LV=>?_);have G:=K.p3.iE LU LV;rw [WQ] at G;refine px ?_;refine dX (idx+1,L2,jW u1 j val,bY iu (aH aa (j:Int)) (.string (itoa (val:Int))),true,gl,l,f,o) ⟨G.p2.drop.p3.drop.p2.p2,⟨Nat.le_trans N IX,C.set uk Dc LN,Ak.set i C uk Dc LN LP Np,S.set i (fun k hk=>(C.ring k hk).1) uk val,IU,vm.trans xV,⟨Nat.le_of_lt (Nat.lt_of_lt_of_le QW LA.1),fun _=>Nat.lt_of_lt_of_le QW LA.1⟩,(fun h=>by cases h),trivial⟩⟩
   simp at lG
   rw [WQ] at lG;have lG:u1 j=val:=wQ (by have:=C.le j;omega) (by omega) lG;refine jx ?_
   refine dX (idx+1,L2,u1,iu,jY,gl,l,f,o) ⟨de.p1.drop.p3.drop,⟨Nat.le_trans N IX,C,Ak,S,IU,vm.trans xV,LA,fun h m k hm hk=>by
      obtain⟨e1,e2⟩:=QU h;subst e1
      by_cases e:m=idx
      ·
       subst e;rw [po] at hk
       simp at hk;subst hk
       exact IW (lG ▸ rfl)
      exact rI e2 m k (by omega) hk,trivial⟩⟩
  simp at Ws
  refine cW ?_;refine EX.again (L1,u1,IQ,iP,dt,l,f,o) Sub.t ⟨ji,⟨CH,vp,Aj,F2,vm,fun h j hj=>by obtain⟨m,hm,rfl⟩:=List.mem_iff_getElem.1 (show j∈L1 from hj);exact rI h m _ (by omega) (ae hm),trivial⟩⟩ (by simp only [];cases iP <;> simp at CI ⊢ <;> omega)
 have g23:ch=false:=g23;have D1:=se g23;have Fj:=C9.done i D1;refine fZ ?_;have WS:=((As.gs jn.g0)).len;rw [List.length_map] at WS;have hL7:=C9.len;refine eL ?_;refine WC.br (σ:=Nat × (List (Key × Value))) (cT:=fun(J,HR)=>[(0,.pointer (some ⟨D.s,0,none⟩)),(4,.map (some X)),(120,.slice l f o),(121,.int .i64 (f:Int)),(122,.int .i64 (J:Int))]) (F:=fun(J,HR)=>[As.map Key.val D.m HR]) (I:=fun(J,HR)=>(J≤L.length)∧(aM aa x.ab HR)∧(fj ml HR)∧(∀m j,m<J→L[m]?=some j→ba HR (aH aa (j:Int))=some (.string (valOf aa x.ab (aH aa (j:Int)))))∧True) (μ:=fun(J,HR)=>L.length - J) (0,Y) (jn.p1) Sub.t (⟨by omega,F7,Ai,fun m j h=>by omega,trivial⟩)<|?_;rintro⟨J,HR⟩ w6 ji ⟨hi7,To,LW,WT,_⟩;simp only [CA,NA] at ji hi7 To LW WT ⊢;refine(aP) (fun Aq=>?_) fun Aq=>?_
 ·
  simp at Aq
  have QY:J<L.length:=by omega
  obtain⟨j,xU⟩:∃j,L[J]=j:=⟨_,rfl⟩
  have po:L[J]?=some j:=by rw [ae QY,xU]
  have oE:j∈L:=xU ▸ List.getElem_mem QY;obtain⟨g,CJ⟩:=C9.ring j oE;have QZ:=IP.1 j oE;rw [Fj j oE,← fQ i g CJ,← fm i g] at QZ;refine cW ?_
  have hx7:(L.map fun j:Nat=>aH aa (j:Int))[J]?=some (aH aa (j:Int)):=by rw [List.getElem?_map,po];rfl
  obtain⟨aei,IY⟩:=Ow.addr (As.gs ji.g1) hx7;refine nx ?_;refine WP .r (PV.dM dL IY rfl rfl (by omega))<|(bj) ak (Ow.tt (As.gs ji.g1) (by rw [List.length_map];omega) IY hx7)<|(ft) ji fun Th w7 LX Fk kz=>?_;refine(dh) gi kz fun w8 ss7 hs7 dY=>?_;refine bP ?_;have aej:=dY.bG;refine WC.dS (m:=8) dY mixed<|(gP) eR St.g6<|(fk) ak St.g0<|(fk) ak St.g0<|?_;refine DP .r (fun _ d=>PV.gO cE cS j5 (As.gm d.2.g3) (QZ) rfl rfl)<|(cy)<|?_;rintro w9 ⟨aaJ,eu⟩ _;refine WL.go rfl (OX.put cE cS (As.gm eu.g1) rfl rfl rfl fun kl WV WW=>?_);have cQ:=eu.p1.iE WV WW;refine eL ?_
  refine dX (J+1,_) ⟨cQ.p1.drop,⟨by omega,To.put _,LW.trans (fj.put To _),fun m k hm hk=>by
     rw [cY]
     split
     ·
      rename_i e;rw [e]
     rename_i e
     refine WT m k ?_ hk
     rcases Nat.lt_or_ge m J with h | h
     ·
      exact h
     have:m=J:=by omega
     subst this;rw [po] at hk;simp at hk;subst hk;exact absurd rfl e,trivial⟩⟩
 simp at Aq
 obtain⟨mm,F9,Q0⟩:=List.mem_iff_getElem.1 C9.first;have CN:=WT mm i0 (by omega) (by rw [ae F9,Q0]);refine cB ?_;refine EX.pX (.inr rfl) rfl<|?_;exact⟨HR,rfl,To,LW,CN,ji.p5.k2⟩
theorem Fl(f:ao aa):∀i,i<aa.length→CD aa x D (aH aa (i:Int)):=by
 intro i
 induction i using Nat.strongRecOn with
 | _ i l=>
  intro hi;have t:=f.len
  have q:∀a,aA a=false→(aw a=true∨∃m,m<i∧m<aa.length∧a=aH aa (m:Int))→CD aa x D a:=fun a _ b w M Z ml h1 c d=>by
   rcases b with b | ⟨m,hm,g,rfl⟩
   ·
    exact jh h1 c d b
   exact l m hm g w M Z ml h1 c d
  have o:∀a,(aw a=true∨∃m,m<i∧m<aa.length∧a=aH aa (m:Int))→CD aa x D a:=fun a b w M Z ml h1 c d=>by
   rcases b with b | ⟨m,hm,g,rfl⟩
   ·
    exact jh h1 c d b
   exact l m hm g w M Z ml h1 c d
  intro w M Z ml h1 c d;refine vo h1 c d f hi (fun hc w M Z ml h1 c d=>?_) fun a b hc=>o a ?_
  ·
   rw [bf hi (by omega)] at hc;refine xT h1 c d f hi hc fun j a p r h=>q a h ?_;have s:=gA hi hc p;have o:=ir f p;have hle:=eD aa i
   rcases r with⟨n,e,rfl⟩ | ⟨m,e,rfl,_,_,_,k⟩
   ·
    exact .inl (aZ (by omega))
   rw [bf e (by omega)] at h;exact .inr ⟨m,by have:=k h s.2;omega,e,rfl⟩
  rw [bf hi (by omega)] at hc
  rcases b with⟨n,e,rfl⟩ | ⟨m,e,rfl,_,k,_⟩
  ·
   exact .inl (aZ (by omega))
  exact .inr ⟨m,k hc,e,rfl⟩
theorem um(a:ao aa) {k:Key}(hk:eU aa k):CD aa x D k:=by
 cases hk with
 | cell h=>exact fun w M Z ml h1 b c=>jh h1 b c (aZ h)
 | fl h _=>exact Fl a _ h
end Go.Rc

