/- Walks over the program, part WUa. Conditions: as each theorem says. -/
import Derived.Test.YtilldnlhckpbjaaGreatDoorQFacts
import Derived.Test.YtilldnlhckpbjaaGreatDoorQWT
import Derived.Test.YtilldnlhckpbjaaGreatDoorQBe
import Derived.Test.YtilldnlhckpbjaaGreatDoorQBf
import Derived.Test.YtilldnlhckpbjaaGreatDoorQWB
import Derived.Test.YtilldnlhckpbjaaGreatDoorQBg
import Derived.Test.YtilldnlhckpbjaaGreatDoorShelf
import Derived.Test.YtilldnlhckpbjaaGreatDoorQWN
import Derived.Test.YtilldnlhckpbjaaGreatDoorQBc
set_option linter.all false
namespace Go.Rc
open Go Go.Proofs Go.Proofs.Tryz
variable {aa:List aG}{x:cB}{D:SD}{w:World}{M Z:Nat→Prop}{al dj:List (Key × Value)}{i0 j n bk bv bn mm bo bc ln lc c:Nat}{L1:List Nat}{iX:Bool}{la a:Option Addr}{k:Key}{l:List Key}{f:FuncId}
set_option maxHeartbeats 400000
set_option maxHeartbeats 1600000 in
set_option maxRecDepth 100000 in
theorem yh{u1:Nat→Nat}{L2:List Nat}{j8:Bool}{gp iz:List (Key × Value)}{acc:List ByteArray}(gJ:St w M Z w [As.map Key.val D.m gp,As.map Key.val D.q al,As.blk bk 43 (aN aa (i0:Int)).cells,As.blk bv 93 [.pointer (some ⟨D.s,0,none⟩)],As.blk bn 136 [.map (some mm)],As.map Key.val mm iz,As.blk bo 38 [.slice la ln lc],As.os RR.key 43 2 la ln lc ((L2).map fun j:Nat=>aN aa (j:Int)),As.blk bc 4 [.bool j8]]) (Q:(D.FV prog aa x).p Z w) (h:ao aa) (R:∀k,(valOf aa x.ab k).size≤1000) (Mn:i0<aa.length) (F1:aA aa i0=true) (y:j<aa.length) (hr:aA aa j=true) (oI:j∈L1) (wE:jz aa i0 al) (Np:bd aa j≤i0) (ih:∀a,dB aa j a→ax a=false→Jd aa x D a) (hn:n<aa[j].asks.length) (i:RI aa x.ab i0 aa[j].asks u1 L1 iX dj n L2 iz j8 gp acc) {a:Key}(g:(bm aa aa[j].asks[n])=a) (z:dB aa j (bm aa aa[j].asks[n])):Calls prog 265 #[a.val,.pointer (some ⟨bk,0,none⟩),.pointer (some ⟨bv,0,none⟩),.pointer (some ⟨bn,0,none⟩),.pointer (some ⟨bo,0,none⟩),.pointer (some ⟨bc,0,none⟩)] w fun e w'=>∃L' S T U V W X s,e=.returned (.string s)∧s.size≤1000∧RI aa x.ab i0 aa[j].asks u1 L1 iX dj (n+1) L' S T U (acc++[s])∧St w M Z w' [As.map Key.val D.m U,As.map Key.val D.q al,As.blk bk 43 (aN aa (i0:Int)).cells,As.blk bv 93 [.pointer (some ⟨D.s,0,none⟩)],As.blk bn 136 [.map (some mm)],As.map Key.val mm S,As.blk bo 38 [.slice V W X],As.os RR.key 43 2 V W X ((L').map fun j:Nat=>aN aa (j:Int)),As.blk bc 4 [.bool T]]:=by
 have CT:=h.len;have H:=z.Nk h
 have Y:(aN aa (i0:Int)).kind=32:=by rw [dn Mn (by omega),F1];rfl
 have V4:=i.rd.len;rw [g] at z H;refine enter func265 rfl ntmps265 rfl<|?_;have aO:=gJ;have st1:=aO.fact (B:=As.fz (D.FV prog aa x)) Q (fun _ I=>I);have st2:=st1.fact (B:=As.rg D.s 0 (D.cells x)) (SD.FV.rg Q) (fun _ I=>I);refine(dx) st2 fun b6 w1 Lx Wx o=>?_;refine(bp) aP o.b0<|nx ?_;refine WP .r (PV.ld1 (j:=0) aP o.b5 rfl rfl)<|(aX) (fun g16=>?_) fun g16=>?_
 ·
  simp at g16
  rw [Y] at g16
  have hc:ax a=false:=by rw [H];simpa using g16
  refine bM ?_;refine WP .r (PV.ky ud (bJ.range (As.gb o.g6)) rfl rfl)<|(bP) ak o.b0<|?_;have d:=o.p4.p4;refine(cJ) Br (ih a z hc _ _ _ _ _ d.e2 (As.gf d.g4) i.m (fun hia=>z.al h hr hc hia Np wE)) ?_;rintro _ w2 ⟨Gq,rfl,V8,Fc,Mo⟩;have C:=St.lr d Mo;refine(bB) ?_;exact⟨L2,iz,j8,Gq,_,_,_,_,rfl,R _,g ▸ i.low h y hr hn (g ▸ hc) V8 Fc,C.p2.drop.p2.drop.p2.drop⟩
 simp at g16
 rw [Y] at g16
 have hc:ax a=true:=by rw [H];simpa using g16
 refine cw ?_;have CZ:=o.bL;refine WC.dS (m:=10) o mixed<|?_;refine DP .r (fun _ t=>PV.ky ud (bJ.range (As.gb t.2.g6)) rfl rfl)<|bM ?_;refine DP .r (fun _ t=>PV.ld1 (j:=4) eZ (As.nS t.2.g1) rfl rfl)<|(gy) ak St.g0<|?_;refine DP .r (fun _ t=>PV.kF cE cZ jX (As.gm t.2.g3) rfl rfl)<|(cM) ?_;rintro w2 ⟨xV,d⟩ _;refine(aX) (fun J=>?_) fun J=>?_
 ·
  obtain⟨vv,K⟩:=Option.isSome_iff_exists.1 J;have LJ:=i.m _ vv K;refine(bB) ?_;exact⟨L2,iz,j8,gp,_,_,_,_,by rw [K,LJ];rfl,R _,g ▸ i.done h y hr hn (g ▸ K),d.drop.drop.drop⟩
 have FR:bq gp a=none:=by simpa using J
 refine dp ?_;refine WP .r (PV.ky eZ (bJ.range (As.gb d.g7)) rfl rfl)<|(bP) ak d.b0<|?_;refine WP .r (PV.kF cE cZ jX (As.gm d.g8) rfl rfl)<|?_;refine aT ?_;refine(aX) (fun u=>?_) fun u=>?_
 ·
  simp at u
  obtain⟨kk,L,Fe,QT,E⟩:=i.meet h y hr oI hn (g ▸ hc) (g ▸ FR) (g ▸ u);rw [g] at L E;have vl:=((As.gs d.g10)).len;rw [List.length_map] at vl;refine WC.cu (m:=8) [] [3,7] [2,3,4,5,6,7,0,1] [(6,.sl 43 1 a.cells)] d (av.k4 M0 M1 M2 M3<|av.k4 M4 M5 M6 M7<|av.cons M8<|av.cons M9<|av.cons pV<|av.nil) mixed (by kernel_rfl) (by kernel_rfl) rfl<|(mQ) ak SV.g0<|(gK) (fun w3 R3x aeu C aa4=>?_);simp only [CA,NA] at C;refine OX.call I6 rfl rfl ((nM (k:=a) (by rw [L,dn Fe (by omega),QT];rfl)).mono ?_);rintro _ w4 ⟨rfl,s4⟩;have jr:=C.step s4;refine⟨_,rfl,s4.size,_,rfl,_,_,_,jr,aC.k4<|aC.k4<|aC.k4<|aC.nil,av.k4 M0 M1 M2 M3<|av.k4 M4 M5 M6 M7<|av.cons M8<|av.cons M9<|av.cons pV<|av.nil,?_⟩;refine DQ .r (fun wx Zx Rx _ v N=>PV.ky fG (bJ.range (As.gb (v.sv N).g9)) rfl rfl)<|(mQ) ak SV.g0<|?_;refine DG.side (s:=.sl 43 1 a.cells) rfl rfl rfl rfl rfl rfl (fun wx Zx Rx su v=>OX.aS (us:=a.cells) du rfl rfl rfl rfl fun b wy nw hb=>⟨nw.ext.size,_,rfl,⟨b,rfl⟩,v.df nw hb⟩)<|?_;rintro _ ⟨b45,rfl⟩;refine(gK) (fun w5 R7x W1 F Jg=>?_);simp only [CA,NA] at F;refine OX.mX nG rfl rfl rfl (As.gs F.g10) (SR.dr (A:=fun _=>True) (x:=a) (show bJ _ b45 _ _ from F.ok _ (.tail _ (.tail _ (.tail _ (.tail _ (.tail _ (.tail _ (.tail _ (.tail _ (.tail _ (.tail _ (.tail _ (.tail _ (Jg _ (.head _))))))))))))))) trivial rfl (by simp [Key.cells,Value.oneCell']) rfl) (by omega) (by omega) (Nat.zero_le _) fun a46 aex w6 W2 s46 W3 aey=>?_;have im:=F.qq.gN s46 W2 W3;refine⟨s46.size,_,rfl,_,_,_,im,aC.k4<|aC.k4<|aC.k4<|aC.nil,av.k4 M1 M2 M3 M4<|av.k4 M5 M6 M7 M8<|av.cons M9<|av.cons nU<|av.cons pV<|av.nil,?_⟩;refine DQ .r (fun wx Zx Rx _ v N=>PV.ky eZ (bJ.range (As.gb (v.sv N).g7)) rfl rfl)<|(mQ) ak SV.g0<|(ly)<|?_;intro w7 Ae O;simp only [CM,NM,CA,NA,iK.it] at O;refine WL.go rfl (OX.JJ cE cZ jX (As.gm O.g10) rfl rfl rfl fun w8 stx vvx smx aeA Ra=>?_);have fw:=O.qq.iu smx Ra.km;refine nx ?_;refine WL.go rfl (OX.y2 Ra rfl rfl rfl fun w9 sex _ hmx=>?_);have eC:=fw.iu sex hmx;refine WL.s0 eC.pC fun lI _ eQ=>?_;refine WL.s0 eQ.qt fun mH _ dG=>?_;refine WL.nil (EX.np ?_);have dX:=dG.p2.sr (B:=As.map Key.val mm (cF iz a (.string ⟨#[48]⟩))) (by rw [tD]);have G:=dX.p4.N4 (show((L2).map fun j:Nat=>aN aa (j:Int))++[a]=((L2++[kk])).map fun j:Nat=>aN aa (j:Int) by rw [List.map_append,L];rfl)
  have P:bq (cF iz a (.string ⟨#[48]⟩)) a=some (.string ⟨#[48]⟩):=by rw [dz,if_pos rfl]
  refine cv ?_;refine WP .r (PV.ky eZ (bJ.range (As.gb G.g12)) rfl rfl)<|(bP) ak G.b5<|?_;refine WP .r (PV.bF cE cZ jX (As.gm G.g1) (P) rfl rfl)<|(bB) ?_;exact⟨_,_,_,_,_,_,_,_,rfl,by decide,E,G.p4.drop.p4.drop.p4.drop.p4.drop.p3.p2.p8.p8.p8.p8.p8⟩
 simp at u
 obtain⟨v9,hv9⟩:=Option.isSome_iff_exists.1 u;obtain⟨s9,rfl,Tc,E⟩:=i.Oq h y hr hn (g ▸ hc) (g ▸ FR) (g ▸ hv9);have P:=hv9;refine cw ?_;refine WP .r (PV.ky eZ (bJ.range (As.gb d.g7)) rfl rfl)<|(bP) ak d.b0<|?_;refine WP .r (PV.bF cE cZ jX (As.gm d.g8) (P) rfl rfl)<|(bB) ?_;exact⟨_,_,_,_,_,_,_,_,rfl,Tc,E,d.drop.drop.drop⟩
set_option maxHeartbeats 3200000 in
theorem yi{u1:Nat→Nat}{U:List (Key × Value)}(gJ:St w M Z w [As.map Key.val D.m dj,As.map Key.val D.q al,As.blk bk 43 (aN aa (i0:Int)).cells,As.blk bv 93 [.pointer (some ⟨D.s,0,none⟩)],As.blk bn 136 [.map (some mm)],As.map Key.val mm U,As.blk bo 38 [.slice la ln lc],As.os RR.key 43 2 la ln lc ((L1).map fun j:Nat=>aN aa (j:Int)),As.blk bc 4 [.bool iX]]) (hf:(D.FV prog aa x).p Z w) (g:ao aa) (hS:∀k,(valOf aa x.ab k).size≤1000) (Mn:i0<aa.length) (F1:aA aa i0=true) (d:j<aa.length) (hr:aA aa j=true) (oI:j∈L1) (wE:jz aa i0 al) (Np:bd aa j≤i0) (ih:∀a,dB aa j a→ax a=false→Jd aa x D a) (h1:cP aa x.ab i0 L1 u1) (h2:je aa x.ab L1 u1 dj) (h3:kq aa L1 u1 U) (h4:aJ aa x.ab dj):Calls prog 202 #[.pointer (some ⟨D.s,0,none⟩),(aN aa (j:Int)).val,(.func (.func 265) #[] #[.pointer (some ⟨bk,0,none⟩),.pointer (some ⟨bv,0,none⟩),.pointer (some ⟨bn,0,none⟩),.pointer (some ⟨bo,0,none⟩),.pointer (some ⟨bc,0,none⟩)])] w fun e w'=>∃L' am' ch' jP acc la' ln' lc' ra rn rc i,e=.returned (.tuple #[.string (itoa (dE aa[j].c.toNat (acc.map bR):Int)),.slice ra rn rc])∧RI aa x.ab i0 aa[j].asks u1 L1 iX dj aa[j].asks.length L' am' ch' jP acc∧St w M Z w' (As.os RR.key 43 2 ra rn rc i::[As.map Key.val D.m jP,As.map Key.val D.q al,As.blk bk 43 (aN aa (i0:Int)).cells,As.blk bv 93 [.pointer (some ⟨D.s,0,none⟩)],As.blk bn 136 [.map (some mm)],As.map Key.val mm am',As.blk bo 38 [.slice la' ln' lc'],As.os RR.key 43 2 la' ln' lc' ((L').map fun j:Nat=>aN aa (j:Int)),As.blk bc 4 [.bool ch']]):=by
 have CT:=g.len
 have pQ:j≤99:=by omega
 have V2:=iw g d;rw [cW d] at V2;refine enter func202 rfl ntmps202 rfl<|?_;have aO:=gJ;have st1:=aO.fact (B:=As.fz (D.FV prog aa x)) hf (fun _ V=>V);have st2:=st1.fact (B:=As.rg D.s 0 (D.cells x)) (SD.FV.rg hf) (fun _ V=>V);have lN:=st2.fV RR.key 43 2;have jl:=lN.fV RR.str 9 1;refine(dx) jl fun b4 w1 CX H0 ki=>?_;refine aT ?_;refine cv ?_;refine WC.bj (σ:=Nat × (List Nat) × (List (Key × Value)) × Bool × (List (Key × Value)) × (List Key) × (List ByteArray) × (Option Addr) × Nat × Nat × (Option Addr) × Nat × Nat × (Option Addr) × Nat × Nat) (db:=fun(n,L2,iz,j8,gp,i,acc,G,u,H,J,y,K,L,N,O)=>[(0,.pointer (some ⟨D.s,0,none⟩)),(2,(.func (.func 265) #[] #[.pointer (some ⟨bk,0,none⟩),.pointer (some ⟨bv,0,none⟩),.pointer (some ⟨bn,0,none⟩),.pointer (some ⟨bo,0,none⟩),.pointer (some ⟨bc,0,none⟩)])),(4,.pointer (some ⟨b4,0,none⟩)),(8,.slice G u H),(9,.slice J y K)]) (F:=fun(n,L2,iz,j8,gp,i,acc,G,u,H,J,y,K,L,N,O)=>[As.os RR.key 43 2 G u H (i),As.os RR.str 9 1 J y K (acc),As.os RR.key 43 2 L N O ((L2).map fun j:Nat=>aN aa (j:Int)),As.map Key.val D.m gp,As.map Key.val mm iz,As.blk bo 38 [.slice L N O],As.blk bc 4 [.bool j8]]) (I:=fun(n,L2,iz,j8,gp,i,acc,G,u,H,J,y,K,L,N,O)=>(RI aa x.ab i0 aa[j].asks u1 L1 iX dj n L2 iz j8 gp acc)∧(∀s∈acc,s.size≤1000)∧(i.length=n)∧True) (μ:=fun(n,L2,iz,j8,gp,i,acc,G,u,H,J,y,K,L,N,O)=>aa[j].asks.length - n) (0,L1,U,iX,dj,[],[],none,0,0,none,0,0,la,ln,lc) (ki.BM.qt.qt.p8.BM.p6.p7) Sub.t (⟨RI.start h1 h2 h3 h4,by simp,rfl,trivial⟩)<|?_;rintro⟨n,L2,iz,j8,gp,i,acc,G,u,H,J,y,K,L,N,O⟩ w2 z ⟨P,hsz,OM,_⟩;simp only [CA,NA] at z P hsz OM ⊢;have vl:=((As.gs z.g1)).len;have SO:=((As.gs z.g0)).len;have Q6:=P.ev.len;have hn:=P.hn;obtain⟨t,Q⟩:∃t,bN aa (aN aa (j:Int)) acc=t:=⟨_,rfl⟩;refine bM ?_;have CZ:=z.bL;have Mh:=z.jC;have Mi:=z.size;refine WC.dh (m:=8) (E:=cA [(6,fun v _=>v=t.val),(7,PB w2.heap.size 142 [.bool false,.string ⟨#[]⟩,.int .i64 0,.string ⟨#[]⟩])]) z (bz (⟨fun _ _ _ _ _ _ _ h=>h,⟨fun _ _ _ _ _ _ c h=>PB.st CZ c h,trivial⟩⟩)) mixed (by kernel_rfl)<|cv ?_;refine DP .r (fun _ o=>V1 kf (As.nS o.2.g8) .r)<|(gy) ak St.g7<|nx ?_;refine DW.c1 (fun wx o hF=>jn (SD.ht ((As.gf o.2.g9)).1) g d (SD.hu ((As.gf o.2.g9)).1) (Ow.rd (As.gs o.2.g1) (by omega)) hsz) (by rw [Q])<|?_;refine DW.e rfl rfl rfl rfl rfl (fun wx o hF=>OX.alloc nH rfl fun b wy C hb=>⟨⟨Nat.le_trans o.1 C.ext.size,o.2.step C.ext⟩,C.ext.p0,_,rfl,_,rfl,Nat.le_trans o.1 C.ge,hb⟩)<|?_;rintro _ wz _ ⟨Ta,rfl,_,_⟩;refine(cM) ?_;rintro w3 ⟨xV,ku⟩ ⟨HM,⟨_,_⟩⟩;have im:=ku.BN HM CZ Mh Mi;refine(dZ) fc im fun w4 nT rH R=>?_;refine(bp) dd R.b0<|(aX) (fun g19=>?_) fun g19=>?_
 ·
  have S:n=aa[j].asks.length:=by
   rcases Nat.lt_or_ge n aa[j].asks.length with h | h
   ·
    obtain⟨a,h1,_⟩:=cR g d (ae:=acc) (by rw [cW d];omega);rw [Q] at h1;rw [h1] at g19;cases g19
   omega
  subst S
  have ob:t.value=itoa (dE aa[j].c.toNat (acc.map bR):Int):=by
   have h1:=et g d (ae:=acc) (by rw [cW d];omega);rw [Q] at h1;rw [h1,(qF g d hr).1];rfl
  refine(bp) ff R.b0<|(wv) ?_;exact⟨_,_,_,_,_,_,_,_,_,_,_,_,by rw [ob],P,R.drop.p1.drop.p6.drop.p6.drop.p6.drop.p4.p4.p9.p9.p9.p9.p8.p7⟩
 have S:n<aa[j].asks.length:=by
  rcases Nat.lt_or_ge n aa[j].asks.length with h | h
  ·
   exact h
  have h1:=et g d (ae:=acc) (by rw [cW d];omega);rw [Q] at h1;rw [h1] at g19;cases g19
 obtain⟨a,wD,yP,QD⟩:=cR g d (ae:=acc) (by rw [cW d];omega);obtain⟨xq,W,V6⟩:=QD hr;rw [Q6,ah S] at W
 simp at W
 rw [Q] at wD
 have C2:t.ask=a:=by rw [wD]
 have F3:bm aa aa[j].asks[n]=t.ask:=by rw [C2,V6,W]
 refine bM ?_;refine WC.cu (m:=11) [] [4,9,10] [0,1,2,3,4,6,7,8,9,10,5] [(3,.sl 43 1 t.ask.cells)] R (av.k4 M0 M2 M8 M9<|av.cons nU<|av.nil) mixed (by kernel_rfl) (by kernel_rfl) rfl<|?_
 iterate 2 refine DG.a ?_
 refine(AR) ak SV.g0<|?_;refine DG.side (s:=.sl 43 1 t.ask.cells) rfl rfl rfl rfl rfl rfl (fun wx Zx Rx su mM=>OX.aS (us:=t.ask.cells) du rfl rfl rfl rfl fun b wy C hb=>⟨C.ext.size,_,rfl,⟨b,rfl⟩,mM.df C hb⟩)<|?_;rintro _ ⟨WU,rfl⟩;refine(gK) (fun w5 Je yg T kZ=>?_);simp only [CA,NA] at T;refine OX.mX nG rfl rfl rfl (As.gs T.g1) (SR.dr (A:=fun _=>True) (x:=t.ask) (show bJ _ WU _ _ from T.ok _ (.tail _ (.tail _ (.tail _ (.tail _ (.tail _ (.tail _ (.tail _ (.tail _ (.tail _ (.tail _ (.tail _ (.tail _ (.tail _ (.tail _ (.tail _ (kZ _ (.head _)))))))))))))))))) trivial rfl (by simp [Key.cells,Value.oneCell']) rfl) (by omega) (by omega) (Nat.zero_le _) fun WV Mj w6 Mk Ml Mm WW=>?_;have eC:=T.p1.gN Ml Mk Mm;refine⟨Ml.size,_,rfl,_,_,_,eC,aC.k4<|aC.k4<|aC.k4<|aC.k2<|aC.cons<|aC.nil,av.k4 M1 M2 M8 M9<|av.cons nU<|av.nil,?_⟩
 iterate 2 refine DG.a ?_
 refine(AR) ak SV.g0<|(gK) (fun w7 Nw CO eQ pw=>?_);simp only [CA,NA] at eQ;have X:=eQ.p7.p4.p7.p7.SI.SI.SI.SI.pC;refine OX.kG QA rfl rfl rfl ((Calls.T1 (yh X.e9 (As.gf X.g14) g hS Mn F1 d hr oI wE Np ih S P F3 (by rw [F3,C2];exact yP))).mono ?_);rintro _ w8 ⟨L3,am3,ch3,Gq,la3,ln3,lc3,Y,rfl,Tc,W4,j0⟩;have dX:=St.lr X j0;refine⟨_,rfl,j0.cq.size,_,rfl,_,_,_,dX,aC.k4<|aC.k4<|aC.k4<|aC.k2<|aC.cons<|aC.nil,av.k4 nU pV sk yR<|av.cons Il<|av.nil,?_⟩;refine(gK) (fun w9 aeI abc dQ W5=>?_);simp only [CA,NA] at dQ;refine OX.aS (us:=[.string Y]) hY rfl rfl rfl rfl fun H6 lI CP Mp=>?_;have gI:=dQ.df CP Mp;refine⟨CP.ext.size,_,rfl,_,_,_,gI,aC.k4<|aC.k4<|aC.k4<|aC.k4<|aC.nil,av.k4 pV sk yR Il<|av.cons Nf<|av.nil,?_⟩;refine(ly) ?_;intro mH vt e4;simp only [CM,NM,CA,NA,iK.it] at e4;refine WL.ap rfl rfl e4.BM (SR.dr (A:=fun _=>True) (x:=Y) (As.gb e4.g1) trivial rfl (by simp [Value.oneCell']) rfl) fun Tb H7 pS Q7 Q8 fh=>?_;refine bM ?_;refine WL.nil (EX.np ?_);refine nx ?_;refine fx (n+1,L3,am3,ch3,Gq,i++[t.ask],acc++[Y],WV,(u+1),Mj,Tb,(y+1),H7,la3,ln3,lc3) ⟨fh.p1.drop.p1.drop.pC.drop.BM.BM.BM.qt.pC.pC.p7.qt.p8.BM,⟨W4,fun s hs=>by rcases List.mem_append.1 hs with h | h;exact hsz s h;simp at h;subst h;exact Tc,by rw [List.length_append,OM];rfl,trivial⟩⟩
set_option maxHeartbeats 3200000 in
theorem vD{ml:List (Key × Value)}(gJ:St w M Z w [As.map Key.val D.m ml,As.map Key.val D.q al]) (hf:(D.FV prog aa x).p Z w) (hm:aJ aa x.ab ml) (J:ao aa) (hS:∀k,(valOf aa x.ab k).size≤1000) (Mn:i0<aa.length) (F1:aA aa i0=true) (wE:jz aa i0 al) (ih:∀j,cm aa i0 j→∀a,dB aa j a→ax a=false→Jd aa x D a):Calls prog 201 #[.pointer (some ⟨D.s,0,none⟩),(aN aa (i0:Int)).val] w fun e w'=>∃jP,e=.returned (.tuple #[])∧aJ aa x.ab jP∧eE ml jP∧bq jP (aN aa (i0:Int))=some (.string (valOf aa x.ab (aN aa (i0:Int))))∧St w M Z w' [As.map Key.val D.m jP,As.map Key.val D.q al]:=by
 have CT:=J.len
 have gu:i0≤99:=by omega
 have hkd:(aN aa (i0:Int)).kind=32:=by rw [dn Mn gu,F1];rfl
 refine enter func201 rfl ntmps201 rfl<|?_;have aO:=gJ;have st1:=aO.fact (B:=As.fz (D.FV prog aa x)) hf (fun _ i=>i);have st2:=st1.fact (B:=As.rg D.s 0 (D.cells x)) (SD.FV.rg hf) (fun _ i=>i);refine(dx) st2 fun b2 w1 Td CC lN=>?_;refine(dx) lN fun b3 w2 Nu CY jl=>?_;refine cv ?_;refine WC.cu (m:=7) [] [0,4] [0,1,2,3,4,5,6] [(3,.val fun v=>v=.string ⟨#[48]⟩),(6,.blk 136 [.map none])] jl (av.k4 M0 M1 M2 M3<|av.cons M4<|av.cons M5<|av.nil) mixed (by kernel_rfl) (by kernel_rfl) rfl ?_;refine(gK) (fun w3 R0x aeJ ki abd=>?_);simp only [CA,NA] at ki;refine OX.makeMap Key.val rfl fun K w4 H8 W6=>?_;have jr:=ki.Gi H8 W6;refine⟨H8.ext.size,_,rfl,_,_,_,jr,aC.k4<|aC.k2<|aC.cons<|aC.nil,av.k4 M1 M2 M3 M4<|av.cons M5<|av.cons M6<|av.nil,?_⟩;refine(mQ) ak SV.g0<|(mQ) ak SV.g0<|?_;refine DG.side (s:=.val fun v=>v=.string ⟨#[48]⟩) rfl rfl rfl rfl rfl rfl (fun wx Zx Rx su V=>OX.call I6 rfl rfl ((nM (k:=(aN aa (i0:Int))) hkd).mono ?_))<|?_
 ·
  rintro _ wy ⟨rfl,hy⟩;exact⟨_,rfl,hy.size,_,rfl,⟨(by intro h;cases h),rfl⟩,(V.step hy).fact (B:=As.nil) trivial (fun _ i=>i)⟩
 rintro _ ⟨_,rfl⟩;refine DG.cs rfl rfl rfl rfl rfl (fun w5 Je yg ku kZ=>?_);simp only [CA,NA] at ku;refine OX.ins cE cZ (As.gm ku.g0) rfl rfl rfl fun w6 nT vo=>?_;have im:=ku.iu nT vo;refine⟨nT.size,rfl,_,_,_,im,aC.k4<|aC.k2<|aC.cons<|aC.nil,av.k4 M1 M2 M3 M4<|av.cons M5<|av.cons M6<|av.nil,?_⟩;refine DG.a<|?_;refine DG.side (s:=.blk 136 [.map none]) rfl rfl rfl rfl rfl rfl (fun wx Zx Rx su V=>OX.alloc Ph rfl fun b wy nw hb=>⟨nw.ext.size,_,rfl,⟨b,rfl⟩,V.df nw hb⟩)<|?_;rintro _ ⟨b4,rfl⟩;refine(ly) ?_;intro w7 xX jZ;simp only [CM,NM,CA,NA,iK.it] at jZ;refine WL.s0 jZ fun w8 _ fw=>?_;refine WL.nil (EX.np ?_);refine(bP) ak fw.b3<|?_;refine WL.go rfl (OX.aS (us:=(aN aa (i0:Int)).cells) du rfl rfl rfl rfl fun W7 w9 Mq Rb=>?_);have eC:=St.qu (R:=RR.key) (E:=43) (k:=2) (a:=some ⟨W7,0,none⟩) (n:=1) (c:=1) (xs:=[(aN aa (i0:Int))]) fw Mq.ext (OR.dr Rb (Nat.zero_le _) rfl (by simp [Key.cells,Value.oneCell']) rfl) (fun x i=>by simp [bA] at i;subst i;exact Mq.ge);refine(gx) eC fun b5 lI QF QG eQ=>?_;refine WL.s0 eQ fun mH _ dG=>?_;refine(gx) dG fun Q pS Lx Wx dX=>?_;refine WL.s0 dX fun rO _ dQ=>?_;refine cw ?_;refine WP .r (PV.func (us:=[]) (vs:=[.pointer (some ⟨b3,0,none⟩),.pointer (some ⟨b2,0,none⟩),.pointer (some ⟨b4,0,none⟩),.pointer (some ⟨b5,0,none⟩),.pointer (some ⟨Q,0,none⟩)]) rfl rfl)<|dp ?_;refine WC.bj (σ:=(List Nat) × (Nat→Nat) × (List (Key × Value)) × Bool × (List (Key × Value)) × (Option Addr) × Nat × Nat) (db:=fun(L,u,am,ch,C,o,y,z)=>[(2,.pointer (some ⟨b2,0,none⟩)),(4,.pointer (some ⟨b4,0,none⟩)),(5,.pointer (some ⟨b5,0,none⟩)),(6,.pointer (some ⟨Q,0,none⟩)),(7,(.func (.func 265) #[] #[.pointer (some ⟨b3,0,none⟩),.pointer (some ⟨b2,0,none⟩),.pointer (some ⟨b4,0,none⟩),.pointer (some ⟨b5,0,none⟩),.pointer (some ⟨Q,0,none⟩)]))]) (F:=fun(L,u,am,ch,C,o,y,z)=>[As.os RR.key 43 2 o y z ((L).map fun j:Nat=>aN aa (j:Int)),As.map Key.val D.m C,As.map Key.val K am,As.blk b5 38 [.slice o y z],As.blk Q 4 [.bool ch]]) (I:=fun(L,u,am,ch,C,o,y,z)=>(cP aa x.ab i0 L u)∧(je aa x.ab L u C)∧(kq aa L u am)∧(aJ aa x.ab C)∧(eE ml C)∧(ch=false→∀j∈L,lA aa x.ab L u j)∧True) (μ:=fun(L,u,am,ch,C,o,y,z)=>2*lY aa L u+(if ch then 1 else 0)) ([i0],fun _=>0,cF [] (aN aa (i0:Int)) (.string ⟨#[48]⟩),true,ml,(some ⟨W7,0,none⟩),1,1) (dQ.p1.p5.qq.p4) Sub.t (⟨cP.start Mn F1,je.start,⟨fun j hj=>by simp at hj;subst hj;rw [show itoa ((0:Nat):Int)=⟨#[48]⟩ by decide +kernel];simp [cF,bq],fun k hk=>by simp [cF,bq];intro e;exact hk i0 (by simp) e.symm⟩,hm,eE.refl _,(fun h=>by cases h),trivial⟩)<|?_;rintro⟨L,u,am,ch,C,o,y,z⟩ x2 S ⟨wB,QO,F2,CE,Af,BP,_⟩;simp only [CA,NA] at S wB QO F2 CE Af BP ⊢;refine cv ?_;refine WP .r (PV.ky dd S.b4 rfl rfl)<|(aX) (fun g21=>?_) fun g21=>?_
 ·
  have g21:ch=true:=g21;subst g21
  clear BP
  refine dp ?_;refine WL.s0 S.p4 fun x3 _ e4=>?_;refine gW ?_;refine WC.bj (σ:=Nat × (List Nat) × (Nat→Nat) × (List (Key × Value)) × Bool × (List (Key × Value)) × (Option Addr) × Nat × Nat) (db:=fun(idx,L1,u1,T,iX,dj,o,y,z)=>[(2,.pointer (some ⟨b2,0,none⟩)),(4,.pointer (some ⟨b4,0,none⟩)),(5,.pointer (some ⟨b5,0,none⟩)),(6,.pointer (some ⟨Q,0,none⟩)),(7,(.func (.func 265) #[] #[.pointer (some ⟨b3,0,none⟩),.pointer (some ⟨b2,0,none⟩),.pointer (some ⟨b4,0,none⟩),.pointer (some ⟨b5,0,none⟩),.pointer (some ⟨Q,0,none⟩)])),(8,.int .i64 (idx:Int))]) (F:=fun(idx,L1,u1,T,iX,dj,o,y,z)=>[As.os RR.key 43 2 o y z ((L1).map fun j:Nat=>aN aa (j:Int)),As.map Key.val D.m dj,As.map Key.val K T,As.blk b5 38 [.slice o y z],As.blk Q 4 [.bool iX]]) (I:=fun(idx,L1,u1,T,iX,dj,o,y,z)=>(idx≤L1.length)∧(cP aa x.ab i0 L1 u1)∧(je aa x.ab L1 u1 dj)∧(kq aa L1 u1 T)∧(aJ aa x.ab dj)∧(eE ml dj)∧(lY aa L1 u1≤lY aa L u∧(iX=true→lY aa L1 u1<lY aa L u))∧(iX=false→∀m j,m<idx→L1[m]?=some j→lA aa x.ab L1 u1 j)∧True) (μ:=fun(idx,L1,u1,T,iX,dj,o,y,z)=>aa.length - idx) (0,L,u,am,false,C,o,y,z) (e4.p4.p4.p4.p4) Sub.t (⟨by omega,wB,QO,F2,CE,Af,⟨Nat.le_refl _,(fun h=>by cases h)⟩,fun _ m j h=>by omega,trivial⟩)<|?_;rintro⟨idx,L1,u1,T,iX,dj,o,y,z⟩ vq N ⟨LL,W,kx,xY,O,P,CI,rL,_⟩;simp only [CA,NA] at N LL W kx xY O P CI rL ⊢;have vl:=((As.gs N.g0)).len;rw [List.length_map] at vl;have hL1:=W.len;refine cw ?_;refine WP .r (PV.ky fG N.b3 rfl rfl)<|(aX) (fun W8=>?_) fun W8=>?_
  ·
   simp at W8
   have yj:idx<L1.length:=by omega
   obtain⟨j,xZ⟩:∃j,L1[idx]=j:=⟨_,rfl⟩
   have pB:L1[idx]?=some j:=by rw [ah yj,xZ]
   have oI:j∈L1:=xZ ▸ List.getElem_mem yj;obtain⟨hjl,CJ⟩:=W.ring j oI
   have pQ:j≤99:=by omega
   have Re:=W.reach j oI;have Np:bd aa j≤i0:=Nat.le_trans (iy J Re) (eL aa i0);refine dp ?_
   have QP:((L1).map fun j:Nat=>aN aa (j:Int))[idx]?=some (aN aa (j:Int)):=by rw [List.getElem?_map,pB];rfl
   obtain⟨jj,eB⟩:=Ow.addr (As.gs N.g0) QP;refine WC.cu (m:=11) [] [1,4,6] [1,2,3,4,0,5,6,7,8,9,10] [] N (av.cons nU<|av.cons M9<|av.cons M8<|av.nil) mixed (by kernel_rfl) (by kernel_rfl) rfl<|(gK) (fun Bu R1x Rf U Jh=>?_);simp only [CA,NA] at U;refine OX.pv (PV.ky fG U.b3 rfl rfl) rfl<|?_;refine⟨Nat.le_refl _,_,rfl,_,_,_,U,aC.k4<|aC.k4<|aC.k4<|aC.nil,av.cons nU<|av.cons M9<|av.cons M8<|av.nil,?_⟩;refine DG.a<|?_;refine DQ .r (fun wx Zx Rx _ V uq=>PV.dR ez eB rfl rfl (by omega))<|(gK) (fun CL Je yg eU kZ=>?_);simp only [CA,NA] at eU;refine OX.pv (VA ak (Ow.kl (As.gs eU.g0) (by rw [List.length_map];omega) eB QP) .r) rfl<|?_;refine⟨Nat.le_refl _,_,rfl,_,_,_,eU,aC.k4<|aC.k4<|aC.k4<|aC.nil,av.cons nU<|av.cons M9<|av.cons M8<|av.nil,?_⟩;refine DQ .r (fun wx Zx Rx _ V uq=>PV.ky ud (bJ.range (As.gb (V.sv uq).g2)) rfl rfl)<|(gK) (fun Ff W9 Mr X Fl=>?_);simp only [CA,NA] at X;have gn:=X.p4.p1.p4.p4.p5.p8.p8.pC.p8;refine OX.call EP rfl rfl ((yi gn.e9 (As.gf gn.g11) J hS Mn F1 hjl CJ oI wE Np (ih j Re) W kx xY O).mono ?_);rintro _ HT ⟨L2,iz,j8,gp,acc,Ms,ln2,lc2,ra,rn,rc,rdl,rfl,d,rT⟩;have gw:=St.lr gn rT;refine⟨_,rfl,rT.cq.size,_,rfl,_,_,_,gw,aC.k4<|aC.k4<|aC.k4<|aC.cons<|aC.nil,av.cons sk<|av.cons pV<|av.cons M4<|av.nil,?_⟩
   iterate 4 refine DG.a ?_
   refine(ly) ?_;intro Ji E7 G;simp only [CM,NM,CA,NA,iK.it] at G;refine nx ?_;refine WL.nil (EX.np ?_);refine bM ?_;have aeK:=d.rd.len;obtain⟨CN,L4,L5,QU,HU⟩:=d.ev.val J d.rd hjl CJ;have F4:dC (u1 j) (dE aa[j].c.toNat (acc.map bR)):=fun b hb=>L5 b (kx j oI b hb);obtain⟨val,ob⟩:∃v,dE aa[j].c.toNat (acc.map bR)=v:=⟨_,rfl⟩;rw [ob] at CN L4 F4 QU HU;have Y:j∈L2:=d.pre.subset oI;have L6:=d.pre.length_le
   have L7:L2[idx]?=some j:=by obtain⟨q,rfl⟩:=d.pre;rw [List.getElem?_append_left yj];exact pB
   have HV:((L2).map fun j:Nat=>aN aa (j:Int))[idx]?=some (aN aa (j:Int)):=by rw [List.getElem?_map,L7];rfl
   have Fa:=((As.gs G.g8)).len;rw [List.length_map] at Fa;have LM:lY aa L2 u1≤lY aa L u∧(j8=true→lY aa L2 u1<lY aa L u):=⟨by have:=d.p.1;omega,fun h=>by rcases d.p.2 h with h1 | h1;have:=CI.2 h1;have:=d.p.1;omega;omega⟩;obtain⟨Fg,iG⟩:=Ow.addr (As.gs G.g8) HV;have WZ:=G.bL;refine WC.dS (m:=7) G mixed<|nx ?_;refine DP .r (fun _ g=>PV.ky eZ (bJ.range (As.gb g.2.g5)) rfl rfl)<|DP .r (fun _ g=>PV.ky fG (bJ.range (As.gb g.2.g7)) rfl rfl)<|nx ?_;refine DP .r (fun _ g=>PV.dR ez iG rfl rfl (by omega))<|DP .r (fun _ g=>VA ak (Ow.kl (As.gs g.2.g8) (by rw [List.length_map];omega) iG HV) .r)<|DP .r (fun _ g=>PV.bF cE cZ jX (As.gm g.2.g6) (d.at_.1 j Y) rfl rfl)<|(cM)<|?_;rintro Nx ⟨Q9,eb⟩ _;refine(aX) (fun H=>?_) fun H=>?_
   ·
    simp at H
    rw [ob] at H;have CS:u1 j≠val:=fun e=>H (by rw [e]);have QV:=AY d.rd Y CN F4 CS;obtain⟨QW,pn⟩:=Ow.addr (As.gs eb.g8) HV;have QL:=eb.bL;refine WC.dh (m:=8) (E:=cA [(6,fun v w'=>∃vv st,v=.tuple #[vv,.int .i64 ((st:Nat):Int)]∧KE Key.val w' K iz (aN aa (j:Int)) st)]) eb (ll (⟨⟨trivial,trivial⟩,trivial⟩)) mixed (by kernel_rfl)<|?_;refine DP .r (fun _ g=>PV.ky eZ (bJ.range (As.gb g.2.g5)) rfl rfl)<|DP .r (fun _ g=>PV.ky fG (bJ.range (As.gb g.2.g7)) rfl rfl)<|nx ?_;refine DP .r (fun _ g=>PV.dR ez pn rfl rfl (by omega))<|DP .r (fun _ g=>VA ak (Ow.kl (As.gs g.2.g8) (by rw [List.length_map];omega) pn HV) .r)<|nx ?_;refine DW.e rfl rfl rfl rfl rfl (fun wx g hF=>OX.JJ cE cZ jX (As.gm g.2.g6) rfl rfl rfl fun wy st vv sx hsz HW=>?_)<|?_
    ·
     have hg:=d.at_.1 j Y;rw [hg] at HW;rw [Option.getD_some,tC hg] at HW;exact⟨⟨Nat.le_trans g.1 sx.size,g.2.same (A:=As.map Key.val K iz) (by simp) (sx.p.mono fun x _ i=>by simpa [As.map] using i) HW.km⟩,sx.p.mono (fun x _ i=>AL (A:=As.map Key.val K iz) (by simp) (by simpa [As.map] using i)),_,rfl,_,_,rfl,HW⟩
    rintro _ wz _ ⟨Wg,G,rfl,_⟩;refine(cM) ?_;rintro Rg ⟨E8,e7⟩ ⟨Q1,_⟩;obtain⟨_,_,Fh,x4⟩:=Q1;simp only [Value.tuple.injEq,Array.mk.injEq,List.cons.injEq,Value.int.injEq,true_and,and_true] at Fh;have L8:=Int.natCast_inj.1 Fh.2;rw [← L8] at x4;refine WL.go rfl (OX.y2 x4 rfl rfl rfl fun Te Ma _ Mb=>?_);have gS:=e7.p6.iu Ma Mb;rw [ob] at gS;refine WL.s0 gS.p9 fun w25 _ j2=>?_;refine gW ?_;refine fx (idx+1,L2,jQ u1 j val,cF iz (aN aa (j:Int)) (.string (itoa (val:Int))),true,gp,Ms,ln2,lc2) ⟨j2.p2.drop.pC.pC.p7.p7.pC.p9.p6.qq.p8.p9.pC,⟨Nat.le_trans yj L6,d.rd.set Y CN L4,d.up.set J d.rd Y CN L4 F4 QU,d.at_.set J (fun k hk=>(d.rd.ring k hk).1) Y val,d.m,P.trans d.le,⟨Nat.le_of_lt (Nat.lt_of_lt_of_le QV LM.1),fun _=>Nat.lt_of_lt_of_le QV LM.1⟩,(fun h=>by cases h),trivial⟩⟩
   simp at H
   rw [ob] at H;have H:u1 j=val:=xe (by have:=d.rd.le j;omega) (by omega) H.symm;refine gW ?_
   refine fx (idx+1,L2,u1,iz,j8,gp,Ms,ln2,lc2) ⟨eb.drop.pC.pC.p5.p5.pC.p7.pC.qq.qq.p9.pC,⟨Nat.le_trans yj L6,d.rd,d.up,d.at_,d.m,P.trans d.le,LM,fun h m k hm hk=>by
      obtain⟨e1,e2⟩:=d.c h;subst e1
      by_cases e:m=idx
      ·
       subst e;rw [pB] at hk
       simp at hk;subst hk
       exact HU (H ▸ rfl)
      exact rL e2 m k (by omega) hk,trivial⟩⟩
  simp at W8
  refine dp ?_;refine EX.again (L1,u1,T,iX,dj,o,y,z) Sub.t ⟨N,⟨W,kx,xY,O,P,fun h j hj=>by obtain⟨m,hm,rfl⟩:=List.mem_iff_getElem.1 (show j∈L1 from hj);exact rL h m _ (by omega) (ah hm),trivial⟩⟩ (by simp only [];cases iX <;> simp at CI ⊢ <;> omega)
 have g21:ch=false:=g21;have DM:=BP g21;have Fi:=wB.done J DM;refine fj ?_;have hnm:=((As.gm S.g2)).nodup;have Mt:=F2.aU J hnm wB Fi;obtain⟨p0,Me,Xa⟩:=F2.first hnm wB;refine nx ?_;refine WP .r (PV.ky eZ S.b5 rfl rfl)<|?_;refine WL.go rfl (OX.range cZ (As.gm S.g2) rfl rfl fun bI x3 sI Mu Xb=>?_);have e4:=S.p2;have N:=e4.iL (B:=As.J7 Key.val bI K am am none) (sI.p.mono (fun x _ i=>by cases i)) Xb (fun x i=>by rcases i with h | h;exact .inr (h ▸ Mu);exact .inl h);refine cv ?_;refine WC.bj (σ:=(List (Key × Value)) × (Option (Key × Value)) × (List (Key × Value))) (db:=fun(left,cur,dj)=>[(2,.pointer (some ⟨b2,0,none⟩)),(55,.pointer (some ⟨bI,0,none⟩))]) (F:=fun(left,cur,dj)=>[As.J7 Key.val bI K am left cur,As.map Key.val D.m dj]) (I:=fun(left,cur,dj)=>(aJ aa x.ab dj)∧(eE ml dj)∧(∀q∈left,q∈am)∧(∀q∈am,q∈left∨bq dj q.1=some q.2)∧True) (μ:=fun(left,cur,dj)=>left.length) (am,none,C) (N.p2.p1) Sub.t (⟨CE,Af,fun _ h=>h,fun _ h=>.inl h,trivial⟩)<|?_;rintro⟨left,cur,dj⟩ vq U ⟨O,P,Mv,Xc,_⟩;simp only [CA,NA] at U O P Mv Xc ⊢;refine bM ?_;refine WL.go rfl (OX.next ((As.Gz U.g0)) rfl rfl fun rN Fm Bu sN hN Xd=>?_);have eU:=U;have X:=eU.iL (B:=As.J7 Key.val bI K am Fm rN) (sN.p.mono (fun x _ i=>by simp at i;exact .inl i)) Xd (fun x i=>.inl i);refine WP .r (PV.ext rfl (Ba _))<|(aX) (fun Ny=>?_) fun Ny=>?_
 ·
  obtain⟨p,rfl⟩:=Option.isSome_iff_exists.1 Ny;obtain⟨jN,Tf,rfl⟩:=hN;have HQ:=Mv p (List.mem_of_getElem? Tf);refine dp ?_;refine WP .r (PV.entry (As.Gz X.g0) rfl)<|(gx) X fun b11 CL aeL aeM gn=>?_;refine(dZ) gk gn fun Ff Bt wu gw=>?_;refine cv ?_;refine WC.eqv (t:=12) (v':=.string (valOf aa x.ab p.1)) rfl (Mt p HQ)<|?_;have aeN:=gw.bL;refine WC.dS (m:=6) gw mixed<|?_;refine DP .r (fun _ g=>PV.ky ud (bJ.range (As.gb g.2.g9)) rfl rfl)<|bM ?_;refine DP .r (fun _ g=>PV.ld1 (j:=4) eZ (As.nS g.2.g10) rfl rfl)<|(gy) ak St.g0<|(cM) ?_;rintro HT ⟨Rh,G⟩ _;refine WL.go rfl (OX.put cE cZ (As.gm G.g2) rfl rfl rfl fun Ji An Ao=>?_);have eb:=G.p2.iu An Ao;refine bM ?_;refine EX.again (left.eraseIdx jN,some p,cF dj p.1 (.string (valOf aa x.ab p.1))) Sub.t ⟨eb.p1.drop.p1,⟨O.put _,P.trans (eE.put O _),fun q hq=>Mv q (List.mem_of_mem_eraseIdx hq),DN Xc Mt Tf,trivial⟩⟩ (by simp only [];rw [List.length_eraseIdx_of_lt (List.getElem?_eq_some_iff.1 Tf).1];have:=(List.getElem?_eq_some_iff.1 Tf).1;omega)
 have Bf:rN=none:=by simpa using Ny
 subst Bf;obtain⟨rfl,rfl⟩:=hN
 have hgk:bq dj (aN aa (i0:Int))=some (.string (valOf aa x.ab (aN aa (i0:Int)))):=by
  rcases Xc p0 Me with h | h
  ·
   cases h
  rw [Mt p0 Me,Xa] at h;exact h
 refine cw ?_;refine EX.wH (.inr rfl) rfl<|?_;exact⟨dj,rfl,O,P,hgk,X.pC.p2.k2⟩
set_option maxHeartbeats 400000
theorem rU{n:Int} :CR prog 169 #[.int .i64 n] w (.bool false):=by
 refine enter func169 rfl ntmps169 rfl<|?_;have aO:=St.s0 w;refine aT ?_;refine(bB) ?_;exact⟨by simp,(St.cg aO)⟩
theorem vE{a b:Int} :CR prog 127 #[.int .i64 a,.int .i64 b] w (.int .i64 (sA a b)):=by
 refine enter func127 rfl ntmps127 rfl<|?_;have aO:=St.s0 w;refine(eY) (rU) aO fun w1 s1 st1=>?_;refine(eY) (rU) st1 fun w2 s2 st2=>?_;refine lW ?_;refine WC.ef rfl<|gW ?_;refine WC.ef rfl<|(aX) (fun g16=>?_) fun g16=>?_
 ·
  simp at g16
  refine(bB) ?_;exact⟨by unfold sA;rw [if_pos g16],(St.cg st2)⟩
 simp at g16
 refine(aX) (fun g19=>?_) fun g19=>?_
 ·
  simp at g19
  refine(bB) ?_;exact⟨by unfold sA;rw [if_neg (by omega),if_pos g19],(St.cg st2)⟩
 simp at g19
 refine(bB) ?_;exact⟨by unfold sA;rw [if_neg (by omega),if_neg (by omega)],(St.cg st2)⟩
theorem vF{l:List Int}{A:Nat→Prop}(hl:Ints A w a n c l):CR prog 126 #[.slice a n c] w (.int .i64 (J4 l)):=by
 have hle:=SR.le hl;have hlen:=SR.len hl;refine enter func126 rfl ntmps126 rfl<|?_;have aO:=St.s0 w;refine aT ?_;refine fb ?_;refine WC.bj (σ:=Nat) (db:=fun i=>[(3,.int .i64 0),(6,.slice a n c),(7,.int .i64 (n:Int)),(8,.int .i64 (i:Int))]) (F:=fun i=>[]) (I:=fun i=>(i≤n)∧(∀j x,j<i→l[j]?=some x→x=0)∧True) (μ:=fun i=>n - i) (0) (aO) Sub.t (⟨by omega,fun j x h=>by omega,trivial⟩)<|?_;rintro i w1 st1 ⟨hi,b,_⟩;simp only [CA,NA] at st1 hi b ⊢;refine(aX) (fun g9=>?_) fun g9=>?_
 ·
  simp at g9
  have d:i<l.length:=by omega
  obtain⟨p,q,s,e,_,rfl,g,_⟩:=(SR.ext hl (St.cg st1)).at (ah d);refine fj ?_;refine WP .r (PV.dR zO e rfl rfl (by omega))<|WP .r (PV.ky aP g rfl rfl)<|(aX) (fun g14=>?_) fun g14=>?_
  ·
   simp at g14
   refine(bB) ?_;exact⟨by rw [J5 d b g14],(St.cg st1)⟩
  simp at g14
  refine fb ?_;refine fx (i+1) ⟨st1,⟨by omega,cH d b (by simpa using g14),trivial⟩⟩
 simp at g9
 refine(bB) ?_;exact⟨by rw [Gx (fun x m=>by obtain⟨j,o,rfl⟩:=List.mem_iff_getElem.1 m;exact b j _ (by omega) (ah o))],(St.cg st1)⟩
theorem j3{a b:Key} :CR prog 83 #[a.val,b.val] w (.int .i64 (bl a b)):=by
 refine enter func83 rfl ntmps83 rfl<|?_;have aO:=St.s0 w;refine(dx) aO fun b2 w1 q r st1=>?_;refine(dx) st1 fun b3 w2 s t st2=>?_;refine cw ?_;have y:=st2.bL;refine WC.dh (m:=9) (E:=cA [(4,fun v _=>v=.int .i64 (sA a.kind b.kind))]) st2 (bz (⟨fun _ _ _ _ _ _ _ h=>h,trivial⟩)) mixed (by kernel_rfl)<|(gX) aP St.g1<|(gX) aP St.g0<|?_;refine DW.c0 (fun z A B=>vE)<|(gX) ff St.g1<|(gX) ff St.g0<|(cM)<|?_;rintro w3 ⟨C,e⟩ ⟨_,_⟩;refine(eY) (l8 a.text b.text w3) e fun w4 F g=>?_;refine WL.go rfl (OX.aS (us:=[.int .i64 (sA a.kind b.kind),.int .i64 (Lib.compareBytes a.text.data.toList b.text.data.toList)]) K3 rfl rfl rfl rfl fun G w5 i o=>?_);have d:=g.df i o;refine WL.c1 (u:=.int .i64 (bl a b)) (vF (l:=[sA a.kind b.kind,Lib.compareBytes a.text.data.toList b.text.data.toList]) (SR.Jy (rows:=[[.int .i64 (sA a.kind b.kind)],[.int .i64 (Lib.compareBytes a.text.data.toList b.text.data.toList)]]) (As.gb d.g0) rfl (by simp) (by simp [Value.oneCell']) (by simp) (xp rfl rfl))) (by rw [Gy]) d fun w6 H p=>?_;refine(bB) ?_;exact⟨rfl,(St.cg p)⟩
theorem pT(hk:dU aa k):CR prog 192 #[k.val] w (.bool false):=by
 obtain⟨i,gu,b,d⟩:=hk.shape;refine enter func192 rfl ntmps192 rfl<|?_;have aO:=St.s0 w;refine(dx) aO fun b1 w1 e g st1=>?_;refine(bP) ak st1.b0<|(eY) (fJ (k:=k) d b gu) st1 fun w2 s2 st2=>?_;refine(bB) ?_;exact⟨rfl,(St.cg st2)⟩
theorem rV{p:Key→Bool}(m:CF prog f) (hl:Rd RR.key 2 Z w a n c l) (o:∀w1,aQ [] w w1→∀x∈l,Calls prog f #[x.val] w1 fun e w'=>e=.returned (.bool (p x))∧aQ [] w1 w'):Calls prog 112 #[.slice a n c,.func (.func f) #[] #[]] w fun e w'=>∃j:Int,e=.returned (.int .i64 j)∧qO l p j∧aQ [] w w':=by
 have hlen:=hl.len;have hle:=hl.le;refine enter func112 rfl ntmps112 rfl<|?_;have aO:=St.s0 w;refine aT ?_;refine bM ?_;refine WC.bj (σ:=Nat) (db:=fun i=>[(0,.slice a n c),(1,.func (.func f) #[] #[]),(7,.int .i64 (n:Int)),(8,.int .i64 (i:Int))]) (F:=fun i=>[]) (I:=fun i=>(i≤n)∧(∀j x,j<i→l[j]?=some x→p x=false)∧True) (μ:=fun i=>n - i) (0) (aO) Sub.t (⟨by omega,fun j x h=>by omega,trivial⟩)<|?_;rintro i w1 st1 ⟨hi,b,_⟩;simp only [CA,NA] at st1 hi b ⊢;refine(aX) (fun g9=>?_) fun g9=>?_
 ·
  simp at g9
  have d:i<l.length:=by omega
  refine iM ?_;obtain⟨z,A,B,q,C,g,s,E⟩:=Rd.at hl d;have g:=RR.bt g;subst g;refine cw ?_;refine WP .r (PV.dR ez q rfl rfl (by omega))<|(bP) ak (aV s (St.cg st1) (by simp))<|?_;refine WL.go rfl (OX.kG m rfl rfl rfl ((Calls.Ol (o _ (St.cg st1) l[i] (List.getElem_mem d))).mono ?_));rintro _ w2 ⟨rfl,s2⟩;refine⟨_,rfl,?_⟩;have st2:=st1.step s2;refine(aX) (fun g16=>?_) fun g16=>?_
  ·
   refine(bB) ?_;exact⟨_,rfl,.inl ⟨i,_,ah d,g16,b,rfl⟩,(St.cg st2)⟩
  have g16:p l[i]=false:=by simpa using g16
  refine fb ?_;refine fx (i+1) ⟨st2,⟨by omega,cH d b (by simpa using g16),trivial⟩⟩
 simp at g9
 have u:∀x∈l,p x=false:=fun x v=>by obtain⟨j,y,rfl⟩:=List.getElem_of_mem v;exact b j _ (by omega) (ah y)
 refine(bB) ?_;exact⟨_,rfl,.inr ⟨u,rfl⟩,(St.cg st1)⟩
theorem nN{p:Key→Bool}(b:CF prog f) (hl:Rd RR.key 2 Z w a n c l) (d:∀w1,aQ [] w w1→∀x∈l,Calls prog f #[x.val] w1 fun e w'=>e=.returned (.bool (p x))∧aQ [] w1 w'):CR prog 70 #[.slice a n c,.func (.func f) #[] #[]] w (.bool (l.any p)):=by
 refine enter func70 rfl ntmps70 rfl<|?_;have aO:=St.s0 w;refine(cJ) EO (rV (w:=w) b (hl.ext (St.cg aO)) (fun w1 h1=>d w1 (aQ.trans (St.cg aO) h1))) ?_;rintro _ w1 ⟨j,rfl,g,s1⟩;have st1:=aO.step s1;have h:=g.any;refine(bB) ?_;exact⟨by rw [h],(St.cg st1)⟩
set_option maxHeartbeats 1600000 in
theorem rW{x:Rec}(hk:Rd RR.key 2 Z w a n c x.reads) (A:DL aa x):CR prog 150 #[.agg (x.row a n c).toArray] w (.bool true):=by
 have hlen:=hk.len;obtain⟨h1,B,C,s⟩:=A;obtain⟨i,gu,E,F⟩:=h1.shape;have G:=h1.cx;rw [eN] at s;obtain⟨_,_,_,v4,v5,v6,J,K,v9,v10,v11⟩:=s;refine enter func150 rfl ntmps150 rfl<|?_;have aO:=St.s0 w;refine(dx) aO fun b1 w1 L N st1=>?_;refine dp ?_;refine WC.eF (t:=34) (v:=.bool false) st1 ?_<|?_
 ·
  refine(ko) ak st1.b0<|(eY) (fJ (k:=x.key) F E gu) st1 fun w2 s2 st2=>?_;refine(ko) ak st2.b0<|?_;refine WL.c1 (u:=.bool false) (bX (k:=x.key)) (by rw [B]) st2 fun w3 H e=>?_;refine(bp) ff e.b0<|(cO) (fun g19=>?_) (fun g19=>?_)
  ·
   refine aT ?_;exact(cp) (by first | (simp only [g19];done) | (simp [g19];done) | (have g:x.key.kind=32:=nu h1 (by simpa [g19] using v11);simp [g19,g];done) | (simp at g19 ⊢ <;> omega) | (simp [g19] <;> omega)) (e)
  refine(bp) fG e.b0<|(cO) (fun b=>?_) (fun b=>?_)
  ·
   exact(cp) (by first | (simp only [g19,b];done) | (simp [g19,b];done) | (have g:x.key.kind=32:=nu h1 (by simpa [g19,b] using v11);simp [g19,b,g];done) | (simp at g19 b ⊢ <;> omega) | (simp [g19,b] <;> omega)) (e)
  refine(bp) dd e.b0<|(cO) (fun d=>?_) (fun d=>?_)
  ·
   refine(ko) ak e.b0<|(eY) (dY (k:=x.key) G) e fun w4 O I=>?_;exact(cp) (by first | (simp only [g19,b,d];done) | (simp [g19,b,d];done) | (have g:x.key.kind=32:=nu h1 (by simpa [g19,b,d] using v11);simp [g19,b,d,g];done) | (simp at g19 b d ⊢ <;> omega) | (simp [g19,b,d] <;> omega)) (I)
  exact(cp) (by first | (simp only [g19,b,d];done) | (simp [g19,b,d];done) | (have g:x.key.kind=32:=nu h1 (by simpa [g19,b,d] using v11);simp [g19,b,d,g];done) | (simp at g19 b d ⊢ <;> omega) | (simp [g19,b,d] <;> omega)) (e)
 intro w2 st2;refine(aX) (fun z=>?_) fun z=>?_
 ·
  exact cL z
 refine gW ?_;refine WC.jJ (t:=2) (v:=.bool true) st2 ?_<|?_
 ·
  refine(bp) aP st2.b0<|(cO) (fun h=>?_) (fun h=>?_)
  ·
   refine(bp) aP st2.b0<|(bp) aP st2.b0<|(cO) (fun m=>?_) (fun m=>?_)
   ·
    refine(bp) aP st2.b0<|(cO) (fun o=>?_) (fun o=>?_)
    ·
     refine(bp) aP st2.b0<|(cO) (fun q=>?_) (fun q=>?_)
     ·
      refine(bp) aP st2.b0<|(cO) (fun r=>?_) (fun r=>?_)
      ·
       refine(bp) fG st2.b0<|nx ?_;refine WL.c1 (u:=.bool false) (nN (p:=fun _=>false) Qr (hk.ext (St.cg st2)) (fun w1 _ y hy=>pT (C y hy))) (by rw [List.any_eq_false.2 (fun _ _=>by simp)]) st2 fun w3 H e=>?_;exact(fF) (tG (aj h<|aj m<|aj o<|aj q r)) (e)
      exact(fF) (tG (aj h<|aj m<|aj o<|aj q r)) (st2)
     refine aT ?_;exact(fF) (tG (aj h<|aj m<|aj o q)) (st2)
    refine aT ?_;exact(fF) (tG (aj h<|aj m o)) (st2)
   refine aT ?_;exact(fF) (tG (aj h m)) (st2)
  refine aT ?_;refine aT ?_;exact(fF) (tG h) (st2)
 intro w3 e;refine(bB) ?_;exact⟨rfl,(St.cg e)⟩
theorem nO{l:List Rec}(hl:Rd RR.iV 8 Z w a n c l) (q:∀x∈l,DL aa x) (s:mR l) (L:l.length≤4000):CR prog 108 #[.slice a n c] w (.bool true):=by
 have hlen:=hl.len;have hle:=hl.le;refine enter func108 rfl ntmps108 rfl<|?_;have aO:=St.s0 w;refine aT ?_;refine bM ?_;refine WC.bj (σ:=Nat) (db:=fun j=>[(0,.slice a n c),(5,.slice a n c),(6,.int .i64 (n:Int)),(7,.int .i64 (j:Int))]) (F:=fun j=>[]) (I:=fun j=>(j≤n)∧True) (μ:=fun j=>n - j) (0) (aO) Sub.t (⟨by omega,trivial⟩)<|?_;rintro j w1 st1 ⟨u,_⟩;simp only [CA,NA] at st1 u ⊢;refine(aX) (fun g8=>?_) fun g8=>?_
 ·
  simp at g8
  have g:j<l.length:=by omega
  refine dp ?_;obtain⟨N,O,P,y,Q,z,A,R⟩:=Rd.at hl g;obtain⟨q1,S,T,rfl,B,U⟩:=z;refine bM ?_;refine WP .r (PV.dR lM y rfl rfl (by omega))<|(bP) fI (aV A (St.cg st1) (by simp))<|(gx) st1 fun b4 w2 V W st2=>?_;refine(dZ) mF st2 fun w3 X Y i=>?_;refine cv ?_;refine WC.eF (t:=30) (v:=.bool false) i ?_<|?_
  ·
   have hN4:=i.bL;refine WC.dh (m:=15) (E:=cA [(1,fun v _=>v=.bool true)]) i (bz (⟨fun _ _ _ _ _ _ _ h=>h,trivial⟩)) mixed (by kernel_rfl)<|(gy) fI St.g0<|?_;refine DW.c0 (fun wx e hF=>rW (B.ext (St.cg e.2)) (q _ (List.getElem_mem g)))<|(pF) (fun g18=>?_) (fun g18=>?_)
   ·
    have Ri:1≤j:=by have h0:=g18;simp at h0;omega
    have o:j - 1<l.length:=by omega
    have oQ:bl l[j - 1].key l[j].key<0:=List.pairwise_iff_getElem.1 s (j - 1) j o g (by simp at g18;omega);obtain⟨rM,Fo,Fp,C,yk,G,H,nP⟩:=Rd.at hl o;obtain⟨p1,p2,p3,rfl,_,_⟩:=G;refine cv ?_;refine DP .r (fun _ e=>PV.BD lM (j - 1) C rfl rfl (by omega) (by omega))<|nx ?_;refine DP .r (fun _ e=>PV.wK ak (aV H (St.cg e.2) (by simp)) rfl rfl)<|(y9) ak St.g0<|(cM)<|?_;rintro w4 ⟨J,d⟩ ⟨_,_⟩;refine(eY) (j3 (a:=l[j - 1].key) (b:=l[j].key)) d fun w5 s5 K=>?_;exact(cp) (tG g18) (K)
   refine(cM) ?_;rintro w4 ⟨J,d⟩ ⟨_,_⟩;exact(cp) (tG g18) (d)
  intro w4 d;refine(aX) (fun p=>?_) fun p=>?_
  ·
   exact cL p
  refine fb ?_;refine fx (j+1) ⟨d.drop,⟨by omega,trivial⟩⟩
 simp at g8
 refine aT ?_;refine(bB) ?_;exact⟨by simp;omega,(St.cg st1)⟩
theorem rX{i:Nat}(gu:i≤99) (hk:k=⟨30,itoa i⟩):CR prog 109 #[k.val] w (.bool true):=by
 subst hk;refine enter func109 rfl ntmps109 rfl<|?_;have aO:=St.s0 w;refine(dx) aO fun b1 w1 d e st1=>?_;refine(bP) ak st1.b0<|(eY) (fJ (k:=⟨30,itoa i⟩) ⟨(by decide:(30:Int)≤30),(by decide:(30:Int)≤32)⟩ rfl gu) st1 fun w2 s2 st2=>?_;refine(bP) ak st2.b0<|?_;refine WL.c1 (u:=.bool true) (bX (k:=⟨30,itoa i⟩)) (by rw [show aw ⟨30,itoa i⟩=true from rfl]) st2 fun w3 g b=>?_;refine(bB) ?_;exact⟨rfl,(St.cg b)⟩
set_option maxHeartbeats 1600000 in
set_option maxRecDepth 100000 in
theorem oD{a1 a2:Option Addr}{n1 e1 n2 e2:Nat}(hi:Rd RR.aD 4 Z w a1 n1 e1 x.ab) (hr:Rd RR.iV 8 Z w a2 n2 e2 x.ai) (S:qP aa x):CR prog 69 #[.agg (x.row a1 n1 e1 a2 n2 e2).toArray] w (.bool true):=by
 obtain⟨x0,x1,L,T,x6,U,xs,V,W⟩:=S;have dw:=hi.len;have Tg:=hi.le;have Bf:=hr.len;refine enter func69 rfl ntmps69 rfl<|?_;have aO:=St.s0 w;refine(dx) aO fun b1 w1 VQ Ly st1=>?_;refine dp ?_;refine WC.eF (t:=24) (v:=.bool false) st1 ?_<|?_
 ·
  refine(bp) aP st1.b0<|(cO) (fun g8=>?_) (fun g8=>?_)
  ·
   refine aT ?_;exact(cp) (tG g8) (st1)
  refine(bp) aP st1.b0<|(cO) (fun g13=>?_) (fun g13=>?_)
  ·
   exact(cp) (tG (aj g8 g13)) (st1)
  refine(bp) i7 st1.b0<|(cO) (fun g19=>?_) (fun g19=>?_)
  ·
   exact(cp) (tG (aj g8<|aj g13 g19)) (st1)
  refine(bp) kg st1.b0<|(eY) (nO (hr.ext (St.cg st1)) U xs V) st1 fun w2 s2 st2=>?_;exact(cp) (tG (aj g8<|aj g13 g19)) (st2)
 intro w2 st2;refine(aX) (fun g24=>?_) fun g24=>?_
 ·
  exact cL g24
 refine(bp) i7 st2.b0<|dp ?_;refine WC.bj (σ:=Nat) (db:=fun j=>[(1,.pointer (some ⟨b1,0,none⟩)),(26,.slice a1 n1 e1),(27,.int .i64 (n1:Int)),(28,.int .i64 (j:Int))]) (F:=fun j=>[]) (I:=fun j=>(j≤n1)∧True) (μ:=fun j=>n1 - j) (0) (st2) Sub.t (⟨by omega,trivial⟩)<|?_;rintro j w3 o ⟨X,_⟩;simp only [CA,NA] at o X ⊢;refine(aX) (fun C=>?_) fun C=>?_
 ·
  simp at C
  have A:j<x.ab.length:=by omega
  obtain⟨y,hy⟩:∃y,x.ab[j]=y:=⟨_,rfl⟩;obtain⟨i,gu,Y⟩:=T _ (hy ▸ List.getElem_mem A);obtain⟨_,_,hv,hc0,hc1⟩:=L.2 _ (hy ▸ List.getElem_mem A);refine dp ?_;obtain⟨jj,sJ,sK,eB,ma,G,N,iI⟩:=Rd.at hi A;have G:=RR.bt G;subst G;rw [hy] at N
  have O:j - 1<x.ab.length:=by omega
  obtain⟨z,P⟩:∃z,x.ab[j - 1]=z:=⟨_,rfl⟩;refine bM ?_;refine WP .r (PV.dR pM eB rfl rfl (by omega))<|(bP) kc (aV N (St.cg o) (by simp))<|(gx) o fun b4 w4 CX H0 H=>?_;refine(dZ) xK H fun w5 nT rH J=>?_;refine cv ?_;refine WC.eF (t:=71) (v:=.bool false) J ?_<|?_
  ·
   have QZ:=J.bL;refine WC.dh (m:=37) (E:=cA [(2,fun v _=>v=.bool true),(17,fun v _=>v=.int .i64 (bl z.key y.key))]) J (bz (⟨fun _ _ _ _ _ _ _ h=>h,⟨fun _ _ _ _ _ _ _ h=>h,trivial⟩⟩)) mixed (by kernel_rfl)<|(y9) ak St.g0<|?_;refine DW.c0 (fun wx B hF=>rX gu Y)<|(pF) (fun e=>?_) (fun e=>?_)
   ·
    have Ri:1≤j:=by have h0:=e;simp at h0;omega
    have oQ:bl z.key y.key<0:=by rw [← hy,← P];exact List.pairwise_iff_getElem.1 L.1 (j - 1) j O A (by omega)
    obtain⟨rM,Fo,Fp,iJ,yk,K,Q,nP⟩:=Rd.at hi O;have K:=RR.bt K;subst K;rw [P] at Q;refine(gX) i7 St.g1<|bM ?_;refine DP .r (fun _ B=>PV.BD pM (j - 1) iJ rfl rfl (by omega) (by omega))<|nx ?_;refine DP .r (fun _ B=>PV.wK ak (aV Q (St.cg B.2) (by simp)) rfl rfl)<|(y9) ak St.g0<|?_;refine DW.c0 (fun wx B hF=>j3 (a:=z.key) (b:=y.key))<|(pF) (fun u=>?_) (fun u=>?_)
    ·
     refine aT ?_;refine(cM) ?_;rintro w6 ⟨s,d⟩ ⟨_,⟨_,_⟩⟩;exact(cp) (tG (aj e u)) (d)
    refine(gX) ff St.g0<|(pF) (fun g=>?_) (fun g=>?_)
    ·
     refine(cM) ?_;rintro w6 ⟨s,d⟩ ⟨_,⟨_,_⟩⟩;exact(cp) (tG (aj e<|aj u g)) (d)
    refine(gX) aP St.g0<|(pF) (fun q=>?_) (fun q=>?_)
    ·
     refine(cM) ?_;rintro w6 ⟨s,d⟩ ⟨_,⟨_,_⟩⟩;exact(cp) (tG (aj e<|aj u<|aj g q)) (d)
    refine(gX) aP St.g0<|(gX) aP St.g1<|(cM)<|?_;rintro w6 ⟨s,d⟩ ⟨_,⟨_,_⟩⟩;exact(cp) (tG (aj e<|aj u<|aj g q)) (d)
   refine aT ?_;refine(gX) ff St.g0<|(pF) (fun g=>?_) (fun g=>?_)
   ·
    refine(cM) ?_;rintro w6 ⟨s,d⟩ ⟨_,_⟩;exact(cp) (tG (aj e g)) (d)
   refine(gX) aP St.g0<|(pF) (fun q=>?_) (fun q=>?_)
   ·
    refine(cM) ?_;rintro w6 ⟨s,d⟩ ⟨_,_⟩;exact(cp) (tG (aj e<|aj g q)) (d)
   refine(gX) aP St.g0<|(gX) aP St.g1<|(cM)<|?_;rintro w6 ⟨s,d⟩ ⟨_,_⟩;exact(cp) (tG (aj e<|aj g q)) (d)
  intro w6 d;refine(aX) (fun R=>?_) fun R=>?_
  ·
   exact cL R
  refine fb ?_;refine fx (j+1) ⟨d.drop,⟨by omega,trivial⟩⟩
 simp at C
 refine(bp) kg o.b0<|?_;refine WP .r (PV.func (us:=[]) (vs:=[.pointer (some ⟨b1,0,none⟩)]) rfl rfl)<|(eY) (oA (p:=fun r=>decide (x.ad<r.aq)) PF (hr.ext (St.cg o)) (fun wq hq y _ a n c _=>oC ((As.gb o.g0).ext hq)) (fun y hy=>by have:=W y hy;simp;omega)) o fun w4 s4 H=>?_;refine(bB) ?_;exact⟨by simp,(St.cg H)⟩
theorem py(g:St w M Z w [As.os RR.key 43 2 a n c l]) (h0:l≠[]) (hn:l.length≤1000000):Calls prog 85 #[.slice a n c,.func (.func 83) #[] #[]] w fun e w'=>e=.returned (.tuple #[])∧∃l',l'.Perm l∧(l'.Pairwise fun x y=>¬bl y x<0)∧St w M Z w' [As.os RR.key 43 2 a n c l']:=
 tT (row:=Key.cells) (key:=fun x=>x) (fun _=>rfl) (fun x v b=>by(simp [Key.cells] at b;rcases b with rfl | rfl <;> rfl)) (fun blk cap d w hc hH hb h=>slices_SortFunc 2 isAgg43 sizeOf43 Key.cells (fun _=>rfl) (fun x v b=>by(simp [Key.cells] at b;rcases b with rfl | rfl <;> rfl)) _ Bk 83 #[] blk 0 cap d w Pv hc hH hb h) (fun x y w=>j3) g h0 hn
set_option maxHeartbeats 400000
theorem vG{x y:Rec × RL} :CR prog 82 #[.agg (Rec.uY x).toArray,.agg (Rec.uY y).toArray] w (.int .i64 (bl x.1.key y.1.key)):=by
 refine enter func82 rfl ntmps82 rfl<|?_;have aO:=St.s0 w;refine(dx) aO fun b2 w1 e g st1=>?_;refine(dx) st1 fun b3 w2 h i st2=>?_;refine(ko) ak st2.b1<|(ko) ak st2.b0<|(eY) (j3 (a:=x.1.key) (b:=y.1.key)) st2 fun w3 m d=>?_;refine(bB) ?_;exact⟨rfl,(St.cg d)⟩
instance:Inhabited (Rec × RL):=⟨(na,⟨0,none,0,0⟩)⟩
theorem vH{l:List (Rec × RL)}(b:St w M Z w [As.os RR.zD 50 8 a n c l]) (h0:l≠[]) (hn:l.length≤1000000):Calls prog 81 #[.slice a n c,.func (.func 82) #[] #[]] w fun e w'=>e=.returned (.tuple #[])∧∃l',l'.Perm l∧(l'.Pairwise fun x y=>¬bl y.1.key x.1.key<0)∧St w M Z w' [As.os RR.zD 50 8 a n c l']:=
 tT (row:=Rec.uY) (key:=fun x=>x.1.key) (fun _=>rfl) Rec.Kp (fun blk cap d w hc hH hb g=>slices_SortFuncR 8 isAgg50 sizeOf50 Rec.uY (fun _=>rfl) Rec.Kp _ Bk 82 #[] blk 0 cap d w call82 hc hH hb g) (fun x y w=>vG) b h0 hn
set_option maxHeartbeats 400000
set_option maxHeartbeats 400000
set_option maxHeartbeats 400000
set_option maxHeartbeats 400000
theorem H9(b:ao aa) (q:∀k,(valOf aa x.ab k).size≤1000):∀i:Nat,i<aa.length→Jd aa x D (aN aa (i:Int)):=by
 intro i;have A:=b.len;have low:∀n:Nat,n≤15→Jd aa x D (bO (n:Int)):=fun n hn w M Z ml al d e hm _=>px d e hm (aR (by omega))
 induction i using Nat.strongRecOn with
 | _ i r=>
  intro hi w M Z ml al d e hm g
  have gu:i≤99:=by omega
  have u:jz aa i al:=by
   have h:=g (cG hi gu);rw [bC hi gu,Int.toNat_natCast] at h;exact h
  refine Am d e hm b hi q u (fun hr w M Z ml al d e hm g=>?_) (fun hr a o=>?_)
  ·
   rw [bC hi gu,Int.toNat_natCast] at g;refine vD d e hm b q hi hr g fun j s a o hc=>?_;have p:=o.Nk b
   rcases o with⟨n,hn,rfl⟩ | ⟨m,hm,rfl,h1,t,B,v⟩
   ·
    exact low n hn
   have y:aA aa m=false:=by
    rw [hc,dn hm (by omega)] at p
    cases h:aA aa m
    ·
     rfl
    rw [h] at p;simp at p
   have C:bd aa j≤i:=Nat.le_trans (iy b s) (eL aa i)
   have z:m<i:=by
    have:=v y (gC hi hr s).2
    omega
   exact r m z hm
  rcases o with⟨n,hn,rfl⟩ | ⟨m,hm,rfl,_,t,_⟩
  ·
   exact low n hn
  exact r m (t hr) hm
theorem Fq(b:ao aa) (d:∀k,(valOf aa x.ab k).size≤1000) {k:Key}(hk:dU aa k):Jd aa x D k:=by
 cases hk with
 | cell h=>exact fun w M Z ml al e g hm _=>px e g hm (aR h)
 | dM h _=>exact H9 b d _ h
end Go.Rc

