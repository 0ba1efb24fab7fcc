/- Walks over the program, part WY. Conditions: as each theorem says. -/
import Derived.Test.YtpoiojafnnaccaaGreatDoorUFacts
import Derived.Test.YtpoiojafnnaccaaGreatDoorUWB
import Derived.Test.YtpoiojafnnaccaaGreatDoorUWD
import Derived.Test.YtpoiojafnnaccaaGreatDoorUBf
import Derived.Test.YtpoiojafnnaccaaGreatDoorUBd
import Derived.Test.YtpoiojafnnaccaaGreatDoorUWUa
set_option linter.all false
namespace Go.Rc
open Go Go.Proofs Go.Proofs.Tryz
variable {a b1 b2:Option Addr}{n c d r wb rb p1 g1 p2 g2 i:Nat}{w:World}{M Z:Nat→Prop}{m:Int}{l:List Key}{f:FuncId}{cap:Value}{x:dV}{y:Rec}{k:Key}{mD ml:List (Key × Value)}{D:WD}{S:SD}{ab:List aJ}
set_option maxHeartbeats 400000
theorem IP{l:List Int}(bF:St w M Z w []) (hl:Rd RR.int 1 Z w a n c l) (h4:n≤400):Calls prog 7 #[.slice a n c] w fun e w'=>∃d,e=.returned (.pointer (some ⟨d,0,none⟩))∧St w M Z w' [As.jR 74 d]:=
 (KH (A:=Z) (l:=l) hl h4).mono fun e w' ⟨d,h1,h2,h3,hc⟩=>⟨d,h1,bF.new hc h3 fun x hx=>by have hx:x=d:=hx;subst hx;exact h2⟩
theorem bZ(bF:St w M Z w [As.jR 74 d]) (hm:m≤4611686018427387904):Calls prog 11 #[.pointer (some ⟨d,0,none⟩),.int .i64 m] w fun e w'=>∃z:Int,e=.returned (.int .i64 z)∧0≤z∧(1≤m→z<m)∧St w M Z w' [As.jR 74 d]:=
 (KI (A:=Z) (As.gd bF.g0) (bF.pI (As.jR 74 d) (by simp) d rfl) hm).mono fun e w' ⟨z,h1,h2,h3,hc,hd⟩=>⟨z,h1,h2,h3,bF.ox (hc.p.mono fun x _ hx=>show x=d from by simpa using hx) hd fun x hx=>.inl hx⟩
theorem IQ{l:List ByteArray}(bF:St w M Z w [As.jR 74 d,As.os RR.str 9 1 a r c l]) (h0:0<r) (h1:r≤1000):Calls prog 70 #[.pointer (some ⟨d,0,none⟩),.slice a r c] w fun e w'=>∃s:ByteArray,e=.returned (.string s)∧s∈l∧St w M Z w' [As.jR 74 d,As.os RR.str 9 1 a r c l]:=by
 have hlen:=(As.gs bF.g1).len;refine enter func70 rfl ntmps70 rfl<|?_;have aW:=bF;refine qT ?_;have st1:=aW;refine(df) l7 (bZ st1.e1 (m:=(r:Int)) (by omega)) ?_;rintro _ w1 ⟨z,rfl,ata,afI,BV⟩;have st2:=St.lr st1 BV;have afI:=afI (by omega);obtain⟨i,rfl⟩:∃i:Nat,z=i:=⟨z.toNat,by omega⟩
 have hi:i<l.length:=by omega
 obtain⟨gE,aS⟩:=Ow.addr (As.gs st2.g1) (aq hi);refine WP .r (PV.fm CJ aS rfl rfl (by omega))<|WP .r (PV.pM iq (Ow.rE (As.gs st2.g1) (by omega) aS (aq hi)) rfl rfl)<|(cm) ?_;exact⟨_,rfl,List.getElem_mem hi,st2⟩
theorem C2(bF:St w M Z w [As.jR 74 d]):Calls prog 34 #[.pointer (some ⟨d,0,none⟩)] w fun e w'=>∃x:Change,e=.returned (.agg x.cells.toArray)∧x.small∧St w M Z w' [As.jR 74 d]:=by
 refine enter func34 rfl ntmps34 rfl<|?_;have aW:=bF;refine(fT) aW fun b2 w1 lB eZ st1=>?_;refine eA ?_;have st2:=st1.p1;refine(df) l7 (bZ st2.e1 (m:=4) (by omega)) ?_;rintro _ w2 ⟨z4,rfl,Q6,IU,tj⟩;have aP:=St.lr st2 tj;have IU:=IU (by omega);refine(gw) (qn (n:=z4)) aP fun w3 s3 aV=>?_;refine nx ?_;refine WL.go rfl (OX.bA (us:=words.map Value.string) Tj rfl rfl rfl rfl fun b7 w4 tJ nT=>?_);have bf:=St.wR (R:=RR.str) (E:=9) (k:=1) (a:=some ⟨b7,0,none⟩) (n:=10) (c:=10) (xs:=words) aV tJ.ext (Ow.flat nT rfl (by simp) (by simp [words,Value.oneCell']) rfl (by decide)) (fun x hx=>by simp [aL] at hx;subst hx;exact tJ.ge);have br:=bf.p1;refine(df) ajU (IQ br.e2 (by decide) (by decide)) ?_;rintro _ w5 ⟨s,rfl,hs,ja⟩;have bP:=St.lr br ja;refine WP .r (PV.cD (us:=(Change.mk (eL z4) s).cells) ajh rfl rfl rfl)<|(dB) P8 bP.p2 fun w6 jC jI bS=>?_;refine(mI) HV bS.b0<|?_;exact⟨⟨eL z4,s⟩,rfl,⟨⟨z4,Q6,by omega,rfl⟩,Qt s hs⟩,bS.drop.p1.drop⟩
theorem sq(bF:St w M Z w [As.jR 74 d]) (hm:0≤m) (jg:m≤1000):Calls prog 10 #[.pointer (some ⟨d,0,none⟩),.int .i64 m] w fun e w'=>∃a n c,∃l:List Change,e=.returned (.slice a n c)∧(l.length:Int)≤m∧(∀x∈l,x.small)∧St w M Z w' [As.jR 74 d,As.os RR.cX 79 3 a n c l]:=by
 refine enter func10 rfl ntmps10 rfl<|?_;have aW:=bF;have st1:=aW.eX RR.cX 79 3;refine bC ?_;refine dF ?_;have st2:=st1.p1;refine(df) l7 (bZ st2.e1 (m:=m+1) (by omega)) ?_;rintro _ w1 ⟨z0,rfl,Q7,sr,BV⟩;have aP:=St.lr st2 BV;have sr:=sr (by omega);obtain⟨z,rfl⟩:∃z:Nat,z0=z:=⟨z0.toNat,by omega⟩;refine dF ?_;refine WC.bQ (σ:=Nat × (List Change) × (Option Addr) × Nat × Nat) (eI:=fun(i,l,kf,gJ,kg)=>[(0,.pointer (some ⟨d,0,none⟩)),(5,.slice kf gJ kg),(6,.int .i64 (i:Int))]) (F:=fun(i,l,kf,gJ,kg)=>[As.os RR.cX 79 3 kf gJ kg (l),As.jR 74 d]) (I:=fun(i,l,kf,gJ,kg)=>(l.length+i≤z)∧(∀x∈l,x.small)∧True) (μ:=fun(i,l,kf,gJ,kg)=>i) (z,[],none,0,0) (aP.p1) Sub.t (⟨by simp,by simp,trivial⟩)<|?_;rintro⟨i,l,kf,gJ,kg⟩ w2 aV ⟨hlz,En,_⟩;simp only [CA,NA] at aV hlz En ⊢;have Vd:=((As.gs aV.g0)).len;refine(bp) (fun g12=>?_) fun g12=>?_
 ·
  simp at g12
  refine gp ?_;have bf:=aV.p1;refine(df) ajC (C2 bf.e1) ?_;rintro _ w3 ⟨x,rfl,hx,eG⟩;have br:=St.lr bf eG;refine WL.go rfl (OX.bA (us:=x.cells) Yc rfl rfl rfl rfl fun b18 w4 T4 T5=>?_);have bP:=br.eW T4 T5;refine WL.ap rfl rfl bP.p2 (SR.eP (A:=fun _=>True) (x:=x) (As.gb bP.g0) trivial rfl (by simp [Change.cells,Value.oneCell']) rfl) fun a19 Y5 w5 aky akz bS=>?_;refine qC ?_;refine fx (i - 1,l++[x],a19,(gJ+1),Y5) ⟨bS.p1.drop,⟨by simp;omega,fun y hy=>by rcases List.mem_append.1 hy with h | h;exact En y h;simp at h;subst h;exact hx,trivial⟩⟩
 simp at g12
 refine(cm) ?_;exact⟨_,_,_,l,rfl,by omega,En,aV.p1⟩
set_option maxHeartbeats 4000000 in
theorem F3(bF:St w M Z w [As.jR 74 d]):Calls prog 27 #[.pointer (some ⟨d,0,none⟩)] w fun e w'=>∃a n c,∃l:List aJ,∃Z',e=.returned (.slice a n c)∧ay l∧2≤l.length∧l.length≤8∧cQ w.heap.size Z Z'∧St w M Z' w' [As.jR 74 d,As.os RR.gN 69 4 a n c l]:=by
 refine enter func27 rfl ntmps27 rfl<|?_;have aW:=bF;have st1:=aW.eX RR.gN 69 4;refine bC ?_;refine db ?_;have st2:=st1.p1;refine(df) l7 (bZ st2.e1 (m:=7) (by omega)) ?_;rintro _ w1 ⟨z0,rfl,Q7,sr,BV⟩;have aP:=St.lr st2 BV;have sr:=sr (by omega);obtain⟨z,rfl⟩:∃z:Nat,z0=z:=⟨z0.toNat,by omega⟩;refine eA ?_;refine WC.bQ (σ:=Nat × (List aJ) × (Option Addr) × Nat × Nat) (eI:=fun(i,l,kf,gJ,kg)=>[(0,.pointer (some ⟨d,0,none⟩)),(3,.slice kf gJ kg),(4,.int .i64 (i:Int))]) (F:=fun(i,l,kf,gJ,kg)=>[As.os RR.gN 69 4 kf gJ kg (l),As.jR 74 d]) (I:=fun(i,l,kf,gJ,kg)=>(l.length+i=z+2)∧True) (μ:=fun(i,l,kf,gJ,kg)=>i) (z+2,[],none,0,0) (aP.p1) Sub.t (⟨by simp,trivial⟩)<|?_;rintro⟨i,l,kf,gJ,kg⟩ w2 aV ⟨hlz,_⟩;simp only [CA,NA] at aV hlz ⊢;have Vd:=((As.gs aV.g0)).len;refine(bp) (fun g16=>?_) fun g16=>?_
 ·
  simp at g16
  refine gp ?_;have bf:=aV.p1;refine(df) l7 (bZ bf.e1 (m:=3) (by omega)) ?_;rintro _ w3 ⟨z1,rfl,apc,Wc,eG⟩;have br:=St.lr bf eG;have Wc:=Wc (by omega);obtain⟨g,hg⟩:∃g:Bool,g=decide (z1=1):=⟨_,rfl⟩;refine nx ?_;refine WP .r (PV.cD (us:=[.bool (decide (z1=1)),.slice none 0 0,.int .i64 0,.int .i64 0]) Yj rfl rfl rfl)<|?_;refine WL.go rfl (OX.bA (us:=[.bool (decide (z1=1)),.slice none 0 0,.int .i64 0,.int .i64 0]) Kt rfl rfl rfl rfl fun b24 w4 al5 al6=>?_);have bP:=br.eW al5 al6;refine WL.ap rfl rfl bP.p2 (SR.eP (A:=fun _=>True) (x:=begun g) (As.gb bP.g0) trivial rfl (by simp [Value.oneCell']) ⟨none,0,0,by rw [hg];rfl,SR.nil _ _ _ _⟩) fun a25 al7 w5 atb atc bS=>?_;refine qC ?_;refine fx (i - 1,l++[begun g],a25,(gJ+1),al7) ⟨bS.p1.drop,⟨by simp;omega,trivial⟩⟩
 simp at g16
 refine bC ?_;refine db ?_;refine WC.kj (σ:=Nat × (List aJ) × (Nat→Prop)) (eI:=fun(i,l1,Z1)=>[(0,.pointer (some ⟨d,0,none⟩)),(3,.slice kf gJ kg),(27,.int .i64 (gJ:Int)),(28,.int .i64 (i:Int))]) (F:=fun(i,l1,Z1)=>[As.jR 74 d,As.os RR.gN 69 4 kf gJ kg l1]) (I:=fun(i,l1,Z1)=>(i≤gJ)∧(oC l1 i)∧(cQ w.heap.size Z Z1)∧True) (μ:=fun(i,l1,Z1)=>gJ - i) (Zf:=fun(i,l1,Z1)=>Z1) (0,l,Z) (aV.p1) Sub.t (⟨Nat.zero_le _,oC.start (by omega),cQ.refl _ _,trivial⟩)<|?_;rintro⟨i,l1,Z1⟩ w3 bf ⟨hi,hPo,hZ,_⟩;simp only [CA,NA] at bf hi hPo hZ ⊢;have jM:=((As.gs bf.g1)).len;have hP8:=hPo.1;refine(bp) (fun oq=>?_) fun oq=>?_
 ·
  simp at oq
  have cV:i<l1.length:=by omega
  have hrt:=da cV;have uX:=Cy cV;refine bC ?_;refine(gw) (yn (n:=(i:Int)) (Ow.rd (As.gs bf.g1) (by omega))) bf fun w4 s4 br=>?_;refine qC ?_;obtain⟨bx,mg⟩:=Ow.addr (As.gs br.g1) (aq cV);refine dw ?_;refine WP .r (PV.fm lO mg rfl rfl (by omega))<|nx ?_;refine WP .r (PV.pM fG (Ow.ring (As.gs br.g1) mg (by omega) cV) rfl rfl)<|dw ?_;have bP:=br;refine WC.nk (σ:=Int) [] (fun most=>[(0,.pointer (some ⟨d,0,none⟩)),(3,.slice kf gJ kg),(5,.int .i64 (i:Int)),(7,.int .i64 most),(27,.int .i64 (gJ:Int)),(28,.int .i64 (i:Int))]) (fun most=>[]) (fun most=>(most=il l1 i)∧True) bP ?_ ?_
  ·
   refine(bp) (fun kE=>?_) fun kE=>?_
   ·
    have kE:l1[i].ring=false:=by simpa using kE
    refine dF ?_;exact tw ((block l1 (i:Int)).1) ⟨bP,⟨by unfold il;rw [hrt,kE];rfl,trivial⟩⟩
   have kE:l1[i].ring=true:=by simpa using kE
   refine nx ?_;exact tw ((block l1 (i:Int)).2) ⟨bP,⟨by unfold il;rw [hrt,kE];rfl,trivial⟩⟩
  rintro most w5 bS ⟨Wd,_⟩;simp only [CA,NA] at bS Wd ⊢;refine db ?_;refine WC.dq (m:=12) [] [6,9] [5,6,8,9,0,1,2,3,4,7,10,11] [(11,.blk 69 [.bool false,.slice none 0 0,.int .i64 0,.int .i64 0])] bS (ax.cons M1<|ax.nil) mixed (by kernel_rfl) (by kernel_rfl) rfl<|(jD) (fun w6 Wa IK bX sn=>?_);simp only [CA,NA] at bX;have aM:=bX;refine OX.call l7 rfl rfl ((bZ aM.e1 (m:=4) (by omega)).mono ?_);rintro _ w7 ⟨z2,rfl,afK,IV,ke⟩;have aT:=St.lr aM ke;have IV:=IV (by omega);refine⟨_,rfl,ke.cX.size,_,rfl,_,_,_,aT,aC.k2<|aC.nil,ax.cons M1<|ax.nil,?_⟩;refine(jD) (fun w8 R9x N5 aY yD=>?_);simp only [CA,NA] at aY;have bG:=aY;refine OX.call l7 rfl rfl ((bZ bG.e1 (m:=6) (by omega)).mono ?_);rintro _ w9 ⟨z3,rfl,afL,IW,my⟩;have bB:=St.lr bG my;have IW:=IW (by omega);refine⟨_,rfl,my.cX.size,_,rfl,_,_,_,bB,aC.k2<|aC.nil,ax.cons M1<|ax.nil,?_⟩
  iterate 2 refine DG.a ?_
  refine DQ .r (fun wx Zx Rx _ fV lX=>PV.fm lO mg rfl rfl (by omega))<|?_;refine DG.a<|?_;refine DQ .r (fun wx Zx Rx _ fV lX=>PV.pM fG (Ow.ring (As.gs (fV.sv lX).g0) mg (by omega) cV) rfl rfl)<|?_;refine DG.a<|?_;refine DQ .r (fun wx Zx Rx _ fV lX=>PV.cD (us:=[.bool l1[i].ring,.slice none 0 0,.int .i64 (1+z2),.int .i64 z3]) Yj rfl rfl rfl)<|?_;refine DG.side (s:=.blk 69 [.bool false,.slice none 0 0,.int .i64 0,.int .i64 0]) rfl rfl rfl rfl rfl rfl (fun wx Zx Rx BX fV=>OX.alloc Tm rfl fun b wy nw hb=>⟨nw.ext.size,_,rfl,⟨b,rfl⟩,fV.eW nw hb⟩)<|?_;rintro _ ⟨b8,rfl⟩;refine(oa) ?_;intro kM Ms bd;simp only [CM,NM,CA,NA,lA.it] at bd;refine(dB) Kw bd fun kN jC jI aU=>?_;refine WL.nil (EX.np ?_);refine(bN) fG aU.b0<|db ?_;have bM:=aU;refine WC.nk (σ:=Int × Int) [_] (fun(f0,c0)=>[(0,.pointer (some ⟨d,0,none⟩)),(3,.slice kf gJ kg),(5,.int .i64 (i:Int)),(7,.int .i64 most),(8,.pointer (some ⟨b8,0,none⟩)),(27,.int .i64 (gJ:Int)),(28,.int .i64 (i:Int))]) (fun(f0,c0)=>[As.blk b8 69 [.bool l1[i].ring,.slice none 0 0,.int .i64 f0,.int .i64 c0]]) (fun(f0,c0)=>(∀xs:List Ask,jV ⟨l1[i].ring,xs,f0,c0⟩=true)∧True) bM ?_ ?_
  ·
   refine(bp) (fun FR=>?_) fun FR=>?_
   ·
    have al8:d<kN.heap.size:=(As.jR 74 d).lt (bM.g1) d rfl;have aab:b8<kN.heap.size:=((As.gb bM.g0)).lt;have bO:=bM;have bD:=bO.conv (B:=As.aiH (ι:=Int) b8 69 fun f=>[.bool l1[i].ring,.slice none 0 0,.int .i64 f,.int .i64 z3]) ⟨_,(As.gb bO.g0)⟩ (fun _ h=>h);have al9:=bD.dc;have afM:=bD.mj;have afN:=bD.size;refine WC.O3 (m:=8) (fun j w w'=>match j with | 2=>jf (fun x=>x=d) w w' | 6=>jf (fun x=>x=b8) w w' | _=>jf (fun _=>False) w w') (E:=dy [(0,PS kN.heap.size 3 6 [.int .i64 0,.int .i64 1,.int .i64 2,.int .i64 4,.int .i64 8,.int .i64 16]),(2,fun v _=>∃z:Nat,v=.int .i64 (z:Int)∧z<6),(3,fun v wx=>∃b k:Nat,v=.pointer (some ⟨b,0+k*1,none⟩)∧k<6∧kN.heap.size≤b∧cJ wx b 3 [.int .i64 0,.int .i64 1,.int .i64 2,.int .i64 4,.int .i64 8,.int .i64 16]),(4,fun v _=>∃z:Int,v=.int .i64 z∧0≤z∧z≤65535),(6,fun _ wx=>wx.cell? ⟨b8,2,none⟩=some (.int .i64 5))]) bD (o9 (⟨⟨trivial,fun _ _ _ _ _ c h=>PS.st (fun x hx=>by subst hx;exact al8) c h,fun _ _ _ _ _ c h=>PS.st (fun x hx=>hx.elim) c h,fun _ _ _ _ _ c h=>PS.st (fun x hx=>hx.elim) c h,fun _ _ _ _ _ c h=>PS.st (fun x hx=>by subst hx;exact aab) c h,trivial⟩,⟨⟨fun _ _ _ _ _ _ h=>h,trivial,fun _ _ _ _ _ _ h=>h,fun _ _ _ _ _ _ h=>h,fun _ _ _ _ _ _ h=>h,trivial⟩,⟨⟨trivial,trivial,trivial,fun _ _ _ _ _ c ⟨b,k,h1,h2,h3,h4⟩=>⟨b,k,h1,h2,h3,(PB.get (PB.st (fun x hx=>hx.elim) c (v:=.pointer (some ⟨b,0,none⟩)) ⟨b,rfl,h3,h4⟩)).2⟩,fun _ _ _ _ _ c ⟨b,k,h1,h2,h3,h4⟩=>⟨b,k,h1,h2,h3,(PB.get (PB.st (fun x hx=>by subst hx;exact aab) c (v:=.pointer (some ⟨b,0,none⟩)) ⟨b,rfl,h3,h4⟩)).2⟩,trivial⟩,⟨⟨fun _ _ _ _ _ _ h=>h,fun _ _ _ _ _ _ h=>h,trivial,trivial,fun _ _ _ _ _ _ h=>h,trivial⟩,⟨⟨fun _ _ _ _ _ c h=>by rw [← h];exact World.cell?_of_block (c.block b8 (by omega) (fun hx=>hx.elim)),trivial,fun _ _ _ _ _ c h=>by rw [← h];exact World.cell?_of_block (c.block b8 (by omega) (fun hx=>hx.elim)),fun _ _ _ _ _ c h=>by rw [← h];exact World.cell?_of_block (c.block b8 (by omega) (fun hx=>hx.elim)),trivial,trivial⟩,trivial⟩⟩⟩⟩⟩)) mixed (by kernel_rfl)<|?_;refine DW.e rfl rfl rfl rfl rfl (fun wx hC hF=>OX.bA (us:=[.int .i64 0,.int .i64 1,.int .i64 2,.int .i64 4,.int .i64 8,.int .i64 16]) Yh rfl rfl rfl rfl fun b wy nw hb=>⟨⟨Nat.le_trans hC.1 nw.ext.size,hC.2.step nw.ext⟩,nw.ext.p0,_,rfl,_,rfl,Nat.le_trans hC.1 nw.ge,hb⟩)<|?_;rintro _ wz _ ⟨b57,rfl,_,_⟩;refine nx ?_;refine DW.e rfl rfl rfl rfl rfl (fun wx hC hF=>OX.call l7 rfl rfl ((bZ (hC.2.one (.tail _ (.head _))) (m:=6) (by omega)).mono ?_))<|?_
    ·
     rintro _ wy ⟨z,rfl,h0,h1,hy⟩;exact⟨_,rfl,⟨Nat.le_trans hC.1 hy.cX.size,hC.2.DD M1 hy⟩,hy.cX.mono (fun x _ hx=>by obtain⟨A,hA,hx⟩:=hx;simp at hA;subst hA;exact hx),_,rfl,⟨z.toNat,by congr 1;omega,by have:=h1 (by omega);omega⟩⟩
    rintro _ wz _ ⟨z13,rfl,z131⟩
    refine DW.e rfl rfl rfl rfl rfl (fun wx hC hF=>by
     obtain⟨_,⟨b1_,dQ,eZ,dA⟩,_⟩:=hF;simp only [Value.slice.injEq,Option.some.injEq,Addr.mk.injEq,and_true,true_and] at dQ;subst dQ;exact OX.pv (PV.ix (i:=z13) Kv rfl rfl z131) rfl ⟨hC,jf.refl _ _,_,rfl,_,z13,rfl,z131,eZ,dA⟩) ?_
    rintro _ wz _ ⟨b3,k3,rfl,xY,Ii,dA⟩
    refine DW.e rfl rfl rfl rfl rfl (fun wx hC hF=>by
     obtain⟨⟨b1_,k1_,tD,nQ,_,oM⟩,_⟩:=hF;simp only [Value.pointer.injEq,Option.some.injEq,Addr.mk.injEq,and_true] at tD;obtain⟨rfl,LM⟩:=tD
     obtain⟨z,hz,h0,h1⟩:∃z:Int,nth [.int .i64 0,.int .i64 1,.int .i64 2,.int .i64 4,.int .i64 8,.int .i64 16] (k3*1)=some (.int .i64 z)∧0≤z∧z≤65535:=by
      have h6:k3=0∨k3=1∨k3=2∨k3=3∨k3=4∨k3=5:=by omega
      rcases h6 with rfl | rfl | rfl | rfl | rfl | rfl <;> exact⟨_,rfl,by decide,by decide⟩
     exact OX.pv (PV.ld1 (o:=0) (j:=k3*1) aX (cJ.range oM) rfl hz) rfl ⟨hC,jf.refl _ _,_,rfl,z,rfl,h0,h1⟩) ?_
    rintro _ wz _ ⟨z5,rfl,h5a,h5b⟩;refine nx ?_
    refine DW.e0 rfl rfl rfl rfl (fun wx hC hF=>by
     obtain⟨f,hb⟩:∃f:Int,cJ wx b8 69 [.bool l1[i].ring,.slice none 0 0,.int .i64 f,.int .i64 z3]:=hC.2.ok _ M0;exact OX.st (j:=2) RW hb rfl rfl (by simp [nth]) rfl rfl fun wy s hsz eZ=>⟨⟨Nat.le_trans hC.1 s.size,hC.2.same M0 (s.p.mono fun x _ hx=>show x=b8 from by simpa using hx) ⟨5,eZ⟩⟩,s.p.mono (fun x _ hx=>by simpa using hx),fun _=>cJ.range eZ 2 _ rfl⟩) ?_
    rintro _ wz _ h6c;refine(ey) ?_;rintro qL ⟨afO,cx⟩ ⟨Zz,⟨_,⟨_,⟨_,⟨hF0,_⟩⟩⟩⟩⟩;have cG:=cx.yI (PS.pb hF0) al9 afM afN;have cF:=cG.p1
    have cM:=cF.conv (B:=As.blk b8 69 [.bool l1[i].ring,.slice none 0 0,.int .i64 5,.int .i64 z3]) (by
     obtain⟨f,hb⟩:∃f:Int,cJ qL b8 69 [.bool l1[i].ring,.slice none 0 0,.int .i64 f,.int .i64 z3]:=cF.ok _ M0;have h1:=(cJ.range hb 2 _ rfl).symm.trans Zz
     have h2:f=5:=by simpa using h1
     subst h2;exact hb) (fun _ h=>h)
    refine WL.s1 cM fun uN _ cv=>?_;refine nx ?_;exact tw (5,z5) ⟨cv.p1.drop,⟨fun _=>by unfold jV;simp [FR,h5a,h5b],trivial⟩⟩
   have FR:l1[i].ring=false:=by simpa using FR
   refine nx ?_;exact tw (1+z2,z3) ⟨bM,⟨fun _=>by unfold jV;simp [FR];omega,trivial⟩⟩
  rintro⟨f0,c0⟩ qL bO ⟨Uv,_⟩;simp only [CA,NA] at bO Uv ⊢;refine eA ?_;have bD:=bO.p1;refine(df) l7 (bZ bD.e1 (m:=4) (by omega)) ?_;rintro _ uN ⟨z6,rfl,ape,We,BN⟩;have cx:=St.lr bD BN;have We:=We (by omega);obtain⟨z,hz6⟩:∃z:Nat,z6=z:=⟨z6.toNat,by omega⟩;subst hz6;refine dF ?_;have cG:=cx.eX RR.ask 129 4;refine WC.bQ (σ:=Nat × (List Ask) × (Option Addr) × Nat × Nat) (eI:=fun(k,xs,F4,IX,Lg)=>[(0,.pointer (some ⟨d,0,none⟩)),(3,.slice kf gJ kg),(5,.int .i64 (i:Int)),(7,.int .i64 most),(8,.pointer (some ⟨b8,0,none⟩)),(9,.int .i64 (k:Int)),(27,.int .i64 (gJ:Int)),(28,.int .i64 (i:Int))]) (F:=fun(k,xs,F4,IX,Lg)=>[As.os RR.ask 129 4 F4 IX Lg (xs),As.blk b8 69 [.bool l1[i].ring,.slice F4 IX Lg,.int .i64 f0,.int .i64 c0],As.jR 74 d]) (I:=fun(k,xs,F4,IX,Lg)=>(∀x∈aL F4,w.heap.size≤x)∧(xs.length+k≤3)∧(∀(k:Nat) x,xs[k]?=some x→gV l1 i l1[i].ring k x=true)∧True) (μ:=fun(k,xs,F4,IX,Lg)=>k) (z,[],none,0,0) (cG.p1.p2.p2) Sub.t (⟨by simp [aL],by simp;omega,by simp,trivial⟩)<|?_;rintro⟨k,xs,F4,IX,Lg⟩ yX cF ⟨hga,hxk,eO,_⟩;simp only [CA,NA] at cF hga hxk eO ⊢;have hxl:=((As.gs cF.g0)).len;refine(bp) (fun jB=>?_) fun jB=>?_
  ·
   simp at jB
   refine eA ?_;have cM:=cF.p2;refine WC.nk (σ:=Nat × Bool) [_] (fun(jd,cell)=>[(0,.pointer (some ⟨d,0,none⟩)),(3,.slice kf gJ kg),(5,.int .i64 (i:Int)),(7,.int .i64 most),(8,.pointer (some ⟨b8,0,none⟩)),(9,.int .i64 (k:Int)),(10,.pointer (some ⟨jd,0,none⟩)),(27,.int .i64 (gJ:Int)),(28,.int .i64 (i:Int))]) (fun(jd,cell)=>[As.blk jd 129 [.bool cell,.bool false,.int .i64 0,.int .i64 0],As.jR 74 d]) (fun(jd,cell)=>(cell=false→most≠0)∧True) cM ?_ ?_
   ·
    refine db ?_;have cv:=cM;refine(df) l7 (bZ cv.e1 (m:=3) (by omega)) ?_;rintro _ uO ⟨z7,rfl,afP,IY,B4⟩;have cI:=St.lr cv B4;have IY:=IY (by omega);refine(dT) (fun R8=>?_) (fun R8=>?_)
    ·
     refine dw ?_;refine WP .r (PV.cD (us:=_) Vj rfl rfl rfl)<|(fT) cI fun jd yY ma fP ef=>?_;refine(dB) AX ef fun El r7 mR dh=>?_;refine nx ?_;exact tw (jd,true) ⟨dh,⟨(fun h=>by cases h),trivial⟩⟩
    refine dw ?_;refine WP .r (PV.cD (us:=_) Vj rfl rfl rfl)<|(fT) cI fun jd yY ma fP ef=>?_;refine(dB) AX ef fun El Ej td dh=>?_;refine nx ?_;exact tw (jd,decide (most=0)) ⟨dh,⟨fun h=>by simpa using h,trivial⟩⟩
   rintro⟨jd,cell⟩ uO cv ⟨Di,_⟩;simp only [CA,NA] at cv Di ⊢;refine(bN) fG cv.b0<|db ?_;have cI:=cv;refine WC.nk (σ:=Int) [] (fun m2=>[(0,.pointer (some ⟨d,0,none⟩)),(3,.slice kf gJ kg),(5,.int .i64 (i:Int)),(7,.int .i64 most),(8,.pointer (some ⟨b8,0,none⟩)),(9,.int .i64 (k:Int)),(10,.pointer (some ⟨jd,0,none⟩)),(11,.int .i64 m2),(27,.int .i64 (gJ:Int)),(28,.int .i64 (i:Int))]) (fun m2=>[]) (fun m2=>(m2=if cell then 4 else il l1 i)∧True) cI ?_ ?_
   ·
    refine(bp) (fun Q8=>?_) fun Q8=>?_
    ·
     refine dw ?_;exact tw (4) ⟨cI,⟨by rw [Q8];rfl,trivial⟩⟩
    have Q8:cell=false:=by simpa using Q8
    refine nx ?_;exact tw (most) ⟨cI,⟨by rw [Q8,Wd];rfl,trivial⟩⟩
   rintro m2 yY ef ⟨R1,_⟩;simp only [CA,NA] at ef R1 ⊢
   have Cp:1≤m2∧m2≤24:=by
    cases cell
    ·
     simp at R1;have:=Di rfl;omega
    simp at R1;omega
   refine eA ?_;have dh:=ef.p1;refine(df) l7 (bZ dh.e1 (m:=m2) (by omega)) ?_;rintro _ El ⟨z8,rfl,afQ,IZ,BO⟩;have eC:=St.lr dh BO;have IZ:=IZ (by omega);refine nx ?_;refine WL.s1 eC.p1 fun Cr _ cT=>?_;refine dF ?_;have dO:=cT.p1;refine WC.nk (σ:=Bool) [_] (fun b92=>[(0,.pointer (some ⟨d,0,none⟩)),(3,.slice kf gJ kg),(5,.int .i64 (i:Int)),(7,.int .i64 most),(8,.pointer (some ⟨b8,0,none⟩)),(9,.int .i64 (k:Int)),(10,.pointer (some ⟨jd,0,none⟩)),(11,.int .i64 m2),(27,.int .i64 (gJ:Int)),(28,.int .i64 (i:Int)),(92,.bool b92)]) (fun b92=>[As.jR 74 d]) (fun b92=>True) dO ?_ ?_
   ·
    refine(bN) fG dO.b1<|(dT) (fun g88=>?_) (fun g88=>?_)
    ·
     refine nx ?_;have cU:=dO;refine(df) l7 (bZ cU.e1 (m:=2) (by omega)) ?_;rintro _ Ip ⟨z9,rfl,afR,I0,I1⟩;have dz:=St.lr cU I1;have I0:=I0 (by omega);refine dw ?_;exact tw (decide (z9=0)) ⟨dz,trivial⟩
    refine eA ?_;exact tw (false) ⟨dO,trivial⟩
   rintro b92 Ip cU _;simp only [CA,NA] at cU ⊢;refine nx ?_;have dz:=cU.p1;refine WC.nk (σ:=Int) [_,_] (fun nn=>[(0,.pointer (some ⟨d,0,none⟩)),(3,.slice kf gJ kg),(5,.int .i64 (i:Int)),(7,.int .i64 most),(8,.pointer (some ⟨b8,0,none⟩)),(9,.int .i64 (k:Int)),(10,.pointer (some ⟨jd,0,none⟩)),(11,.int .i64 m2),(27,.int .i64 (gJ:Int)),(28,.int .i64 (i:Int))]) (fun nn=>[As.blk jd 129 [.bool cell,.bool false,.int .i64 nn,.int .i64 0],As.jR 74 d]) (fun nn=>(0≤nn)∧(nn<m2)∧True) dz ?_ ?_
   ·
    refine(bp) (fun g92=>?_) fun g92=>?_
    ·
     refine jo ?_;have dt:=dz.p1;refine(df) l7 (bZ dt.e1 (m:=(min m2 3)) (by omega)) ?_;rintro _ Mt ⟨z10,rfl,amb,Q9,Mx⟩;have eK:=St.lr dt Mx;have Q9:=Q9 (by omega);refine db ?_;refine WL.s1 eK.p1 fun My _ dD=>?_;refine nx ?_;exact tw (m2 - 1 - z10) ⟨dD,⟨by omega,by omega,trivial⟩⟩
    refine nx ?_;exact tw (z8) ⟨dz,⟨by omega,by omega,trivial⟩⟩
   rintro nn Mt dt ⟨hn0,hn1,_⟩;simp only [CA,NA] at dt hn0 hn1 ⊢;refine dw ?_;have eK:=dt.p1;refine WC.nk (σ:=Bool) [_] (fun Ra=>[(0,.pointer (some ⟨d,0,none⟩)),(3,.slice kf gJ kg),(5,.int .i64 (i:Int)),(7,.int .i64 most),(8,.pointer (some ⟨b8,0,none⟩)),(9,.int .i64 (k:Int)),(10,.pointer (some ⟨jd,0,none⟩)),(11,.int .i64 m2),(27,.int .i64 (gJ:Int)),(28,.int .i64 (i:Int)),(114,.bool Ra)]) (fun Ra=>[As.jR 74 d]) (fun Ra=>(Ra=true→l1[i].ring=false∧xs.length≠0)∧True) eK ?_ ?_
   ·
    refine(bN) fG eK.b3<|(dT) (fun afS=>?_) (fun afS=>?_)
    ·
     refine(bN) nF eK.b3<|(dT) (fun pD=>?_) (fun pD=>?_)
     ·
      refine nx ?_;have dD:=eK;refine(df) l7 (bZ dD.e1 (m:=3) (by omega)) ?_;rintro _ My ⟨z11,rfl,amc,Rb,I2⟩;have ew:=St.lr dD I2;have Rb:=Rb (by omega);refine dw ?_;exact tw (decide (z11=1)) ⟨ew,⟨fun _=>⟨by simpa using afS,by have h0:=pD;simp at h0;omega⟩,trivial⟩⟩
     refine eA ?_;exact tw (false) ⟨eK,⟨(fun h=>by cases h),trivial⟩⟩
    refine qT ?_;exact tw (false) ⟨eK,⟨(fun h=>by cases h),trivial⟩⟩
   rintro Ra My dD ⟨hb,_⟩;simp only [CA,NA] at dD hb ⊢;refine nx ?_;have ew:=dD.p1;refine WC.nk (σ:=Bool × Int) [_,_] (fun(pk,el)=>[(0,.pointer (some ⟨d,0,none⟩)),(3,.slice kf gJ kg),(5,.int .i64 (i:Int)),(7,.int .i64 most),(8,.pointer (some ⟨b8,0,none⟩)),(9,.int .i64 (k:Int)),(10,.pointer (some ⟨jd,0,none⟩)),(27,.int .i64 (gJ:Int)),(28,.int .i64 (i:Int))]) (fun(pk,el)=>[As.blk jd 129 [.bool cell,.bool pk,.int .i64 nn,.int .i64 el],As.jR 74 d]) (fun(pk,el)=>(pk=true→l1[i].ring=false∧xs.length≠0∧0≤el∧el<m2)∧(pk=false→el=0)∧True) ew ?_ ?_
   ·
    refine(bp) (fun F5=>?_) fun F5=>?_
    ·
     refine dw ?_;have fk:=ew.p1;refine(df) l7 (bZ fk.e1 (m:=m2) (by omega)) ?_;rintro _ Ur ⟨z12,rfl,amd,Re,Mz⟩;have eY:=St.lr fk Mz;have Re:=Re (by omega);refine nx ?_;refine WL.s1 eY.p1 fun w23 _ gu=>?_;refine nx ?_;refine WL.s1 gu fun w24 _ gF=>?_;refine nx ?_;exact tw (true,z12) ⟨gF,⟨fun _=>⟨(hb F5).1,(hb F5).2,by omega,by omega⟩,(fun h=>by cases h),trivial⟩⟩
    refine nx ?_;exact tw (false,0) ⟨ew,⟨(fun h=>by cases h),fun _=>rfl,trivial⟩⟩
   rintro⟨pk,el⟩ Ur fk ⟨hpk,W7,_⟩;simp only [CA,NA] at fk hpk W7 ⊢;refine(bN) nF fk.b3<|(bz) oG fk.b0<|?_;refine WL.go rfl (OX.bA (us:=(Ask.mk cell pk nn el).cells) Ye rfl rfl rfl rfl fun N7 w23 afT afU=>?_);have eY:=fk.eW afT afU;have hzs:=eY.size;refine WL.ap rfl rfl eY.p3 (SR.eP (A:=fun _=>True) (x:=Ask.mk cell pk nn el) (As.gb eY.g0) trivial rfl (by simp [Ask.cells,Value.oneCell']) rfl) fun a124 afV w24 afW apf gu=>?_;refine nx ?_;refine WL.s1 gu.p4 fun w25 _ gF=>?_;refine kJ ?_;refine fx (k - 1,xs++[⟨cell,pk,nn,el⟩],a124,(IX+1),afV) ⟨gF.p2.drop.p2.drop.p1,⟨fun x hx=>(afW x hx).elim (hga x) (Nat.le_trans hzs),by simp;omega,Ng eO (Xm (x:=⟨cell,pk,nn,el⟩) R1 hn0 hn1 hpk W7),trivial⟩⟩
  simp at jB
  refine eA ?_;have Uv:=Uv xs;have cM:=cF.bV (by omega);have qN:=hZ.trans (cQ.fo (F:=fun x=>x∈aL F4) hga) (Nat.le_refl _);refine(bz) yl cM.b1<|?_;refine WP .r (PV.fm lO mg rfl rfl (by omega))<|?_;refine WL.go rfl (OX.W2 (i:=i) Kw (As.gs cM.g3) mg cV rfl rfl rfl (by simp [Value.oneCell']) ⟨l1[i].ring,xs,f0,c0⟩ ⟨F4,IX,Lg,rfl,(As.gr cM.g0)⟩ fun uO s8 h8=>?_);have cv:=cM.p3.iY s8 h8 (fun x h=>.inl h);refine gp ?_;refine fx (i+1,l1.set i ⟨l1[i].ring,xs,f0,c0⟩,_) ⟨cv.p1.drop.p1.drop.p1,⟨by omega,oC.set hPo cV (da cV).symm ⟨show xs.length≤6 by omega,eO,Uv⟩,qN,trivial⟩⟩
 simp at oq
 have zm:i=l1.length:=by omega
 subst zm;have hRk:=hPo.ok;refine(cm) ?_;exact⟨_,_,_,l1,_,rfl,hRk,by omega,by omega,hZ,bf⟩
set_option maxHeartbeats 400000
theorem B8{p:Key→Bool}(zk:CF prog f) (hl:Rd RR.key 2 Z w a n c l) (hp:∀w1,bj [] w w1→∀x∈l,Calls prog f #[x.val,cap] w1 fun e w'=>e=.returned (.bool (p x))∧bj [] w1 w'):Calls prog 137 #[.slice a n c,.func (.func f) #[] #[cap]] w fun e w'=>∃j:Int,e=.returned (.int .i64 j)∧DI l p j∧bj [] w w':=by
 have hlen:=hl.len;have hle:=hl.le;refine enter func137 rfl ntmps137 rfl<|?_;have aW:=St.s0 w;refine bC ?_;refine db ?_;refine WC.bQ (σ:=Nat) (eI:=fun i=>[(0,.slice a n c),(1,.func (.func f) #[] #[cap]),(7,.int .i64 (n:Int)),(8,.int .i64 (i:Int))]) (F:=fun i=>[]) (I:=fun i=>(i≤n)∧(∀j x,j<i→l[j]?=some x→p x=false)∧True) (μ:=fun i=>n - i) (0) (aW) Sub.t (⟨by omega,fun j x h=>by omega,trivial⟩)<|?_;rintro i w1 st1 ⟨hi,gh,_⟩;simp only [CA,NA] at st1 hi gh ⊢;refine(bp) (fun g9=>?_) fun g9=>?_
 ·
  simp at g9
  have cV:i<l.length:=by omega
  refine qT ?_;obtain⟨gE,js,iT,aS,fi,bq,bY,di⟩:=Rd.at hl cV;have bq:=RR.cH bq;subst bq;refine dF ?_;refine WP .r (PV.fm fL aS rfl rfl (by omega))<|(bz) av (bE bY (St.cg st1) (by simp))<|?_;refine WL.go rfl (OX.qA zk rfl rfl rfl ((Calls.cap (hp _ (St.cg st1) l[i] (List.getElem_mem cV))).mono ?_));rintro _ w2 ⟨rfl,s2⟩;refine⟨_,rfl,?_⟩;have st2:=st1.step s2;refine(bp) (fun g16=>?_) fun g16=>?_
  ·
   refine(cm) ?_;exact⟨_,rfl,.inl ⟨i,_,aq cV,g16,gh,rfl⟩,(St.cg st2)⟩
  have g16:p l[i]=false:=by simpa using g16
  refine gp ?_;refine fx (i+1) ⟨st2,⟨by omega,dJ cV gh (by simpa using g16),trivial⟩⟩
 simp at g9
 have cy:∀x∈l,p x=false:=fun x hx=>by obtain⟨j,hj,rfl⟩:=List.getElem_of_mem hx;exact gh j _ (by omega) (aq hj)
 refine(cm) ?_;exact⟨_,rfl,.inr ⟨cy,rfl⟩,(St.cg st1)⟩
theorem wg{p:Key→Bool}(zk:CF prog f) (hl:Rd RR.key 2 Z w a n c l) (hp:∀w1,bj [] w w1→∀x∈l,Calls prog f #[x.val,cap] w1 fun e w'=>e=.returned (.bool (p x))∧bj [] w1 w'):CR prog 88 #[.slice a n c,.func (.func f) #[] #[cap]] w (.bool (l.any p)):=by
 refine enter func88 rfl ntmps88 rfl<|?_;have aW:=St.s0 w;refine(df) Qk (B8 (w:=w) zk (hl.ext (St.cg aW)) (fun w1 h1=>hp w1 (bj.trans (St.cg aW) h1))) ?_;rintro _ w1 ⟨j,rfl,hj,s1⟩;have st1:=aW.step s1;have Vg:=hj.any;refine(cm) ?_;exact⟨by rw [Vg],(St.cg st1)⟩
theorem tQ{l1 l2:List Key}{A B:Nat→Prop}{b:Option Addr}{m:Nat}(h1:zI A w a n c l1) (h2:zI B w b m d l2):CR prog 100 #[.slice a n c,.slice b m d] w (.bool (decide (l1=l2))):=by
 have jM:=SR.len h1;have sa:=SR.le h1;have pP:=SR.len h2;have fU:=SR.le h2;refine enter func100 rfl ntmps100 rfl<|?_;have aW:=St.s0 w;refine bC ?_;refine(bp) (fun g10=>?_) fun g10=>?_
 ·
  simp at g10
  refine(cm) ?_;exact⟨by rw [decide_eq_false (fun e:l1=l2=>g10 (by rw [jM,pP,e]))],(St.cg aW)⟩
 simp at g10
 refine qT ?_;refine WC.bQ (σ:=Nat) (eI:=fun i=>[(0,.slice a n c),(1,.slice b m d),(12,.int .i64 (n:Int)),(13,.int .i64 (i:Int))]) (F:=fun i=>[]) (I:=fun i=>(i≤n)∧(l1.take i=l2.take i)∧True) (μ:=fun i=>n - i) (0) (aW) Sub.t (⟨by omega,rfl,trivial⟩)<|?_;rintro i w1 st1 ⟨hi,gh,_⟩;simp only [CA,NA] at st1 hi gh ⊢;refine(bp) (fun g14=>?_) fun g14=>?_
 ·
  simp at g14
  have cV:i<l1.length:=by omega
  have yo:i<l2.length:=by omega
  refine qT ?_;obtain⟨gE,js,iT,aS,fi,bq,bY,di⟩:=SR.at h1 (aq cV);obtain rfl:=bq;obtain⟨uM,Ih,CN,ft,tK,gk,jO,pB⟩:=SR.at h2 (aq yo);obtain rfl:=gk;have R2:=st1.dc;refine WC.dS (m:=8) st1 mixed<|db ?_;refine DP .r (fun _ hC=>PV.fm fL aS rfl rfl (by omega))<|DP .r (fun _ hC=>VA av (bE bY (St.cg hC.2) (by simp)) .r)<|db ?_;refine DP .r (fun _ hC=>PV.fm fL ft rfl rfl (by omega))<|DP .r (fun _ hC=>VA av (bE jO (St.cg hC.2) (by simp)) .r)<|(ey)<|?_;rintro w2 ⟨pE,st2⟩ _;refine WP .r (PV.OT gB (p:=l1[i]) (q:=l2[i]) rfl rfl)<|(bp) (fun g24=>?_) fun g24=>?_
  ·
   simp at g24
   refine(cm) ?_;exact⟨by rw [decide_eq_false (fun e:l1=l2=>g24 (by subst e;rfl))],(St.cg st2)⟩
  simp at g24
  refine gp ?_;refine fx (i+1) ⟨st2,⟨by omega,by rw [List.take_succ_eq_append_getElem cV,List.take_succ_eq_append_getElem yo,gh,g24],trivial⟩⟩
 simp at g14
 have cy:l1=l2:=by
  have h:=gh;rw [List.take_of_length_le (by omega),List.take_of_length_le (by omega)] at h;exact h
 refine(cm) ?_;exact⟨by rw [decide_eq_true cy],(St.cg st1)⟩
set_option maxHeartbeats 1600000 in
theorem F6{ar a1 a2:Option Addr}{cr n1 e1 n2 e2:Nat}(bF:St w M Z w []) (oW:Rd RR.aH 4 Z w a1 n1 e1 x.ah) (hr:Rd RR.fl 8 Z w a2 n2 e2 x.ak) (h6:x.ak.length≤4000) (h7:x.ah.length≤4000) (hS:qc x.ak):Calls prog 48 #[.slice ar r cr,.agg (x.row a1 n1 e1 a2 n2 e2).toArray] w fun e w'=>∃(D:WD) (wb:Nat) (bs:List Nat) (ml:List (Key × Value)) (Z':Nat→Prop),e=.returned (.pointer (some ⟨wb,0,none⟩))∧oD x.ak bs ml∧cQ w.heap.size Z Z'∧St w M Z' w' [As.blk wb 154 (D.cells x),As.map Key.val D.m ml,As.fz (DJ 60 x.ak bs)]:=by
 refine enter func48 rfl ntmps48 rfl<|?_;have aW:=bF;have st1:=aW.fr oW;have st2:=st1.fr hr;refine(eD) st2 fun b3 w1 ic dA aP=>?_;refine dF ?_;refine WC.dq (m:=7) [] [2,6] [1,2,4,5,6,0,3] [(3,.map)] aP (ax.cons M0<|ax.cons M1<|ax.cons M2<|ax.nil) mixed (by kernel_rfl) (by kernel_rfl) rfl<|(oz) aN SV.g0<|(jD) (fun w2 Q1 BW aV sj=>?_);simp only [CA,NA] at aV;have bf:=aV;refine OX.call adO rfl rfl ((si (x:=x) bf.e0 (As.gr bf.g2) (As.gr bf.g1) (by omega) (by omega)).mono ?_);rintro _ w3 ⟨f1,f2,f3,f4,f5,f6,Z1,rfl,gP,eG⟩;have br:=St.lv bf eG gP;have EB:=St.cK eG.p1;have fj:=bf.size;have oN:=gP.le fj;have Nr:f5=x.ak.length:=((As.gs br.g1)).len;have bP:=br.p1.bV (by omega);have kZ:=oN.trans (cQ.fo (F:=fun x=>x∈aL f4) EB) fj;refine⟨_,rfl,eG.cX.size,_,rfl,_,_,_,bP,aC.k4<|aC.cons<|aC.nil,ax.cons M2<|ax.cons M3<|ax.cons M4<|ax.nil,?_⟩;refine(oz) aN SV.g0<|(jD) (fun w4 Wa IK bS sn=>?_);simp only [CA,NA] at bS;have bX:=bS;refine OX.call TS rfl rfl ((ou (x:=x) bX.e0).mono ?_);rintro _ w5 ⟨d1,d2,d3,rfl,ja⟩;have aM:=St.lr bX ja;refine⟨_,rfl,ja.cX.size,_,rfl,_,_,_,aM,aC.k4<|aC.k4<|aC.nil,ax.cons M5<|ax.cons M6<|ax.cons M7<|ax.nil,?_⟩;refine DG.a<|?_;refine DG.side (s:=.map) rfl rfl rfl rfl rfl rfl (fun wx Zx Rx BX fV=>OX.makeMap Key.val rfl fun b wy nw hb=>⟨nw.ext.size,_,rfl,⟨b,rfl⟩,fV.O2 nw hb⟩)<|?_;rintro _ ⟨tS,rfl⟩;refine(oa) ?_;intro w6 fj aT;simp only [CM,NM,CA,NA,lA.it] at aT;refine WP .r (PV.cD (us:=(WD.cells ⟨ar,f1,f4,r,cr,f2,f3,f5,f6,tS,d1⟩ x)) Vk rfl rfl rfl)<|(eD) aT fun wv w7 QP Ud aY=>?_;refine nx ?_;refine WL.nil (EX.np ?_);refine kJ ?_;refine WP .r (PV.ld1 (j:=3) ez aY.b0 rfl rfl)<|eA ?_;have bG:=aY.fact (B:=As.fz (DJ 60 (x.ak.take 0) [])) (DJ.nil _ _ _) (fun _ hx=>hx);refine WC.kj (σ:=Nat × (List Nat) × (List (Key × Value)) × (Nat→Prop)) (eI:=fun(i,bs,ml,Z3)=>[(5,.pointer (some ⟨wv,0,none⟩)),(21,.slice f4 f5 f6),(22,.int .i64 (f5:Int)),(23,.int .i64 (i:Int))]) (F:=fun(i,bs,ml,Z3)=>[As.map Key.val tS ml,As.fz (DJ 60 (x.ak.take i) bs)]) (I:=fun(i,bs,ml,Z3)=>(i≤x.ak.length)∧(oD (x.ak.take i) bs ml)∧(cQ w.heap.size Z Z3)∧True) (μ:=fun(i,bs,ml,Z3)=>x.ak.length - i) (Zf:=fun(i,bs,ml,Z3)=>Z3) (0,[],[],_) (bG.p2) Sub.t (⟨Nat.zero_le _,oD.nil,kZ,trivial⟩)<|?_;rintro⟨i,bs,ml,Z3⟩ w8 bB ⟨hi,uX,qN,_⟩;simp only [CA,NA] at bB hi uX qN ⊢;have LF:=uX.1;rw [List.length_take] at LF;refine(bp) (fun g24=>?_) fun g24=>?_
 ·
  simp at g24
  have cV:i<x.ak.length:=by omega
  have lR:=bB.size;refine eA ?_;obtain⟨gE,js,iT,aS,fi,bq,bY,di⟩:=Rd.at (As.gr bB.g6) cV;obtain⟨q1,q2,q3,rfl,pA,oM⟩:=bq;have bd:=bB.fg di bY;refine nx ?_;refine WP .r (PV.fm iF aS rfl rfl (by omega))<|(bz) dm (As.nh bd.g0)<|(fT) bd fun b7 w9 tJ nT aU=>?_;refine(dB) gC aU fun kM jC jI bM=>?_;refine nx ?_
  have ame:∀x,x=b7→w.heap.size≤x:=fun x e=>by rw [e];exact Nat.le_trans lR tJ.ge
  refine nx ?_;have hN5:=bM.dc;refine WC.dS (m:=6) bM mixed<|(lF) iP St.g4<|(Cm) av St.g0<|(ey)<|?_;rintro kN ⟨C1,bO⟩ _;refine WL.go rfl (OX.put eF iQ (As.gm bO.g2) rfl rfl rfl fun qL FD BE=>?_);have bD:=bO.p2.mH FD BE;refine dw ?_;have cx:=bD.p1;have cG:=cx.freeze (B:=As.fz (DJ 60 (x.ak.take (i+1)) (bs++[b7]))) (by rw [List.take_succ_eq_append_getElem cV];exact DJ.snoc ((DJ _ _ _).mono (fun _ h=>.inl h) (As.gf cx.g3)) (by rw [uX.1]) (.inr rfl) (As.gb cx.g0)) (fun _ hx=>hx);have cF:=cG.p3.drop;have xE:=qN.trans (cQ.fo (F:=fun x=>x=b7) ame) (Nat.le_refl _);refine dF ?_;refine fx (i+1,bs++[b7],_,_) ⟨cF.p2.drop.p1,⟨by omega,by rw [List.take_succ_eq_append_getElem cV];exact uX.snoc (hS.ne cV),xE,trivial⟩⟩
 simp at g24
 have Lf:x.ak.take i=x.ak:=List.take_of_length_le (by omega);rw [Lf] at uX;have bd:=bB.p1.Cl (B:=As.fz (DJ 60 x.ak bs)) (by rw [Lf]);refine(cm) ?_;exact⟨⟨ar,f1,f4,r,cr,f2,f3,f5,f6,tS,d1⟩,wv,bs,ml,_,rfl,uX,qN,bd.p1.p2.k3⟩
theorem I3(hW:cJ w wb 154 (D.cells x)) (hm:KM Key.val w D.m mD) (hg:ck mD k=some (.pointer (some ⟨rb,0,none⟩))) (hR:cJ w rb 60 (y.row a n c)) (hv:y.az=x.ae) (hk:aB k=false):CR prog 92 #[.pointer (some ⟨wb,0,none⟩),k.val] w (.bool true):=by
 refine enter func92 rfl ntmps92 rfl<|?_;have aW:=St.s0 w;refine(eD) aW fun b3 w1 ic dA st1=>?_;refine dF ?_;have zq:=st1.dc;refine WC.dS (m:=5) st1 mixed<|dw ?_;refine DP .r (fun _ hC=>V1 iP (cJ.range (hW.ext (St.cg hC.2))) .r)<|(jA) av St.g0<|(ey)<|?_;rintro w2 ⟨fj,st2⟩ _;refine WP .r (PV.dG eF iQ jx (hm.ext (St.cg st2)) (hg) rfl rfl)<|dF ?_;have QI:=st2.dc;refine WC.fc (m:=15) (E:=dy [(1,fun v _=>v=.bool false)]) st2 (bT (⟨fun _ _ _ _ _ _ _ h=>h,trivial⟩)) mixed (by kernel_rfl)<|(jA) av St.g0<|?_;refine DW.c1 (u:=.bool false) (fun wx hC hF=>dN (k:=k)) (by rw [hk])<|dF ?_;refine DW.iB (t:=17) rfl (fun g17=>?_) (fun g17=>?_)
 ·
  refine dw ?_;refine DP .r (fun _ hC=>V1 aX (cJ.range (hR.ext (St.cg hC.2))) .r)<|dF ?_;refine DP .r (fun _ hC=>PV.ld1 (j:=1) aX (cJ.range (hW.ext (St.cg hC.2))) rfl rfl)<|(ey)<|?_;rintro w3 ⟨pC,aP⟩ ⟨_,_⟩;refine(cm) ?_;exact⟨by simp [hv],(St.cg aP)⟩
 exact gM g17
theorem F7(hW:cJ w wb 154 (D.cells x)) (hm:KM Key.val w D.m mD) (hg:ck mD k=some (.pointer (some ⟨rb,0,none⟩))) (hR:cJ w rb 60 (y.row a n c)) (hv:y.az=x.ae) (hk:aB k=false):CR prog 49 #[.pointer (some ⟨wb,0,none⟩),k.val] w (.agg #[.int .i64 0,.int .i64 0,.string ⟨#[]⟩]):=by
 refine enter func49 rfl ntmps49 rfl<|?_;have aW:=St.s0 w;refine(eD) aW fun b3 w1 ic dA st1=>?_;refine(fT) st1 fun b4 w2 jS bL st2=>?_;refine dw ?_;have zq:=st2.dc;refine WC.dS (m:=5) st2 mixed<|dw ?_;refine DP .r (fun _ hC=>V1 iP (cJ.range (hW.ext (St.cg hC.2))) .r)<|(jA) av St.g1<|(ey)<|?_;rintro w3 ⟨fj,aP⟩ _;refine WP .r (PV.dG eF iQ jx (hm.ext (St.cg aP)) (hg) rfl rfl)<|(bz) av aP.b1<|(gw) (I3 (hW.ext (St.cg aP)) (hm.ext (St.cg aP)) hg (hR.ext (St.cg aP)) hv hk) aP fun w4 s4 aV=>?_;refine dw ?_;refine WC.zw rfl<|(dB) AW aV fun w5 jC jI bf=>?_;refine(mI) uq bf.b0<|?_;exact⟨rfl,(St.cg bf)⟩
theorem ov(hv:y.az=x.ae):CR prog 104 #[.agg ([Value.int .i64 x.ae,.slice b1 p1 g1,.slice b2 p2 g2,.pointer (some ⟨S.s,0,none⟩),.pointer (some ⟨wb,0,none⟩)]:List Value).toArray,.agg (y.row a n c).toArray] w (.bool true):=by
 refine enter func104 rfl ntmps104 rfl<|?_;have aW:=St.s0 w;refine(eD) aW fun b2 w1 lB eZ st1=>?_;refine(eD) st1 fun b3 w2 ic dA st2=>?_;refine(bN) aX st2.b0<|db ?_;refine WP .r (PV.ld1 (j:=0) aX st2.b1 rfl rfl)<|(cm) ?_;exact⟨by simp [hv],(St.cg st2)⟩
theorem C3(hn:n=y.reads.length) (hn4:n≤4000):CR prog 63 #[.agg ([Value.int .i64 x.ae,.slice b1 p1 g1,.slice b2 p2 g2,.pointer (some ⟨S.s,0,none⟩),.pointer (some ⟨wb,0,none⟩)]:List Value).toArray,.agg (y.row a n c).toArray] w (.bool (wZ y)):=by
 refine enter func63 rfl ntmps63 rfl<|?_;have aW:=St.s0 w;refine(eD) aW fun b2 w1 lB eZ st1=>?_;refine(eD) st1 fun b3 w2 ic dA st2=>?_;refine(bN) aX st2.b0<|(bN) fE st2.b0<|(cm) ?_;exact⟨by unfold wZ;rw [hn],(St.cg st2)⟩
theorem ss(bF:St w M Z w [As.map Key.val S.m ml,As.map Key.val S.q []]) (hf:(S.FV prog ab x).p Z w) (hm:ba ab x.ah ml) (hR:ay ab) (hS:∀k,(valOf ab x.ah k).size≤1000) (hk:gS ab y.key):Calls prog 105 #[.agg ([Value.int .i64 x.ae,.slice b1 p1 g1,.slice b2 p2 g2,.pointer (some ⟨S.s,0,none⟩),.pointer (some ⟨wb,0,none⟩)]:List Value).toArray,.agg (y.row a n c).toArray] w fun e w'=>∃eb,e=.returned (.bool (vq ab x.ah y))∧ba ab x.ah eb∧iI ml eb∧St w M Z w' [As.map Key.val S.m eb,As.map Key.val S.q []]:=by
 refine enter func105 rfl ntmps105 rfl<|?_;have aW:=bF;have st1:=aW.fact (B:=As.fz (S.FV prog ab x)) hf (fun _ hx=>hx);refine(eD) st1 fun b2 w1 lB eZ st2=>?_;refine(eD) st2 fun b3 w2 ic dA aP=>?_;refine dF ?_;refine WC.dq (m:=7) [] [4] [0,1,2,3,4,5,6] [] aP (ax.cons M0<|ax.cons M1<|ax.cons M2<|ax.nil) mixed (by kernel_rfl) (by kernel_rfl) rfl<|(wS) uu SV.g1<|(JN) av SV.g0<|(jD) (fun w3 Up FX aV sk=>?_);simp only [CA,NA] at aV;have bf:=aV.p4.p4;refine OX.call Qh rfl rfl ((F2 hR hS hk _ _ _ _ _ bf.e2 (As.gf bf.g4) hm (fun _=>nU.nil _)).mono ?_);rintro _ w4 ⟨fq,rfl,jg,fU,fN⟩;have br:=St.lr bf fN;refine⟨_,rfl,fN.cX.size,_,rfl,_,_,_,br,aC.k4<|aC.cons<|aC.nil,ax.cons M2<|ax.cons M3<|ax.cons M4<|ax.nil,?_⟩;refine(wS) iq SV.g0<|(oa)<|?_;intro w5 fj bP;simp only [CM,NM,CA,NA,lA.it] at bP;refine db ?_;refine WL.nil (EX.np ?_);refine(cm) ?_;exact⟨fq,rfl,jg,fU,bP.p1.p1.k2⟩
theorem B9(bF:St w M Z w [As.map Key.val S.m ml,As.map Key.val S.q []]) (hf:(S.FV prog ab x).p Z w) (hm:ba ab x.ah ml) (hR:ay ab) (hS:∀k,(valOf ab x.ah k).size≤1000) (hk:gS ab y.key) (hv:y.az=x.ae):Calls prog 59 #[.agg ([Value.int .i64 x.ae,.slice b1 p1 g1,.slice b2 p2 g2,.pointer (some ⟨S.s,0,none⟩),.pointer (some ⟨wb,0,none⟩)]:List Value).toArray,.agg (y.row a n c).toArray] w fun e w'=>∃eb,e=.returned (.bool (vq ab x.ah y))∧ba ab x.ah eb∧iI ml eb∧St w M Z w' [As.map Key.val S.m eb,As.map Key.val S.q []]:=by
 refine enter func59 rfl ntmps59 rfl<|?_;have aW:=bF;have st1:=aW.fact (B:=As.fz (S.FV prog ab x)) hf (fun _ hx=>hx);refine(eD) st1 fun b2 w1 lB eZ st2=>?_;refine(eD) st2 fun b3 w2 ic dA aP=>?_;refine(bz) nD aP.b1<|(bz) dm aP.b0<|(gw) (ov hv) aP fun w3 s3 aV=>?_;refine(bz) nD aV.b1<|(bz) dm aV.b0<|?_;have bf:=aV.p4.p4;refine(df) Vu (ss bf.e2 (As.gf bf.g4) hm hR hS hk) ?_;rintro _ w4 ⟨fq,rfl,jg,fU,fN⟩;have br:=St.lr bf fN;refine(cm) ?_;exact⟨fq,rfl,jg,fU,br.p1.p1.k2⟩
theorem C4(bF:St w M Z w [As.map Key.val S.m ml,As.map Key.val S.q []]) (hf:(S.FV prog ab x).p Z w) (hm:ba ab x.ah ml) (hR:ay ab) (hS:∀k,(valOf ab x.ah k).size≤1000) (hi:i<ab.length) (Og:k=aQ ab (i:Int)):Calls prog 106 #[.pointer (some ⟨S.s,0,none⟩),k.val] w fun e w'=>∃eb ra rn rc,e=.returned (.slice ra rn rc)∧ba ab x.ah eb∧iI ml eb∧St w M Z w' [As.os RR.key 58 2 ra rn rc (dC ab x.ah i),As.map Key.val S.m eb,As.map Key.val S.q []]:=by
 subst Og;have pY:=hR.len;have gQ:=dI hi (show i≤99 by omega);refine enter func106 rfl ntmps106 rfl<|?_;have aW:=bF;have st1:=aW.fact (B:=As.fz (S.FV prog ab x)) hf (fun _ hx=>hx);refine(eD) st1 fun b3 w1 ic dA st2=>?_;refine(bz) av st2.b0<|?_;refine WL.c1 (u:=.bool false) (dN (k:=aQ ab (i:Int))) (by rw [gQ]) st2 fun w2 s2 aP=>?_;refine db ?_;refine WC.iu rfl<|(bz) av aP.b0<|nx ?_;refine WP .r (PV.func (us:=[.pointer (some ⟨S.s,0,none⟩)]) (vs:=[]) rfl rfl)<|?_;have aV:=aP.p3.p3;refine(df) Mm (yC aV.e2 (As.gf aV.g3) hm hR hi hS (fun _ _ _=>nU.nil _) (fun a ha=>F2 hR hS (ha.MT hR))) ?_;rintro _ w3 ⟨fq,ra,rn,rc,rfl,jg,fU,eG⟩;have bf:=St.lr aV eG;refine bC ?_;refine(cm) ?_;exact⟨fq,_,_,_,rfl,jg,fU,bf.p3.drop.p3.drop⟩
theorem Ca(bF:St w M Z w [As.map Key.val S.m ml,As.map Key.val S.q []]) (hf:(S.FV prog ab x).p Z w) (hm:ba ab x.ah ml) (hR:ay ab) (hS:∀k,(valOf ab x.ah k).size≤1000) (hi:i<ab.length) (hy:y.key=aQ ab (i:Int)) (hv:y.az=x.ae) (oE:Rd RR.key 2 Z w a n c y.reads):Calls prog 60 #[.agg ([Value.int .i64 x.ae,.slice b1 p1 g1,.slice b2 p2 g2,.pointer (some ⟨S.s,0,none⟩),.pointer (some ⟨wb,0,none⟩)]:List Value).toArray,.agg (y.row a n c).toArray] w fun e w'=>∃eb,e=.returned (.bool (sR ab x.ah y))∧ba ab x.ah eb∧iI ml eb∧St w M Z w' [As.map Key.val S.m eb,As.map Key.val S.q []]:=by
 have ha6:=lZ hR hi;have Cv:=nz ab x.ah i;refine enter func60 rfl ntmps60 rfl<|?_;have aW:=bF;have st1:=aW.fr oE;have st2:=st1.fact (B:=As.fz (S.FV prog ab x)) hf (fun _ hx=>hx);refine(eD) st2 fun b2 w1 lB eZ aP=>?_;refine(eD) aP fun b3 w2 ic dA aV=>?_;refine dF ?_;refine WC.dq (m:=12) [] [2,9] [0,1,2,3,4,5,6,7,8,9,10,11] [] aV (ax.k4 M0 M1 M2 M3<|ax.nil) mixed (by kernel_rfl) (by kernel_rfl) rfl<|(oz) nD SV.g1<|(oz) dm SV.g0<|(jD) (fun w3 Q1 BW bf sj=>?_);simp only [CA,NA] at bf;refine OX.call Vt rfl rfl ((ov hv).mono ?_);rintro _ w4 ⟨rfl,s4⟩;have br:=bf.step s4;refine⟨_,rfl,s4.size,_,rfl,_,_,_,br,aC.k4<|aC.k2<|aC.nil,ax.k4 M0 M1 M2 M3<|ax.nil,?_⟩
 iterate 3 refine DG.a ?_
 refine(wS) uu SV.g1<|(JN) av SV.g0<|(jD) (fun w5 R9x N5 bP yD=>?_);simp only [CA,NA] at bP;have bS:=bP.p5.p5;refine OX.call Vv rfl rfl ((C4 bS.e2 (As.gf bS.g4) hm hR hS hi hy).mono ?_);rintro _ w6 ⟨fq,ra,rn,rc,rfl,jg,fU,nL⟩;have bX:=St.lr bS nL;refine⟨_,rfl,nL.cX.size,_,rfl,_,_,_,bX,aC.k4<|aC.k2<|aC.cons<|aC.nil,ax.k4 M3 M4 M5 M6<|ax.nil,?_⟩;refine(wS) fE SV.g0<|(oa)<|?_;intro w7 fj aM;simp only [CM,NM,CA,NA,lA.it] at aM;refine(gw) (tQ (Ow.rd (As.gs aM.g0) (by omega)) (As.gr aM.g6)) aM fun w8 s8 aT=>?_;refine db ?_;refine WL.nil (EX.np ?_);refine(cm) ?_;exact⟨fq,by unfold sR;rw [hy,iM hR hi],jg,fU,aT.p2.p2.k2⟩
theorem Cb{bv:Nat}(bF:St w M Z w []) (hb:cJ w bv 123 [Value.int .i64 x.ae,.slice b1 p1 g1,.slice b2 p2 g2,.pointer (some ⟨S.s,0,none⟩),.pointer (some ⟨wb,0,none⟩)]) (hr:Rd RR.fl 8 Z w b2 p2 g2 x.ak) (ll:∀y∈x.ak,y.az=x.ae) (hk:gS ab k):CR prog 107 #[k.val,.pointer (some ⟨bv,0,none⟩)] w (.bool false):=by
 have l3:=hk.gY;refine enter func107 rfl ntmps107 rfl<|?_;have aW:=St.rb bF;have st1:=aW.fr hr;refine(eD) st1 fun b2 w1 lB eZ st2=>?_;refine gp ?_;refine WP .r (PV.ld1 (j:=2) ez (cJ.range (hb.ext (St.cg st2))) rfl rfl)<|(bz) av st2.b0<|?_;have aP:=st2;refine(df) adN (vV (k:=k) aP.e0 (As.gr aP.g1)) ?_;rintro _ w2 ⟨f1,f2,f3,rfl,_,tj⟩;have aV:=St.lr aP tj;refine(fT) aV fun b4 w3 jS bL bf=>?_;refine(dB) gC bf fun w4 jC jI br=>?_;refine dF ?_;refine WC.mw (t:=3) (v:=.bool false) br ?_<|?_
 ·
  refine(bz) av br.b2<|(gw) (dN (k:=k)) br fun w5 s5 bP=>?_;refine(dT) (fun g17=>?_) (fun g17=>?_)
  ·
   refine(bz) av bP.b2<|(gw) (lV (k:=k) l3) bP fun w6 s6 bS=>?_;refine(dT) (fun g22=>?_) (fun g22=>?_)
   ·
    refine(dT) (fun fB=>?_) (fun fB=>?_)
    ·
     have hvk:(aG x.ak k).az=x.ae:=Xn ll (by simp_all);refine(bz) nD (cJ.range (hb.ext (St.cg bS)))<|(bz) dm bS.b0<|(gw) (ov (y:=aG x.ak k) hvk) bS fun w7 s7 bX=>?_;exact(iw) (tG (aj g17<|aj g22 fB)) (bX)
    exact(iw) (tG (aj g17<|aj g22 fB)) (bS)
   exact(iw) (tG (aj g17 g22)) (bS)
  refine bC ?_;exact(iw) (tG g17) (bP)
 intro w5 bP;refine(cm) ?_;exact⟨rfl,(St.cg bP)⟩
theorem Cc(bF:St w M Z w []) (hr:Rd RR.fl 8 Z w b2 p2 g2 x.ak) (ll:∀y∈x.ak,y.az=x.ae) (hv:y.az=x.ae) (oE:Rd RR.key 2 Z w a n c y.reads) (vm:∀k∈y.reads,gS ab k):CR prog 61 #[.agg ([Value.int .i64 x.ae,.slice b1 p1 g1,.slice b2 p2 g2,.pointer (some ⟨S.s,0,none⟩),.pointer (some ⟨wb,0,none⟩)]:List Value).toArray,.agg (y.row a n c).toArray] w (.bool true):=by
 refine enter func61 rfl ntmps61 rfl<|?_;have aW:=St.rb bF;have st1:=aW.fr hr;have st2:=st1.fr oE;refine(eD) st2 fun b2 w1 lB eZ aP=>?_;refine(eD) aP fun b3 w2 ic dA aV=>?_;refine(bz) nD aV.b1<|(bz) dm aV.b0<|(gw) (ov hv) aV fun w3 s3 bf=>?_;refine(bN) fE bf.b0<|?_;refine WP .r (PV.func (us:=[]) (vs:=[.pointer (some ⟨b2,0,none⟩)]) rfl rfl)<|?_;refine WL.c1 (u:=.bool false) (wg (p:=fun _=>false) adT (As.gr bf.g2) (fun w1 h1 k hk=>Cb (ab:=ab) (M:=fun _=>False) (Z:=Z) (St.start (fun x hx=>Nat.lt_of_lt_of_le (bf.mj x hx) h1.size)) (((As.gb bf.g1)).ext h1) (((As.gr bf.g3)).ext h1) ll (vm k hk))) (by rw [List.any_eq_false.2 (fun _ _=>by simp)]) bf fun w4 s4 br=>?_;refine(cm) ?_;exact⟨rfl,(St.cg br)⟩
theorem C5{bs:List Nat}{j:Nat}(bF:St w M Z w [As.map Key.val S.m ml,As.map Key.val S.q [],As.blk wb 154 (D.cells x),As.map Key.val D.m mD,As.fz (DJ 60 x.ak bs)]) (hf:(S.FV prog ab x).p Z w) (hm:ba ab x.ah ml) (hR:ay ab) (hS:∀k,(valOf ab x.ah k).size≤1000) (hk:gS ab y.key) (gQ:aB y.key=false) (hv:y.az=x.ae) (uX:oD x.ak bs mD) (hj:x.ak[j]?=some y):Calls prog 62 #[.agg ([Value.int .i64 x.ae,.slice b1 p1 g1,.slice b2 p2 g2,.pointer (some ⟨S.s,0,none⟩),.pointer (some ⟨wb,0,none⟩)]:List Value).toArray,.agg (y.row a n c).toArray] w fun e w'=>∃eb,e=.returned (.bool (vq ab x.ah y))∧ba ab x.ah eb∧iI ml eb∧St w M Z w' [As.map Key.val S.m eb,As.map Key.val S.q [],As.blk wb 154 (D.cells x),As.map Key.val D.m mD,As.fz (DJ 60 x.ak bs)]:=by
 obtain⟨rb,MA⟩:∃b,bs[j]?=some b:=⟨_,aq (show j<bs.length by have:=(List.getElem?_eq_some_iff.1 hj).1;rw [uX.1];exact this)⟩;have yF:=uX.2 j y rb hj MA;refine enter func62 rfl ntmps62 rfl<|?_;have aW:=bF;have st1:=aW.fact (B:=As.fz (S.FV prog ab x)) hf (fun _ hx=>hx);refine(eD) st1 fun b2 w1 lB eZ st2=>?_;refine(eD) st2 fun b3 w2 ic dA aP=>?_;refine dF ?_;obtain⟨_,aR,nR,cR,hbR⟩:=(As.gf aP.g7) j y rb hj MA;refine(bN) Fo aP.b1<|(kl) av aP.b0<|(gw) (F7 (As.gb aP.g5) (As.gm aP.g6) yF hbR hv gQ) aP fun w3 s3 aV=>?_;refine WP .r (PV.wT (fs:=[_,_]) (f:=0) (off:=0) (T:=111) underlying111 rfl rfl (show ∀w,(isAgg 3).run _ w=.ok false w from isAgg3) rfl rfl)<|(dT) (fun g12=>?_) (fun g12=>?_)
 ·
  exact gM g12
 refine(bz) nD aV.b1<|(bz) dm aV.b0<|?_;have bf:=aV.p4.p4;refine(df) Vu (ss bf.e2 (As.gf bf.g4) hm hR hS hk) ?_;rintro _ w4 ⟨fq,rfl,jg,fU,fN⟩;have br:=St.lr bf fN;refine(cm) ?_;exact⟨fq,rfl,jg,fU,br.p2.drop.p2.drop.p2.drop⟩
end Go.Rc

